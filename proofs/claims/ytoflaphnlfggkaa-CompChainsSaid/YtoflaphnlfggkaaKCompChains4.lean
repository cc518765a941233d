/- Texts of this work, laid together: a logic of steps, plain laws, and walks of Go functions, each without a condition but those that its theorems name. -/
import Derived.Test.YtoflaphnlfggkaaKCompChains3
import Derived.Test.YtoflaphnlfggkaaRows
import Derived.Shelf.SlSortCmp.WholeK
import Derived.Shelf.Small.Bits
import Derived.Shelf.SlSortCmp.NoneTotal
import Derived.Ground.SlsfProg
import Derived.Shelf.Small.Wraps
import Derived.Shelf.Strconv.Itoa0
import Derived.Ground.Names2Prog
import Derived.Shelf.Slices.SearchI
import Derived.Test.YtoflaphnlfggkaaProg
/- Walks: what Go functions of this chapter come to, each as a function on plain data; no condition but those that each theorem names. Printed by a program of this work (gen.py). -/
namespace Go.Proofs.Ytoflaphnlfggkaa
open Go.Gx Go.Gx.T4 Go.Gx.T3 Go.Gx.T6 Go.Gx.T8 Go.Gx.T4 Go.Gx.T3 Go.Gx.T8 Go.Gx.T4 Go.Gx.T3
theorem cl14 : Callable Try.prog 14 := callable Try.func14 (by kernel_rfl) rfl
theorem bs29_10s3 (a0 : Option Addr) (a1 a2 : Nat) : Instr.fill (fun i => some (i * 1, 1)) ((Array.range (1 * 1)).map ((Value.slice none 0 0).cells[· % (Value.slice none 0 0).cells.size]!)) [(0, Value.slice a0 a1 a2)] = some #[Value.slice a0 a1 a2] := by
  kernel_rfl
theorem el29 : ElemIs Try.prog 29 1 24 (Value.slice none 0 0) := by
  unfold ElemIs
  kernel_rfl
def RchIs (n : Nat) : Prop := ∀ (va vl : Value) (es : List (CT × Value)) (l : List CT) (G : Ghost) (F : Nat → Prop) (w : World), SizeOf.sizeOf l ≤ n → es.length + sizeL l ≤ 1000 → (∀ p ∈ es, Rs G p.2 p.1.subs) → Rs G vl l → Has G w → (rowA va 44 8 es.length (es.flatMap rvC)).holds w F → (∀ b, F b → G b = none) → Calls Try.prog 14 #[va, vl] w (Ret fun r w' => ∃ G', GNew w F G G' ∧ Has G' w' ∧ Ls (fun G v l => Rs G v l) ([] : List CT) G' r (chains (es.map Prod.fst) l) ∧ KeptG (rowA va 44 8 es.length (es.flatMap rvC)) F G' w w')
theorem c_rch_s (n : Nat) (ih : RchIs n) (va vl : Value) (es : List (CT × Value)) (l : List CT) {G : Ghost} {F : Nat → Prop} (hz : SizeOf.sizeOf l ≤ n + 1) (hsz : es.length + sizeL l ≤ 1000) (hes : ∀ p ∈ es, Rs G p.2 p.1.subs) (hs : Rs G vl l) (w : World) (hG : Has G w) (hA : (rowA va 44 8 es.length (es.flatMap rvC)).holds w F) (hFG : ∀ b, F b → G b = none) :
    Calls Try.prog 14 #[va, vl] w (Ret fun r w' => ∃ G', GNew w F G G' ∧ Has G' w' ∧ Ls (fun G v l => Rs G v l) ([] : List CT) G' r (chains (es.map Prod.fst) l) ∧ KeptG (rowA va 44 8 es.length (es.flatMap rvC)) F G' w w') := by
  refine enterO (args := [_, _]) (G := G) (A := rowA va 44 8 es.length (es.flatMap rvC)) (l := [(0, va), (1, vl)]) Try.func14 rfl Try.ntmps14 hG hA hFG ⟨rfl, rfl, trivial⟩ (Nat.le_of_ble_eq_true rfl) ?_
  obtain ⟨rs, hr, hp, rfl⟩ := hs.inv
  have hbd := hr.bound
  refine c_seq ?_
  refine c_region ?_
  refine r_val .none rfl (p_assign rfl) ?_
  refine r_nil ?_
  refine e_next ?_
  refine c_seq ?_
  refine c_region ?_
  refine r_val .none rfl (p_assign rfl) ?_
  refine r_nil ?_
  refine e_next ?_
  refine c_seq ?_
  refine c_seq ?_
  refine c_region ?_
  refine r_val .none rfl (p_move rfl) ?_
  refine r_val .none rfl (p_leng Try.underlying29 rfl hr) ?_
  have bd_1 := (hr).bound
  refine r_val .none rfl (p_move rfl) ?_
  refine r_nil ?_
  refine e_next ?_
  refine c_block ?_
  refine c_nilrow 29 1 ?_
  refine c_name (d := 0) rfl (fun u_2 hu_2 => ?_)
  refine c_name (d := 1) rfl (fun u_3 hu_3 => ?_)
  refine c_name (d := 4) rfl (fun u_4 hu_4 => ?_)
  refine c_name (d := 9) rfl (fun u_5 hu_5 => ?_)
  refine c_name (d := 10) rfl (fun u_6 hu_6 => ?_)
  refine c_nameL (k := 1) rfl (fun A_7 hA_7 => ?_)
  refine c_loop (σ := Nat × Value × List (List CT × Value) × Ghost) (fun s => [(11, Value.int .i64 (s.1 : Nat)), (5, s.2.1), (0, u_2), (1, u_3), (4, u_4), (9, u_5), (10, u_6)]) (fun s => [rowA (s.2.1) 29 1 (s.2.2.1).length ((s.2.2.1).flatMap lC), A_7]) (fun s => s.2.2.2) (fun s => s.1 ≤ rs.length ∧ s.2.2.1.map Prod.fst = chains (es.map Prod.fst) ((rs.map Prod.fst).take s.1) ∧ RhC s.2.2.2 s.2.2.1 ∧ GNew w F G s.2.2.2) (fun s => rs.length - s.1) ((0, _, [], _)) ⟨Nat.zero_le _, by simp [chains], by simp [RhC], GNew.refl _ _ _⟩ rfl ⟨rfl, rfl, rfl, rfl, rfl, rfl, rfl, trivial⟩ (.keep (fun _ _ h => rowA_nil rfl _ _ h) (.keep (fun _ _ h => h) (.nil))) (fun s hphi => ?_)
  subst hu_2
  subst hu_3
  subst hu_4
  subst hu_5
  subst hu_6
  subst hA_7
  obtain ⟨k, v, z, H⟩ := s
  obtain ⟨hk, hzq, hzc, hgn⟩ := hphi
  dsimp only at hk hzq hzc hgn ⊢
  have hzl : z.length = (chains (es.map Prod.fst) ((rs.map Prod.fst).take k)).length := by have := congrArg List.length hzq; simpa using this
  have hcl := chains_take_le (es.map Prod.fst) rs k
  have hst0 := sizeL_take_le (rs.map Prod.fst) k
  have hll := sizeL_len (rs.map Prod.fst)
  rw [List.length_map] at hll
  have hm9 : (es ++ rs.take k).map Prod.fst = es.map Prod.fst ++ (rs.map Prod.fst).take k := by rw [List.map_append, List.map_take]
  refine c_row1 (k := 0) rfl (fun ov => ?_)
  refine c_rowlen (k := 0) rfl (fun l63 => ?_)
  replace hr := hr.mono hgn.le
  replace hp := fun p hm0 => (hp p hm0).mono hgn.le
  replace hes := fun p hm0 => (hes p hm0).mono hgn.le
  refine c_seq ?_
  refine c_region ?_
  refine r_val .none rfl (p_lt rfl rfl) ?_
  refine r_nil ?_
  refine e_next ?_
  refine c_seq ?_
  refine c_splitd (d := 12) rfl (fun h_8 => ?_) (fun h_8 => ?_)
  · skip
    first
      | (exfalso; omega)
      | (
        refine c_cond_t rfl ?_
        refine c_skip ?_
        refine e_next ?_
        refine c_seq ?_
        refine c_block ?_
        refine c_seq ?_
        refine c_region ?_
        refine r_val .none rfl (p_move rfl) ?_
        refine r_iaddr_g .none rfl Try.underlying29 sz44 rfl hr rfl (by first | exact of_decide_eq_true rfl | omega) (fun p_10 o_11 R_9 => ?_)
        have hc_12 := hp _ (getD_mem (i := k) (d := d0) (by omega))
        have hkl := sizeL_len ((rs.map Prod.fst).take k)
        rw [List.length_take, List.length_map] at hkl
        have hsk := sizeL_take (rs := rs) (k := k) (by omega)
        have hsk2 := sizeL_take_le (rs.map Prod.fst) (k + 1)
        have hsq := size_eq (rs.getD k d0).1
        refine r_val .none rfl (p_ldga0 Try.underlying44 rfl sz44 rfl R_9 (by first | exact of_decide_eq_true rfl | omega) (rfl : _ = Value.agg #[_, _, _, _, _, _, _, _])) ?_
        refine r_alloc .none rfl zr44 (IsRow.lit _) (fun b_1 => ?_)
        refine r_val .none rfl (p_assign rfl) ?_
        refine r_stw (k := 0) .none sz44 rfl rfl (IsRow.lit _) (one_lit rfl (all_cons rfl (all_cons rfl (all_cons rfl (all_cons rfl (all_cons rfl (all_cons rfl (all_cons rfl (all_cons (hc_12).one rfl))))))))) rfl ?_
        refine r_nil ?_
        refine e_next ?_
        refine c_seq ?_
        refine c_region ?_
        refine r_val .none rfl (p_assign rfl) ?_
        refine r_nil ?_
        refine e_next ?_
        refine c_seq ?_
        refine c_region ?_
        refine r_val .none rfl (p_move rfl) ?_
        refine r_val .none rfl (p_move rfl) ?_
        refine r_nilrow 44 8 ?_
        refine r_append_o (k := 0) (k2 := 3) .none rfl Try.underlying29 el44 rfl (by decide) rfl rfl rfl rfl (rv_all hes) (by simp only [maxLen]; omega) (by omega) (fun v_14 => ?_)
        refine r_row1 (k := 0) rfl (fun o_15 => ?_)
        refine r_val .none rfl (p_assign rfl) ?_
        refine r_nil ?_
        refine e_next ?_
        refine c_seq ?_
        refine c_region ?_
        refine r_val .none rfl (p_move rfl) ?_
        refine r_val .none rfl (p_move rfl) ?_
        refine r_val .none rfl (p_move rfl) ?_
        refine r_slice0 (k) .none rfl Try.underlying29 sz44 rfl hr rfl (by first | exact of_decide_eq_true rfl | omega) (fun v_16 hs_17 => ?_)
        have hpt_19 := (Tr.take (by omega) hs_17 hp).1
        refine r_append_g (k := 0) .none rfl Try.underlying29 el44 rfl (by decide) rfl rfl rfl hpt_19 (rv_ones (fun p hm0 => hp p (List.mem_of_mem_take hm0))) (by rw [List.length_take]; simp only [maxLen]; omega) (by rw [List.length_take]; omega) (fun v_20 => ?_)
        refine r_row1 (k := 0) rfl (fun o_21 => ?_)
        refine r_conv (B := rowA v_20 _ 8 (es ++ rs.take k).length ((es ++ rs.take k).flatMap rvC)) (k := 0) rfl (fun _ _ h => rowA_congr (by simp) (by rw [List.nil_append, flat_all (cells := rvC) (fun _ => rfl), List.flatMap_append]) _ _ h) ?_
        refine r_val .none rfl (p_assign rfl) ?_
        refine r_nil ?_
        refine e_next ?_
        refine c_seq ?_
        refine c_seq ?_
        refine c_region ?_
        refine r_val .none rfl (p_field Try.underlying44 rfl sz3 rfl) ?_
        refine r_val .none rfl (p_ld (k := 1) Try.underlying3 rfl rfl rfl (by first | exact of_decide_eq_true rfl | omega) (rfl : _ = Value.int _ _)) ?_
        refine r_val .none rfl (p_eq rfl rfl) ?_
        refine r_nil ?_
        refine e_next ?_
        refine c_splitd (d := 26) rfl (fun h_22 => ?_) (fun h_22 => ?_)
        · skip
          have hk3 := h_22
          first
            | (exfalso; omega)
            | (
              refine c_cond_t rfl ?_
              refine c_region ?_
              refine r_val .none rfl (p_move rfl) ?_
              refine r_val .none rfl (p_move rfl) ?_
              refine r_val .none rfl (p_field Try.underlying44 rfl sz29 rfl) ?_
              refine r_val .none rfl (p_ld (k := 1) Try.underlying29 rfl rfl rfl (by first | exact of_decide_eq_true rfl | omega) rfl) ?_
              refine r_callom (k := 0) (vs := [_, _]) .none rfl cl14 rfl rfl (fun w F hw hA hFG => ih _ _ _ _ _ _ w (Nat.le_of_lt_succ (Nat.lt_of_lt_of_le (sub_size (by omega)) hz)) (by rw [List.length_append, List.length_take]; omega) (fun p hm0 => by rcases List.mem_append.1 hm0 with h | h; exact hes p h; exact hp p (List.mem_of_mem_take h)) hc_12 hw hA hFG) (fun G_23 v_26 hn_24 hr_25 => ?_)
              replace hr := hr.mono hn_24.le
              replace hp := fun p hm0 => (hp p hm0).mono hn_24.le
              replace hes := fun p hm0 => (hes p hm0).mono hn_24.le
              replace hzc := RhC.mono hzc hn_24.le
              replace R_9 := R_9.mono hn_24.le
              replace hc_12 := hc_12.mono hn_24.le
              replace hs_17 := hs_17.mono hn_24.le
              replace hpt_19 := hpt_19.mono hn_24.le
              obtain ⟨u_27z, u_27h, u_27p, u_27q⟩ := hr_25
              rw [hm9] at u_27q
              refine r_append_g (k := 2) .none rfl Try.underlying27 el29 rfl (by decide) rfl rfl rfl u_27h (rv_one1 u_27p) (by have h9 := congrArg List.length u_27q; rw [List.length_map] at h9; have h8 := chains_len (rs.getD k d0).1.subs (es.map Prod.fst ++ (rs.map Prod.fst).take k); simp only [maxLen]; omega) (by have h9 := congrArg List.length u_27q; rw [List.length_map] at h9; have h8 := chains_len (rs.getD k d0).1.subs (es.map Prod.fst ++ (rs.map Prod.fst).take k); omega) (fun v_28 => ?_)
              refine r_row1 (k := 2) rfl (fun o_29 => ?_)
              refine r_conv (B := rowA v_28 _ 1 (z ++ u_27z).length ((z ++ u_27z).flatMap lC)) (k := 2) rfl (fun _ _ h => rowA_congr (by simp) (by rw [flat_all (cells := lC) (fun _ => rfl), List.flatMap_append]) _ _ h) ?_
              refine r_val .none rfl (p_assign rfl) ?_
              refine r_nil ?_
              refine e_next ?_
              refine c_seq ?_
              refine c_region ?_
              refine r_val .none rfl (p_move rfl) ?_
              refine r_val .none rfl (p_ldw (k := 1) Try.underlying44 rfl sz44 rfl rfl (rfl : _ = Value.agg #[_, _, _, _, _, _, _, _])) ?_
              refine r_bslice (vs := [(0, Value.agg #[_, _, _, _, _, _, _, _])]) (c := #[_, _, _, _, _, _, _, _]) .none rfl Try.underlying29 el44 rfl rfl rfl (bs44_10a8 _ _ _ _ _ _ _ _) (IsRow.lit _) (fun b_2 => ?_)
              refine r_append (k := 1) (k2 := 0) .none rfl Try.underlying29 el44 rfl (by decide) rfl rfl rfl rfl rfl (one_lit rfl (all_cons rfl (all_cons rfl (all_cons rfl (all_cons rfl (all_cons rfl (all_cons rfl (all_cons rfl (all_cons (hc_12).one rfl))))))))) (by rw [List.length_append, List.length_take]; simp only [maxLen]; omega) (by rw [List.length_append, List.length_take]; omega) (fun v_30 => ?_)
              refine r_row1 (k := 1) rfl (fun o_31 => ?_)
              refine r_val .none rfl (p_assign rfl) ?_
              refine r_nil ?_
              refine e_next ?_
              refine c_region ?_
              refine r_val .none rfl (p_move rfl) ?_
              refine r_val .none rfl (p_move rfl) ?_
              refine r_freeze (k := 1) rfl (fun G_32 hn_33 hs_34 => ?_)
              replace hr := hr.mono hn_33.le
              replace hp := fun p hm0 => (hp p hm0).mono hn_33.le
              replace hes := fun p hm0 => (hes p hm0).mono hn_33.le
              replace hzc := RhC.mono hzc hn_33.le
              replace R_9 := R_9.mono hn_33.le
              replace hc_12 := hc_12.mono hn_33.le
              replace hs_17 := hs_17.mono hn_33.le
              replace hpt_19 := hpt_19.mono hn_33.le
              replace u_27h := u_27h.mono hn_33.le
              replace u_27p := RhC.mono u_27p hn_33.le
              have hs2 : SlL G_32 v_30 8 rvC d0 ((es ++ rs.take k) ++ [rs.getD k d0]) := SlL.of2 d0 (fun _ => rfl) (by simp [Nat.add_assoc]) (by rw [List.flatMap_append (xs := es ++ rs.take k), List.flatMap_cons, List.flatMap_nil, List.append_nil]; rfl) hs_34
              have hva2 : Rs G_32 v_30 (es.map Prod.fst ++ (rs.map Prod.fst).take k ++ [(rs.getD k d0).1]) := by have h := Tr.mk _ hs2 (fun p hm0 => by rcases List.mem_append.1 hm0 with h | h; rcases List.mem_append.1 h with h | h; exact hes p h; exact hp p (List.mem_of_mem_take h); rw [List.mem_singleton.1 h]; exact hc_12); rw [List.map_append, hm9] at h; exact h
              obtain ⟨a_35, c_36, rfl⟩ := SlG.len hs2
              refine r_bslice (vs := [(0, Value.slice _ _ _)]) (c := #[_]) .none rfl Try.underlying27 el29 rfl rfl rfl (bs29_10s3 _ _ _) (IsRow.lit _) (fun b_3 => ?_)
              refine r_append (k := 3) (k2 := 0) .none rfl Try.underlying27 el29 rfl (by decide) rfl rfl rfl rfl rfl (one_lit rfl rfl) (by first | (simp only [maxLen]; omega) | (have h9 := congrArg List.length u_27q; rw [List.length_map] at h9; have h8 := chains_len (rs.getD k d0).1.subs (es.map Prod.fst ++ (rs.map Prod.fst).take k); rw [List.length_append]; simp only [maxLen]; omega)) (by first | omega | (have h9 := congrArg List.length u_27q; rw [List.length_map] at h9; have h8 := chains_len (rs.getD k d0).1.subs (es.map Prod.fst ++ (rs.map Prod.fst).take k); rw [List.length_append]; omega)) (fun v_37 => ?_)
              refine r_row1 (k := 3) rfl (fun o_38 => ?_)
              refine r_val .none rfl (p_assign rfl) ?_
              refine r_nil ?_
              refine e_norm_block ?_
              refine e_next ?_
              refine c_region ?_
              refine r_val .none rfl (p_add rfl rfl (by omega)) ?_
              refine r_val .none rfl (p_move rfl) ?_
              refine r_nil ?_
              refine e_round ((k + 1, _, (z ++ u_27z) ++ [(es.map Prod.fst ++ (rs.map Prod.fst).take k ++ [(rs.getD k d0).1], Value.slice a_35 ((es ++ rs.take k) ++ [rs.getD k d0]).length c_36)], _)) ⟨⟨by dsimp only; omega, by rw [chains_take (by omega), chain1_ncc hk3, List.map_append, List.map_append, hzq, ← u_27q, List.append_assoc]; rfl, RhC.snoc (RhC.app hzc u_27p) hva2, ((hgn.trans hn_24).trans hn_33)⟩, by dsimp only; omega⟩ rfl ⟨rfl, rfl, rfl, rfl, rfl, rfl, rfl, trivial⟩ (.drop (.drop (.drop (.keep (fun _ _ h => rowA_snoc (l := (z ++ u_27z)) (x := (es.map Prod.fst ++ (rs.map Prod.fst).take k ++ [(rs.getD k d0).1], Value.slice a_35 ((es ++ rs.take k) ++ [rs.getD k d0]).length c_36)) rfl rfl rfl rfl _ _ h) (.keep (fun _ _ h => h) (.nil))))))
              )
        · skip
          have hk3 := h_22
          first
            | (exfalso; omega)
            | (
              refine c_cond_f rfl ?_
              refine c_skip ?_
              refine e_next ?_
              refine c_seq ?_
              refine c_region ?_
              refine r_val .none rfl (p_move rfl) ?_
              refine r_val .none rfl (p_ldw (k := 1) Try.underlying44 rfl sz44 rfl rfl (rfl : _ = Value.agg #[_, _, _, _, _, _, _, _])) ?_
              refine r_bslice (vs := [(0, Value.agg #[_, _, _, _, _, _, _, _])]) (c := #[_, _, _, _, _, _, _, _]) .none rfl Try.underlying29 el44 rfl rfl rfl (bs44_10a8 _ _ _ _ _ _ _ _) (IsRow.lit _) (fun b_4 => ?_)
              refine r_append (k := 1) (k2 := 0) .none rfl Try.underlying29 el44 rfl (by decide) rfl rfl rfl rfl rfl (one_lit rfl (all_cons rfl (all_cons rfl (all_cons rfl (all_cons rfl (all_cons rfl (all_cons rfl (all_cons rfl (all_cons (hc_12).one rfl))))))))) (by rw [List.length_append, List.length_take]; simp only [maxLen]; omega) (by rw [List.length_append, List.length_take]; omega) (fun v_39 => ?_)
              refine r_row1 (k := 1) rfl (fun o_40 => ?_)
              refine r_val .none rfl (p_assign rfl) ?_
              refine r_nil ?_
              refine e_next ?_
              refine c_region ?_
              refine r_val .none rfl (p_move rfl) ?_
              refine r_val .none rfl (p_move rfl) ?_
              refine r_freeze (k := 1) rfl (fun G_41 hn_42 hs_43 => ?_)
              replace hr := hr.mono hn_42.le
              replace hp := fun p hm0 => (hp p hm0).mono hn_42.le
              replace hes := fun p hm0 => (hes p hm0).mono hn_42.le
              replace hzc := RhC.mono hzc hn_42.le
              replace R_9 := R_9.mono hn_42.le
              replace hc_12 := hc_12.mono hn_42.le
              replace hs_17 := hs_17.mono hn_42.le
              replace hpt_19 := hpt_19.mono hn_42.le
              have hs2 : SlL G_41 v_39 8 rvC d0 ((es ++ rs.take k) ++ [rs.getD k d0]) := SlL.of2 d0 (fun _ => rfl) (by simp [Nat.add_assoc]) (by rw [List.flatMap_append (xs := es ++ rs.take k), List.flatMap_cons, List.flatMap_nil, List.append_nil]; rfl) hs_43
              have hva2 : Rs G_41 v_39 (es.map Prod.fst ++ (rs.map Prod.fst).take k ++ [(rs.getD k d0).1]) := by have h := Tr.mk _ hs2 (fun p hm0 => by rcases List.mem_append.1 hm0 with h | h; rcases List.mem_append.1 h with h | h; exact hes p h; exact hp p (List.mem_of_mem_take h); rw [List.mem_singleton.1 h]; exact hc_12); rw [List.map_append, hm9] at h; exact h
              obtain ⟨a_44, c_45, rfl⟩ := SlG.len hs2
              refine r_bslice (vs := [(0, Value.slice _ _ _)]) (c := #[_]) .none rfl Try.underlying27 el29 rfl rfl rfl (bs29_10s3 _ _ _) (IsRow.lit _) (fun b_5 => ?_)
              refine r_append (k := 3) (k2 := 0) .none rfl Try.underlying27 el29 rfl (by decide) rfl rfl rfl rfl rfl (one_lit rfl rfl) (by first | (simp only [maxLen]; omega) | (have h9 := congrArg List.length q; rw [List.length_map] at h9; have h8 := chains_len (rs.getD k d0).1.subs (es.map Prod.fst ++ (rs.map Prod.fst).take k); rw [List.length_append]; simp only [maxLen]; omega)) (by first | omega | (have h9 := congrArg List.length q; rw [List.length_map] at h9; have h8 := chains_len (rs.getD k d0).1.subs (es.map Prod.fst ++ (rs.map Prod.fst).take k); rw [List.length_append]; omega)) (fun v_46 => ?_)
              refine r_row1 (k := 3) rfl (fun o_47 => ?_)
              refine r_val .none rfl (p_assign rfl) ?_
              refine r_nil ?_
              refine e_norm_block ?_
              refine e_next ?_
              refine c_region ?_
              refine r_val .none rfl (p_add rfl rfl (by omega)) ?_
              refine r_val .none rfl (p_move rfl) ?_
              refine r_nil ?_
              refine e_round ((k + 1, _, z ++ [(es.map Prod.fst ++ (rs.map Prod.fst).take k ++ [(rs.getD k d0).1], Value.slice a_44 ((es ++ rs.take k) ++ [rs.getD k d0]).length c_45)], _)) ⟨⟨by dsimp only; omega, by rw [chains_take (by omega), chain1_other hk3, List.map_append, hzq]; rfl, RhC.snoc hzc hva2, (hgn.trans hn_42)⟩, by dsimp only; omega⟩ rfl ⟨rfl, rfl, rfl, rfl, rfl, rfl, rfl, trivial⟩ (.drop (.drop (.drop (.keep (fun _ _ h => rowA_snoc (l := z) (x := (es.map Prod.fst ++ (rs.map Prod.fst).take k ++ [(rs.getD k d0).1], Value.slice a_44 ((es ++ rs.take k) ++ [rs.getD k d0]).length c_45)) rfl rfl rfl rfl _ _ h) (.keep (fun _ _ h => h) (.nil))))))
              )
        )
  · skip
    first
      | (exfalso; omega)
      | (
        refine c_cond_f rfl ?_
        refine c_exit ?_
        refine e_exit_then ?_
        refine e_exit_then ?_
        refine e_exit_block ?_
        refine e_next ?_
        refine c_seq ?_
        refine c_region ?_
        refine r_val .none rfl (p_move rfl) ?_
        refine r_val .none rfl (p_assign rfl) ?_
        refine r_nil ?_
        refine e_next ?_
        refine c_ret ?_
        refine e_freeze (k := 0) rfl (fun G_48 hn_49 hs_50 => ?_)
        replace hr := hr.mono hn_49.le
        replace hp := fun p hm0 => (hp p hm0).mono hn_49.le
        replace hes := fun p hm0 => (hes p hm0).mono hn_49.le
        replace hzc := RhC.mono hzc hn_49.le
        refine e_ret1 Try.results14 (.tmp rfl .nil) (fun w hm => ⟨_, (hgn.trans hn_49), hm.has, ?_, hm.keptG [rowA _ 44 8 es.length (es.flatMap rvC)] (.keep (fun _ _ h => h) (.nil)) _ (fun F' h => starL_one h)⟩)
        rw [show chains (es.map Prod.fst) (rs.map Prod.fst) = z.map Prod.fst by rw [hzq, List.take_of_length_le (by simp; omega)]]
        exact Ls.mk z (SlL.of (([] : List CT), Value.slice none 0 0) (fun _ => rfl) rfl hs_50) hzc
        )
theorem c_rch_n : ∀ n, RchIs n
  | 0 => fun va vl es l G F w hz _ _ _ _ _ _ => absurd hz (by cases l <;> simp)
  | n + 1 => fun va vl es l G F w hz hsz hes hs hG hA hFG => c_rch_s n (c_rch_n n) va vl es l hz hsz hes hs w hG hA hFG
theorem c_rch (va vl : Value) (es : List (CT × Value)) (l : List CT) {G : Ghost} {F : Nat → Prop} (hsz : es.length + sizeL l ≤ 1000) (hes : ∀ p ∈ es, Rs G p.2 p.1.subs) (hs : Rs G vl l) (w : World) (hG : Has G w) (hA : (rowA va 44 8 es.length (es.flatMap rvC)).holds w F) (hFG : ∀ b, F b → G b = none) : Calls Try.prog 14 #[va, vl] w (Ret fun r w' => ∃ G', GNew w F G G' ∧ Has G' w' ∧ Ls (fun G v l => Rs G v l) ([] : List CT) G' r (chains (es.map Prod.fst) l) ∧ KeptG (rowA va 44 8 es.length (es.flatMap rvC)) F G' w w') := c_rch_n _ va vl es l G F w (Nat.le_refl _) hsz hes hs hG hA hFG
end Go.Proofs.Ytoflaphnlfggkaa

/-
  GX: a row of the call's own is sorted by the library with a function of the program's. Generic in the program.
-/
namespace Go.Gx
open Go.RowKit Go.Sort Go.Proofs

section
variable {α : Type} [Inhabited α]

theorem flatK_eq {enc : α → List Value} {kk : Nat} (hk : ∀ x, (enc x).length = kk) (d : Array α) : flatK enc kk d = (d.toList.flatMap enc).toArray := by
  have hlen : (d.toList.flatMap enc).length = d.size * kk := by
    rw [List.length_flatMap]
    have : d.toList.map (fun x => (enc x).length) = List.replicate d.size kk := by
      rw [List.map_congr_left (fun x _ => hk x), List.map_const']; simp
    rw [this]; simp
  refine ext_get! (by simp [hlen]) fun t ht => ?_
  have ht' : t < d.size * kk := by simpa using ht
  have k0 : 0 < kk := by
    rcases Nat.eq_zero_or_pos kk with h | h
    · subst h; simp at ht'
    · exact h
  rw [get_flatK _ _ _ t ht']
  have h1 : t / kk < d.size := Nat.div_lt_of_lt_mul (by rw [Nat.mul_comm]; exact ht')
  have h2 : t % kk < kk := Nat.mod_lt _ k0
  have h3 := flatMap_get (cells := enc) hk default d.toList (t / kk) (t % kk) (by simpa using h1) h2
  rw [show t / kk * kk + t % kk = t by rw [Nat.mul_comm]; exact Nat.div_add_mod t kk] at h3
  have h4 : (d.toList.flatMap enc).toArray[t]! = (d.toList.flatMap enc).getD t undef := by
    have h5 : t < (d.toList.flatMap enc).length := by rw [hlen]; exact ht'
    rw [getElem!_pos _ t (by simpa using h5)]
    simp [List.getD, List.getElem?_eq_getElem h5]
  rw [h4, h3]
  have h6 : d.toList.getD (t / kk) default = d[t / kk]! := by
    simp [List.getD, Array.getElem!_eq_getD, Array.getD, h1]
  rw [h6]
  have h7 : t % kk < (enc d[t / kk]!).length := by rw [hk]; exact h2
  rw [getElem!_pos (enc d[t / kk]!) (t % kk) h7]
  have h8 := at_get (enc d[t / kk]!) (t % kk) h7
  rw [List.getElem?_eq_getElem h7] at h8
  simpa using h8

theorem holdsV {w : World} {g : Nat} {E : TypeId} {cur : Array Value} {vs : List Value} (hg : w.heap[g]? = some (.cells cur E (0, 0))) (ht : cur.toList.take vs.length = vs) : Holds id w g 0 vs.toArray := by
  intro j hj
  have hj' : j < vs.length := by simpa using hj
  have h1 := congrArg (fun l => l[j]?) ht
  simp only [List.getElem?_take, hj', if_true, List.getElem?_eq_getElem hj'] at h1
  constructor
  · rw [cell_of_row w g (0 + j) cur E (0, 0) hg, Nat.zero_add]
    rw [← Array.getElem?_toList, h1]
    simp [hj']
  · simp [World.frozen?, hg]

theorem afterV {w : World} {g cap q n sz : Nat} {E : TypeId} {cur : Array Value} {os : Array Obj} {vs : List Value} (hg : w.heap[g]? = some (.cells cur E (0, 0))) (hl : vs.length = n * sz) (hc : cur.size = cap * sz) (hcm : cap ≤ maxLen) (hn : n ≤ cap) :
    (rowA (.slice (some ⟨g, 0, none⟩) n cap) E sz n vs).holds (grow (putRow id (Sort.ahead w q) g 0 vs.toArray) os) (fun b => b = g) := by
  have hg' : (Sort.ahead w q).heap[g]? = some (.cells cur E (0, 0)) := hg
  have h1 := putRow_heap (enc := id) (n := 0) (d := vs.toArray) hg'
  have hlt : g < (putRow id (Sort.ahead w q) g 0 vs.toArray).heap.size := lt_of_heap h1
  have hle : vs.length ≤ cur.size := by rw [hl, hc]; exact Nat.mul_le_mul_right sz hn
  refine ⟨⟨hl, .inr ⟨g, cap, putCells id 0 vs.toArray cur, rfl, Nat.zero_le _, ?_, hn, hcm, ?_, ?_⟩⟩, fun b => ⟨fun h => by subst h; rfl, fun h => by simp [Value.ownBlock] at h; exact h.symm⟩, Nat.le_trans hn hcm⟩
  · show ((putRow id (Sort.ahead w q) g 0 vs.toArray).heap ++ os)[g]? = _
    rw [Array.getElem?_append_left hlt]; exact h1
  · simp [putCells, hc]
  · rw [← hl, putCells_take (by simp) (by simpa using hle)]; simp

theorem since_sortV {w : World} {g q : Nat} {os : Array Obj} {vs : Array Value} {F : Nat → Prop} (hF : F g) : Since F w (grow (putRow id (Sort.ahead w q) g 0 vs) os) := by
  have hsz : (putRow id (Sort.ahead w q) g 0 vs).heap.size = w.heap.size := by
    show (w.heap.modify g _).size = _
    simp
  refine ⟨rfl, rfl, rfl, ?_, fun b hb hx => ?_⟩
  · show w.heap.size ≤ (((putRow id (Sort.ahead w q) g 0 vs).heap ++ os)).size
    rw [Array.size_append]; omega
  · have hne : b ≠ g := fun e => hx (e ▸ hF)
    show ((putRow id (Sort.ahead w q) g 0 vs).heap ++ os)[b]? = _
    rw [Array.getElem?_append_left (by omega), putRow_other hne]
    rfl
end

/-- What a call of the library's slices.SortFunc comes to. -/
def SortFC (P : Program) {α : Type} [Inhabited α] (f g : FuncId) (enc : α → List Value) (kk : Nat) (lt : α → α → Bool) : Prop := ∀ (blk cap : Nat) (zs : List α) (w : World), HoldsK enc kk w blk 0 zs.toArray → blk < w.heap.size → zs.length < 4611686018427387904 →
  Calls P f #[.slice (some ⟨blk, 0, none⟩) zs.length cap, .func (.func g) #[] #[]] w fun e w' => e = .returned (.tuple #[]) ∧ ∃ (d' : Array α) (n : Nat) (os : Array Obj), PermIn 0 zs.toArray.size zs.toArray d' ∧ SortedIn lt 0 zs.toArray.size d' ∧ w' = sortWorldK enc kk w blk 0 n d' os
def SortFN (P : Program) (f g : FuncId) : Prop := ∀ (p : Option Addr) (cap : Nat) (w : World), Calls P f #[.slice p 0 cap, .func (.func g) #[] #[]] w fun e w' => e = .returned (.tuple #[]) ∧ w' = w

section
variable {P : Program} {ops : Array Oper} {Q : Exit → Act → World → Prop} {N : Nat} {X : Nat → Prop} {w0 : World} {G : Ghost} {l : List (Nat × Value)} {L : List Asrt}
variable {rest : List Oper} {d k : Nat} {ty : TypeId} {pos : String} {after : Array Edge} {gd : Option (Nat × Bool)} {v : Value} {E : TypeId} {f g : FuncId} {xs : List Operand} {ats : Array TypeId}
variable {α : Type} [Inhabited α] {enc : α → List Value} {kk : Nat} {lt : α → α → Bool} {zs : List α}

theorem r_sortf (hw : Wt ops l gd) (hd : Nat.blt d N = true) (hf : Callable P f) (hv : evs l xs = some [v, .func (.func g) #[] #[]]) (hL : L[k]? = some (rowA v E kk zs.length (zs.flatMap enc))) (hk : ∀ x, (enc x).length = kk) (hs : SortFC P f g enc kk lt) (hn : SortFN P f g) (hlen : zs.length < 4611686018427387904)
    (h : ∀ zs' : List α, zs'.Perm zs → zs'.Pairwise (fun a b => lt b a = false) → Runs P ops Q N X w0 G rest ((d, .tuple #[]) :: l) (L.set k (rowA v E kk zs'.length (zs'.flatMap enc)))) : Runs P ops Q N X w0 G (⟨some d, .call ⟨.value (.func f), xs.toArray, ats⟩, ty, pos, after, gd⟩ :: rest) l L := by
  refine Runs.step hw (fun a w hS => ?_)
  show Oper.upon P _ a _ Q _
  rw [run_call hS.fr hv hf, Oper.upon_enter]
  obtain ⟨F, ⟨⟨hlen1, hown⟩, hF, hmax⟩, _, hput⟩ := hS.mem.take hL
  by_cases hz : zs.length = 0
  · have hz' : zs = [] := List.eq_nil_of_length_eq_zero hz
    subst hz'
    have h' := h [] .nil .nil
    rw [set_same hL] at h'
    have hv2 : ∃ p c, v = .slice p 0 c := by
      rcases hown with ⟨rfl, _⟩ | ⟨g, cap, cur, rfl, _⟩
      · exact ⟨_, _, rfl⟩
      · exact ⟨_, _, rfl⟩
    obtain ⟨p, c, rfl⟩ := hv2
    refine (hn p c w).mono (fun e w' hR => ?_)
    obtain ⟨rfl, rfl⟩ := hR
    exact h' _ _ ⟨hS.fr.put (by simpa using hd) _, hS.mem⟩
  · rcases hown with ⟨_, h0⟩ | ⟨b, cap, cur, rfl, _, hg, hnc, hcm, hcs, htk⟩
    · exact absurd h0 hz
    · have htk' : cur.toList.take (zs.flatMap enc).length = zs.flatMap enc := by rw [hlen1]; exact htk
      have hH : HoldsK enc kk w b 0 zs.toArray := by
        unfold HoldsK
        rw [flatK_eq hk]
        exact holdsV hg (by simpa using htk')
      refine (hs b cap zs w hH (lt_of_heap hg) hlen).mono (fun e w' hR => ?_)
      obtain ⟨rfl, d', q, os, hp, hsd, rfl⟩ := hR
      have hFg : F b := (hF b).2 rfl
      have hsz' : d'.size = zs.length := by have := hp.1; simpa using this
      have hperm : d'.toList.Perm zs := by
        have h3 := hp.2.2
        have e1 : (d'.extract 0 zs.toArray.size).toList = d'.toList := by
          have e3 : zs.toArray.size = d'.size := by simp [hsz']
          rw [e3]; simp
        have e2 : (zs.toArray.extract 0 zs.toArray.size).toList = zs := by simp
        rw [e1, e2] at h3
        exact h3
      have hsort : d'.toList.Pairwise (fun a b => lt b a = false) := by
        rw [List.pairwise_iff_getElem]
        intro i j hi hj hij
        have h4 := hsd i j (Nat.zero_le _) hij (by simp at hj ⊢; omega)
        have hi' : i < d'.size := by simpa using hi
        have hj' : j < d'.size := by simpa using hj
        rw [getElem!_pos d' i hi', getElem!_pos d' j hj'] at h4
        simpa using h4
      refine h d'.toList hperm hsort _ _ ⟨hS.fr.put (by simpa using hd) _, hput _ _ (fun x => x = b) ?_ ?_ (fun x hx => .inl (hx ▸ hFg))⟩
      · unfold sortWorldK putRowK
        exact since_sortV hFg
      · unfold sortWorldK putRowK
        rw [flatK_eq hk]
        have hl2 : (d'.toList.flatMap enc).length = zs.length * kk := by
          have h5 := congrArg Array.size (flatK_eq hk d')
          rw [size_flatK, hsz'] at h5
          simpa using h5.symm
        have h6 := afterV (q := q) (os := os) (vs := d'.toList.flatMap enc) (n := zs.length) hg hl2 hcs hcm hnc
        rw [show d'.toList.length = zs.length by simpa using hsz']
        exact h6
end
end Go.Gx

/- Plain laws of places where variables are bound; no program in sight. -/
namespace Go.Gx.T6
open Go.Gx Go.Gx.T3 Go.Gx.T4 Go.Gx.T8

/-- The place of the first one, or -1. -/
def idxF {α : Type} (pf : α → Bool) : List α → Int → Int
  | [], _ => -1
  | x :: t, k => if pf x = true then k else idxF pf t (k + 1)
theorem drop_cons {α : Type} {l : List α} {k : Nat} (d : α) (h : k < l.length) : l.drop k = l.getD k d :: l.drop (k + 1) := by
  rw [List.drop_eq_getElem_cons h]; simp [List.getD, List.getElem?_eq_getElem h]
theorem idxF_yes {α : Type} {pf : α → Bool} {l : List α} {k : Nat} {d : α} (h : k < l.length) (hp : pf (l.getD k d) = true) : idxF pf (l.drop k) k = k := by
  rw [drop_cons d h, idxF, if_pos hp]
theorem idxF_no {α : Type} {pf : α → Bool} {l : List α} {k : Nat} {d : α} (h : k < l.length) (hp : pf (l.getD k d) = false) : idxF pf (l.drop k) k = idxF pf (l.drop (k + 1)) ((k + 1 : Nat) : Int) := by
  rw [drop_cons d h, idxF, if_neg (by rw [hp]; decide)]; rfl
theorem idxF_none {α : Type} {pf : α → Bool} : ∀ {l : List α} {k : Int}, (∀ x ∈ l, pf x = false) → idxF pf l k = -1
  | [], _, _ => rfl
  | x :: t, k, h => by rw [idxF, if_neg (by rw [h x (by simp)]; decide)]; exact idxF_none (fun y hy => h y (by simp [hy]))
/-- What is found is one that fits. -/
theorem idxF_some {α : Type} {pf : α → Bool} (d : α) : ∀ {l : List α} {k : Int}, 0 ≤ k → 0 ≤ idxF pf l k → ∃ i : Nat, idxF pf l k = k + i ∧ i < l.length ∧ pf (l.getD i d) = true
  | [], k, _, h => by simp [idxF] at h
  | x :: t, k, hk, h => by
    rw [idxF] at h ⊢
    split
    · rename_i hp
      exact ⟨0, by simp, by simp, by simpa using hp⟩
    · rename_i hp
      rw [if_neg hp] at h
      obtain ⟨i, h1, h2, h3⟩ := idxF_some d (by omega) h
      exact ⟨i + 1, by rw [h1]; omega, by simp; omega, by simpa using h3⟩
theorem idxF_neg {α : Type} {pf : α → Bool} : ∀ {l : List α} {k : Int}, 0 ≤ k → ¬ 0 ≤ idxF pf l k → ∀ x ∈ l, pf x = false
  | [], _, _, _ => by simp
  | x :: t, k, hk, h => by
    rw [idxF] at h
    split at h
    · exact absurd hk h
    · rename_i hp
      intro y hy
      rcases List.mem_cons.1 hy with rfl | hy
      · simpa using hp
      · exact idxF_neg (by omega) h y hy
theorem idxF_any {α : Type} (pf : α → Bool) (l : List α) : decide (0 ≤ idxF pf l 0) = l.any pf := by
  by_cases h : 0 ≤ idxF pf l 0
  · rw [decide_eq_true h]
    rcases l with _ | ⟨x, t⟩
    · simp [idxF] at h
    · obtain ⟨i, _, h2, h3⟩ := idxF_some x (Int.le_refl 0) h
      exact (List.any_eq_true.2 ⟨_, getD_mem h2, h3⟩).symm
  · rw [decide_eq_false h]
    have := idxF_neg (Int.le_refl 0) h
    exact (Bool.eq_false_iff.2 (fun h2 => by obtain ⟨x, hx, hp⟩ := List.any_eq_true.1 h2; rw [this x hx] at hp; cases hp)).symm

/-! ### places -/
abbrev PL := Int × Int × Int
def isV (v : Int) (p : PL) : Bool := decide (p.1 = v)
/-- How many Pos there are. -/
def posN : List CT → Nat
  | [] => 0
  | c :: t => (if c.h.k = 1 then 1 else 0) + posN t
theorem posN_append (a b : List CT) : posN (a ++ b) = posN a + posN b := by
  induction a with
  | nil => simp [posN]
  | cons c t ih => simp only [List.cons_append, posN, ih]; omega
theorem posN_len : ∀ l : List CT, posN l ≤ l.length
  | [] => Nat.le_refl _
  | c :: t => by have := posN_len t; rw [posN]; simp; split <;> omega
def pl1 (h : Hd) (b : Int) (out : List PL) (f : Nat) : List PL := if vF h f = true ∧ ¬ 0 ≤ idxF (isV (nF h f)) out 0 then out ++ [(nF h f, b, (f : Int))] else out
def plTo (h : Hd) (b : Int) (out : List PL) : Nat → List PL
  | 0 => out
  | f + 1 => pl1 h b (plTo h b out f) f
def places : List CT → Int → List PL → List PL
  | [], _, out => out
  | c :: t, b, out => if c.h.k = 1 then places t (b + 1) (plTo c.h b out 3) else places t b out
theorem places_snoc (c : CT) : ∀ (l : List CT) (b : Int) (out : List PL), places (l ++ [c]) b out = if c.h.k = 1 then plTo c.h (b + posN l) (places l b out) 3 else places l b out
  | [], b, out => by simp [places, posN]
  | x :: t, b, out => by
    rw [List.cons_append, places]
    split
    · rename_i hx
      rw [places_snoc c t, places, if_pos hx, posN, if_pos hx]
      congr 2
      omega
    · rename_i hx
      rw [places_snoc c t, places, if_neg hx, posN, if_neg hx, Nat.zero_add]
theorem pl1_len (h : Hd) (b : Int) (out : List PL) (f : Nat) : (pl1 h b out f).length ≤ out.length + 1 := by
  unfold pl1; split <;> simp
theorem plTo_len (h : Hd) (b : Int) (out : List PL) : ∀ f, (plTo h b out f).length ≤ out.length + f
  | 0 => Nat.le_refl _
  | f + 1 => by have := plTo_len h b out f; have := pl1_len h b (plTo h b out f) f; rw [plTo]; omega
theorem places_len : ∀ (l : List CT) (b : Int) (out : List PL), (places l b out).length ≤ out.length + 3 * l.length
  | [], _, _ => by simp [places]
  | c :: t, b, out => by
    rw [places]
    have := plTo_len c.h b out 3
    split
    · have := places_len t (b + 1) (plTo c.h b out 3); simp; omega
    · have := places_len t b out; simp; omega
/-- Whose variables differ. -/
def Once (l : List PL) : Prop := l.Pairwise fun a b => a.1 ≠ b.1
theorem pl1_once {h : Hd} {b : Int} {out : List PL} {f : Nat} (ho : Once out) : Once (pl1 h b out f) := by
  unfold pl1
  split
  · rename_i hx
    have := idxF_neg (Int.le_refl 0) hx.2
    refine List.pairwise_append.2 ⟨ho, by simp, fun a ha c hc => ?_⟩
    rw [List.mem_singleton.1 hc]
    have h2 := this a ha
    simpa [isV] using h2
  · exact ho
theorem plTo_once {h : Hd} {b : Int} {out : List PL} (ho : Once out) : ∀ f, Once (plTo h b out f)
  | 0 => ho
  | f + 1 => pl1_once (plTo_once ho f)
theorem places_once : ∀ (l : List CT) (b : Int) (out : List PL), Once out → Once (places l b out)
  | [], _, _, h => h
  | c :: t, b, out, h => by
    rw [places]; split
    · exact places_once t _ _ (plTo_once h 3)
    · exact places_once t _ _ h

def ltP (a b : PL) : Bool := decide (a.1 < b.1)
end Go.Gx.T6
namespace Go.Gx.T6
open Go.Gx Go.Gx.T3 Go.Gx.T4 Go.Gx.T8
theorem sorted_two {a b : PL} {zs : List PL} (h : zs.Perm [a, b]) (hs : zs.Pairwise (fun x y => ltP y x = false)) (hab : ltP a b = true) : zs = [a, b] := by
  have hl := h.length_eq
  match zs, hl with
  | [x, y], _ =>
    have hx : x ∈ [a, b] := h.subset (by simp)
    rcases List.mem_cons.1 hx with rfl | hx
    · have h2 := (List.perm_cons x).1 h
      have h3 := List.perm_singleton.1 h2
      rw [h3]
    · have hx' := List.mem_singleton.1 hx
      subst hx'
      have h1 : [x, y].Perm [x, a] := h.trans (List.Perm.swap x a [])
      have h2 := (List.perm_cons x).1 h1
      have h3 := List.perm_singleton.1 h2
      simp only [List.cons.injEq, and_true] at h3
      subst h3
      have h4 := (List.pairwise_cons.1 hs).1 y (by simp)
      rw [h4] at hab; cases hab
abbrev A6 (n : Int) : CT := .mk ⟨1, false, n, false, 1, true, n⟩ []
abbrev B6 : CT := .mk ⟨3, false, 0, false, 0, false, 0⟩ [A6 2, A6 3]
abbrev L6 : List CT := [A6 1, B6, A6 4]
theorem L6_places : places L6 0 [] = [(1, 0, 2), (4, 1, 2)] := by decide +kernel
theorem L6_bound {zs : List PL} (h : zs.Perm (places L6 0 [])) (hs : zs.Pairwise (fun x y => ltP y x = false)) : zs = [(1, 0, 2), (4, 1, 2)] := by
  rw [L6_places] at h
  exact sorted_two h hs (by decide)
theorem L6_len : (chains [] L6).length = 5 := by decide +kernel
theorem L6_len2 : ((chains [] L6).getD 2 []).length = 3 := by decide +kernel
theorem L6_own : ownC L6 = [0, 3, 4] := by decide +kernel
theorem mapfst_getD {α : Type} {qs : List (α × Value)} (e : α) (v : Value) (i : Nat) : (qs.map Prod.fst).getD i e = (qs.getD i (e, v)).1 := by
  simp only [List.getD, List.getElem?_map]
  cases qs[i]? <;> rfl
end Go.Gx.T6

/-
  DERIVED: THE SHELF's CONTRACTS AT THIS DUMP, IN PLAIN WORDS (tools/lay-plain.mjs out of 'TryShelf.lean', which tools/lay-shelf.mjs wrote): THE SAME DECLARATIONS UNDER THE SAME NAMES: 'import', 'namespace', 'open', 'def', 'theorem' AND NOTHING ELSE: no command of the shelf's: FOR A HAND-IN. Each laying: the table of numbers ('.._ren') and one theorem, a field a fact of the dump's own or the kernel's comparison; each contract: ONE APPLICATION.
-/
namespace Go.Proofs
open Go.Shelf
def Try.lays128_ren : Go.Shelf.Ren := ⟨fun | 128 => 83 | n => n, fun | 51 => 134 | 3 => 3 | 4 => 4 | 46 => 121 | 5 => 5 | 9 => 9 | n => n, fun | n => n⟩
theorem Try.lays128 : Go.Proofs.Lays.n128 Try.prog Try.lays128_ren := {
  mixed := by kernel_rfl
  f128 := Try.func83.trans (congrArg some (by kernel_rfl))
  t3 := Try.underlying3
  a3 := Try.isAgg3
  z3 := Try.sizeOf3
  v3 := Try.zeroValue3
  t4 := Try.underlying4
  a4 := Try.isAgg4
  z4 := Try.sizeOf4
  v4 := Try.zeroValue4
  t5 := Try.underlying5
  a5 := Try.isAgg5
  z5 := Try.sizeOf5
  v5 := Try.zeroValue5
  t9 := Try.underlying9
  a9 := Try.isAgg9
  z9 := Try.sizeOf9
  v9 := Try.zeroValue9
  t46 := Try.underlying121
  a46 := Try.isAgg121
  z46 := Try.sizeOf121
  v46 := Try.zeroValue121
  t51 := Try.underlying134
  a51 := Try.isAgg134
  z51 := Try.sizeOf134
  v51 := Try.zeroValue134 }
/-- bits.Len32: "Len32 returns the minimum number of bits required to represent x; the result is 0 for x == 0.": IT RETURNS 'Lib.bitLen x'; the world is as it was. ('h0', 'h1': x is a uint32.) (LAID: no walk: one application.) -/
theorem Try.bits_Len32 (x : Int) (w : World) (h0 : 0 ≤ x) (h1 : x ≤ 4294967295) :
    Calls Try.prog 83 #[.int .u32 x] w fun e w' => e = .returned (.int .i64 (Lib.bitLen x.toNat)) ∧ w' = w := Any.bits_Len32 Try.lays128 x w h0 h1
def Try.lays125_ren : Go.Shelf.Ren := ⟨fun | 125 => 72 | 128 => 83 | 129 => 84 | n => n, fun | 46 => 121 | 3 => 3 | 51 => 134 | 53 => 136 | 4 => 4 | 5 => 5 | 9 => 9 | n => n, fun | n => n⟩
theorem Try.lays125 : Go.Proofs.Lays.n125 Try.prog Try.lays125_ren := {
  mixed := by kernel_rfl
  f125 := Try.func72.trans (congrArg some (by kernel_rfl))
  f128 := Try.func83.trans (congrArg some (by kernel_rfl))
  f129 := Try.func84.trans (congrArg some (by kernel_rfl))
  t3 := Try.underlying3
  a3 := Try.isAgg3
  z3 := Try.sizeOf3
  v3 := Try.zeroValue3
  t4 := Try.underlying4
  a4 := Try.isAgg4
  z4 := Try.sizeOf4
  v4 := Try.zeroValue4
  t5 := Try.underlying5
  a5 := Try.isAgg5
  z5 := Try.sizeOf5
  v5 := Try.zeroValue5
  t9 := Try.underlying9
  a9 := Try.isAgg9
  z9 := Try.sizeOf9
  v9 := Try.zeroValue9
  t46 := Try.underlying121
  a46 := Try.isAgg121
  z46 := Try.sizeOf121
  v46 := Try.zeroValue121
  t51 := Try.underlying134
  a51 := Try.isAgg134
  z51 := Try.sizeOf134
  v51 := Try.zeroValue134
  t53 := Try.underlying136
  a53 := Try.isAgg136
  z53 := Try.sizeOf136
  v53 := Try.zeroValue136 }
/-- bits.Len: "Len returns the minimum number of bits required to represent x; the result is 0 for x == 0.": IT RETURNS 'Lib.bitLen x'; the world is as it was. (A uint has 64 bits in the model.) ITS CALLEE bits.Len64 IS MET BY ITS OWN CONTRACT OFF THE SHELF (lay that first). (LAID: no walk: one application.) -/
theorem Try.bits_Len (x : Int) (w : World) (h0 : 0 ≤ x) (h1 : x ≤ 18446744073709551615) :
    Calls Try.prog 72 #[.int .u64 x] w fun e w' => e = .returned (.int .i64 (Lib.bitLen x.toNat)) ∧ w' = w := Any.bits_Len Try.lays125 x w h0 h1
def Try.lays215_ren : Go.Shelf.Ren := ⟨fun | 215 => 73 | n => n, fun | 3 => 3 | 4 => 4 | n => n, fun | n => n⟩
theorem Try.lays215 : Go.Proofs.Lays.n215 Try.prog Try.lays215_ren := {
  mixed := by kernel_rfl
  f215 := Try.func73.trans (congrArg some (by kernel_rfl))
  t3 := Try.underlying3
  a3 := Try.isAgg3
  z3 := Try.sizeOf3
  v3 := Try.zeroValue3
  t4 := Try.underlying4
  a4 := Try.isAgg4
  z4 := Try.sizeOf4
  v4 := Try.zeroValue4 }
open Go.RowKit in
/-- cmp.isNaN at int: 'x != x': false. (LAID: no walk: one application.) -/
theorem Try.cmp_isNaN_int (x : Int) (w : World) :
    Calls Try.prog 73 #[.int .i64 x] w fun e w' => e = .returned (.bool false) ∧ w' = w := Any.cmp_isNaN_int Try.lays215 x w
def Try.lays122_ren : Go.Shelf.Ren := ⟨fun | 122 => 64 | 215 => 73 | n => n, fun | 3 => 3 | 4 => 4 | n => n, fun | n => n⟩
theorem Try.lays122 : Go.Proofs.Lays.n122 Try.prog Try.lays122_ren := {
  mixed := by kernel_rfl
  f122 := Try.func64.trans (congrArg some (by kernel_rfl))
  f215 := Try.func73.trans (congrArg some (by kernel_rfl))
  t3 := Try.underlying3
  a3 := Try.isAgg3
  z3 := Try.sizeOf3
  v3 := Try.zeroValue3
  t4 := Try.underlying4
  a4 := Try.isAgg4
  z4 := Try.sizeOf4
  v4 := Try.zeroValue4 }
open Go.RowKit in
/-- cmp.Compare at int: "Compare returns -1 if x is less than y, 0 if x equals y, +1 if x is greater than y.": IT RETURNS 'Lib.compareInt x y'; the world is as it was. (LAID: no walk: one application.) -/
theorem Try.cmp_Compare_int (x y : Int) (w : World) :
    Calls Try.prog 64 #[.int .i64 x, .int .i64 y] w fun e w' => e = .returned (.int .i64 (Lib.compareInt x y)) ∧ w' = w := Any.cmp_Compare_int Try.lays122 x y w
def Try.lays129_ren : Go.Shelf.Ren := ⟨fun | 129 => 84 | n => n, fun | 53 => 136 | 3 => 3 | 4 => 4 | 46 => 121 | 5 => 5 | 9 => 9 | n => n, fun | n => n⟩
theorem Try.lays129 : Go.Proofs.Lays.n129 Try.prog Try.lays129_ren := {
  mixed := by kernel_rfl
  f129 := Try.func84.trans (congrArg some (by kernel_rfl))
  t3 := Try.underlying3
  a3 := Try.isAgg3
  z3 := Try.sizeOf3
  v3 := Try.zeroValue3
  t4 := Try.underlying4
  a4 := Try.isAgg4
  z4 := Try.sizeOf4
  v4 := Try.zeroValue4
  t5 := Try.underlying5
  a5 := Try.isAgg5
  z5 := Try.sizeOf5
  v5 := Try.zeroValue5
  t9 := Try.underlying9
  a9 := Try.isAgg9
  z9 := Try.sizeOf9
  v9 := Try.zeroValue9
  t46 := Try.underlying121
  a46 := Try.isAgg121
  z46 := Try.sizeOf121
  v46 := Try.zeroValue121
  t53 := Try.underlying136
  a53 := Try.isAgg136
  z53 := Try.sizeOf136
  v53 := Try.zeroValue136 }
/-- bits.Len64: "Len64 returns the minimum number of bits required to represent x; the result is 0 for x == 0.": IT RETURNS 'Lib.bitLen x'; the world is as it was. ('h0', 'h1': x is a uint64.) (LAID: no walk: one application.) -/
theorem Try.bits_Len64 (x : Int) (w : World) (h0 : 0 ≤ x) (h1 : x ≤ 18446744073709551615) :
    Calls Try.prog 84 #[.int .u64 x] w fun e w' => e = .returned (.int .i64 (Lib.bitLen x.toNat)) ∧ w' = w := Any.bits_Len64 Try.lays129 x w h0 h1
def Try.laysNm237_ren : Go.Shelf.Ren := ⟨fun | 37 => 73 | n => n, fun | 3 => 3 | 4 => 4 | n => n, fun | n => n⟩
theorem Try.laysNm237 : Go.Proofs.Lays2.n37 Try.prog Try.laysNm237_ren := {
  mixed := by kernel_rfl
  f37 := Try.func73.trans (congrArg some (by kernel_rfl))
  t3 := Try.underlying3
  a3 := Try.isAgg3
  z3 := Try.sizeOf3
  v3 := Try.zeroValue3
  t4 := Try.underlying4
  a4 := Try.isAgg4
  z4 := Try.sizeOf4
  v4 := Try.zeroValue4 }
open Go.RowKit Go.Lib in
/-- cmp.isNaN[int]: 'x != x': false. (LAID: no walk: one application.) -/
theorem Try.cmp_isNaN_int2 (x : Int) (w : World) :
    Calls Try.prog 73 #[.int .i64 x] w fun e w' => e = .returned (.bool false) ∧ w' = w := Any.cmp_isNaN_int2 Try.laysNm237 x w
def Try.sortP_ren : Go.Shelf.Ren := ⟨fun | 6 => 62 | 15 => 72 | 14 => 71 | 28 => 83 | 29 => 84 | 20 => 75 | 21 => 76 | 22 => 77 | 23 => 78 | 24 => 79 | 25 => 80 | 26 => 81 | 27 => 82 | 46 => 85 | 47 => 86 | 48 => 87 | 49 => 88 | 50 => 89 | 57 => 90 | n => n, fun | 22 => 81 | 24 => 84 | 25 => 112 | 3 => 3 | 39 => 121 | 0 => 0 | 53 => 134 | 55 => 136 | 4 => 4 | 46 => 127 | 45 => 126 | 50 => 131 | 5 => 5 | 9 => 9 | 66 => 137 | 70 => 76 | 76 => 142 | 77 => 143 | n => n, fun | n => n⟩
theorem Try.sortP : Go.Proofs.SlLaysF0.n6 Try.prog Try.sortP_ren := {
  mixed := by kernel_rfl
  f6 := ⟨Try.f62.name, by decide, Try.func62.trans (congrArg some (by kernel_rfl))⟩
  f14 := ⟨Try.f71.name, by decide, Try.func71.trans (congrArg some (by kernel_rfl))⟩
  f15 := Try.func72.trans (congrArg some (by kernel_rfl))
  f20 := ⟨Try.f75.name, by decide, Try.func75.trans (congrArg some (by kernel_rfl))⟩
  f21 := ⟨Try.f76.name, by decide, Try.func76.trans (congrArg some (by kernel_rfl))⟩
  f22 := ⟨Try.f77.name, by decide, Try.func77.trans (congrArg some (by kernel_rfl))⟩
  f23 := ⟨Try.f78.name, by decide, Try.func78.trans (congrArg some (by kernel_rfl))⟩
  f24 := ⟨Try.f79.name, by decide, Try.func79.trans (congrArg some (by kernel_rfl))⟩
  f25 := ⟨Try.f80.name, by decide, Try.func80.trans (congrArg some (by kernel_rfl))⟩
  f26 := ⟨Try.f81.name, by decide, Try.func81.trans (congrArg some (by kernel_rfl))⟩
  f27 := ⟨Try.f82.name, by decide, Try.func82.trans (congrArg some (by kernel_rfl))⟩
  f28 := Try.func83.trans (congrArg some (by kernel_rfl))
  f29 := Try.func84.trans (congrArg some (by kernel_rfl))
  f46 := ⟨Try.f85.name, by decide, Try.func85.trans (congrArg some (by kernel_rfl))⟩
  f47 := Try.func86.trans (congrArg some (by kernel_rfl))
  f48 := Try.func87.trans (congrArg some (by kernel_rfl))
  f49 := ⟨Try.f88.name, by decide, Try.func88.trans (congrArg some (by kernel_rfl))⟩
  f50 := ⟨Try.f89.name, by decide, Try.func89.trans (congrArg some (by kernel_rfl))⟩
  f57 := ⟨Try.f90.name, by decide, Try.func90.trans (congrArg some (by kernel_rfl))⟩
  t0 := Try.underlying0
  a0 := Try.isAgg0
  z0 := Try.sizeOf0
  v0 := Try.zeroValue0
  t3 := Try.underlying3
  a3 := Try.isAgg3
  z3 := Try.sizeOf3
  v3 := Try.zeroValue3
  t4 := Try.underlying4
  a4 := Try.isAgg4
  z4 := Try.sizeOf4
  v4 := Try.zeroValue4
  t5 := Try.underlying5
  a5 := Try.isAgg5
  z5 := Try.sizeOf5
  v5 := Try.zeroValue5
  t9 := Try.underlying9
  a9 := Try.isAgg9
  z9 := Try.sizeOf9
  v9 := Try.zeroValue9
  t22 := Try.underlying81
  a22 := Try.isAgg81
  z22 := Try.sizeOf81
  v22 := Try.zeroValue81
  t25 := Try.underlying112
  a25 := Try.isAgg112
  z25 := Try.sizeOf112
  v25 := Try.zeroValue112
  t39 := Try.underlying121
  a39 := Try.isAgg121
  z39 := Try.sizeOf121
  v39 := Try.zeroValue121
  t45 := Try.underlying126
  a45 := Try.isAgg126
  z45 := Try.sizeOf126
  v45 := Try.zeroValue126
  t46 := Try.underlying127
  a46 := Try.isAgg127
  z46 := Try.sizeOf127
  v46 := Try.zeroValue127
  t50 := Try.underlying131
  a50 := Try.isAgg131
  z50 := Try.sizeOf131
  v50 := Try.zeroValue131
  t53 := Try.underlying134
  a53 := Try.isAgg134
  z53 := Try.sizeOf134
  v53 := Try.zeroValue134
  t55 := Try.underlying136
  a55 := Try.isAgg136
  z55 := Try.sizeOf136
  v55 := Try.zeroValue136
  t66 := Try.underlying137
  a66 := Try.isAgg137
  z66 := Try.sizeOf137
  v66 := Try.zeroValue137
  t70 := Try.underlying76
  a70 := Try.isAgg76
  z70 := Try.sizeOf76
  v70 := Try.zeroValue76
  t76 := Try.underlying142
  a76 := Try.isAgg142
  z76 := Try.sizeOf142
  v76 := Try.zeroValue142
  t77 := Try.underlying143
  a77 := Try.isAgg143
  z77 := Try.sizeOf143
  v77 := Try.zeroValue143 }
end Go.Proofs

/- Walks: what Go functions of this chapter come to, each as a function on plain data; no condition but those that each theorem names. Printed by a program of this work (gen.py). -/
namespace Go.Proofs.Ytoflaphnlfggkaa
open Go.Gx Go.Gx.T4 Go.Gx.T3 Go.Gx.T6 Go.Gx.T8 Go.Gx.T4 Go.Gx.T3 Go.Gx.T8 Go.Gx.T4 Go.Gx.T3
theorem sz84 : SzIs Try.prog 84 3 := by
  unfold SzIs
  kernel_rfl
theorem cl60 : Callable Try.prog 60 := callable Try.func60 (by kernel_rfl) rfl
theorem cl61 : Callable Try.prog 61 := callable Try.func61 (by kernel_rfl) rfl
theorem cl62 : Callable Try.prog 62 := callable Try.func62 (by kernel_rfl) rfl
theorem cl66 : Callable Try.prog 66 := callable Try.func66 (by kernel_rfl) rfl
theorem bl84_0i1_1i1_2i1 (x0 : Int) (x1 : Int) (x2 : Int) : Program.built Try.prog 84 [(0, Value.int .i64 x0), (1, Value.int .i64 x1), (2, Value.int .i64 x2)] = some #[Value.int .i64 x0, Value.int .i64 x1, Value.int .i64 x2] := by
  kernel_rfl
theorem bs84_10a3 (a0 a1 a2 : Value) : Instr.fill (fun i => some (i * 3, 3)) ((Array.range (1 * 3)).map ((Value.agg #[Value.int .i64 0, Value.int .i64 0, Value.int .i64 0]).cells[· % (Value.agg #[Value.int .i64 0, Value.int .i64 0, Value.int .i64 0]).cells.size]!)) [(0, Value.agg #[a0, a1, a2])] = some #[a0, a1, a2] := by
  kernel_rfl
theorem el84 : ElemIs Try.prog 84 3 24 (Value.agg #[Value.int .i64 0, Value.int .i64 0, Value.int .i64 0]) := by
  unfold ElemIs
  kernel_rfl
theorem c_bnd1 (x : PL) (b : Bool) (n : Int) (p : Nat) {G : Ghost} (hR : RowAt G p 0 2 (at_ [Value.bool b, Value.int .i64 n])) (w : World) (hG : Has G w) :
    Calls Try.prog 61 #[Value.agg #[Value.int .i64 x.1, Value.int .i64 x.2.1, Value.int .i64 x.2.2], Value.pointer (some ⟨p, 0, none⟩)] w (Ret fun r w' => r = Value.bool (isV n x) ∧ Since nX w w') := by
  refine enter (args := [_, _]) (X := nX) (G := G) (l := [(0, Value.agg #[Value.int .i64 x.1, Value.int .i64 x.2.1, Value.int .i64 x.2.2]), (1, Value.pointer (some ⟨p, 0, none⟩))]) Try.func61 rfl Try.ntmps61 hG ⟨rfl, rfl, trivial⟩ (Nat.le_of_ble_eq_true rfl) ?_
  refine c_seq ?_
  refine c_region ?_
  refine r_box .none rfl rfl (IsRow.lit _) (fun b_1 => ?_)
  refine r_val .none rfl (p_assign rfl) ?_
  refine r_nil ?_
  refine e_next ?_
  refine c_seq ?_
  refine c_region ?_
  refine r_val .none rfl (p_field Try.underlying84 rfl sz3 rfl) ?_
  refine r_val .none rfl (p_ld (k := 0) Try.underlying3 rfl rfl rfl (by first | exact of_decide_eq_true rfl | omega) (rfl : _ = Value.int _ _)) ?_
  refine r_val .none rfl (p_field Try.underlying35 rfl sz3 rfl) ?_
  refine r_val .none rfl (p_ldg (j := 1) Try.underlying3 rfl rfl hR (by first | exact of_decide_eq_true rfl | omega) (rfl : _ = Value.int _ _)) ?_
  refine r_val .none rfl (p_eq rfl rfl) ?_
  refine r_val .none rfl (p_assign rfl) ?_
  refine r_nil ?_
  refine e_next ?_
  refine c_ret ?_
  refine e_ret1 Try.results61 (.tmp rfl .nil) (fun w hm => ⟨?_, hm.since⟩)
  rfl
theorem c_idxP (v : Value) (zs : List (PL)) (g : Nat) (cv : Value) (pf : PL → Bool) {G : Ghost} (hr : SlL G v 3 tC t0 zs) (hcg : Callable Try.prog g) (hcl : ∀ (x : PL) (w : World), Has G w → Calls Try.prog g #[Value.agg #[Value.int .i64 x.1, Value.int .i64 x.2.1, Value.int .i64 x.2.2], cv] w (Ret fun r w' => r = Value.bool (pf x) ∧ Since nX w w')) (w : World) (hG : Has G w) :
    Calls Try.prog 66 #[v, Value.func (.func g) #[] #[cv]] w (Ret fun r w' => r = Value.int .i64 (idxF pf zs 0) ∧ Since nX w w') := by
  refine enter (args := [_, _]) (X := nX) (G := G) (l := [(0, v), (1, Value.func (.func g) #[] #[cv])]) Try.func66 rfl Try.ntmps66 hG ⟨rfl, rfl, trivial⟩ (Nat.le_of_ble_eq_true rfl) ?_
  have hbd := hr.bound
  refine c_seq ?_
  refine c_region ?_
  refine r_val .none rfl (p_assign rfl) ?_
  refine r_nil ?_
  refine e_next ?_
  refine c_seq ?_
  refine c_seq ?_
  refine c_region ?_
  refine r_val .none rfl (p_move rfl) ?_
  refine r_val .none rfl (p_leng Try.underlying81 rfl hr) ?_
  have bd_1 := (hr).bound
  refine r_val .none rfl (p_move rfl) ?_
  refine r_nil ?_
  refine e_next ?_
  refine c_block ?_
  refine c_name (d := 0) rfl (fun u_2 hu_2 => ?_)
  refine c_name (d := 1) rfl (fun u_3 hu_3 => ?_)
  refine c_name (d := 7) rfl (fun u_4 hu_4 => ?_)
  refine c_loop (σ := Nat) (fun k => [(8, Value.int .i64 (k : Nat)), (0, u_2), (1, u_3), (7, u_4)]) (fun k => []) (fun _ => _) (fun k => k ≤ zs.length ∧ idxF pf (zs.drop k) k = idxF pf zs 0) (fun k => zs.length - k) (0) ⟨Nat.zero_le _, rfl⟩ rfl ⟨rfl, rfl, rfl, rfl, trivial⟩ (.nil) (fun k hphi => ?_)
  subst hu_2
  subst hu_3
  subst hu_4
  refine c_seq ?_
  refine c_region ?_
  refine r_val .none rfl (p_lt rfl rfl) ?_
  refine r_nil ?_
  refine e_next ?_
  refine c_seq ?_
  refine c_splitd (d := 9) rfl (fun h_5 => ?_) (fun h_5 => ?_)
  · skip
    first
      | (exfalso; omega)
      | (
        refine c_cond_t rfl ?_
        refine c_skip ?_
        refine e_next ?_
        refine c_seq ?_
        refine c_block ?_
        refine c_seq ?_
        refine c_region ?_
        refine r_val .none rfl (p_move rfl) ?_
        refine r_val .none rfl (p_assign rfl) ?_
        refine r_nil ?_
        refine e_next ?_
        refine c_seq ?_
        refine c_region ?_
        refine r_val .none rfl (p_move rfl) ?_
        refine r_val .none rfl (p_move rfl) ?_
        refine r_val .none rfl (p_move rfl) ?_
        refine r_iaddr_g .none rfl Try.underlying81 sz84 rfl hr rfl (by first | exact of_decide_eq_true rfl | omega) (fun p_7 o_8 R_6 => ?_)
        refine r_val .none rfl (p_ldga0 Try.underlying84 rfl sz84 rfl R_6 (by first | exact of_decide_eq_true rfl | omega) (rfl : _ = Value.agg #[_, _, _])) ?_
        refine r_fun (cs := [_]) .none rfl ?_
        refine r_call (vs := [_, _]) .none rfl hcg rfl (fun w hw => hcl (zs.getD k t0) w hw) ?_
        refine r_nil ?_
        refine e_next ?_
        refine c_split (d := 16) rfl (fun h_9 => ?_) (fun h_9 => ?_)
        · skip
          have hE := h_9
          first
            | (exfalso; omega)
            | (
              refine c_cond_t rfl ?_
              refine c_seq ?_
              refine c_region ?_
              refine r_val .none rfl (p_move rfl) ?_
              refine r_val .none rfl (p_assign rfl) ?_
              refine r_nil ?_
              refine e_next ?_
              refine c_ret ?_
              refine e_ret_block ?_
              refine e_ret_then ?_
              refine e_ret_then ?_
              refine e_ret_block ?_
              refine e_ret_then ?_
              refine e_ret1 Try.results66 (.tmp rfl .nil) (fun w hm => ⟨?_, hm.since⟩)
              first
              | (rw [← hphi.2, idxF_yes (d := t0) (by omega) hE])
              | (rw [← hphi.2, List.drop_eq_nil_of_le (by omega)]; rfl)
              )
        · skip
          have hE := h_9
          first
            | (exfalso; omega)
            | (
              refine c_cond_f rfl ?_
              refine c_skip ?_
              refine e_norm_block ?_
              refine e_next ?_
              refine c_region ?_
              refine r_val .none rfl (p_add rfl rfl (by omega)) ?_
              refine r_val .none rfl (p_move rfl) ?_
              refine r_nil ?_
              refine e_round (k + 1) ⟨⟨by omega, by rw [← hphi.2, idxF_no (d := t0) (by omega) hE]⟩, by omega⟩ rfl ⟨rfl, rfl, rfl, rfl, trivial⟩ (.nil)
              )
        )
  · skip
    first
      | (exfalso; omega)
      | (
        refine c_cond_f rfl ?_
        refine c_exit ?_
        refine e_exit_then ?_
        refine e_exit_then ?_
        refine e_exit_block ?_
        refine e_next ?_
        refine c_seq ?_
        refine c_region ?_
        refine r_val .none rfl (p_assign rfl) ?_
        refine r_nil ?_
        refine e_next ?_
        refine c_ret ?_
        refine e_ret1 Try.results66 (.tmp rfl .nil) (fun w hm => ⟨?_, hm.since⟩)
        first
        | (rw [← hphi.2, idxF_yes (d := t0) (by omega) hE])
        | (rw [← hphi.2, List.drop_eq_nil_of_le (by omega)]; rfl)
        )
theorem c_ctnP (v : Value) (zs : List (PL)) (g : Nat) (cv : Value) (pf : PL → Bool) {G : Ghost} (hr : SlL G v 3 tC t0 zs) (hcg : Callable Try.prog g) (hcl : ∀ (x : PL) (w : World), Has G w → Calls Try.prog g #[Value.agg #[Value.int .i64 x.1, Value.int .i64 x.2.1, Value.int .i64 x.2.2], cv] w (Ret fun r w' => r = Value.bool (pf x) ∧ Since nX w w')) (w : World) (hG : Has G w) :
    Calls Try.prog 60 #[v, Value.func (.func g) #[] #[cv]] w (Ret fun r w' => r = Value.bool (decide (0 ≤ idxF pf zs 0)) ∧ Since nX w w') := by
  refine enter (args := [_, _]) (X := nX) (G := G) (l := [(0, v), (1, Value.func (.func g) #[] #[cv])]) Try.func60 rfl Try.ntmps60 hG ⟨rfl, rfl, trivial⟩ (Nat.le_of_ble_eq_true rfl) ?_
  refine c_seq ?_
  refine c_region ?_
  refine r_val .none rfl (p_assign rfl) ?_
  refine r_nil ?_
  refine e_next ?_
  refine c_seq ?_
  refine c_region ?_
  refine r_val .none rfl (p_move rfl) ?_
  refine r_val .none rfl (p_move rfl) ?_
  refine r_call (vs := [_, _]) .none rfl cl66 rfl (fun w hw => c_idxP _ _ _ _ _ hr hcg hcl w hw) ?_
  refine r_val .none rfl (p_ge rfl rfl) ?_
  refine r_val .none rfl (p_assign rfl) ?_
  refine r_nil ?_
  refine e_next ?_
  refine c_ret ?_
  refine e_ret1 Try.results60 (.tmp rfl .nil) (fun w hm => ⟨?_, hm.since⟩)
  rfl
theorem clos63 (x y : PL) (W : World) : Calls Try.prog 63 #[Value.agg #[.int .i64 x.1, .int .i64 x.2.1, .int .i64 x.2.2], Value.agg #[.int .i64 y.1, .int .i64 y.2.1, .int .i64 y.2.2]] W fun e w' => e = .returned (.int .i64 (Lib.compareInt x.1 y.1)) ∧ ∃ q os', w' = Go.Sort.grow (W.drewN q) os' := by
  have hcon := fun W' => Try.cmp_Compare_int x.1 y.1 W'
  generalize Lib.compareInt x.1 y.1 = r at hcon ⊢
  go_enter Try.func63, Try.ntmps63
  go_wp2_with (go_at_call 64; refine (hcon _).mono ?_; rintro e w' ⟨rfl, rfl⟩)
  go_ret
  exact ⟨rfl, 0, _, by rw [Go.Sort.alloc_eq_grow, Go.Sort.alloc_eq_grow, Go.Sort.grow_grow]; rfl⟩
theorem ltP_of : Go.Proofs.ltOf (fun x y : PL => Lib.compareInt x.1 y.1) = ltP := by
  funext x y
  unfold Go.Proofs.ltOf Lib.compareInt ltP
  by_cases h1 : x.1 < y.1
  · simp [h1]
  · by_cases h2 : y.1 < x.1 <;> simp [h1, h2]
theorem ltP_swo : Go.Sort.SWO ltP where
  irrefl x := by simp [ltP]
  trans x y z h1 h2 := by simp [ltP] at *; omega
  ntrans x y z h1 h2 := by simp [ltP] at *; omega
theorem sortPC : SortFC Try.prog 62 63 tC 3 ltP := by
  intro blk cap zs w hH hblk hlen
  have eg : ∀ args w, (callFunc 63 args).run Try.prog w = .ok (.enter 63 args) w := enters_of Try.func63 (by kernel_rfl) rfl
  have h := AnyQ.slices_SortFunc Try.sortP 3 Try.isAgg84 Try.sizeOf84 tC (fun _ => rfl) (fun x v hv => by simp [tC] at hv; rcases hv with rfl | rfl | rfl <;> rfl) (fun x y => Lib.compareInt x.1 y.1) (ltP_of ▸ ltP_swo) 63 #[] blk 0 cap zs.toArray w eg (fun _ _ _ _ x y => clos63 x y _) hH hblk (by simpa using hlen)
  rw [ltP_of] at h
  exact h
theorem sortPN : SortFN Try.prog 62 63 := fun p cap w => AnyF.slices_SortFunc_none Try.sortP p cap _ w
theorem c_bnd (v : Value) (l : List CT) {G : Ghost} (hsz : l.length ≤ 1000) (hs : Cs G v l) (w : World) (hG : Has G w) :
    Calls Try.prog 41 #[v] w (Ret fun r w' => ∃ G', GNew w nX G G' ∧ Has G' w' ∧ (∃ zs, zs.Perm (places l 0 []) ∧ zs.Pairwise (fun a b => ltP b a = false) ∧ SlL G' r 3 tC t0 zs) ∧ Since nX w w') := by
  refine enter (args := [_]) (X := nX) (G := G) (l := [(0, v)]) Try.func41 rfl Try.ntmps41 hG ⟨rfl, trivial⟩ (Nat.le_of_ble_eq_true rfl) ?_
  obtain ⟨rs, hr, hp, rfl⟩ := hs.inv
  have hbd := hr.bound
  rw [List.length_map] at hsz
  refine c_seq ?_
  refine c_region ?_
  refine r_val .none rfl (p_assign rfl) ?_
  refine r_nil ?_
  refine e_next ?_
  refine c_seq ?_
  refine c_region ?_
  refine r_val .none rfl (p_assign rfl) ?_
  refine r_nil ?_
  refine e_next ?_
  refine c_seq ?_
  refine c_region ?_
  refine r_val .none rfl (p_assign rfl) ?_
  refine r_nil ?_
  refine e_next ?_
  refine c_seq ?_
  refine c_seq ?_
  refine c_region ?_
  refine r_val .none rfl (p_move rfl) ?_
  refine r_val .none rfl (p_leng Try.underlying22 rfl hr) ?_
  have bd_1 := (hr).bound
  refine r_val .none rfl (p_move rfl) ?_
  refine r_nil ?_
  refine e_next ?_
  refine c_block ?_
  refine c_nilrow 84 3 ?_
  refine c_name (d := 2) rfl (fun u_2 hu_2 => ?_)
  refine c_name (d := 9) rfl (fun u_3 hu_3 => ?_)
  refine c_name (d := 10) rfl (fun u_4 hu_4 => ?_)
  refine c_loop (σ := Nat × Value × Ghost) (fun s => [(11, Value.int .i64 (s.1 : Nat)), (4, Value.int .i64 (posN ((rs.map Prod.fst).take s.1) : Nat)), (3, s.2.1), (2, u_2), (9, u_3), (10, u_4)]) (fun s => [rowA (s.2.1) 84 3 ((places ((rs.map Prod.fst).take s.1) 0 [])).length (((places ((rs.map Prod.fst).take s.1) 0 [])).flatMap tC)]) (fun s => s.2.2) (fun s => s.1 ≤ rs.length ∧ GNew w nX G s.2.2) (fun s => rs.length - s.1) ((0, _, _)) ⟨Nat.zero_le _, GNew.refl _ _ _⟩ rfl ⟨rfl, rfl, rfl, rfl, rfl, rfl, trivial⟩ (.keep (fun _ _ h => rowA_nil rfl _ _ h) (.nil)) (fun s hphi => ?_)
  subst hu_2
  subst hu_3
  subst hu_4
  obtain ⟨k, v, H⟩ := s
  obtain ⟨hk, hgn⟩ := hphi
  dsimp only at hk hgn ⊢
  have hpn := posN_len (rs.map Prod.fst |>.take k)
  rw [List.length_take, List.length_map] at hpn
  have hpl := places_len ((rs.map Prod.fst).take k) 0 []
  rw [List.length_take, List.length_map] at hpl
  refine c_row1 (k := 0) rfl (fun ov => ?_)
  refine c_rowlen (k := 0) rfl (fun l63 => ?_)
  replace hr := hr.mono hgn.le
  replace hp := fun p hm0 => (hp p hm0).mono hgn.le
  refine c_seq ?_
  refine c_region ?_
  refine r_val .none rfl (p_lt rfl rfl) ?_
  refine r_nil ?_
  refine e_next ?_
  refine c_seq ?_
  refine c_splitd (d := 12) rfl (fun h_5 => ?_) (fun h_5 => ?_)
  · skip
    first
      | (exfalso; omega)
      | (
        refine c_cond_t rfl ?_
        refine c_skip ?_
        refine e_next ?_
        refine c_seq ?_
        refine c_block ?_
        refine c_seq ?_
        refine c_region ?_
        refine r_iaddr_g .none rfl Try.underlying22 sz38 rfl hr rfl (by first | exact of_decide_eq_true rfl | omega) (fun p_7 o_8 R_6 => ?_)
        have hc_9 := hp _ (getD_mem (i := k) (d := d0) (by omega))
        refine r_val .none rfl (p_ldga0 Try.underlying38 rfl sz38 rfl R_6 (by first | exact of_decide_eq_true rfl | omega) (rfl : _ = Value.agg #[_, _, _, _, _, _, _, _])) ?_
        refine r_alloc .none rfl zr38 (IsRow.lit _) (fun b_1 => ?_)
        refine r_stw (k := 0) .none sz38 rfl rfl (IsRow.lit _) (one_lit rfl (all_cons rfl (all_cons rfl (all_cons rfl (all_cons rfl (all_cons rfl (all_cons rfl (all_cons rfl (all_cons (hc_9).one rfl))))))))) rfl ?_
        refine r_nil ?_
        refine e_next ?_
        refine c_seq ?_
        refine c_seq ?_
        refine c_region ?_
        refine r_val .none rfl (p_field Try.underlying38 rfl sz3 rfl) ?_
        refine r_val .none rfl (p_ld (k := 0) Try.underlying3 rfl rfl rfl (by first | exact of_decide_eq_true rfl | omega) (rfl : _ = Value.int _ _)) ?_
        refine r_val .none rfl (p_ne rfl rfl) ?_
        refine r_nil ?_
        refine e_next ?_
        refine c_splitd (d := 17) rfl (fun h_10 => ?_) (fun h_10 => ?_)
        · skip
          have hk1 : ¬ (rs.getD k d0).1.h.k = 1 := h_10
          first
            | (exfalso; omega)
            | (
              refine c_cond_t rfl ?_
              refine c_exit ?_
              refine e_exit_then ?_
              refine e_exit_block ?_
              refine e_next ?_
              refine c_region ?_
              refine r_val .none rfl (p_add rfl rfl (by omega)) ?_
              refine r_val .none rfl (p_move rfl) ?_
              refine r_nil ?_
              refine e_round ((k + 1, _, _)) ⟨⟨by dsimp only; omega, hgn⟩, by dsimp only; omega⟩ rfl ⟨rfl, (congrArg (fun z => some (Value.int .i64 z)) (by rw [map_take (d := d0) (by omega), posN_append]; simp only [posN]; first | (rw [if_pos hk1]; omega) | (rw [if_neg hk1]; omega))), rfl, rfl, rfl, rfl, trivial⟩ (.drop (.keep (fun _ _ h => rowA_congr (by rw [map_take (d := d0) (by omega), places_snoc]; first | (rw [if_pos hk1, Int.zero_add]; done) | (rw [if_neg hk1]; done)) (by rw [map_take (d := d0) (by omega), places_snoc]; first | (rw [if_pos hk1, Int.zero_add]; done) | (rw [if_neg hk1]; done)) _ _ h) (.nil)))
              )
        · skip
          have hk1 := Decidable.not_not.1 h_10
          first
            | (exfalso; omega)
            | (
              refine c_cond_f rfl ?_
              refine c_skip ?_
              refine e_next ?_
              refine c_seq ?_
              refine c_seq ?_
              refine c_region ?_
              refine r_val .none rfl (p_field Try.underlying38 rfl sz36 rfl) ?_
              refine r_val .none rfl (p_lda (k := 0) Try.underlying36 rfl sz36 rfl rfl (by first | exact of_decide_eq_true rfl | omega) (rfl : _ = Value.agg #[_, _, _, _, _, _])) ?_
              refine r_val .none rfl (p_move rfl) ?_
              refine r_nil ?_
              refine e_next ?_
              refine c_block ?_
              refine c_name (d := 2) rfl (fun u_11 hu_11 => ?_)
              refine c_name (d := 4) rfl (fun u_12 hu_12 => ?_)
              refine c_name (d := 6) rfl (fun u_13 hu_13 => ?_)
              refine c_name (d := 9) rfl (fun u_14 hu_14 => ?_)
              refine c_name (d := 10) rfl (fun u_15 hu_15 => ?_)
              refine c_name (d := 11) rfl (fun u_16 hu_16 => ?_)
              refine c_name (d := 12) rfl (fun u_17 hu_17 => ?_)
              refine c_name (d := 13) rfl (fun u_18 hu_18 => ?_)
              refine c_name (d := 14) rfl (fun u_19 hu_19 => ?_)
              refine c_name (d := 15) rfl (fun u_20 hu_20 => ?_)
              refine c_name (d := 16) rfl (fun u_21 hu_21 => ?_)
              refine c_name (d := 17) rfl (fun u_22 hu_22 => ?_)
              refine c_name (d := 18) rfl (fun u_23 hu_23 => ?_)
              refine c_name (d := 19) rfl (fun u_24 hu_24 => ?_)
              refine c_nameL (k := 0) rfl (fun A_25 hA_25 => ?_)
              refine c_loop (σ := Nat × Value × Ghost) (fun s => [(20, Value.int .i64 (s.1 : Nat)), (3, s.2.1), (2, u_11), (4, u_12), (6, u_13), (9, u_14), (10, u_15), (11, u_16), (12, u_17), (13, u_18), (14, u_19), (15, u_20), (16, u_21), (17, u_22), (18, u_23), (19, u_24)]) (fun s => [A_25, rowA (s.2.1) 84 3 ((plTo (rs.getD k d0).1.h (posN ((rs.map Prod.fst).take k)) (places ((rs.map Prod.fst).take k) 0 []) s.1)).length (((plTo (rs.getD k d0).1.h (posN ((rs.map Prod.fst).take k)) (places ((rs.map Prod.fst).take k) 0 []) s.1)).flatMap tC)]) (fun s => s.2.2) (fun s => s.1 ≤ 3 ∧ GNew w nX H s.2.2) (fun s => 3 - s.1) ((0, _, _)) ⟨Nat.zero_le _, GNew.refl _ _ _⟩ rfl ⟨rfl, rfl, rfl, rfl, rfl, rfl, rfl, rfl, rfl, rfl, rfl, rfl, rfl, rfl, rfl, rfl, trivial⟩ (.keep (fun _ _ h => h) (.keep (fun _ _ h => h) (.nil))) (fun s hphi => ?_)
              subst hu_11
              subst hu_12
              subst hu_13
              subst hu_14
              subst hu_15
              subst hu_16
              subst hu_17
              subst hu_18
              subst hu_19
              subst hu_20
              subst hu_21
              subst hu_22
              subst hu_23
              subst hu_24
              subst hA_25
              obtain ⟨f, v, H2⟩ := s
              obtain ⟨hf, hgn2⟩ := hphi
              dsimp only at hf hgn2 ⊢
              have hpt := plTo_len (rs.getD k d0).1.h (posN ((rs.map Prod.fst).take k)) (places ((rs.map Prod.fst).take k) 0 []) f
              refine c_row1 (k := 1) rfl (fun ov => ?_)
              refine c_rowlen (k := 1) rfl (fun l63 => ?_)
              replace hr := hr.mono hgn2.le
              replace hp := fun p hm0 => (hp p hm0).mono hgn2.le
              replace R_6 := R_6.mono hgn2.le
              replace hc_9 := hc_9.mono hgn2.le
              obtain rfl | rfl | rfl | rfl : f = 0 ∨ f = 1 ∨ f = 2 ∨ f = 3 := by omega
              · skip
                refine c_seq ?_
                refine c_region ?_
                refine r_val .none rfl (p_lt rfl rfl) ?_
                refine r_say (d := 21) (v := Value.bool true) rfl ?_
                refine r_nil ?_
                refine e_next ?_
                refine c_seq ?_
                refine c_cond_t rfl ?_
                refine c_skip ?_
                refine e_next ?_
                refine c_seq ?_
                refine c_block ?_
                refine c_seq ?_
                refine c_region ?_
                refine r_val .none rfl (p_move rfl) ?_
                refine r_val .none rfl (p_indexa (k := 0) Try.underlying36 Try.underlying35 rfl sz35 rfl (IsRow.lit _) rfl rfl (by first | exact of_decide_eq_true rfl | omega) (rfl : _ = Value.agg #[_, _])) ?_
                refine r_alloc .none rfl zr35 (IsRow.lit _) (fun b_2 => ?_)
                refine r_val .none rfl (p_assign rfl) ?_
                refine r_stw (k := 0) .none sz35 rfl rfl (IsRow.lit _) (one_lit rfl rfl) rfl ?_
                refine r_nil ?_
                refine e_next ?_
                refine c_seq ?_
                refine c_region ?_
                refine r_freezeX (k := 0) rfl (fun G_26 hn_27 hR_28 => ?_)
                replace hr := hr.mono hn_27.le
                replace hp := fun p hm0 => (hp p hm0).mono hn_27.le
                replace R_6 := R_6.mono hn_27.le
                replace hc_9 := hc_9.mono hn_27.le
                have hR_29 : RowAt G_26 b_2 0 2 (at_ [Value.bool (vF (rs.getD k d0).1.h 0), Value.int .i64 (nF (rs.getD k d0).1.h 0)]) := RowAt.congr hR_28 (fun i hi => by match i, hi with | 0, _ => rfl | 1, _ => rfl)
                refine r_val .none rfl (p_field Try.underlying35 rfl sz4 rfl) ?_
                refine r_val .none rfl (p_ldg (j := 0) Try.underlying4 rfl rfl hR_29 (by first | exact of_decide_eq_true rfl | omega) (rfl : _ = Value.bool _)) ?_
                refine r_val .none rfl (p_move rfl) ?_
                refine' r_and (c := 26) (d := 31) [_, _, _, _, _] rfl (fun h_30 Q_31 hQ_32 => ?_) (fun h_30 Q_31 hQ_32 => ?_) ?_
                rotate_left 1
                · skip
                  refine r_val (.some rfl rfl) rfl (p_move rfl) ?_
                  refine r_val (.some rfl rfl) rfl (p_mkfunc (vs := [_]) rfl) ?_
                  refine r_callr (k := 1) (vs := [_, _]) (.some rfl rfl) rfl cl60 rfl rfl (fun w G_34 hw hle_35 hs_36 => c_ctnP _ _ _ _ _ (SlL.of t0 (fun _ => rfl) rfl hs_36) cl61 (fun x w hw => c_bnd1 x _ _ _ (hR_29.mono hle_35) w hw) w hw) ?_
                  refine r_val (.some rfl rfl) rfl (p_not rfl) ?_
                  refine r_val .none rfl (p_pick_t rfl rfl) ?_
                  refine r_nil (e_fin (d := 31) hQ_32 rfl (by repeat (first | exact .refl | refine .put rfl ?_ | refine .say rfl ?_ | refine .say2 rfl (by first | assumption | simp_all) ?_)))
                · skip
                  repeat (first | refine r_skip rfl (.no rfl rfl) ?_ | refine r_skip rfl (.un rfl rfl) ?_)
                  refine r_val (by first | exact .none | exact .some rfl rfl) rfl (p_pick_f rfl rfl) ?_
                  refine r_nil (e_fin (d := 31) hQ_32 rfl (by repeat (first | exact .refl | refine .put rfl ?_ | refine .say rfl ?_ | refine .say2 rfl (by first | assumption | simp_all) ?_)))
                refine r_nil ?_
                refine e_next ?_
                refine c_split (d := 31) rfl (fun h_37 => ?_) (fun h_37 => ?_)
                · skip
                  try simp only [norms] at h_37
                  have hb := h_37
                  first
                    | (exfalso; omega)
                    | (
                      refine c_cond_t rfl ?_
                      refine c_region ?_
                      refine r_val .none rfl (p_move rfl) ?_
                      refine r_val .none rfl (p_field Try.underlying35 rfl sz3 rfl) ?_
                      refine r_val .none rfl (p_ldg (j := 1) Try.underlying3 rfl rfl hR_29 (by first | exact of_decide_eq_true rfl | omega) (rfl : _ = Value.int _ _)) ?_
                      refine r_val .none rfl (p_move rfl) ?_
                      refine r_val .none rfl (p_move rfl) ?_
                      refine r_val .none rfl (p_build (vs := [(0, Value.int _ _), (1, Value.int _ _), (2, Value.int _ _)]) rfl (bl84_0i1_1i1_2i1 _ _ _)) ?_
                      refine r_bslice (vs := [(0, Value.agg #[_, _, _])]) (c := #[_, _, _]) .none rfl Try.underlying81 el84 rfl rfl rfl (bs84_10a3 _ _ _) (IsRow.lit _) (fun b_3 => ?_)
                      refine r_append (k := 2) (k2 := 0) .none rfl Try.underlying81 el84 rfl (by decide) rfl rfl rfl rfl rfl (one_lit rfl rfl) (by simp only [maxLen]; simp at hpl; omega) (by simp at hpl; omega) (fun v_38 => ?_)
                      refine r_row1 (k := 2) rfl (fun o_39 => ?_)
                      refine r_val .none rfl (p_assign rfl) ?_
                      refine r_nil ?_
                      refine e_norm_block ?_
                      refine e_next ?_
                      refine c_region ?_
                      refine r_val .none rfl (p_add rfl rfl (by omega)) ?_
                      refine r_val .none rfl (p_move rfl) ?_
                      refine r_nil ?_
                      refine e_round ((1, _, _)) ⟨⟨Nat.le_of_ble_eq_true rfl, (hgn2.trans hn_27)⟩, Nat.le_of_ble_eq_true rfl⟩ rfl ⟨rfl, rfl, rfl, rfl, rfl, rfl, rfl, rfl, rfl, rfl, rfl, rfl, rfl, rfl, rfl, rfl, trivial⟩ (.drop (.keep (fun _ _ h => h) (.keep (fun _ _ h => rowA_snoc (l := plTo (rs.getD k d0).1.h (posN ((rs.map Prod.fst).take k)) (places ((rs.map Prod.fst).take k) 0 []) 0) (x := (nF (rs.getD k d0).1.h 0, ((posN ((rs.map Prod.fst).take k) : Nat) : Int), (0 : Int))) (by show pl1 _ _ _ 0 = _; unfold pl1; exact if_pos (by first | exact hb | simpa using hb)) rfl rfl rfl _ _ h) (.nil))))
                      )
                · skip
                  try simp only [norms] at h_37
                  have hb := h_37
                  first
                    | (exfalso; omega)
                    | (
                      refine c_cond_f rfl ?_
                      refine c_skip ?_
                      refine e_norm_block ?_
                      refine e_next ?_
                      refine c_region ?_
                      refine r_val .none rfl (p_add rfl rfl (by omega)) ?_
                      refine r_val .none rfl (p_move rfl) ?_
                      refine r_nil ?_
                      refine e_round ((1, _, _)) ⟨⟨Nat.le_of_ble_eq_true rfl, (hgn2.trans hn_27)⟩, Nat.le_of_ble_eq_true rfl⟩ rfl ⟨rfl, rfl, rfl, rfl, rfl, rfl, rfl, rfl, rfl, rfl, rfl, rfl, rfl, rfl, rfl, rfl, trivial⟩ (.keep (fun _ _ h => h) (.keep (fun _ _ h => rowA_same (by show pl1 _ _ _ 0 = _; unfold pl1; exact if_neg (fun hx => hb.elim (fun h1 => by first | exact h1 hx.1 | (have h3 := h1.symm.trans hx.1; cases h3)) (fun h1 => hx.2 (by first | exact h1 | exact of_decide_eq_true h1 | simpa using h1)))) _ _ h) (.nil)))
                      )
              · skip
                refine c_seq ?_
                refine c_region ?_
                refine r_val .none rfl (p_lt rfl rfl) ?_
                refine r_say (d := 21) (v := Value.bool true) rfl ?_
                refine r_nil ?_
                refine e_next ?_
                refine c_seq ?_
                refine c_cond_t rfl ?_
                refine c_skip ?_
                refine e_next ?_
                refine c_seq ?_
                refine c_block ?_
                refine c_seq ?_
                refine c_region ?_
                refine r_val .none rfl (p_move rfl) ?_
                refine r_val .none rfl (p_indexa (k := 1) Try.underlying36 Try.underlying35 rfl sz35 rfl (IsRow.lit _) rfl rfl (by first | exact of_decide_eq_true rfl | omega) (rfl : _ = Value.agg #[_, _])) ?_
                refine r_alloc .none rfl zr35 (IsRow.lit _) (fun b_4 => ?_)
                refine r_val .none rfl (p_assign rfl) ?_
                refine r_stw (k := 0) .none sz35 rfl rfl (IsRow.lit _) (one_lit rfl rfl) rfl ?_
                refine r_nil ?_
                refine e_next ?_
                refine c_seq ?_
                refine c_region ?_
                refine r_freezeX (k := 0) rfl (fun G_40 hn_41 hR_42 => ?_)
                replace hr := hr.mono hn_41.le
                replace hp := fun p hm0 => (hp p hm0).mono hn_41.le
                replace R_6 := R_6.mono hn_41.le
                replace hc_9 := hc_9.mono hn_41.le
                have hR_43 : RowAt G_40 b_4 0 2 (at_ [Value.bool (vF (rs.getD k d0).1.h 1), Value.int .i64 (nF (rs.getD k d0).1.h 1)]) := RowAt.congr hR_42 (fun i hi => by match i, hi with | 0, _ => rfl | 1, _ => rfl)
                refine r_val .none rfl (p_field Try.underlying35 rfl sz4 rfl) ?_
                refine r_val .none rfl (p_ldg (j := 0) Try.underlying4 rfl rfl hR_43 (by first | exact of_decide_eq_true rfl | omega) (rfl : _ = Value.bool _)) ?_
                refine r_val .none rfl (p_move rfl) ?_
                refine' r_and (c := 26) (d := 31) [_, _, _, _, _] rfl (fun h_44 Q_45 hQ_46 => ?_) (fun h_44 Q_45 hQ_46 => ?_) ?_
                rotate_left 1
                · skip
                  refine r_val (.some rfl rfl) rfl (p_move rfl) ?_
                  refine r_val (.some rfl rfl) rfl (p_mkfunc (vs := [_]) rfl) ?_
                  refine r_callr (k := 1) (vs := [_, _]) (.some rfl rfl) rfl cl60 rfl rfl (fun w G_48 hw hle_49 hs_50 => c_ctnP _ _ _ _ _ (SlL.of t0 (fun _ => rfl) rfl hs_50) cl61 (fun x w hw => c_bnd1 x _ _ _ (hR_43.mono hle_49) w hw) w hw) ?_
                  refine r_val (.some rfl rfl) rfl (p_not rfl) ?_
                  refine r_val .none rfl (p_pick_t rfl rfl) ?_
                  refine r_nil (e_fin (d := 31) hQ_46 rfl (by repeat (first | exact .refl | refine .put rfl ?_ | refine .say rfl ?_ | refine .say2 rfl (by first | assumption | simp_all) ?_)))
                · skip
                  repeat (first | refine r_skip rfl (.no rfl rfl) ?_ | refine r_skip rfl (.un rfl rfl) ?_)
                  refine r_val (by first | exact .none | exact .some rfl rfl) rfl (p_pick_f rfl rfl) ?_
                  refine r_nil (e_fin (d := 31) hQ_46 rfl (by repeat (first | exact .refl | refine .put rfl ?_ | refine .say rfl ?_ | refine .say2 rfl (by first | assumption | simp_all) ?_)))
                refine r_nil ?_
                refine e_next ?_
                refine c_split (d := 31) rfl (fun h_51 => ?_) (fun h_51 => ?_)
                · skip
                  try simp only [norms] at h_51
                  have hb := h_51
                  first
                    | (exfalso; omega)
                    | (
                      refine c_cond_t rfl ?_
                      refine c_region ?_
                      refine r_val .none rfl (p_move rfl) ?_
                      refine r_val .none rfl (p_field Try.underlying35 rfl sz3 rfl) ?_
                      refine r_val .none rfl (p_ldg (j := 1) Try.underlying3 rfl rfl hR_43 (by first | exact of_decide_eq_true rfl | omega) (rfl : _ = Value.int _ _)) ?_
                      refine r_val .none rfl (p_move rfl) ?_
                      refine r_val .none rfl (p_move rfl) ?_
                      refine r_val .none rfl (p_build (vs := [(0, Value.int _ _), (1, Value.int _ _), (2, Value.int _ _)]) rfl (bl84_0i1_1i1_2i1 _ _ _)) ?_
                      refine r_bslice (vs := [(0, Value.agg #[_, _, _])]) (c := #[_, _, _]) .none rfl Try.underlying81 el84 rfl rfl rfl (bs84_10a3 _ _ _) (IsRow.lit _) (fun b_5 => ?_)
                      refine r_append (k := 2) (k2 := 0) .none rfl Try.underlying81 el84 rfl (by decide) rfl rfl rfl rfl rfl (one_lit rfl rfl) (by simp only [maxLen]; simp at hpl; omega) (by simp at hpl; omega) (fun v_52 => ?_)
                      refine r_row1 (k := 2) rfl (fun o_53 => ?_)
                      refine r_val .none rfl (p_assign rfl) ?_
                      refine r_nil ?_
                      refine e_norm_block ?_
                      refine e_next ?_
                      refine c_region ?_
                      refine r_val .none rfl (p_add rfl rfl (by omega)) ?_
                      refine r_val .none rfl (p_move rfl) ?_
                      refine r_nil ?_
                      refine e_round ((2, _, _)) ⟨⟨Nat.le_of_ble_eq_true rfl, (hgn2.trans hn_41)⟩, Nat.le_of_ble_eq_true rfl⟩ rfl ⟨rfl, rfl, rfl, rfl, rfl, rfl, rfl, rfl, rfl, rfl, rfl, rfl, rfl, rfl, rfl, rfl, trivial⟩ (.drop (.keep (fun _ _ h => h) (.keep (fun _ _ h => rowA_snoc (l := plTo (rs.getD k d0).1.h (posN ((rs.map Prod.fst).take k)) (places ((rs.map Prod.fst).take k) 0 []) 1) (x := (nF (rs.getD k d0).1.h 1, ((posN ((rs.map Prod.fst).take k) : Nat) : Int), (1 : Int))) (by show pl1 _ _ _ 1 = _; unfold pl1; exact if_pos (by first | exact hb | simpa using hb)) rfl rfl rfl _ _ h) (.nil))))
                      )
                · skip
                  try simp only [norms] at h_51
                  have hb := h_51
                  first
                    | (exfalso; omega)
                    | (
                      refine c_cond_f rfl ?_
                      refine c_skip ?_
                      refine e_norm_block ?_
                      refine e_next ?_
                      refine c_region ?_
                      refine r_val .none rfl (p_add rfl rfl (by omega)) ?_
                      refine r_val .none rfl (p_move rfl) ?_
                      refine r_nil ?_
                      refine e_round ((2, _, _)) ⟨⟨Nat.le_of_ble_eq_true rfl, (hgn2.trans hn_41)⟩, Nat.le_of_ble_eq_true rfl⟩ rfl ⟨rfl, rfl, rfl, rfl, rfl, rfl, rfl, rfl, rfl, rfl, rfl, rfl, rfl, rfl, rfl, rfl, trivial⟩ (.keep (fun _ _ h => h) (.keep (fun _ _ h => rowA_same (by show pl1 _ _ _ 1 = _; unfold pl1; exact if_neg (fun hx => hb.elim (fun h1 => by first | exact h1 hx.1 | (have h3 := h1.symm.trans hx.1; cases h3)) (fun h1 => hx.2 (by first | exact h1 | exact of_decide_eq_true h1 | simpa using h1)))) _ _ h) (.nil)))
                      )
              · skip
                refine c_seq ?_
                refine c_region ?_
                refine r_val .none rfl (p_lt rfl rfl) ?_
                refine r_say (d := 21) (v := Value.bool true) rfl ?_
                refine r_nil ?_
                refine e_next ?_
                refine c_seq ?_
                refine c_cond_t rfl ?_
                refine c_skip ?_
                refine e_next ?_
                refine c_seq ?_
                refine c_block ?_
                refine c_seq ?_
                refine c_region ?_
                refine r_val .none rfl (p_move rfl) ?_
                refine r_val .none rfl (p_indexa (k := 2) Try.underlying36 Try.underlying35 rfl sz35 rfl (IsRow.lit _) rfl rfl (by first | exact of_decide_eq_true rfl | omega) (rfl : _ = Value.agg #[_, _])) ?_
                refine r_alloc .none rfl zr35 (IsRow.lit _) (fun b_6 => ?_)
                refine r_val .none rfl (p_assign rfl) ?_
                refine r_stw (k := 0) .none sz35 rfl rfl (IsRow.lit _) (one_lit rfl rfl) rfl ?_
                refine r_nil ?_
                refine e_next ?_
                refine c_seq ?_
                refine c_region ?_
                refine r_freezeX (k := 0) rfl (fun G_54 hn_55 hR_56 => ?_)
                replace hr := hr.mono hn_55.le
                replace hp := fun p hm0 => (hp p hm0).mono hn_55.le
                replace R_6 := R_6.mono hn_55.le
                replace hc_9 := hc_9.mono hn_55.le
                have hR_57 : RowAt G_54 b_6 0 2 (at_ [Value.bool (vF (rs.getD k d0).1.h 2), Value.int .i64 (nF (rs.getD k d0).1.h 2)]) := RowAt.congr hR_56 (fun i hi => by match i, hi with | 0, _ => rfl | 1, _ => rfl)
                refine r_val .none rfl (p_field Try.underlying35 rfl sz4 rfl) ?_
                refine r_val .none rfl (p_ldg (j := 0) Try.underlying4 rfl rfl hR_57 (by first | exact of_decide_eq_true rfl | omega) (rfl : _ = Value.bool _)) ?_
                refine r_val .none rfl (p_move rfl) ?_
                refine' r_and (c := 26) (d := 31) [_, _, _, _, _] rfl (fun h_58 Q_59 hQ_60 => ?_) (fun h_58 Q_59 hQ_60 => ?_) ?_
                rotate_left 1
                · skip
                  refine r_val (.some rfl rfl) rfl (p_move rfl) ?_
                  refine r_val (.some rfl rfl) rfl (p_mkfunc (vs := [_]) rfl) ?_
                  refine r_callr (k := 1) (vs := [_, _]) (.some rfl rfl) rfl cl60 rfl rfl (fun w G_62 hw hle_63 hs_64 => c_ctnP _ _ _ _ _ (SlL.of t0 (fun _ => rfl) rfl hs_64) cl61 (fun x w hw => c_bnd1 x _ _ _ (hR_57.mono hle_63) w hw) w hw) ?_
                  refine r_val (.some rfl rfl) rfl (p_not rfl) ?_
                  refine r_val .none rfl (p_pick_t rfl rfl) ?_
                  refine r_nil (e_fin (d := 31) hQ_60 rfl (by repeat (first | exact .refl | refine .put rfl ?_ | refine .say rfl ?_ | refine .say2 rfl (by first | assumption | simp_all) ?_)))
                · skip
                  repeat (first | refine r_skip rfl (.no rfl rfl) ?_ | refine r_skip rfl (.un rfl rfl) ?_)
                  refine r_val (by first | exact .none | exact .some rfl rfl) rfl (p_pick_f rfl rfl) ?_
                  refine r_nil (e_fin (d := 31) hQ_60 rfl (by repeat (first | exact .refl | refine .put rfl ?_ | refine .say rfl ?_ | refine .say2 rfl (by first | assumption | simp_all) ?_)))
                refine r_nil ?_
                refine e_next ?_
                refine c_split (d := 31) rfl (fun h_65 => ?_) (fun h_65 => ?_)
                · skip
                  try simp only [norms] at h_65
                  have hb := h_65
                  first
                    | (exfalso; omega)
                    | (
                      refine c_cond_t rfl ?_
                      refine c_region ?_
                      refine r_val .none rfl (p_move rfl) ?_
                      refine r_val .none rfl (p_field Try.underlying35 rfl sz3 rfl) ?_
                      refine r_val .none rfl (p_ldg (j := 1) Try.underlying3 rfl rfl hR_57 (by first | exact of_decide_eq_true rfl | omega) (rfl : _ = Value.int _ _)) ?_
                      refine r_val .none rfl (p_move rfl) ?_
                      refine r_val .none rfl (p_move rfl) ?_
                      refine r_val .none rfl (p_build (vs := [(0, Value.int _ _), (1, Value.int _ _), (2, Value.int _ _)]) rfl (bl84_0i1_1i1_2i1 _ _ _)) ?_
                      refine r_bslice (vs := [(0, Value.agg #[_, _, _])]) (c := #[_, _, _]) .none rfl Try.underlying81 el84 rfl rfl rfl (bs84_10a3 _ _ _) (IsRow.lit _) (fun b_7 => ?_)
                      refine r_append (k := 2) (k2 := 0) .none rfl Try.underlying81 el84 rfl (by decide) rfl rfl rfl rfl rfl (one_lit rfl rfl) (by simp only [maxLen]; simp at hpl; omega) (by simp at hpl; omega) (fun v_66 => ?_)
                      refine r_row1 (k := 2) rfl (fun o_67 => ?_)
                      refine r_val .none rfl (p_assign rfl) ?_
                      refine r_nil ?_
                      refine e_norm_block ?_
                      refine e_next ?_
                      refine c_region ?_
                      refine r_val .none rfl (p_add rfl rfl (by omega)) ?_
                      refine r_val .none rfl (p_move rfl) ?_
                      refine r_nil ?_
                      refine e_round ((3, _, _)) ⟨⟨Nat.le_of_ble_eq_true rfl, (hgn2.trans hn_55)⟩, Nat.le_of_ble_eq_true rfl⟩ rfl ⟨rfl, rfl, rfl, rfl, rfl, rfl, rfl, rfl, rfl, rfl, rfl, rfl, rfl, rfl, rfl, rfl, trivial⟩ (.drop (.keep (fun _ _ h => h) (.keep (fun _ _ h => rowA_snoc (l := plTo (rs.getD k d0).1.h (posN ((rs.map Prod.fst).take k)) (places ((rs.map Prod.fst).take k) 0 []) 2) (x := (nF (rs.getD k d0).1.h 2, ((posN ((rs.map Prod.fst).take k) : Nat) : Int), (2 : Int))) (by show pl1 _ _ _ 2 = _; unfold pl1; exact if_pos (by first | exact hb | simpa using hb)) rfl rfl rfl _ _ h) (.nil))))
                      )
                · skip
                  try simp only [norms] at h_65
                  have hb := h_65
                  first
                    | (exfalso; omega)
                    | (
                      refine c_cond_f rfl ?_
                      refine c_skip ?_
                      refine e_norm_block ?_
                      refine e_next ?_
                      refine c_region ?_
                      refine r_val .none rfl (p_add rfl rfl (by omega)) ?_
                      refine r_val .none rfl (p_move rfl) ?_
                      refine r_nil ?_
                      refine e_round ((3, _, _)) ⟨⟨Nat.le_of_ble_eq_true rfl, (hgn2.trans hn_55)⟩, Nat.le_of_ble_eq_true rfl⟩ rfl ⟨rfl, rfl, rfl, rfl, rfl, rfl, rfl, rfl, rfl, rfl, rfl, rfl, rfl, rfl, rfl, rfl, trivial⟩ (.keep (fun _ _ h => h) (.keep (fun _ _ h => rowA_same (by show pl1 _ _ _ 2 = _; unfold pl1; exact if_neg (fun hx => hb.elim (fun h1 => by first | exact h1 hx.1 | (have h3 := h1.symm.trans hx.1; cases h3)) (fun h1 => hx.2 (by first | exact h1 | exact of_decide_eq_true h1 | simpa using h1)))) _ _ h) (.nil)))
                      )
              · skip
                refine c_seq ?_
                refine c_region ?_
                refine r_val .none rfl (p_lt rfl rfl) ?_
                refine r_say (d := 21) (v := Value.bool false) rfl ?_
                refine r_nil ?_
                refine e_next ?_
                refine c_seq ?_
                refine c_cond_f rfl ?_
                refine c_exit ?_
                refine e_exit_then ?_
                refine e_exit_then ?_
                refine e_exit_block ?_
                refine e_next ?_
                refine c_region ?_
                refine r_val .none rfl (p_move rfl) ?_
                refine r_val .none rfl (p_add rfl rfl (by omega)) ?_
                refine r_val .none rfl (p_assign rfl) ?_
                refine r_nil ?_
                refine e_norm_block ?_
                refine e_next ?_
                refine c_region ?_
                refine r_val .none rfl (p_add rfl rfl (by omega)) ?_
                refine r_val .none rfl (p_move rfl) ?_
                refine r_nil ?_
                refine e_round ((k + 1, _, _)) ⟨⟨by dsimp only; omega, (hgn.trans hgn2)⟩, by dsimp only; omega⟩ rfl ⟨rfl, (congrArg (fun z => some (Value.int .i64 z)) (by rw [map_take (d := d0) (by omega), posN_append]; simp only [posN]; first | (rw [if_pos hk1]; omega) | (rw [if_neg hk1]; omega))), rfl, rfl, rfl, rfl, trivial⟩ (.drop (.keep (fun _ _ h => rowA_congr (by rw [map_take (d := d0) (by omega), places_snoc]; first | (rw [if_pos hk1, Int.zero_add]; done) | (rw [if_neg hk1]; done)) (by rw [map_take (d := d0) (by omega), places_snoc]; first | (rw [if_pos hk1, Int.zero_add]; done) | (rw [if_neg hk1]; done)) _ _ h) (.nil)))
              )
        )
  · skip
    first
      | (exfalso; omega)
      | (
        refine c_cond_f rfl ?_
        refine c_exit ?_
        refine e_exit_then ?_
        refine e_exit_then ?_
        refine e_exit_block ?_
        refine e_next ?_
        refine c_seq ?_
        refine c_region ?_
        refine r_val .none rfl (p_move rfl) ?_
        refine r_sortf (k := 0) .none rfl cl62 rfl rfl (fun _ => rfl) sortPC sortPN (by have h9 := places_len ((rs.map Prod.fst).take k) 0 []; simp at h9; omega) (fun z_68 z_68p z_68s => ?_)
        refine r_nil ?_
        refine e_next ?_
        refine c_seq ?_
        refine c_region ?_
        refine r_val .none rfl (p_move rfl) ?_
        refine r_val .none rfl (p_assign rfl) ?_
        refine r_nil ?_
        refine e_next ?_
        refine c_ret ?_
        refine e_freeze (k := 0) rfl (fun G_69 hn_70 hs_71 => ?_)
        replace hr := hr.mono hn_70.le
        replace hp := fun p hm0 => (hp p hm0).mono hn_70.le
        refine e_ret1 Try.results41 (.tmp rfl .nil) (fun w hm => ⟨_, (hgn.trans hn_70), hm.has, ?_, hm.since⟩)
        exact ⟨z_68, by rw [show rs.map Prod.fst = (rs.map Prod.fst).take k by rw [List.take_of_length_le (by simp; omega)]]; exact z_68p, z_68s, SlL.of t0 (fun _ => rfl) rfl hs_71⟩
        )
end Go.Proofs.Ytoflaphnlfggkaa

/- Walks: what Go functions of this chapter come to, each as a function on plain data; no condition but those that each theorem names. Printed by a program of this work (gen.py). -/
namespace Go.Proofs.Ytoflaphnlfggkaa
open Go.Gx Go.Gx.T4 Go.Gx.T3 Go.Gx.T6 Go.Gx.T8 Go.Gx.T4 Go.Gx.T3 Go.Gx.T8 Go.Gx.T4 Go.Gx.T3
theorem lf84 : leafT Try.prog 9 84 = some [3, 3, 3] := by
  kernel_rfl
theorem ef84 : eqT Try.prog 9 84 = true := by
  kernel_rfl
theorem eg84 : Try.prog.eqGuardType Try.prog.depth 84 = false := by
  kernel_rfl
theorem cl13 : Callable Try.prog 13 := callable Try.func13 (by kernel_rfl) rfl
theorem cl17 : Callable Try.prog 17 := callable Try.func17 (by kernel_rfl) rfl
theorem cl40 : Callable Try.prog 40 := callable Try.func40 (by kernel_rfl) rfl
theorem cl41 : Callable Try.prog 41 := callable Try.func41 (by kernel_rfl) rfl
theorem bl35_1i1 (x0 : Int) : Program.built Try.prog 35 [(1, Value.int .i64 x0)] = some #[Value.bool false, Value.int .i64 x0] := by
  kernel_rfl
theorem bl35_0b1_1i1 (x0 : Bool) (x1 : Int) : Program.built Try.prog 35 [(0, Value.bool x0), (1, Value.int .i64 x1)] = some #[Value.bool x0, Value.int .i64 x1] := by
  kernel_rfl
theorem bl36_0a2_1a2_2a2 (x0 : Value) (x1 : Value) (x2 : Value) (x3 : Value) (x4 : Value) (x5 : Value) : Program.built Try.prog 36 [(0, Value.agg #[x0, x1]), (1, Value.agg #[x2, x3]), (2, Value.agg #[x4, x5])] = some #[x0, x1, x2, x3, x4, x5] := by
  kernel_rfl
theorem bl38_0i1_1a6 (x0 : Int) (x1 : Value) (x2 : Value) (x3 : Value) (x4 : Value) (x5 : Value) (x6 : Value) : Program.built Try.prog 38 [(0, Value.int .i64 x0), (1, Value.agg #[x1, x2, x3, x4, x5, x6])] = some #[Value.int .i64 x0, x1, x2, x3, x4, x5, x6, Value.slice none 0 0] := by
  kernel_rfl
theorem bl38_0i1_2s3 (x0 : Int) (x1 : Option Addr) (x2 : Nat) (x3 : Nat) : Program.built Try.prog 38 [(0, Value.int .i64 x0), (2, Value.slice x1 x2 x3)] = some #[Value.int .i64 x0, Value.bool false, Value.int .i64 0, Value.bool false, Value.int .i64 0, Value.bool false, Value.int .i64 0, Value.slice x1 x2 x3] := by
  kernel_rfl
theorem bs38_20a8_1a8 (a0 a1 a2 a3 a4 a5 a6 a7 : Value) (a8 a9 a10 a11 a12 a13 a14 a15 : Value) : Instr.fill (fun i => some (i * 8, 8)) ((Array.range (2 * 8)).map ((Value.agg #[Value.int .i64 0, Value.bool false, Value.int .i64 0, Value.bool false, Value.int .i64 0, Value.bool false, Value.int .i64 0, Value.slice none 0 0]).cells[· % (Value.agg #[Value.int .i64 0, Value.bool false, Value.int .i64 0, Value.bool false, Value.int .i64 0, Value.bool false, Value.int .i64 0, Value.slice none 0 0]).cells.size]!)) [(0, Value.agg #[a0, a1, a2, a3, a4, a5, a6, a7]), (1, Value.agg #[a8, a9, a10, a11, a12, a13, a14, a15])] = some #[a0, a1, a2, a3, a4, a5, a6, a7, a8, a9, a10, a11, a12, a13, a14, a15] := by
  kernel_rfl
theorem bs38_30a8_1a8_2a8 (a0 a1 a2 a3 a4 a5 a6 a7 : Value) (a8 a9 a10 a11 a12 a13 a14 a15 : Value) (a16 a17 a18 a19 a20 a21 a22 a23 : Value) : Instr.fill (fun i => some (i * 8, 8)) ((Array.range (3 * 8)).map ((Value.agg #[Value.int .i64 0, Value.bool false, Value.int .i64 0, Value.bool false, Value.int .i64 0, Value.bool false, Value.int .i64 0, Value.slice none 0 0]).cells[· % (Value.agg #[Value.int .i64 0, Value.bool false, Value.int .i64 0, Value.bool false, Value.int .i64 0, Value.bool false, Value.int .i64 0, Value.slice none 0 0]).cells.size]!)) [(0, Value.agg #[a0, a1, a2, a3, a4, a5, a6, a7]), (1, Value.agg #[a8, a9, a10, a11, a12, a13, a14, a15]), (2, Value.agg #[a16, a17, a18, a19, a20, a21, a22, a23])] = some #[a0, a1, a2, a3, a4, a5, a6, a7, a8, a9, a10, a11, a12, a13, a14, a15, a16, a17, a18, a19, a20, a21, a22, a23] := by
  kernel_rfl
theorem c_one6 (n : Int)  (w : World)  :
    Calls Try.prog 40 #[Value.int .i64 n] w (Ret fun r w' => r = Value.agg #[Value.int .i64 1, Value.bool false, Value.int .i64 n, Value.bool false, Value.int .i64 1, Value.bool true, Value.int .i64 n, Value.slice none 0 0] ∧ Since nX w w') := by
  refine enter (args := [_]) (X := nX) (G := (fun _ => none)) (l := [(0, Value.int .i64 n)]) Try.func40 rfl Try.ntmps40 (fun _ _ h => by cases h) ⟨rfl, trivial⟩ (Nat.le_of_ble_eq_true rfl) ?_
  refine c_seq ?_
  refine c_region ?_
  refine r_alloc .none rfl zr38 (IsRow.lit _) (fun b_1 => ?_)
  refine r_nil ?_
  refine e_next ?_
  refine c_seq ?_
  refine c_region ?_
  refine r_val .none rfl (p_move rfl) ?_
  refine r_val .none rfl (p_build (vs := [(1, Value.int _ _)]) rfl (bl35_1i1 _)) ?_
  refine r_val .none rfl (p_build (vs := [(1, Value.int _ _)]) rfl (bl35_1i1 _)) ?_
  refine r_val .none rfl (p_move rfl) ?_
  refine r_val .none rfl (p_build (vs := [(0, Value.bool _), (1, Value.int _ _)]) rfl (bl35_0b1_1i1 _ _)) ?_
  refine r_val .none rfl (p_build (vs := [(0, Value.agg #[_, _]), (1, Value.agg #[_, _]), (2, Value.agg #[_, _])]) rfl (bl36_0a2_1a2_2a2 _ _ _ _ _ _)) ?_
  refine r_val .none rfl (p_build (vs := [(0, Value.int _ _), (1, Value.agg #[_, _, _, _, _, _])]) rfl (bl38_0i1_1a6 _ _ _ _ _ _ _)) ?_
  refine r_stw (k := 0) .none sz38 rfl rfl (IsRow.lit _) (one_lit rfl rfl) rfl ?_
  refine r_nil ?_
  refine e_next ?_
  refine c_ret ?_
  refine e_ret1 Try.results40 (.cell (k := 0) rfl Try.underlying38 rfl sz38 rfl (rfl : _ = Value.agg #[_, _, _, _, _, _, _, _]) .nil) (fun w hm => ⟨?_, hm.since⟩)
  rfl
theorem c_awake6   (w : World)  :
    Calls Try.prog 12 #[] w (Ret fun r w' => r = Value.bool true ∧ Since nX w w') := by
  refine enter (args := []) (X := nX) (G := (fun _ => none)) (l := []) Try.func12 rfl Try.ntmps12 (fun _ _ h => by cases h) trivial (Nat.le_of_ble_eq_true rfl) ?_
  refine c_seq ?_
  refine c_region ?_
  refine r_val .none rfl (p_assign rfl) ?_
  refine r_nil ?_
  refine e_next ?_
  refine c_seq ?_
  refine c_region ?_
  refine r_val .none rfl (p_assign rfl) ?_
  refine r_nil ?_
  refine e_next ?_
  refine c_seq ?_
  refine c_region ?_
  refine r_val .none rfl (p_move rfl) ?_
  refine r_fun (cs := []) .none rfl ?_
  refine r_call (vs := [_]) .none rfl cl40 rfl (fun w hw => c_one6 _ w) ?_
  refine r_val .none rfl (p_move rfl) ?_
  refine r_fun (cs := []) .none rfl ?_
  refine r_call (vs := [_]) .none rfl cl40 rfl (fun w hw => c_one6 _ w) ?_
  refine r_val .none rfl (p_move rfl) ?_
  refine r_fun (cs := []) .none rfl ?_
  refine r_call (vs := [_]) .none rfl cl40 rfl (fun w hw => c_one6 _ w) ?_
  refine r_bslice (vs := [(0, Value.agg #[_, _, _, _, _, _, _, _]), (1, Value.agg #[_, _, _, _, _, _, _, _])]) (c := #[_, _, _, _, _, _, _, _, _, _, _, _, _, _, _, _]) .none rfl Try.underlying22 el38 rfl rfl rfl (bs38_20a8_1a8 _ _ _ _ _ _ _ _ _ _ _ _ _ _ _ _) (IsRow.lit _) (fun b_1 => ?_)
  refine r_freezeB (k := 0) 2 8 rfl rfl (by decide) (fun G_1 hn_2 hs_3 => ?_)
  have h12 : SlL G_1 (Value.slice (some ⟨b_1, 0, none⟩) 2 2) 8 cvC d0 [(A6 2, (Value.slice none 0 0)), (A6 3, (Value.slice none 0 0))] := SlG.congr hs_3 (fun i hi j hj => by match i, hi with | 0, _ => (match j, hj with | 0, _ => rfl | 1, _ => rfl | 2, _ => rfl | 3, _ => rfl | 4, _ => rfl | 5, _ => rfl | 6, _ => rfl | 7, _ => rfl) | 1, _ => (match j, hj with | 0, _ => rfl | 1, _ => rfl | 2, _ => rfl | 3, _ => rfl | 4, _ => rfl | 5, _ => rfl | 6, _ => rfl | 7, _ => rfl))
  have th12 : Cs G_1 (Value.slice (some ⟨b_1, 0, none⟩) 2 2) ([A6 2, A6 3]) := Tr.mk _ h12 (by intro p hm0; simp only [List.mem_cons, List.not_mem_nil, or_false] at hm0; rcases hm0 with rfl | rfl; exact Tr.nil; exact Tr.nil)
  refine r_val .none rfl (p_build (vs := [(0, Value.int _ _), (2, Value.slice _ _ _)]) rfl (bl38_0i1_2s3 _ _ _ _)) ?_
  refine r_val .none rfl (p_move rfl) ?_
  refine r_fun (cs := []) .none rfl ?_
  refine r_call (vs := [_]) .none rfl cl40 rfl (fun w hw => c_one6 _ w) ?_
  refine r_bslice (vs := [(0, Value.agg #[_, _, _, _, _, _, _, _]), (1, Value.agg #[_, _, _, _, _, _, _, _]), (2, Value.agg #[_, _, _, _, _, _, _, _])]) (c := #[_, _, _, _, _, _, _, _, _, _, _, _, _, _, _, _, _, _, _, _, _, _, _, _]) .none rfl Try.underlying22 el38 rfl rfl rfl (bs38_30a8_1a8_2a8 _ _ _ _ _ _ _ _ _ _ _ _ _ _ _ _ _ _ _ _ _ _ _ _) (IsRow.lit _) (fun b_2 => ?_)
  refine r_freezeB (k := 0) 3 8 rfl rfl (by decide) (fun G_4 hn_5 hs_6 => ?_)
  replace h12 := h12.mono hn_5.le
  replace th12 := th12.mono hn_5.le
  have h16 : SlL G_4 (Value.slice (some ⟨b_2, 0, none⟩) 3 3) 8 cvC d0 [(A6 1, (Value.slice none 0 0)), (B6, Value.slice (some ⟨b_1, 0, none⟩) 2 2), (A6 4, (Value.slice none 0 0))] := SlG.congr hs_6 (fun i hi j hj => by match i, hi with | 0, _ => (match j, hj with | 0, _ => rfl | 1, _ => rfl | 2, _ => rfl | 3, _ => rfl | 4, _ => rfl | 5, _ => rfl | 6, _ => rfl | 7, _ => rfl) | 1, _ => (match j, hj with | 0, _ => rfl | 1, _ => rfl | 2, _ => rfl | 3, _ => rfl | 4, _ => rfl | 5, _ => rfl | 6, _ => rfl | 7, _ => rfl) | 2, _ => (match j, hj with | 0, _ => rfl | 1, _ => rfl | 2, _ => rfl | 3, _ => rfl | 4, _ => rfl | 5, _ => rfl | 6, _ => rfl | 7, _ => rfl))
  have th16 : Cs G_4 (Value.slice (some ⟨b_2, 0, none⟩) 3 3) (L6) := Tr.mk _ h16 (by intro p hm0; simp only [List.mem_cons, List.not_mem_nil, or_false] at hm0; rcases hm0 with rfl | rfl | rfl; exact Tr.nil; exact th12; exact Tr.nil)
  refine r_val .none rfl (p_assign rfl) ?_
  refine r_nil ?_
  refine e_next ?_
  refine c_seq ?_
  refine c_region ?_
  refine r_val .none rfl (p_move rfl) ?_
  refine r_callm (vs := [_]) .none rfl cl13 rfl (fun w hw => c_chains6 _ L6 (by decide) th16 w hw) (fun G_7 v_10 hn_8 hr_9 => ?_)
  replace h12 := h12.mono hn_8.le
  replace th12 := th12.mono hn_8.le
  replace h16 := h16.mono hn_8.le
  replace th16 := th16.mono hn_8.le
  obtain ⟨u_11qs, u_11q, u_11p, u_11l⟩ := hr_9
  have hq5 : u_11qs.length = 5 := by have h := congrArg List.length u_11l; rw [L6_len, List.length_map] at h; exact h.symm
  have hq3 : (u_11qs.getD 2 ([], Value.slice none 0 0)).1.length = 3 := by rw [← mapfst_getD, ← u_11l]; exact L6_len2
  refine r_val .none rfl (p_move rfl) ?_
  refine r_callm (vs := [_]) .none rfl cl17 rfl (fun w hw => c_own6 _ L6 (by decide) th16 w hw) (fun G_12 v_15 hn_13 hr_14 => ?_)
  replace h12 := h12.mono hn_13.le
  replace th12 := th12.mono hn_13.le
  replace h16 := h16.mono hn_13.le
  replace th16 := th16.mono hn_13.le
  replace u_11q := u_11q.mono hn_13.le
  replace u_11p := fun p hm0 => (u_11p p hm0).mono hn_13.le
  have u_16 := hr_14
  rw [L6_own] at u_16
  refine r_val .none rfl (p_move rfl) ?_
  refine r_callm (vs := [_]) .none rfl cl41 rfl (fun w hw => c_bnd _ L6 (by decide) th16 w hw) (fun G_17 v_20 hn_18 hr_19 => ?_)
  replace h12 := h12.mono hn_18.le
  replace th12 := th12.mono hn_18.le
  replace h16 := h16.mono hn_18.le
  replace th16 := th16.mono hn_18.le
  replace u_11q := u_11q.mono hn_18.le
  replace u_11p := fun p hm0 => (u_11p p hm0).mono hn_18.le
  replace u_16 := u_16.mono hn_18.le
  obtain ⟨u_21z, u_21p, u_21s, u_21q⟩ := hr_19
  have hz := L6_bound u_21p u_21s
  subst hz
  refine r_val .none rfl (p_assign rfl) ?_
  refine r_val .none rfl (p_assign rfl) ?_
  refine r_val .none rfl (p_assign rfl) ?_
  refine r_nil ?_
  refine e_next ?_
  refine c_seq ?_
  refine c_region ?_
  refine r_val .none rfl (p_move rfl) ?_
  refine r_val .none rfl (p_leng Try.underlying25 rfl u_11q) ?_
  have bd_22 := (u_11q).bound
  refine r_val .none rfl (p_eq rfl rfl) ?_
  refine r_val .none rfl (p_move rfl) ?_
  refine' r_and (c := 26) (d := 32) [_, _, _, _, _, _] rfl (fun h_23 Q_24 hQ_25 => ?_) (fun h_23 Q_24 hQ_25 => ?_) ?_
  rotate_left 1
  · skip
    replace h_23 := of_decide_eq_true h_23
    refine r_val (.some rfl rfl) rfl (p_move rfl) ?_
    refine r_iaddr_g (i := 2) (.some rfl rfl) rfl Try.underlying25 sz22 rfl u_11q rfl (by first | exact of_decide_eq_true rfl | omega) (fun p_28 o_29 R_27 => ?_)
    have hc_30 := u_11p _ (getD_mem (i := 2) (d := ([], Value.slice none 0 0)) (by omega))
    refine r_val (.some rfl rfl) rfl (p_ldg0 Try.underlying22 rfl rfl R_27 (by first | exact of_decide_eq_true rfl | omega) rfl) ?_
    obtain ⟨ff_35, hf_36⟩ := Tr.slg hc_30
    refine r_val (.some rfl rfl) rfl (p_leng Try.underlying22 rfl hf_36) ?_
    have bd_37 := (hf_36).bound
    refine r_val (.some rfl rfl) rfl (p_eq rfl rfl) ?_
    refine r_val .none rfl (p_pick_t rfl rfl) ?_
    refine r_nil (e_fin (d := 32) hQ_25 rfl (by repeat (first | exact .refl | refine .put rfl ?_ | refine .say rfl ?_ | refine .say2 rfl (by first | assumption | simp_all) ?_)))
  · skip
    repeat (first | refine r_skip rfl (.no rfl rfl) ?_ | refine r_skip rfl (.un rfl rfl) ?_)
    refine r_val (by first | exact .none | exact .some rfl rfl) rfl (p_pick_f rfl rfl) ?_
    refine r_nil (e_fin (d := 32) hQ_25 rfl (by repeat (first | exact .refl | refine .put rfl ?_ | refine .say rfl ?_ | refine .say2 rfl (by first | assumption | simp_all) ?_)))
  refine r_val .none rfl (p_move rfl) ?_
  refine' r_and (c := 33) (d := 37) [_, _, _, _] rfl (fun h_38 Q_39 hQ_40 => ?_) (fun h_38 Q_39 hQ_40 => ?_) ?_
  rotate_left 1
  · skip
    try simp only [norms] at h_38
    refine r_val (.some rfl rfl) rfl (p_move rfl) ?_
    refine r_val (.some rfl rfl) rfl (p_leng Try.underlying32 rfl u_16) ?_
    have bd_42 := (u_16).bound
    refine r_val (.some rfl rfl) rfl (p_eq rfl rfl) ?_
    refine r_val .none rfl (p_pick_t rfl rfl) ?_
    refine r_nil (e_fin (d := 37) hQ_40 rfl (by repeat (first | exact .refl | refine .put rfl ?_ | refine .say rfl ?_ | refine .say2 rfl (by first | assumption | simp_all) ?_)))
  · skip
    repeat (first | refine r_skip rfl (.no rfl rfl) ?_ | refine r_skip rfl (.un rfl rfl) ?_)
    refine r_val (by first | exact .none | exact .some rfl rfl) rfl (p_pick_f rfl rfl) ?_
    refine r_nil (e_fin (d := 37) hQ_40 rfl (by repeat (first | exact .refl | refine .put rfl ?_ | refine .say rfl ?_ | refine .say2 rfl (by first | assumption | simp_all) ?_)))
  refine r_val .none rfl (p_move rfl) ?_
  refine' r_and (c := 38) (d := 43) [_, _, _, _, _] rfl (fun h_43 Q_44 hQ_45 => ?_) (fun h_43 Q_44 hQ_45 => ?_) ?_
  rotate_left 1
  · skip
    try simp only [norms] at h_43
    refine r_val (.some rfl rfl) rfl (p_move rfl) ?_
    refine r_iaddr_g (i := 1) (.some rfl rfl) rfl Try.underlying32 sz3 rfl u_16 rfl (by first | exact of_decide_eq_true rfl | omega) (fun p_48 o_49 R_47 => ?_)
    refine r_val (.some rfl rfl) rfl (p_ldg0 Try.underlying3 rfl rfl R_47 (by first | exact of_decide_eq_true rfl | omega) (rfl : _ = Value.int _ _)) ?_
    refine r_val (.some rfl rfl) rfl (p_eq rfl rfl) ?_
    refine r_val .none rfl (p_pick_t rfl rfl) ?_
    refine r_nil (e_fin (d := 43) hQ_45 rfl (by repeat (first | exact .refl | refine .put rfl ?_ | refine .say rfl ?_ | refine .say2 rfl (by first | assumption | simp_all) ?_)))
  · skip
    repeat (first | refine r_skip rfl (.no rfl rfl) ?_ | refine r_skip rfl (.un rfl rfl) ?_)
    refine r_val (by first | exact .none | exact .some rfl rfl) rfl (p_pick_f rfl rfl) ?_
    refine r_nil (e_fin (d := 43) hQ_45 rfl (by repeat (first | exact .refl | refine .put rfl ?_ | refine .say rfl ?_ | refine .say2 rfl (by first | assumption | simp_all) ?_)))
  refine r_val .none rfl (p_move rfl) ?_
  refine' r_and (c := 44) (d := 49) [_, _, _, _, _] rfl (fun h_50 Q_51 hQ_52 => ?_) (fun h_50 Q_51 hQ_52 => ?_) ?_
  rotate_left 1
  · skip
    try simp only [norms] at h_50
    refine r_val (.some rfl rfl) rfl (p_move rfl) ?_
    refine r_iaddr_g (i := 2) (.some rfl rfl) rfl Try.underlying32 sz3 rfl u_16 rfl (by first | exact of_decide_eq_true rfl | omega) (fun p_55 o_56 R_54 => ?_)
    refine r_val (.some rfl rfl) rfl (p_ldg0 Try.underlying3 rfl rfl R_54 (by first | exact of_decide_eq_true rfl | omega) (rfl : _ = Value.int _ _)) ?_
    refine r_val (.some rfl rfl) rfl (p_eq rfl rfl) ?_
    refine r_val .none rfl (p_pick_t rfl rfl) ?_
    refine r_nil (e_fin (d := 49) hQ_52 rfl (by repeat (first | exact .refl | refine .put rfl ?_ | refine .say rfl ?_ | refine .say2 rfl (by first | assumption | simp_all) ?_)))
  · skip
    repeat (first | refine r_skip rfl (.no rfl rfl) ?_ | refine r_skip rfl (.un rfl rfl) ?_)
    refine r_val (by first | exact .none | exact .some rfl rfl) rfl (p_pick_f rfl rfl) ?_
    refine r_nil (e_fin (d := 49) hQ_52 rfl (by repeat (first | exact .refl | refine .put rfl ?_ | refine .say rfl ?_ | refine .say2 rfl (by first | assumption | simp_all) ?_)))
  refine r_val .none rfl (p_move rfl) ?_
  refine' r_and (c := 50) (d := 54) [_, _, _, _] rfl (fun h_57 Q_58 hQ_59 => ?_) (fun h_57 Q_58 hQ_59 => ?_) ?_
  rotate_left 1
  · skip
    try simp only [norms] at h_57
    refine r_val (.some rfl rfl) rfl (p_move rfl) ?_
    refine r_val (.some rfl rfl) rfl (p_leng Try.underlying81 rfl u_21q) ?_
    have bd_61 := (u_21q).bound
    refine r_val (.some rfl rfl) rfl (p_eq rfl rfl) ?_
    refine r_val .none rfl (p_pick_t rfl rfl) ?_
    refine r_nil (e_fin (d := 54) hQ_59 rfl (by repeat (first | exact .refl | refine .put rfl ?_ | refine .say rfl ?_ | refine .say2 rfl (by first | assumption | simp_all) ?_)))
  · skip
    repeat (first | refine r_skip rfl (.no rfl rfl) ?_ | refine r_skip rfl (.un rfl rfl) ?_)
    refine r_val (by first | exact .none | exact .some rfl rfl) rfl (p_pick_f rfl rfl) ?_
    refine r_nil (e_fin (d := 54) hQ_59 rfl (by repeat (first | exact .refl | refine .put rfl ?_ | refine .say rfl ?_ | refine .say2 rfl (by first | assumption | simp_all) ?_)))
  refine r_val .none rfl (p_move rfl) ?_
  refine' r_and (c := 55) (d := 61) [_, _, _, _, _, _] rfl (fun h_62 Q_63 hQ_64 => ?_) (fun h_62 Q_63 hQ_64 => ?_) ?_
  rotate_left 1
  · skip
    try simp only [norms] at h_62
    refine r_val (.some rfl rfl) rfl (p_move rfl) ?_
    refine r_iaddr_g (i := 1) (.some rfl rfl) rfl Try.underlying81 sz84 rfl u_21q rfl (by first | exact of_decide_eq_true rfl | omega) (fun p_67 o_68 R_66 => ?_)
    refine r_val (.some rfl rfl) rfl (p_ldga0 Try.underlying84 rfl sz84 rfl R_66 (by first | exact of_decide_eq_true rfl | omega) (rfl : _ = Value.agg #[_, _, _])) ?_
    refine r_val (.some rfl rfl) rfl (p_build (vs := [(0, Value.int _ _), (1, Value.int _ _), (2, Value.int _ _)]) rfl (bl84_0i1_1i1_2i1 _ _ _)) ?_
    refine r_val (.some rfl rfl) rfl (p_eqa rfl rfl (eq_flat Try.underlying84 rfl lf84 ef84 eg84 (.cons (.int Try.underlying3) (.cons (.int Try.underlying3) (.cons (.int Try.underlying3) (.nil)))) (.cons (.int Try.underlying3) (.cons (.int Try.underlying3) (.cons (.int Try.underlying3) (.nil)))))) ?_
    refine r_val .none rfl (p_pick_t rfl rfl) ?_
    refine r_nil (e_fin (d := 61) hQ_64 rfl (by repeat (first | exact .refl | refine .put rfl ?_ | refine .say rfl ?_ | refine .say2 rfl (by first | assumption | simp_all) ?_)))
  · skip
    repeat (first | refine r_skip rfl (.no rfl rfl) ?_ | refine r_skip rfl (.un rfl rfl) ?_)
    refine r_val (by first | exact .none | exact .some rfl rfl) rfl (p_pick_f rfl rfl) ?_
    refine r_nil (e_fin (d := 61) hQ_64 rfl (by repeat (first | exact .refl | refine .put rfl ?_ | refine .say rfl ?_ | refine .say2 rfl (by first | assumption | simp_all) ?_)))
  refine r_val .none rfl (p_assign rfl) ?_
  refine r_nil ?_
  refine e_next ?_
  refine c_ret ?_
  refine e_ret1 Try.results12 (.tmp rfl .nil) (fun w hm => ⟨?_, hm.since⟩)
  exact congrArg Value.bool (by rw [hq5, hq3]; decide +kernel)
end Go.Proofs.Ytoflaphnlfggkaa

/- Plain laws of chains: their sizes, where they stand; no program in sight. -/
namespace Go.Gx.T6
open Go.Gx Go.Gx.T3 Go.Gx.T4 Go.Gx.T8

theorem sizeL_append (a b : List CT) : sizeL (a ++ b) = sizeL a + sizeL b := by
  induction a with
  | nil => simp [sizeL]
  | cons c t ih => simp only [List.cons_append, sizeL, ih]; omega
mutual
theorem chain1_size : ∀ (c : CT) (ah : List CT), ∀ x ∈ chain1 ah c, sizeL x ≤ sizeL ah + size c
  | .mk h l, ah, x, hx => by
    rw [chain1] at hx
    rcases List.mem_append.1 hx with hx | hx
    · split at hx
      · have := chains_size l ah x hx
        rw [size]; omega
      · cases hx
    · rw [List.mem_singleton.1 hx, sizeL_append]
      simp [sizeL]
theorem chains_size : ∀ (l : List CT) (ah : List CT), ∀ x ∈ chains ah l, sizeL x ≤ sizeL ah + sizeL l
  | [], _, x, hx => by rw [chains] at hx; cases hx
  | c :: t, ah, x, hx => by
    rw [chains] at hx
    rcases List.mem_append.1 hx with hx | hx
    · have := chain1_size c ah x hx
      rw [sizeL]; omega
    · have := chains_size t (ah ++ [c]) x hx
      rw [sizeL_append] at this
      simp only [sizeL] at this ⊢
      omega
end
mutual
/-- Only Ncc have conditions in them. -/
def flatOk : CT → Bool
  | .mk h l => (decide (h.k = 3) || l.isEmpty) && flatOkL l
def flatOkL : List CT → Bool
  | [] => true
  | c :: t => flatOk c && flatOkL t
end
mutual
theorem flat_of_check : ∀ (c : CT) (d : Int), check c d = 0 → flatOk c = true
  | .mk h l, d, hc => by
    rw [check] at hc
    rw [flatOk]
    split at hc
    · omega
    · split at hc
      · rename_i h3
        split at hc
        · omega
        · split at hc
          · omega
          · rw [flat_of_checkL l _ hc, decide_eq_true h3]; rfl
      · split at hc
        · omega
        · split at hc
          · omega
          · rename_i _ _ h4
            have : l = [] := by
              rcases l with _ | ⟨a, b⟩
              · rfl
              · exact absurd (.inr (by simp)) h4
            subst this
            simp [flatOkL]
theorem flat_of_checkL : ∀ (l : List CT) (d : Int), checkL l d = 0 → flatOkL l = true
  | [], _, _ => by rw [flatOkL]
  | c :: t, d, hc => by
    rw [checkL] at hc
    split at hc
    · rename_i h
      rw [flatOkL, flat_of_check c d h, flat_of_checkL t d hc]; rfl
    · rename_i h; exact absurd hc h
end
theorem flat_all_of {l : List CT} (h : ∀ c ∈ l, check c 1 = 0) : flatOkL l = true := by
  induction l with
  | nil => rw [flatOkL]
  | cons c t ih => rw [flatOkL, flat_of_check c 1 (h c (by simp)), ih (fun x hx => h x (by simp [hx]))]; rfl
mutual
theorem chain1_eq : ∀ (c : CT) (ah : List CT), flatOk c = true → (chain1 ah c).length = size c
  | .mk h l, ah, hc => by
    rw [flatOk, Bool.and_eq_true] at hc
    rw [chain1, size]
    split
    · rw [List.length_append, chains_eq l ah hc.2]; simp; omega
    · rename_i h3
      have : l = [] := by
        have h4 := hc.1
        rw [decide_eq_false h3, Bool.false_or] at h4
        simpa using h4
      subst this
      simp [sizeL]
theorem chains_eq : ∀ (l : List CT) (ah : List CT), flatOkL l = true → (chains ah l).length = sizeL l
  | [], _, _ => by simp [chains, sizeL]
  | c :: t, ah, h => by
    rw [flatOkL, Bool.and_eq_true] at h
    rw [chains, List.length_append, chain1_eq c ah h.1, chains_eq t _ h.2, sizeL]
end
theorem flatOkL_take : ∀ {l : List CT} (k : Nat), flatOkL l = true → flatOkL (l.take k) = true
  | [], k, h => by simpa using h
  | c :: t, 0, _ => by simp [flatOkL]
  | c :: t, k + 1, h => by
    rw [flatOkL, Bool.and_eq_true] at h
    rw [List.take_succ_cons, flatOkL, h.1, flatOkL_take k h.2]; rfl
theorem take_succ {l : List CT} {k : Nat} (hk : k < l.length) : ∃ c, c ∈ l ∧ l.take (k + 1) = l.take k ++ [c] := ⟨l[k], List.getElem_mem hk, List.take_succ_eq_append_getElem hk⟩
/-- The chain that ends at the condition at k. -/
theorem chains_at {l : List CT} {k : Nat} (h : flatOkL l = true) (hk : k < l.length) : (chains [] l).getD (sizeL (l.take (k + 1)) - 1) [] = l.take (k + 1) ∧ sizeL (l.take (k + 1)) - 1 < (chains [] l).length ∧ 1 ≤ sizeL (l.take (k + 1)) := by
  obtain ⟨c, hc, e⟩ := take_succ hk
  have h1 : chains [] l = chains [] (l.take (k + 1)) ++ chains ([] ++ l.take (k + 1)) (l.drop (k + 1)) := by rw [← chains_append, List.take_append_drop]
  have h2 : chains [] (l.take (k + 1)) = chains [] (l.take k) ++ chain1 ([] ++ l.take k) c := by
    rw [e, chains_append]; simp [chains]
  have h3 : ∃ p, chain1 ([] ++ l.take k) c = p ++ [l.take (k + 1)] := by
    cases c with
    | mk hd sb => exact ⟨if hd.k = 3 then chains (l.take k) sb else [], by rw [chain1, e]; simp⟩
  obtain ⟨p, h3⟩ := h3
  have hlen : (chains [] (l.take (k + 1))).length = sizeL (l.take (k + 1)) := chains_eq _ _ (flatOkL_take _ h)
  have hq : chains [] (l.take (k + 1)) = (chains [] (l.take k) ++ p) ++ [l.take (k + 1)] := by rw [h2, h3, List.append_assoc]
  have hl2 : (chains [] (l.take k) ++ p).length = sizeL (l.take (k + 1)) - 1 := by
    have := congrArg List.length hq
    rw [hlen, List.length_append] at this
    simp at this ⊢
    omega
  refine ⟨?_, ?_, ?_⟩
  · rw [h1, hq, ← hl2]
    simp [List.getD]
  · rw [h1, List.length_append, hq, List.length_append, hl2]; simp; omega
  · have := congrArg List.length hq
    rw [hlen, List.length_append] at this
    simp at this
    omega
theorem own_at {l : List CT} {k : Nat} (hk : k < l.length) (h1 : 1 ≤ sizeL (l.take (k + 1))) : (ownC l).getD k 0 = ((sizeL (l.take (k + 1)) - 1 : Nat) : Int) := by
  unfold ownC
  simp [List.getD, hk]
  omega
theorem ownC_len (l : List CT) : (ownC l).length = l.length := by simp [ownC]

/-! ### each but its last condition stands ahead -/
def Ahead (ah : List CT) (cs : List (List CT)) : Prop := ∀ i (hi : i < cs.length), cs[i] ≠ [] ∧ (cs[i].dropLast = ah ∨ ∃ j, ∃ (hj : j < i), cs[j]'(by omega) = cs[i].dropLast)
theorem Ahead.snoc {ah : List CT} {cs : List (List CT)} {c : CT} (h : Ahead ah cs) : Ahead ah (cs ++ [ah ++ [c]]) := by
  intro i hi
  by_cases hlt : i < cs.length
  · have h1 := h i hlt
    rw [List.getElem_append_left hlt]
    refine ⟨h1.1, h1.2.imp id ?_⟩
    rintro ⟨j, hj, e⟩
    exact ⟨j, hj, by rw [List.getElem_append_left (by omega)]; exact e⟩
  · have e : i = cs.length := by simp at hi; omega
    subst e
    simp
theorem Ahead.app {ah : List CT} {cs ds : List (List CT)} {c : CT} (h : Ahead ah (cs ++ [ah ++ [c]])) (h2 : Ahead (ah ++ [c]) ds) : Ahead ah ((cs ++ [ah ++ [c]]) ++ ds) := by
  intro i hi
  by_cases hlt : i < (cs ++ [ah ++ [c]]).length
  · have h1 := h i hlt
    rw [List.getElem_append_left hlt]
    refine ⟨h1.1, h1.2.imp id ?_⟩
    rintro ⟨j, hj, e⟩
    exact ⟨j, hj, by rw [List.getElem_append_left (by omega)]; exact e⟩
  · have hge : (cs ++ [ah ++ [c]]).length ≤ i := by omega
    have h1 := h2 (i - (cs ++ [ah ++ [c]]).length) (by simp at hi hge ⊢; omega)
    rw [List.getElem_append_right hge]
    refine ⟨h1.1, .inr ?_⟩
    rcases h1.2 with e | ⟨j, hj, e⟩
    · refine ⟨cs.length, by simp at hge; omega, ?_⟩
      rw [e]
      rw [List.getElem_append_left (by simp)]
      simp
    · refine ⟨j + (cs ++ [ah ++ [c]]).length, by omega, ?_⟩
      rw [← e, List.getElem_append_right (by omega)]
      congr 1
      omega
mutual
theorem chain1_ahead : ∀ (c : CT) (ah : List CT), ∃ cs, chain1 ah c = cs ++ [ah ++ [c]] ∧ Ahead ah (cs ++ [ah ++ [c]])
  | .mk h l, ah => by
    refine ⟨if h.k = 3 then chains ah l else [], by rw [chain1], Ahead.snoc ?_⟩
    split
    · exact chains_ahead l ah
    · intro i hi; simp at hi
theorem chains_ahead : ∀ (l : List CT) (ah : List CT), Ahead ah (chains ah l)
  | [], _ => by rw [chains]; intro i hi; simp at hi
  | c :: t, ah => by
    obtain ⟨cs, e, h⟩ := chain1_ahead c ah
    rw [chains, e]
    exact Ahead.app h (chains_ahead t (ah ++ [c]))
end
/-- Is a chain the beginning of another? -/
def hadPre (qs : List (List CT)) (x : List CT) (i : Nat) : Bool := decide (x.length = 1) || (qs.take i).any fun y => ceqL y x.dropLast
theorem had_pre {l : List CT} {i : Nat} (hi : i < (chains [] l).length) : (chains [] l).getD i [] ≠ [] ∧ hadPre (chains [] l) ((chains [] l).getD i []) i = true := by
  have h := chains_ahead l [] i hi
  have e : (chains [] l).getD i [] = (chains [] l)[i] := by simp [List.getD, hi]
  rw [e]
  refine ⟨h.1, ?_⟩
  unfold hadPre
  rw [Bool.or_eq_true]
  rcases h.2 with h2 | ⟨j, hj, h2⟩
  · left
    have h3 : (chains [] l)[i].length ≠ 0 := fun hx => h.1 (List.eq_nil_of_length_eq_zero hx)
    have h4 := congrArg List.length h2
    simp at h4
    simp; omega
  · right
    refine List.any_eq_true.2 ⟨(chains [] l)[j], List.mem_iff_getElem.2 ⟨j, by simp; omega, by simp⟩, (ceqL_iff _ _).2 h2⟩
def foundTo (qs : List (List CT)) (x : List CT) (j : Nat) : Bool := decide (x.length = 1) || (qs.take j).any fun y => ceqL y x.dropLast
theorem foundTo_succ {qs : List (List CT)} {x : List CT} {j : Nat} (hj : j < qs.length) : foundTo qs x (j + 1) = (foundTo qs x j || ceqL (qs.getD j []) x.dropLast) := by
  unfold foundTo
  have e : qs.getD j [] = qs[j] := by simp [List.getD, hj]
  rw [List.take_succ_eq_append_getElem hj, e]
  simp only [List.any_append, List.any_cons, List.any_nil, Bool.or_false, Bool.or_assoc]
end Go.Gx.T6
namespace Go.Gx.T6
open Go.Gx Go.Gx.T3 Go.Gx.T4 Go.Gx.T8
abbrev e6 : List CT × Value := ([], .slice none 0 0)
theorem chain_get {cs : List (List CT)} {qs : List (List CT × Value)} {k : Nat} (hl : cs = qs.map Prod.fst) : cs.getD k [] = (qs.getD k e6).1 := by
  rw [hl, mapfst_getD]
theorem chain_small {l : List CT} {qs : List (List CT × Value)} {k : Nat} (hl : chains [] l = qs.map Prod.fst) (hk : k < qs.length) (hsz : sizeL l ≤ 1000) : sizeL (qs.getD k e6).1 ≤ 1000 := by
  have h1 : (qs.getD k e6).1 ∈ chains [] l := by rw [hl]; exact List.mem_map.2 ⟨_, getD_mem hk, rfl⟩
  have := chains_size l [] _ h1
  simp only [sizeL] at this
  omega
theorem chain_same {cs : List (List CT)} {qs ps : List (List CT × Value)} {k : Nat} (h1 : cs = qs.map Prod.fst) (h2 : cs = ps.map Prod.fst) : ceqL (qs.getD k e6).1 (ps.getD k e6).1 = true := by
  rw [← chain_get h1, ← chain_get h2]
  exact (ceqL_iff _ _).2 rfl
theorem sizeL_takeA : ∀ (l : List CT) (k : Nat), sizeL (l.take k) ≤ sizeL l := sizeL_take_le
end Go.Gx.T6
namespace Go.Gx.T6
open Go.Gx Go.Gx.T3 Go.Gx.T4 Go.Gx.T8
theorem own_last {l : List CT} (h : 1 ≤ l.length) : (ownC l).getD (l.length - 1) 0 = (sizeL l : Int) - 1 := by
  unfold ownC
  have h1 : l.length - 1 < l.length := by omega
  simp [List.getD, h1]
  rw [show l.length - 1 + 1 = l.length by omega, List.take_length]
end Go.Gx.T6

/-
  GX: results that lie in memory of the call's own alone; parts of arrays. Generic in the program.
-/
namespace Go.Gx
open Go.RowKit

/-- What is known of the memory that was laid since a world. -/
def fr (w0 : World) (G : Ghost) : Ghost := fun b => if w0.heap.size ≤ b then G b else none
theorem fr_le (w0 : World) (G : Ghost) : GLe (fr w0 G) G := fun b o e => by
  unfold fr at e
  split at e
  · exact e
  · cases e
theorem fr_mono (w0 : World) {G G' : Ghost} (h : GLe G G') : GLe (fr w0 G) (fr w0 G') := fun b o e => by
  unfold fr at e ⊢
  split at e
  · rename_i hb; rw [if_pos hb]; exact h b o e
  · cases e
theorem fr_new (w0 : World) (G : Ghost) (b : Nat) (h : fr w0 G b ≠ none) : w0.heap.size ≤ b := by
  unfold fr at h
  split at h
  · assumption
  · exact absurd rfl h
theorem RowAt.fr {w0 : World} {G : Ghost} {b o n : Nat} {g : Nat → Value} (h : RowAt G b o n g) (hb : w0.heap.size ≤ b) : RowAt (fr w0 G) b o n g := by
  obtain ⟨c, T, f, h1, h2⟩ := h
  exact ⟨c, T, f, by unfold Gx.fr; rw [if_pos hb]; exact h1, h2⟩
theorem SlG.fr {w0 : World} {G : Ghost} {v : Value} {n sz : Nat} {f : Nat → Nat → Value} (h : SlG G v n sz f) (hv : ∀ b, v.ownBlock = some b → w0.heap.size ≤ b) : SlG (fr w0 G) v n sz f := by
  obtain ⟨a, cap, rfl, hc, hr⟩ := h
  refine ⟨a, cap, rfl, hc, fun hn => ?_⟩
  obtain ⟨b, o, rfl, h2⟩ := hr hn
  exact ⟨b, o, rfl, fun i hi => (h2 i hi).fr (hv b rfl)⟩
theorem RowAt.sub {G : Ghost} {b o n j m : Nat} {g : Nat → Value} (h : RowAt G b o n g) (hj : j + m ≤ n) : RowAt G b (o + j) m (fun i => g (j + i)) := by
  obtain ⟨c, T, f, h1, h2⟩ := h
  exact ⟨c, T, f, h1, fun i hi => by rw [Nat.add_assoc]; exact h2 (j + i) (by omega)⟩

section
variable {P : Program} {ops : Array Oper} {Q : Exit → Act → World → Prop} {N : Nat} {w0 : World} {G : Ghost} {l : List (Nat × Value)} {L : List Asrt}
variable {rest : List Oper} {d : Nat} {ty : TypeId} {pos : String} {after : Array Edge} {gd : Option (Nat × Bool)} {v : Value}

theorem Mem.freezeF {w : World} {k n sz : Nat} {E : TypeId} {xs : List Value} (h : Mem nX w0 G w L) (hL : L[k]? = some (rowA v E sz n xs)) :
    ∃ G', GNew w0 nX G G' ∧ SlG (fr w0 G') v n sz (fun i j => xs.getD (i * sz + j) undef) ∧ Mem nX w0 G' w (L.eraseIdx k) := by
  obtain ⟨F, ⟨hown, hF⟩, hU, _⟩ := h.sep.erase hL
  obtain ⟨G', h1, h2, h3⟩ := h.freeze hL
  refine ⟨G', h1, h2.fr (fun b hb => ?_), h3⟩
  rcases (hU b ((hF.1 b).2 hb)).1 with h4 | h4
  · exact h4
  · exact h4.elim
theorem r_freezeF {k n sz : Nat} {E : TypeId} {xs : List Value} (hL : L[k]? = some (rowA v E sz n xs))
    (h : ∀ G', GNew w0 nX G G' → SlG (fr w0 G') v n sz (fun i j => xs.getD (i * sz + j) undef) → Runs P ops Q N nX w0 G' rest l (L.eraseIdx k)) : Runs P ops Q N nX w0 G rest l L := by
  intro a w hS
  obtain ⟨G', h1, h2, h3⟩ := hS.mem.freezeF hL
  exact h G' h1 h2 a w ⟨hS.fr, h3⟩
theorem e_freezeF {e : Exit} {k n sz : Nat} {E : TypeId} {xs : List Value} (hL : L[k]? = some (rowA v E sz n xs))
    (h : ∀ G', GNew w0 nX G G' → SlG (fr w0 G') v n sz (fun i j => xs.getD (i * sz + j) undef) → ERuns Q e N nX w0 G' l (L.eraseIdx k)) : ERuns Q e N nX w0 G l L := by
  intro a w hS
  obtain ⟨G', h1, h2, h3⟩ := hS.mem.freezeF hL
  exact h G' h1 h2 a w ⟨hS.fr, h3⟩

/-- A call whose result lies in memory of its own alone. -/
theorem r_callf {f : FuncId} {xs : List Operand} {vs : List Value} {ats : Array TypeId} {S : Ghost → Value → Prop} (hw : Wt ops l gd) (hd : Nat.blt d N = true) (hf : Callable P f) (hv : evs l xs = some vs)
    (hS : ∀ H H' r, GLe H H' → S H r → S H' r)
    (hc : ∀ w, Has G w → Calls P f vs.toArray w (Ret fun r w' => ∃ H : Ghost, (∀ b, H b ≠ none → w.heap.size ≤ b) ∧ Has H w' ∧ S H r ∧ Since nX w w'))
    (h : ∀ G' r, GNew w0 nX G G' → S (fr w0 G') r → Runs P ops Q N nX w0 G' rest ((d, r) :: l) L) : Runs P ops Q N nX w0 G (⟨some d, .call ⟨.value (.func f), xs.toArray, ats⟩, ty, pos, after, gd⟩ :: rest) l L := by
  refine Runs.step hw (fun a w hSt => ?_)
  show Oper.upon P _ a _ Q _
  rw [run_call hSt.fr hv hf, Oper.upon_enter]
  refine (hc w hSt.mem.has).mono (fun e w' hR => ?_)
  cases e with
  | returned r =>
    obtain ⟨H, hfresh, hh, hr, hs⟩ := hR
    have hnew : GNew w nX G (fun b => match G b with | some o => some o | none => H b) :=
      ⟨fun b o e => by simp [e], fun b e e' => .inl (hfresh b (by simpa [e] using e'))⟩
    have hle : GLe H (fr w0 (fun b => match G b with | some o => some o | none => H b)) := fun b o e => by
      have hge : w.heap.size ≤ b := hfresh b (by rw [e]; simp)
      have : G b = none := hSt.mem.has.fresh hge
      unfold fr
      rw [if_pos (Nat.le_trans hSt.mem.since.size hge)]
      simp [this, e]
    refine h _ r (hnew.up hSt.mem.since.size) (hS _ _ _ hle hr) _ _ ⟨hSt.fr.put (by simpa using hd) _, hSt.mem.callG hs hnew ?_⟩
    intro b o e
    cases e2 : G b with
    | none => simp only [e2] at e; exact hh b o e
    | some o2 =>
      simp only [e2] at e
      cases e
      rw [hs.block b (hSt.mem.has.lt e2) id]
      exact hSt.mem.has b o e2
  | panicked c => exact hR.elim
  | outgrown => exact hR.elim

/-- The same; a row of the call's own is read. -/
theorem r_callfr {f : FuncId} {xs : List Operand} {vs : List Value} {ats : Array TypeId} {k n sz : Nat} {E : TypeId} {r0 : Value} {zs : List Value} {S : Ghost → Value → Prop} (hw : Wt ops l gd) (hd : Nat.blt d N = true) (hf : Callable P f) (hv : evs l xs = some vs) (hL : L[k]? = some (rowA r0 E sz n zs))
    (hS : ∀ H H' r, GLe H H' → S H r → S H' r)
    (hc : ∀ w G1, Has G1 w → GLe G G1 → SlG G1 r0 n sz (fun i j => zs.getD (i * sz + j) undef) → Calls P f vs.toArray w (Ret fun r w' => ∃ H : Ghost, (∀ b, H b ≠ none → w.heap.size ≤ b) ∧ Has H w' ∧ S H r ∧ Since nX w w'))
    (h : ∀ G' r, GNew w0 nX G G' → S (fr w0 G') r → Runs P ops Q N nX w0 G' rest ((d, r) :: l) L) : Runs P ops Q N nX w0 G (⟨some d, .call ⟨.value (.func f), xs.toArray, ats⟩, ty, pos, after, gd⟩ :: rest) l L := by
  refine Runs.step hw (fun a w hSt => ?_)
  show Oper.upon P _ a _ Q _
  rw [run_call hSt.fr hv hf, Oper.upon_enter]
  obtain ⟨G1, h1, h2, h3⟩ := hSt.mem.freeze hL
  refine (hc w G1 h3.has h1.le h2).mono (fun e w' hR => ?_)
  cases e with
  | returned r =>
    obtain ⟨H, hfresh, hh, hr, hs⟩ := hR
    have hnew : GNew w nX G (fun b => match G b with | some o => some o | none => H b) :=
      ⟨fun b o e => by simp [e], fun b e e' => .inl (hfresh b (by simpa [e] using e'))⟩
    have hle : GLe H (fr w0 (fun b => match G b with | some o => some o | none => H b)) := fun b o e => by
      have hge : w.heap.size ≤ b := hfresh b (by rw [e]; simp)
      have : G b = none := hSt.mem.has.fresh hge
      unfold fr
      rw [if_pos (Nat.le_trans hSt.mem.since.size hge)]
      simp [this, e]
    refine h _ r (hnew.up hSt.mem.since.size) (hS _ _ _ hle hr) _ _ ⟨hSt.fr.put (by simpa using hd) _, hSt.mem.callG hs hnew ?_⟩
    intro b o e
    cases e2 : G b with
    | none => simp only [e2] at e; exact hh b o e
    | some o2 =>
      simp only [e2] at e
      cases e
      rw [hs.block b (hSt.mem.has.lt e2) id]
      exact hSt.mem.has b o e2
  | panicked c => exact hR.elim
  | outgrown => exact hR.elim
end

section
variable {P : Program} {N : Nat} {X : Nat → Prop} {w0 : World} {G : Ghost} {l : List (Nat × Value)} {L : List Asrt} {d : Nat} {ty : TypeId} {pos : String} {after : Array Edge} {gd : Option (Nat × Bool)} {x y : Operand}
/-- A part of an array, from its beginning on, as a slice. -/
theorem p_slarr {T E n sz b o m : Nat} {q : IntKind} (hT : P.underlying T = some (.array n E)) (hE : SzIs P E sz) (hx : ev l x = some (.pointer (some ⟨b, o, none⟩))) (hy : ev l y = some (.int q (m : Nat))) (hm : m ≤ n) (hn : n ≤ 1000) :
    PV P N X w0 G l L ⟨some d, .slice T x none (some y) none, ty, pos, after, gd⟩ (.slice (some ⟨b, o, none⟩) m n) := by
  intro ac w hS
  have hmc : (0 : Int) ≤ (m : Int) ∧ (m : Int) ≤ (n : Int) := by omega
  have hadd : (⟨b, o, none⟩ : Addr).add 0 = ⟨b, o, none⟩ := by rw [addr_add, Nat.add_zero]
  simp only [execOp, hS.fr.eval hx, Option.map]
  simp [Instr.sliceAt, run_underlying hT, Instr.sureAddr, Instr.sliceBounds, Instr.sliceBound, asIntOf, hS.fr.eval hy, hE.run, hm, hadd]
theorem slarr_g {b o n m sz : Nat} {g : Nat → Value} (hR : RowAt G b o (n * sz) g) (hm : m ≤ n) (hn : n ≤ 1000) : SlG G (.slice (some ⟨b, o, none⟩) m n) m sz (fun i j => g (i * sz + j)) := by
  refine ⟨_, _, rfl, ⟨hm, by simp only [maxLen]; omega⟩, fun _ => ⟨b, o, rfl, fun i hi => ?_⟩⟩
  exact hR.sub (by have := Nat.mul_le_mul_right sz (show i + 1 ≤ n by omega); rw [Nat.add_mul, Nat.one_mul] at this; exact this)
end
end Go.Gx

/- Plain laws of compiled steps: where variables were bound, found in a sorted list of places; steps that are alike; no program in sight. -/
namespace Go.Gx.T8
open Go.Gx Go.Gx.T3 Go.Gx.T4 Go.Gx.T6

/-! ### the first alike term -/
abbrev TT := Bool × Int
def tmC (t : TT) : List Value := [.bool t.1, .int .i64 t.2]
abbrev tt0 : TT := (false, 0)
def terms (h : Hd) : List TT := [(h.v0, h.n0), (h.v1, h.n1), (h.v2, h.n2)]
def sameT (t z : TT) : Bool := csEq (tmC t) (tmC z)
theorem sameT_eq (t z : TT) : sameT t z = (decide (t.1 = z.1) && decide (t.2 = z.2)) := by
  obtain ⟨a, b⟩ := t
  obtain ⟨c, d⟩ := z
  cases a <;> cases c <;> simp [sameT, tmC, csEq, cEq]
/-- Where the first term ahead of term f stands that is alike; -1: none. -/
def ownG (h : Hd) (f : Nat) : Int := idxF (sameT (vF h f, nF h f)) ((terms h).take f) 0
theorem sameF_T (h : Hd) (g f : Nat) : sameT (vF h f, nF h f) (vF h g, nF h g) = sameF h g f := by
  rw [sameT_eq]; unfold sameF
  rw [show decide (vF h f = vF h g) = decide (vF h g = vF h f) from decide_eq_decide.2 ⟨Eq.symm, Eq.symm⟩, show decide (nF h f = nF h g) = decide (nF h g = nF h f) from decide_eq_decide.2 ⟨Eq.symm, Eq.symm⟩]
theorem ownG_eq (h : Hd) : ∀ f, f < 3 → ownG h f = (dupF h f).getD (-1)
  | 0, _ => by simp [ownG, idxF, dupF]
  | 1, _ => by
    have h1 := sameF_T h 0 1
    show idxF _ [(h.v0, h.n0)] 0 = _
    rw [idxF, show sameT (vF h 1, nF h 1) (h.v0, h.n0) = sameF h 0 1 from h1]
    cases e : sameF h 0 1 <;> simp [idxF, dupF, e]
  | 2, _ => by
    have h1 := sameF_T h 0 2
    have h2 := sameF_T h 1 2
    show idxF _ [(h.v0, h.n0), (h.v1, h.n1)] 0 = _
    rw [idxF, idxF, show sameT (vF h 2, nF h 2) (h.v0, h.n0) = sameF h 0 2 from h1, show sameT (vF h 2, nF h 2) (h.v1, h.n1) = sameF h 1 2 from h2]
    cases e : sameF h 0 2 <;> cases e' : sameF h 1 2 <;> simp [idxF, dupF, e, e']
theorem dup_some {h : Hd} {f : Nat} (hf : f < 3) (hg : 0 ≤ ownG h f) : dupF h f = some (ownG h f) := by
  rw [ownG_eq h f hf] at hg ⊢
  cases e : dupF h f with
  | none => rw [e] at hg; simp at hg
  | some x => rfl
theorem dup_none {h : Hd} {f : Nat} (hf : f < 3) (hg : ¬ 0 ≤ ownG h f) : dupF h f = none := by
  rw [ownG_eq h f hf] at hg
  cases e : dupF h f with
  | none => rfl
  | some x =>
    rw [e] at hg
    exfalso
    apply hg
    show 0 ≤ x
    unfold dupF at e
    split at e
    · cases e; omega
    · split at e
      · cases e; omega
      · cases e

/-! ### bound, by a list of places -/
def lkP (v : Int) (ps : List PL) : Option (Int × Int) := (ps.find? (isV v)).map Prod.snd
theorem lkP_append (v : Int) (a b : List PL) : lkP v (a ++ b) = (lkP v a).or (lkP v b) := by
  unfold lkP
  rw [List.find?_append]
  cases a.find? (isV v) <;> simp
theorem isV_iff {v : Int} {p : PL} : isV v p = true ↔ p.1 = v := by simp [isV]
theorem lkP_none {v : Int} {ps : List PL} (h : ∀ p ∈ ps, isV v p = false) : lkP v ps = none := by
  unfold lkP
  rw [List.find?_eq_none.2 (fun p hp => by rw [h p hp]; decide)]; rfl
theorem lkP_isSome {v : Int} {ps : List PL} (h : 0 ≤ idxF (isV v) ps 0) : (lkP v ps).isSome = true := by
  have h1 : ps.any (isV v) = true := by rw [← idxF_any, decide_eq_true h]
  obtain ⟨p, hp, h2⟩ := List.any_eq_true.1 h1
  unfold lkP
  rw [Option.isSome_map]
  exact List.find?_isSome.2 ⟨p, hp, h2⟩
theorem lkP_pl1 (h : Hd) (b : Int) (out : List PL) (f : Nat) (v : Int) : lkP v (pl1 h b out f) = (lkP v out).or (if vF h f = true ∧ nF h f = v then some (b, (f : Int)) else none) := by
  unfold pl1
  by_cases h1 : vF h f = true
  · by_cases h2 : 0 ≤ idxF (isV (nF h f)) out 0
    · rw [if_neg (by simp [h2])]
      by_cases h3 : nF h f = v
      · subst h3
        have := lkP_isSome h2
        cases e : lkP (nF h f) out with
        | none => rw [e] at this; cases this
        | some x => simp
      · rw [if_neg (by simp [h3])]; simp
    · rw [if_pos ⟨h1, h2⟩, lkP_append]
      congr 1
      by_cases h3 : nF h f = v
      · rw [if_pos ⟨h1, h3⟩]; simp [lkP, isV, h3]
      · rw [if_neg (by simp [h3])]; simp [lkP, isV, h3]
  · rw [if_neg (by simp [h1]), if_neg (by simp [h1])]; simp
theorem or_assoc' {α : Type} (a b c : Option α) : (a.or b).or c = a.or (b.or c) := by cases a <;> simp
theorem lkP_plTo (h : Hd) (b : Int) (out : List PL) (v : Int) : lkP v (plTo h b out 3) = (lkP v out).or ((firstF h v).map fun f => (b, f)) := by
  show lkP v (pl1 h b (pl1 h b (pl1 h b out 0) 1) 2) = _
  rw [lkP_pl1, lkP_pl1, lkP_pl1, or_assoc', or_assoc']
  congr 1
  unfold firstF
  show ((if h.v0 = true ∧ h.n0 = v then some (b, ((0 : Nat) : Int)) else none).or ((if h.v1 = true ∧ h.n1 = v then some (b, ((1 : Nat) : Int)) else none).or (if h.v2 = true ∧ h.n2 = v then some (b, ((2 : Nat) : Int)) else none))) = _
  by_cases h0 : h.v0 = true ∧ h.n0 = v
  · rw [if_pos h0, if_pos h0]; rfl
  · rw [if_neg h0, if_neg h0]
    by_cases h1 : h.v1 = true ∧ h.n1 = v
    · rw [if_pos h1, if_pos h1]; rfl
    · rw [if_neg h1, if_neg h1]
      by_cases h2 : h.v2 = true ∧ h.n2 = v
      · rw [if_pos h2, if_pos h2]; rfl
      · rw [if_neg h2, if_neg h2]; rfl
theorem lkP_places (v : Int) : ∀ (l : List CT) (b : Int) (out : List PL), lkP v (places l b out) = (lkP v out).or (bound v l b)
  | [], b, out => by simp [places, bound]
  | c :: t, b, out => by
    rw [places, bound]
    split
    · rw [lkP_places v t, lkP_plTo, or_assoc']
      congr 1
      cases firstF c.h v <;> simp
    · rw [lkP_places v t]
theorem lkP_once {v : Int} : ∀ {ps : List PL} {p : PL}, Once ps → p ∈ ps → p.1 = v → lkP v ps = some p.2
  | q :: t, p, ho, hp, hv => by
    obtain ⟨h1, h2⟩ := List.pairwise_cons.1 ho
    rcases List.mem_cons.1 hp with rfl | hp
    · simp [lkP, isV, hv]
    · have h3 := h1 p hp
      have h4 : isV v q = false := by simp [isV]; rw [← hv]; exact h3
      have h5 := lkP_once h2 hp hv
      unfold lkP at h5 ⊢
      rw [List.find?_cons, h4]; exact h5
/-- What is found in the sorted places is what is bound. -/
theorem found_bound {l : List CT} {zs : List PL} {v : Int} {i : Nat} (hp : zs.Perm (places l 0 [])) (hi : i < zs.length) (hv : isV v (zs.getD i t0) = true) : bound v l 0 = some (zs.getD i t0).2 := by
  have h1 : zs.getD i t0 ∈ places l 0 [] := hp.subset (getD_mem hi)
  have h2 := lkP_once (places_once l 0 [] .nil) h1 (isV_iff.1 hv)
  rw [lkP_places] at h2
  simpa [lkP] using h2
theorem found_none {l : List CT} {zs : List PL} {v : Int} (hp : zs.Perm (places l 0 [])) (h : ¬ 0 ≤ idxF (isV v) zs 0) : bound v l 0 = none := by
  have h1 := idxF_neg (Int.le_refl 0) h
  have h2 := lkP_places v l 0 []
  rw [lkP_none (fun p hp' => h1 p (hp.symm.subset hp'))] at h2
  simpa [lkP] using h2.symm
theorem testF_b {ch : List CT} {h : Hd} {f : Nat} {x : Int × Int} (hv : vF h f = true) (hb : bound (nF h f) ch 0 = some x) : testF ch h f = [((f : Int), x.1, x.2)] := by
  unfold testF; rw [if_pos hv, hb]
theorem testF_d {ch : List CT} {h : Hd} {f : Nat} {g : Int} (hv : vF h f = true) (hb : bound (nF h f) ch 0 = none) (hd : dupF h f = some g) : testF ch h f = [((f : Int), -1, g)] := by
  unfold testF; rw [if_pos hv, hb, hd]
theorem testF_n {ch : List CT} {h : Hd} {f : Nat} (hv : vF h f = true) (hb : bound (nF h f) ch 0 = none) (hd : dupF h f = none) : testF ch h f = [] := by
  unfold testF; rw [if_pos hv, hb, hd]

theorem Ss.le {G G' : Ghost} {v : Value} {l : List ST} (h : Ss G v l) (hle : GLe G G') : Ss G' v l := h.mono hle
end Go.Gx.T8
namespace Go.Gx.T8
open Go.Gx Go.Gx.T3 Go.Gx.T4 Go.Gx.T6
theorem terms_sl {h : Hd} {k : Int} {sv : Value} {G : Ghost} {v : Value} {f : Nat} (hf : f < 3) (hv : SlG G v f 2 (fun i j => at_ [Value.int .i64 k, Value.bool h.v0, Value.int .i64 h.n0, Value.bool h.v1, Value.int .i64 h.n1, Value.bool h.v2, Value.int .i64 h.n2, sv] (1 + (i * 2 + j)))) : SlL G v 2 tmC tt0 ((terms h).take f) := by
  match f, hf with
  | 0, _ => exact SlG.congr hv (fun i hi => absurd (show i < 0 from hi) (by omega))
  | 1, _ =>
    refine SlG.congr hv (fun i hi j hj => ?_)
    have hi' : i < 1 := hi
    obtain rfl : i = 0 := by omega
    match j, hj with
    | 0, _ => rfl
    | 1, _ => rfl
  | 2, _ =>
    refine SlG.congr hv (fun i hi j hj => ?_)
    match i, hi with
    | 0, _ =>
      match j, hj with
      | 0, _ => rfl
      | 1, _ => rfl
    | 1, _ =>
      match j, hj with
      | 0, _ => rfl
      | 1, _ => rfl
theorem term_at {h : Hd} {k : Int} {sv : Value} {f : Nat} (hf : f < 3) : aggF 2 (fun i => at_ [Value.int .i64 k, Value.bool h.v0, Value.int .i64 h.n0, Value.bool h.v1, Value.int .i64 h.n1, Value.bool h.v2, Value.int .i64 h.n2, sv] (1 + (f * 2 + i))) = Value.agg #[Value.bool (vF h f), Value.int .i64 (nF h f)] := by
  match f, hf with
  | 0, _ => rfl
  | 1, _ => rfl
  | 2, _ => rfl
end Go.Gx.T8
namespace Go.Gx.T8
open Go.Gx Go.Gx.T3 Go.Gx.T4 Go.Gx.T6
theorem take_rs {rs : List (CT × Value)} {k : Nat} (hk : k < rs.length) : rs.take (k + 1) = rs.take k ++ [rs.getD k d0] := by
  rw [List.take_succ_eq_append_getElem hk]; simp [List.getD, List.getElem?_eq_getElem hk]
end Go.Gx.T8

/- Plain laws of steps: alike, right, few; no program in sight. -/
namespace Go.Gx.T8
open Go.Gx Go.Gx.T3 Go.Gx.T4 Go.Gx.T6

theorem tC_eq (a b : TD) : csEq (tC a) (tC b) = decide (a = b) := by
  obtain ⟨a0, a1, a2⟩ := a
  obtain ⟨b0, b1, b2⟩ := b
  by_cases h0 : a0 = b0 <;> by_cases h1 : a1 = b1 <;> by_cases h2 : a2 = b2 <;> simp [tC, csEq, cEq, h0, h1, h2]
theorem take_eq_succ {α : Type} {a b : List α} {k : Nat} {d : α} (ha : k < a.length) (hb : k < b.length) (h : a.take k = b.take k) (he : a.getD k d = b.getD k d) : a.take (k + 1) = b.take (k + 1) := by
  rw [List.take_succ_eq_append_getElem ha, List.take_succ_eq_append_getElem hb, h]
  simp [List.getD, List.getElem?_eq_getElem ha, List.getElem?_eq_getElem hb] at he
  rw [he]
theorem ne_of_get {α : Type} {a b : List α} {k : Nat} {d : α} (he : a.getD k d ≠ b.getD k d) : a ≠ b := fun h => he (by rw [h])
theorem ne_of_len {α : Type} {a b : List α} (h : a.length ≠ b.length) : a ≠ b := fun e => h (by rw [e])
def kEq (a b : SH) : Bool := csEq [.int .i64 a.k0, .int .i64 a.k1, .int .i64 a.k2] [.int .i64 b.k0, .int .i64 b.k1, .int .i64 b.k2]
theorem kEq_iff (a b : SH) : kEq a b = true ↔ a.k0 = b.k0 ∧ a.k1 = b.k1 ∧ a.k2 = b.k2 := by simp [kEq, csEq, cEq, and_assoc]
mutual
def seq : ST → ST → Bool
  | .mk h l, .mk h' l' => (decide (h.k = h'.k) && kEq h h') && (decide (h.ts = h'.ts) && seqL l l')
def seqL : List ST → List ST → Bool
  | [], [] => true
  | c :: t, c' :: t' => seq c c' && seqL t t'
  | _, _ => false
end
theorem seq_eq (a b : ST) : seq a b = ((decide (a.h.k = b.h.k) && kEq a.h b.h) && (decide (a.h.ts = b.h.ts) && seqL a.subs b.subs)) := by cases a; cases b; rw [seq]; rfl
theorem seqL_len : ∀ {l l' : List ST}, l.length ≠ l'.length → seqL l l' = false
  | [], [], h => absurd rfl h
  | [], _ :: _, _ => by simp [seqL]
  | _ :: _, [], _ => by simp [seqL]
  | c :: t, c' :: t', h => by rw [seqL, seqL_len (by simpa using h), Bool.and_false]
theorem sv_drop {rs : List SVal} {k : Nat} (hk : k < rs.length) : (rs.map Prod.fst).drop k = (rs.getD k s0).1 :: (rs.map Prod.fst).drop (k + 1) := by
  rw [List.drop_eq_getElem_cons (by simpa using hk)]
  simp [List.getD, List.getElem?_eq_getElem hk]
theorem seqL_no {rs rs2 : List SVal} {k : Nat} (h1 : k < rs.length) (h2 : k < rs2.length) (h : seq (rs.getD k s0).1 (rs2.getD k s0).1 = false) : seqL ((rs.map Prod.fst).drop k) ((rs2.map Prod.fst).drop k) = false := by
  rw [sv_drop h1, sv_drop h2, seqL, h, Bool.false_and]
theorem seqL_yes {rs rs2 : List SVal} {k : Nat} (h1 : k < rs.length) (h2 : k < rs2.length) (h : seq (rs.getD k s0).1 (rs2.getD k s0).1 = true) : seqL ((rs.map Prod.fst).drop (k + 1)) ((rs2.map Prod.fst).drop (k + 1)) = seqL ((rs.map Prod.fst).drop k) ((rs2.map Prod.fst).drop k) := by
  rw [sv_drop h1, sv_drop h2, seqL, h, Bool.true_and]
mutual
theorem seq_iff : ∀ (a b : ST), seq a b = true ↔ a = b
  | .mk h l, .mk h' l' => by
    rw [seq, Bool.and_eq_true, Bool.and_eq_true, Bool.and_eq_true, decide_eq_true_iff, decide_eq_true_iff, kEq_iff, seqL_iff l l']
    obtain ⟨a, b, c, d, e⟩ := h
    obtain ⟨a', b', c', d', e'⟩ := h'
    simp only [ST.mk.injEq, SH.mk.injEq]
    constructor
    · rintro ⟨⟨h1, h2, h3, h4⟩, h5, h6⟩; exact ⟨⟨h1, h2, h3, h4, h5⟩, h6⟩
    · rintro ⟨⟨h1, h2, h3, h4, h5⟩, h6⟩; exact ⟨⟨h1, h2, h3, h4⟩, h5, h6⟩
theorem seqL_iff : ∀ (l l' : List ST), seqL l l' = true ↔ l = l'
  | [], [] => by simp [seqL]
  | [], _ :: _ => by simp [seqL]
  | _ :: _, [] => by simp [seqL]
  | c :: t, c' :: t' => by
    rw [seqL, Bool.and_eq_true, seq_iff c c', seqL_iff t t']
    simp
end
theorem seq_no {a b : ST} (h : ((¬ a.h.k = b.h.k ∨ kEq a.h b.h = false) ∨ ¬ a.h.ts.length = b.h.ts.length) ∨ ¬ a.subs.length = b.subs.length) : seq a b = false := by
  rw [seq_eq]
  rcases h with ((h | h) | h) | h
  · rw [decide_eq_false h]; rfl
  · rw [h, Bool.and_false]; rfl
  · rw [decide_eq_false (ne_of_len h), Bool.false_and, Bool.and_false]
  · rw [seqL_len h, Bool.and_false, Bool.and_false]
theorem seq_ts {a b : ST} (h : a.h.ts ≠ b.h.ts) : seq a b = false := by rw [seq_eq, decide_eq_false h, Bool.false_and, Bool.and_false]
theorem seq_sub {a b : ST} (h1 : a.h.k = b.h.k) (h2 : kEq a.h b.h = true) (h3 : a.h.ts = b.h.ts) : seq a b = seqL a.subs b.subs := by
  rw [seq_eq, decide_eq_true h1, h2, decide_eq_true h3]; rfl
theorem ssz_at {a : ST} {rs : List SVal} {i n : Nat} (h : a.subs = rs.map Prod.fst) (hi : i < rs.length) (hn : SizeOf.sizeOf a ≤ n + 1) : SizeOf.sizeOf (rs.getD i s0).1 ≤ n := by
  have h1 : (rs.getD i s0).1 ∈ a.subs := by rw [h]; exact sv_mem hi
  have h2 := List.sizeOf_lt_of_mem h1
  have h3 : SizeOf.sizeOf a.subs < SizeOf.sizeOf a := by
    cases a with
    | mk h l => simp [ST.subs]; omega
  omega
theorem s_pos (a : ST) : 0 < SizeOf.sizeOf a := by cases a; simp; omega
end Go.Gx.T8
namespace Go.Gx.T8
open Go.Gx Go.Gx.T3 Go.Gx.T4 Go.Gx.T6
abbrev L8 : List CT := [.mk ⟨1, true, 1, false, 4, true, 2⟩ [], .mk ⟨1, true, 2, false, 4, true, 1⟩ []]
abbrev S80 : ST := .mk ⟨1, 0, 4, 0, []⟩ []
abbrev S81 : ST := .mk ⟨1, 0, 4, 0, [(0, 0, 2), (2, 0, 0)]⟩ []
theorem L8_steps : stepsOf [] L8 = [S80, S81] := (seqL_iff _ _).1 (by decide +kernel)
theorem L8_open {qs : List SVal} (h : stepsOf [] L8 = qs.map Prod.fst) : ∃ a0 b0 a1 b1, qs = [(S80, a0, b0), (S81, a1, b1)] := by
  rw [L8_steps] at h
  match qs, h with
  | [(c0, a0, b0), (c1, a1, b1)], h =>
    simp only [List.map_cons, List.map_nil, List.cons.injEq, and_true] at h
    obtain ⟨rfl, rfl⟩ := h
    exact ⟨a0, b0, a1, b1, rfl⟩
end Go.Gx.T8
namespace Go.Gx.T8
theorem s_subs (a : ST) : SizeOf.sizeOf a.subs < SizeOf.sizeOf a := by
  cases a with
  | mk h l => simp [ST.subs]; omega
end Go.Gx.T8
namespace Go.Gx.T8
open Go.Gx Go.Gx.T3 Go.Gx.T4 Go.Gx.T6
theorem sv_getD {qs : List SVal} {cs : List ST} (h : cs = qs.map Prod.fst) (k : Nat) : (qs.getD k s0).1 = cs.getD k s0.1 := by
  rw [h]
  simp only [List.getD, List.getElem?_map]
  cases qs[k]? <;> rfl
theorem steps_at {rs : List (CT × Value)} {ch : List CT} {k : Nat} (hk : k < rs.length) : (stepsOf ch (rs.map Prod.fst)).getD k s0.1 = stepOf (ch ++ (rs.map Prod.fst).take k) (rs.getD k d0).1 := by
  have e : rs.map Prod.fst = (rs.map Prod.fst).take k ++ ((rs.getD k d0).1 :: (rs.map Prod.fst).drop (k + 1)) := by
    rw [← map_drop (d := d0) hk, List.take_append_drop]
  have h2 : stepsOf ch (rs.map Prod.fst) = stepsOf ch ((rs.map Prod.fst).take k) ++ (stepOf (ch ++ (rs.map Prod.fst).take k) (rs.getD k d0).1 :: stepsOf (ch ++ (rs.map Prod.fst).take k ++ [(rs.getD k d0).1]) ((rs.map Prod.fst).drop (k + 1))) := by
    conv => lhs; rw [e]
    rw [stepsOf_append]
    simp [stepsOf]
  have h3 : (stepsOf ch ((rs.map Prod.fst).take k)).length = k := by rw [stepsOf_len]; simp; omega
  rw [h2]
  simp [List.getD, List.getElem?_append_right, h3]
theorem steps_at_take {rs : List (CT × Value)} {n k : Nat} (hk : k < n) (hn : n ≤ rs.length) : (stepsOf [] ((rs.map Prod.fst).take n)).getD k s0.1 = stepOf ((rs.map Prod.fst).take k) (rs.getD k d0).1 := by
  have h1 : (rs.take n).getD k d0 = rs.getD k d0 := by simp [List.getD, List.getElem?_take, hk]
  have h2 := steps_at (rs := rs.take n) (ch := []) (k := k) (by simp; omega)
  rw [h1, List.map_take, List.take_take, Nat.min_eq_left (by omega)] at h2
  exact h2
end Go.Gx.T8

/- Walks: what Go functions of this chapter come to, each as a function on plain data; no condition but those that each theorem names. Printed by a program of this work (gen.py). -/
namespace Go.Proofs.Ytoflaphnlfggkaa
open Go.Gx Go.Gx.T4 Go.Gx.T3 Go.Gx.T6 Go.Gx.T8 Go.Gx.T4 Go.Gx.T3 Go.Gx.T8 Go.Gx.T4 Go.Gx.T3 Go.Gx.T8 Go.Gx.T6 Go.Gx.T4 Go.Gx.T3
theorem sz61 : SzIs Try.prog 61 3 := by
  unfold SzIs
  kernel_rfl
theorem sz92 : SzIs Try.prog 92 3 := by
  unfold SzIs
  kernel_rfl
theorem zr61 : ZeroIs Try.prog 61 (Value.agg #[Value.int .i64 0, Value.int .i64 0, Value.int .i64 0]) := by
  unfold ZeroIs
  kernel_rfl
theorem zr92 : ZeroIs Try.prog 92 (Value.agg #[Value.int .i64 0, Value.int .i64 0, Value.int .i64 0]) := by
  unfold ZeroIs
  kernel_rfl
theorem lf35 : leafT Try.prog 9 35 = some [4, 3] := by
  kernel_rfl
theorem ef35 : eqT Try.prog 9 35 = true := by
  kernel_rfl
theorem eg35 : Try.prog.eqGuardType Try.prog.depth 35 = false := by
  kernel_rfl
theorem cl67 : Callable Try.prog 67 := callable Try.func67 (by kernel_rfl) rfl
theorem cl68 : Callable Try.prog 68 := callable Try.func68 (by kernel_rfl) rfl
theorem cl74 : Callable Try.prog 74 := callable Try.func74 (by kernel_rfl) rfl
theorem c_keyof (hh : Hd)  (w : World)  :
    Calls Try.prog 52 #[Value.agg #[Value.bool hh.v0, Value.int .i64 hh.n0, Value.bool hh.v1, Value.int .i64 hh.n1, Value.bool hh.v2, Value.int .i64 hh.n2]] w (Ret fun r w' => r = Value.agg #[Value.int .i64 (keyTo hh 3 0), Value.int .i64 (keyTo hh 3 1), Value.int .i64 (keyTo hh 3 2)] ∧ Since nX w w') := by
  refine enter (args := [_]) (X := nX) (G := (fun _ => none)) (l := [(0, Value.agg #[Value.bool hh.v0, Value.int .i64 hh.n0, Value.bool hh.v1, Value.int .i64 hh.n1, Value.bool hh.v2, Value.int .i64 hh.n2])]) Try.func52 rfl Try.ntmps52 (fun _ _ h => by cases h) ⟨rfl, trivial⟩ (Nat.le_of_ble_eq_true rfl) ?_
  refine c_seq ?_
  refine c_region ?_
  refine r_box .none rfl rfl (IsRow.lit _) (fun b_1 => ?_)
  refine r_alloc .none rfl zr61 (IsRow.lit _) (fun b_2 => ?_)
  refine r_nil ?_
  refine e_next ?_
  refine c_seq ?_
  refine c_region ?_
  refine r_alloc .none rfl zr61 (IsRow.lit _) (fun b_3 => ?_)
  refine r_nil ?_
  refine e_next ?_
  refine c_seq ?_
  refine c_seq ?_
  refine c_region ?_
  refine r_val .none rfl (p_ldw (k := 2) Try.underlying36 rfl sz36 rfl rfl (rfl : _ = Value.agg #[_, _, _, _, _, _])) ?_
  refine r_val .none rfl (p_move rfl) ?_
  refine r_nil ?_
  refine e_next ?_
  refine c_block ?_
  refine c_name (d := 2) rfl (fun u_1 hu_1 => ?_)
  refine c_name (d := 3) rfl (fun u_2 hu_2 => ?_)
  refine c_name (d := 6) rfl (fun u_3 hu_3 => ?_)
  refine c_nameL (k := 1) rfl (fun A_4 hA_4 => ?_)
  refine c_nameL (k := 2) rfl (fun A_5 hA_5 => ?_)
  refine c_loop (σ := Nat) (fun f => [(7, Value.int .i64 (f : Nat)), (2, u_1), (3, u_2), (6, u_3)]) (fun f => [box b_3 3 61 (at_ [.int .i64 (keyTo hh f 0), .int .i64 (keyTo hh f 1), .int .i64 (keyTo hh f 2)]), A_4, A_5]) (fun _ => _) (fun f => f ≤ 3) (fun f => 3 - f) (0) (Nat.zero_le _) rfl ⟨rfl, rfl, rfl, rfl, trivial⟩ (.keep (fun _ _ h => box_congr (fun i hi => by match i, hi with | 0, _ => rfl | 1, _ => rfl | 2, _ => rfl) _ _ h) (.keep (fun _ _ h => h) (.keep (fun _ _ h => h) (.nil)))) (fun f hphi => ?_)
  subst hu_1
  subst hu_2
  subst hu_3
  subst hA_4
  subst hA_5
  obtain rfl | rfl | rfl | rfl : f = 0 ∨ f = 1 ∨ f = 2 ∨ f = 3 := by omega
  · skip
    refine c_seq ?_
    refine c_region ?_
    refine r_val .none rfl (p_lt rfl rfl) ?_
    refine r_say (d := 8) (v := Value.bool true) rfl ?_
    refine r_nil ?_
    refine e_next ?_
    refine c_seq ?_
    refine c_cond_t rfl ?_
    refine c_skip ?_
    refine e_next ?_
    refine c_seq ?_
    refine c_block ?_
    refine c_seq ?_
    refine c_region ?_
    refine r_val .none rfl (p_move rfl) ?_
    refine r_val .none rfl (p_indexa (k := 0) Try.underlying36 Try.underlying35 rfl sz35 rfl (IsRow.lit _) rfl rfl (by first | exact of_decide_eq_true rfl | omega) (rfl : _ = Value.agg #[_, _])) ?_
    refine r_alloc .none rfl zr35 (IsRow.lit _) (fun b_4 => ?_)
    refine r_val .none rfl (p_assign rfl) ?_
    refine r_stw (k := 0) .none sz35 rfl rfl (IsRow.lit _) (one_lit rfl rfl) rfl ?_
    refine r_nil ?_
    refine e_next ?_
    refine c_seq ?_
    refine c_region ?_
    refine r_val .none rfl (p_field Try.underlying35 rfl sz4 rfl) ?_
    refine r_val .none rfl (p_ld (k := 0) Try.underlying4 rfl rfl rfl (by first | exact of_decide_eq_true rfl | omega) (rfl : _ = Value.bool _)) ?_
    refine r_val .none rfl (p_not rfl) ?_
    refine r_nil ?_
    refine e_next ?_
    refine c_splitn (d := 13) rfl (fun h_6 => ?_) (fun h_6 => ?_)
    · skip
      have hv : vF hh 0 = false := h_6
      first
        | (exfalso; omega)
        | (
          refine c_cond_t rfl ?_
          refine c_region ?_
          refine r_val .none rfl (p_move rfl) ?_
          refine r_val .none rfl (p_field Try.underlying35 rfl sz3 rfl) ?_
          refine r_val .none rfl (p_ld (k := 0) Try.underlying3 rfl rfl rfl (by first | exact of_decide_eq_true rfl | omega) (rfl : _ = Value.int _ _)) ?_
          refine r_val .none rfl (p_iaddr (k := 0) Try.underlying61 sz3 rfl rfl (by first | exact of_decide_eq_true rfl | omega)) ?_
          refine r_st (k := 1) .none sz3 rfl rfl rfl rfl (by first | exact of_decide_eq_true rfl | omega) ?_
          refine r_nil ?_
          refine e_norm_block ?_
          refine e_next ?_
          refine c_region ?_
          refine r_val .none rfl (p_add rfl rfl (by omega)) ?_
          refine r_val .none rfl (p_move rfl) ?_
          refine r_nil ?_
          refine e_round (1) ⟨Nat.le_of_ble_eq_true rfl, Nat.le_of_ble_eq_true rfl⟩ rfl ⟨rfl, rfl, rfl, rfl, trivial⟩ (.drop (.keep (fun _ _ h => box_congr (fun i hi => by match i, hi with | 0, _ => exact (by first | exact congrArg (Value.int .i64) (key_set (h := hh) (f := 0) hv).symm | exact congrArg (Value.int .i64) ((show keyTo hh 0 0 = 0 by simp [keyTo]).trans (key_not (h := hh) (f := 0) hv).symm)) | 1, _ => exact congrArg (Value.int .i64) (key_else (h := hh) (f := 0) (i := 1) (by decide)).symm | 2, _ => exact congrArg (Value.int .i64) (key_else (h := hh) (f := 0) (i := 2) (by decide)).symm) _ _ h) (.keep (fun _ _ h => h) (.keep (fun _ _ h => h) (.nil)))))
          )
    · skip
      have hv : vF hh 0 = true := h_6
      first
        | (exfalso; omega)
        | (
          refine c_cond_f rfl ?_
          refine c_skip ?_
          refine e_norm_block ?_
          refine e_next ?_
          refine c_region ?_
          refine r_val .none rfl (p_add rfl rfl (by omega)) ?_
          refine r_val .none rfl (p_move rfl) ?_
          refine r_nil ?_
          refine e_round (1) ⟨Nat.le_of_ble_eq_true rfl, Nat.le_of_ble_eq_true rfl⟩ rfl ⟨rfl, rfl, rfl, rfl, trivial⟩ (.drop (.keep (fun _ _ h => box_congr (fun i hi => by match i, hi with | 0, _ => exact (by first | exact congrArg (Value.int .i64) (key_set (h := hh) (f := 0) hv).symm | exact congrArg (Value.int .i64) ((show keyTo hh 0 0 = 0 by simp [keyTo]).trans (key_not (h := hh) (f := 0) hv).symm)) | 1, _ => exact congrArg (Value.int .i64) (key_else (h := hh) (f := 0) (i := 1) (by decide)).symm | 2, _ => exact congrArg (Value.int .i64) (key_else (h := hh) (f := 0) (i := 2) (by decide)).symm) _ _ h) (.keep (fun _ _ h => h) (.keep (fun _ _ h => h) (.nil)))))
          )
  · skip
    refine c_seq ?_
    refine c_region ?_
    refine r_val .none rfl (p_lt rfl rfl) ?_
    refine r_say (d := 8) (v := Value.bool true) rfl ?_
    refine r_nil ?_
    refine e_next ?_
    refine c_seq ?_
    refine c_cond_t rfl ?_
    refine c_skip ?_
    refine e_next ?_
    refine c_seq ?_
    refine c_block ?_
    refine c_seq ?_
    refine c_region ?_
    refine r_val .none rfl (p_move rfl) ?_
    refine r_val .none rfl (p_indexa (k := 1) Try.underlying36 Try.underlying35 rfl sz35 rfl (IsRow.lit _) rfl rfl (by first | exact of_decide_eq_true rfl | omega) (rfl : _ = Value.agg #[_, _])) ?_
    refine r_alloc .none rfl zr35 (IsRow.lit _) (fun b_5 => ?_)
    refine r_val .none rfl (p_assign rfl) ?_
    refine r_stw (k := 0) .none sz35 rfl rfl (IsRow.lit _) (one_lit rfl rfl) rfl ?_
    refine r_nil ?_
    refine e_next ?_
    refine c_seq ?_
    refine c_region ?_
    refine r_val .none rfl (p_field Try.underlying35 rfl sz4 rfl) ?_
    refine r_val .none rfl (p_ld (k := 0) Try.underlying4 rfl rfl rfl (by first | exact of_decide_eq_true rfl | omega) (rfl : _ = Value.bool _)) ?_
    refine r_val .none rfl (p_not rfl) ?_
    refine r_nil ?_
    refine e_next ?_
    refine c_splitn (d := 13) rfl (fun h_7 => ?_) (fun h_7 => ?_)
    · skip
      have hv : vF hh 1 = false := h_7
      first
        | (exfalso; omega)
        | (
          refine c_cond_t rfl ?_
          refine c_region ?_
          refine r_val .none rfl (p_move rfl) ?_
          refine r_val .none rfl (p_field Try.underlying35 rfl sz3 rfl) ?_
          refine r_val .none rfl (p_ld (k := 0) Try.underlying3 rfl rfl rfl (by first | exact of_decide_eq_true rfl | omega) (rfl : _ = Value.int _ _)) ?_
          refine r_val .none rfl (p_iaddr (k := 1) Try.underlying61 sz3 rfl rfl (by first | exact of_decide_eq_true rfl | omega)) ?_
          refine r_st (k := 1) .none sz3 rfl rfl rfl rfl (by first | exact of_decide_eq_true rfl | omega) ?_
          refine r_nil ?_
          refine e_norm_block ?_
          refine e_next ?_
          refine c_region ?_
          refine r_val .none rfl (p_add rfl rfl (by omega)) ?_
          refine r_val .none rfl (p_move rfl) ?_
          refine r_nil ?_
          refine e_round (2) ⟨Nat.le_of_ble_eq_true rfl, Nat.le_of_ble_eq_true rfl⟩ rfl ⟨rfl, rfl, rfl, rfl, trivial⟩ (.drop (.keep (fun _ _ h => box_congr (fun i hi => by match i, hi with | 0, _ => exact congrArg (Value.int .i64) (key_else (h := hh) (f := 1) (i := 0) (by decide)).symm | 1, _ => exact (by first | exact congrArg (Value.int .i64) (key_set (h := hh) (f := 1) hv).symm | exact congrArg (Value.int .i64) ((show keyTo hh 1 1 = 0 by simp [keyTo]).trans (key_not (h := hh) (f := 1) hv).symm)) | 2, _ => exact congrArg (Value.int .i64) (key_else (h := hh) (f := 1) (i := 2) (by decide)).symm) _ _ h) (.keep (fun _ _ h => h) (.keep (fun _ _ h => h) (.nil)))))
          )
    · skip
      have hv : vF hh 1 = true := h_7
      first
        | (exfalso; omega)
        | (
          refine c_cond_f rfl ?_
          refine c_skip ?_
          refine e_norm_block ?_
          refine e_next ?_
          refine c_region ?_
          refine r_val .none rfl (p_add rfl rfl (by omega)) ?_
          refine r_val .none rfl (p_move rfl) ?_
          refine r_nil ?_
          refine e_round (2) ⟨Nat.le_of_ble_eq_true rfl, Nat.le_of_ble_eq_true rfl⟩ rfl ⟨rfl, rfl, rfl, rfl, trivial⟩ (.drop (.keep (fun _ _ h => box_congr (fun i hi => by match i, hi with | 0, _ => exact congrArg (Value.int .i64) (key_else (h := hh) (f := 1) (i := 0) (by decide)).symm | 1, _ => exact (by first | exact congrArg (Value.int .i64) (key_set (h := hh) (f := 1) hv).symm | exact congrArg (Value.int .i64) ((show keyTo hh 1 1 = 0 by simp [keyTo]).trans (key_not (h := hh) (f := 1) hv).symm)) | 2, _ => exact congrArg (Value.int .i64) (key_else (h := hh) (f := 1) (i := 2) (by decide)).symm) _ _ h) (.keep (fun _ _ h => h) (.keep (fun _ _ h => h) (.nil)))))
          )
  · skip
    refine c_seq ?_
    refine c_region ?_
    refine r_val .none rfl (p_lt rfl rfl) ?_
    refine r_say (d := 8) (v := Value.bool true) rfl ?_
    refine r_nil ?_
    refine e_next ?_
    refine c_seq ?_
    refine c_cond_t rfl ?_
    refine c_skip ?_
    refine e_next ?_
    refine c_seq ?_
    refine c_block ?_
    refine c_seq ?_
    refine c_region ?_
    refine r_val .none rfl (p_move rfl) ?_
    refine r_val .none rfl (p_indexa (k := 2) Try.underlying36 Try.underlying35 rfl sz35 rfl (IsRow.lit _) rfl rfl (by first | exact of_decide_eq_true rfl | omega) (rfl : _ = Value.agg #[_, _])) ?_
    refine r_alloc .none rfl zr35 (IsRow.lit _) (fun b_6 => ?_)
    refine r_val .none rfl (p_assign rfl) ?_
    refine r_stw (k := 0) .none sz35 rfl rfl (IsRow.lit _) (one_lit rfl rfl) rfl ?_
    refine r_nil ?_
    refine e_next ?_
    refine c_seq ?_
    refine c_region ?_
    refine r_val .none rfl (p_field Try.underlying35 rfl sz4 rfl) ?_
    refine r_val .none rfl (p_ld (k := 0) Try.underlying4 rfl rfl rfl (by first | exact of_decide_eq_true rfl | omega) (rfl : _ = Value.bool _)) ?_
    refine r_val .none rfl (p_not rfl) ?_
    refine r_nil ?_
    refine e_next ?_
    refine c_splitn (d := 13) rfl (fun h_8 => ?_) (fun h_8 => ?_)
    · skip
      have hv : vF hh 2 = false := h_8
      first
        | (exfalso; omega)
        | (
          refine c_cond_t rfl ?_
          refine c_region ?_
          refine r_val .none rfl (p_move rfl) ?_
          refine r_val .none rfl (p_field Try.underlying35 rfl sz3 rfl) ?_
          refine r_val .none rfl (p_ld (k := 0) Try.underlying3 rfl rfl rfl (by first | exact of_decide_eq_true rfl | omega) (rfl : _ = Value.int _ _)) ?_
          refine r_val .none rfl (p_iaddr (k := 2) Try.underlying61 sz3 rfl rfl (by first | exact of_decide_eq_true rfl | omega)) ?_
          refine r_st (k := 1) .none sz3 rfl rfl rfl rfl (by first | exact of_decide_eq_true rfl | omega) ?_
          refine r_nil ?_
          refine e_norm_block ?_
          refine e_next ?_
          refine c_region ?_
          refine r_val .none rfl (p_add rfl rfl (by omega)) ?_
          refine r_val .none rfl (p_move rfl) ?_
          refine r_nil ?_
          refine e_round (3) ⟨Nat.le_of_ble_eq_true rfl, Nat.le_of_ble_eq_true rfl⟩ rfl ⟨rfl, rfl, rfl, rfl, trivial⟩ (.drop (.keep (fun _ _ h => box_congr (fun i hi => by match i, hi with | 0, _ => exact congrArg (Value.int .i64) (key_else (h := hh) (f := 2) (i := 0) (by decide)).symm | 1, _ => exact congrArg (Value.int .i64) (key_else (h := hh) (f := 2) (i := 1) (by decide)).symm | 2, _ => exact (by first | exact congrArg (Value.int .i64) (key_set (h := hh) (f := 2) hv).symm | exact congrArg (Value.int .i64) ((show keyTo hh 2 2 = 0 by simp [keyTo]).trans (key_not (h := hh) (f := 2) hv).symm))) _ _ h) (.keep (fun _ _ h => h) (.keep (fun _ _ h => h) (.nil)))))
          )
    · skip
      have hv : vF hh 2 = true := h_8
      first
        | (exfalso; omega)
        | (
          refine c_cond_f rfl ?_
          refine c_skip ?_
          refine e_norm_block ?_
          refine e_next ?_
          refine c_region ?_
          refine r_val .none rfl (p_add rfl rfl (by omega)) ?_
          refine r_val .none rfl (p_move rfl) ?_
          refine r_nil ?_
          refine e_round (3) ⟨Nat.le_of_ble_eq_true rfl, Nat.le_of_ble_eq_true rfl⟩ rfl ⟨rfl, rfl, rfl, rfl, trivial⟩ (.drop (.keep (fun _ _ h => box_congr (fun i hi => by match i, hi with | 0, _ => exact congrArg (Value.int .i64) (key_else (h := hh) (f := 2) (i := 0) (by decide)).symm | 1, _ => exact congrArg (Value.int .i64) (key_else (h := hh) (f := 2) (i := 1) (by decide)).symm | 2, _ => exact (by first | exact congrArg (Value.int .i64) (key_set (h := hh) (f := 2) hv).symm | exact congrArg (Value.int .i64) ((show keyTo hh 2 2 = 0 by simp [keyTo]).trans (key_not (h := hh) (f := 2) hv).symm))) _ _ h) (.keep (fun _ _ h => h) (.keep (fun _ _ h => h) (.nil)))))
          )
  · skip
    refine c_seq ?_
    refine c_region ?_
    refine r_val .none rfl (p_lt rfl rfl) ?_
    refine r_say (d := 8) (v := Value.bool false) rfl ?_
    refine r_nil ?_
    refine e_next ?_
    refine c_seq ?_
    refine c_cond_f rfl ?_
    refine c_exit ?_
    refine e_exit_then ?_
    refine e_exit_then ?_
    refine e_exit_block ?_
    refine e_next ?_
    refine c_seq ?_
    refine c_region ?_
    refine r_val .none rfl (p_ldw (k := 0) Try.underlying61 rfl sz61 rfl rfl (rfl : _ = Value.agg #[_, _, _])) ?_
    refine r_stw (k := 1) .none sz61 rfl rfl (IsRow.lit _) (one_lit rfl rfl) rfl ?_
    refine r_nil ?_
    refine e_next ?_
    refine c_ret ?_
    refine e_ret1 Try.results52 (.cell (k := 1) rfl Try.underlying61 rfl sz61 rfl (rfl : _ = Value.agg #[_, _, _]) .nil) (fun w hm => ⟨?_, hm.since⟩)
    rfl
theorem c_idxT (v : Value) (zs : List TT) (t : TT) {G : Ghost} (hr : SlL G v 2 tmC tt0 zs) (w : World) (hG : Has G w) :
    Calls Try.prog 74 #[v, Value.agg #[Value.bool t.1, Value.int .i64 t.2]] w (Ret fun r w' => r = Value.int .i64 (idxF (sameT t) zs 0) ∧ Since nX w w') := by
  refine enter (args := [_, _]) (X := nX) (G := G) (l := [(0, v), (1, Value.agg #[Value.bool t.1, Value.int .i64 t.2])]) Try.func74 rfl Try.ntmps74 hG ⟨rfl, rfl, trivial⟩ (Nat.le_of_ble_eq_true rfl) ?_
  have hbd := hr.bound
  refine c_seq ?_
  refine c_region ?_
  refine r_box .none rfl rfl (IsRow.lit _) (fun b_1 => ?_)
  refine r_val .none rfl (p_assign rfl) ?_
  refine r_nil ?_
  refine e_next ?_
  refine c_seq ?_
  refine c_seq ?_
  refine c_region ?_
  refine r_val .none rfl (p_move rfl) ?_
  refine r_val .none rfl (p_leng Try.underlying124 rfl hr) ?_
  have bd_1 := (hr).bound
  refine r_val .none rfl (p_move rfl) ?_
  refine r_nil ?_
  refine e_next ?_
  refine c_block ?_
  refine c_name (d := 0) rfl (fun u_2 hu_2 => ?_)
  refine c_name (d := 3) rfl (fun u_3 hu_3 => ?_)
  refine c_name (d := 7) rfl (fun u_4 hu_4 => ?_)
  refine c_nameL (k := 0) rfl (fun A_5 hA_5 => ?_)
  refine c_loop (σ := Nat) (fun k => [(8, Value.int .i64 (k : Nat)), (0, u_2), (3, u_3), (7, u_4)]) (fun k => [A_5]) (fun _ => _) (fun k => k ≤ zs.length ∧ idxF (sameT t) (zs.drop k) k = idxF (sameT t) zs 0) (fun k => zs.length - k) (0) ⟨Nat.zero_le _, rfl⟩ rfl ⟨rfl, rfl, rfl, rfl, trivial⟩ (.keep (fun _ _ h => h) (.nil)) (fun k hphi => ?_)
  subst hu_2
  subst hu_3
  subst hu_4
  subst hA_5
  refine c_seq ?_
  refine c_region ?_
  refine r_val .none rfl (p_lt rfl rfl) ?_
  refine r_nil ?_
  refine e_next ?_
  refine c_seq ?_
  refine c_splitd (d := 9) rfl (fun h_6 => ?_) (fun h_6 => ?_)
  · skip
    first
      | (exfalso; omega)
      | (
        refine c_cond_t rfl ?_
        refine c_skip ?_
        refine e_next ?_
        refine c_seq ?_
        refine c_block ?_
        refine c_seq ?_
        refine c_region ?_
        refine r_val .none rfl (p_move rfl) ?_
        refine r_val .none rfl (p_assign rfl) ?_
        refine r_nil ?_
        refine e_next ?_
        refine c_seq ?_
        refine c_region_q mixed (by kernel_rfl) ?_
        refine q_val .none rfl (p_ldw (k := 0) Try.underlying35 rfl sz35 rfl rfl (rfl : _ = Value.agg #[_, _])) ?_
        refine q_val .none rfl (p_move rfl) ?_
        refine q_val .none rfl (p_move rfl) ?_
        refine q_iaddr_g .none rfl Try.underlying124 sz35 rfl hr rfl (by first | exact of_decide_eq_true rfl | omega) (fun p_8 o_9 R_7 => ?_)
        refine q_val .none rfl (p_ldga0 Try.underlying35 rfl sz35 rfl R_7 (by first | exact of_decide_eq_true rfl | omega) (rfl : _ = Value.agg #[_, _])) ?_
        refine q_val .none rfl (p_eqa rfl rfl (eq_flat Try.underlying35 rfl lf35 ef35 eg35 (.cons (.bool Try.underlying4) (.cons (.int Try.underlying3) (.nil))) (.cons (.bool Try.underlying4) (.cons (.int Try.underlying3) (.nil))))) ?_
        refine q_nil ?_
        refine e_next ?_
        refine c_split (d := 16) rfl (fun h_10 => ?_) (fun h_10 => ?_)
        · skip
          have hE : sameT t (zs.getD k tt0) = true := h_10
          first
            | (exfalso; omega)
            | (
              refine c_cond_t rfl ?_
              refine c_seq ?_
              refine c_region ?_
              refine r_val .none rfl (p_move rfl) ?_
              refine r_val .none rfl (p_assign rfl) ?_
              refine r_nil ?_
              refine e_next ?_
              refine c_ret ?_
              refine e_ret_block ?_
              refine e_ret_then ?_
              refine e_ret_then ?_
              refine e_ret_block ?_
              refine e_ret_then ?_
              refine e_ret1 Try.results74 (.tmp rfl .nil) (fun w hm => ⟨?_, hm.since⟩)
              first
              | (rw [← hphi.2, idxF_yes (d := tt0) (by omega) hE])
              | (rw [← hphi.2, List.drop_eq_nil_of_le (by omega)]; rfl)
              )
        · skip
          have hE : sameT t (zs.getD k tt0) = false := h_10
          first
            | (exfalso; omega)
            | (
              refine c_cond_f rfl ?_
              refine c_skip ?_
              refine e_norm_block ?_
              refine e_next ?_
              refine c_region ?_
              refine r_val .none rfl (p_add rfl rfl (by omega)) ?_
              refine r_val .none rfl (p_move rfl) ?_
              refine r_nil ?_
              refine e_round (k + 1) ⟨⟨by omega, by rw [← hphi.2, idxF_no (d := tt0) (by omega) hE]⟩, by omega⟩ rfl ⟨rfl, rfl, rfl, rfl, trivial⟩ (.keep (fun _ _ h => h) (.nil))
              )
        )
  · skip
    first
      | (exfalso; omega)
      | (
        refine c_cond_f rfl ?_
        refine c_exit ?_
        refine e_exit_then ?_
        refine e_exit_then ?_
        refine e_exit_block ?_
        refine e_next ?_
        refine c_seq ?_
        refine c_region ?_
        refine r_val .none rfl (p_assign rfl) ?_
        refine r_nil ?_
        refine e_next ?_
        refine c_ret ?_
        refine e_ret1 Try.results74 (.tmp rfl .nil) (fun w hm => ⟨?_, hm.since⟩)
        first
        | (rw [← hphi.2, idxF_yes (d := tt0) (by omega) hE])
        | (rw [← hphi.2, List.drop_eq_nil_of_le (by omega)]; rfl)
        )
theorem c_own8 (c : CT) (sv : Value) (f : Nat) (hf : f < 3) (h1 : sv.oneCell' = true) (w : World)  :
    Calls Try.prog 68 #[Value.agg #[Value.int .i64 c.h.k, Value.bool c.h.v0, Value.int .i64 c.h.n0, Value.bool c.h.v1, Value.int .i64 c.h.n1, Value.bool c.h.v2, Value.int .i64 c.h.n2, sv], Value.int .i64 (f : Nat)] w (Ret fun r w' => r = Value.tuple #[Value.agg #[Value.int .i64 (f : Nat), Value.int .i64 (-1), Value.int .i64 (ownG c.h f)], Value.bool (decide (0 ≤ ownG c.h f))] ∧ Since nX w w') := by
  refine enter (args := [_, _]) (X := nX) (G := (fun _ => none)) (l := [(0, Value.agg #[Value.int .i64 c.h.k, Value.bool c.h.v0, Value.int .i64 c.h.n0, Value.bool c.h.v1, Value.int .i64 c.h.n1, Value.bool c.h.v2, Value.int .i64 c.h.n2, sv]), (1, Value.int .i64 (f : Nat))]) Try.func68 rfl Try.ntmps68 (fun _ _ h => by cases h) ⟨rfl, rfl, trivial⟩ (Nat.le_of_ble_eq_true rfl) ?_
  refine c_seq ?_
  refine c_region ?_
  refine r_box .none rfl rfl (IsRow.lit _) (fun b_1 => ?_)
  refine r_alloc .none rfl zr92 (IsRow.lit _) (fun b_2 => ?_)
  refine r_val .none rfl (p_assign rfl) ?_
  refine r_freezeX (k := 1) rfl (fun G_1 hn_2 hR_3 => ?_)
  have hR_4 : RowAt G_1 b_1 0 8 (at_ [Value.int .i64 c.h.k, Value.bool c.h.v0, Value.int .i64 c.h.n0, Value.bool c.h.v1, Value.int .i64 c.h.n1, Value.bool c.h.v2, Value.int .i64 c.h.n2, sv]) := RowAt.congr hR_3 (fun i hi => by match i, hi with | 0, _ => rfl | 1, _ => rfl | 2, _ => rfl | 3, _ => rfl | 4, _ => rfl | 5, _ => rfl | 6, _ => rfl | 7, _ => rfl)
  refine r_nil ?_
  refine e_next ?_
  refine c_seq ?_
  refine c_region_q mixed (by kernel_rfl) ?_
  refine q_val .none rfl (p_field Try.underlying38 rfl sz36 rfl) ?_
  refine q_val .none rfl (p_move rfl) ?_
  refine q_val .none rfl (p_slarr (m := f) Try.underlying36 sz35 rfl rfl (by first | exact of_decide_eq_true rfl | omega) (by decide)) ?_
  have hs_5 := slarr_g (n := 3) (m := f) (sz := 2) (RowAt.sub (j := 1) (m := 6) hR_4 (by decide)) (by first | exact of_decide_eq_true rfl | omega) (by decide)
  have hsl := terms_sl (h := c.h) hf hs_5
  refine q_val .none rfl (p_move rfl) ?_
  refine q_val .none rfl (p_field Try.underlying38 rfl sz36 rfl) ?_
  refine q_val .none rfl (p_iaddr (k := f) Try.underlying36 sz35 rfl rfl (by first | exact of_decide_eq_true rfl | omega)) ?_
  have R_6 := RowAt.sub (j := f * 2) (m := 2) (RowAt.sub (j := 1) (m := 6) hR_4 (by decide)) (by omega)
  refine q_val .none rfl (p_ldga0 Try.underlying35 rfl sz35 rfl R_6 (by first | exact of_decide_eq_true rfl | omega) (term_at hf)) ?_
  refine q_call (vs := [_, _]) .none rfl cl74 rfl (fun w hw => c_idxT _ _ (vF c.h f, nF c.h f) hsl w hw) ?_
  refine q_val .none rfl (p_assign rfl) ?_
  refine q_nil ?_
  refine e_next ?_
  refine c_seq ?_
  refine c_region ?_
  refine r_val .none rfl (p_move rfl) ?_
  refine r_val .none rfl (p_move rfl) ?_
  refine r_val .none rfl (p_build (vs := [(0, Value.int _ _), (1, Value.int _ _), (2, Value.int _ _)]) rfl (bl92_0i1_1i1_2i1 _ _ _)) ?_
  refine r_val .none rfl (p_move rfl) ?_
  refine r_val .none rfl (p_ge rfl rfl) ?_
  refine r_stw (k := 0) .none sz92 rfl rfl (IsRow.lit _) (one_lit rfl rfl) rfl ?_
  refine r_val .none rfl (p_assign rfl) ?_
  refine r_nil ?_
  refine e_next ?_
  refine c_ret ?_
  refine e_retn Try.results68 (.cell (k := 0) rfl Try.underlying92 rfl sz92 rfl (rfl : _ = Value.agg #[_, _, _]) (.tmp rfl .nil)) rfl (fun w hm => ⟨?_, hm.since⟩)
  rfl
theorem c_tst1 (x : PL) (b : Bool) (n : Int) (p : Nat) {G : Ghost} (hR : RowAt G p 0 2 (at_ [Value.bool b, Value.int .i64 n])) (w : World) (hG : Has G w) :
    Calls Try.prog 67 #[Value.agg #[Value.int .i64 x.1, Value.int .i64 x.2.1, Value.int .i64 x.2.2], Value.pointer (some ⟨p, 0, none⟩)] w (Ret fun r w' => r = Value.bool (isV n x) ∧ Since nX w w') := by
  refine enter (args := [_, _]) (X := nX) (G := G) (l := [(0, Value.agg #[Value.int .i64 x.1, Value.int .i64 x.2.1, Value.int .i64 x.2.2]), (1, Value.pointer (some ⟨p, 0, none⟩))]) Try.func67 rfl Try.ntmps67 hG ⟨rfl, rfl, trivial⟩ (Nat.le_of_ble_eq_true rfl) ?_
  refine c_seq ?_
  refine c_region ?_
  refine r_box .none rfl rfl (IsRow.lit _) (fun b_1 => ?_)
  refine r_val .none rfl (p_assign rfl) ?_
  refine r_nil ?_
  refine e_next ?_
  refine c_seq ?_
  refine c_region ?_
  refine r_val .none rfl (p_field Try.underlying84 rfl sz3 rfl) ?_
  refine r_val .none rfl (p_ld (k := 0) Try.underlying3 rfl rfl rfl (by first | exact of_decide_eq_true rfl | omega) (rfl : _ = Value.int _ _)) ?_
  refine r_val .none rfl (p_field Try.underlying35 rfl sz3 rfl) ?_
  refine r_val .none rfl (p_ldg (j := 1) Try.underlying3 rfl rfl hR (by first | exact of_decide_eq_true rfl | omega) (rfl : _ = Value.int _ _)) ?_
  refine r_val .none rfl (p_eq rfl rfl) ?_
  refine r_val .none rfl (p_assign rfl) ?_
  refine r_nil ?_
  refine e_next ?_
  refine c_ret ?_
  refine e_ret1 Try.results67 (.tmp rfl .nil) (fun w hm => ⟨?_, hm.since⟩)
  rfl
theorem c_tests8 (va : Value) (l : List CT) (c : CT) (sv : Value) {G : Ghost} (hlen : l.length ≤ 1000) (hs : Cs G va l) (h1 : sv.oneCell' = true) (w : World) (hG : Has G w) :
    Calls Try.prog 53 #[va, Value.agg #[Value.int .i64 c.h.k, Value.bool c.h.v0, Value.int .i64 c.h.n0, Value.bool c.h.v1, Value.int .i64 c.h.n1, Value.bool c.h.v2, Value.int .i64 c.h.n2, sv]] w (Ret fun r w' => ∃ H : Ghost, (∀ b, H b ≠ none → w.heap.size ≤ b) ∧ Has H w' ∧ SlL H r 3 tC t0 (testsTo l c.h 3) ∧ Since nX w w') := by
  refine enter (args := [_, _]) (X := nX) (G := G) (l := [(0, va), (1, Value.agg #[Value.int .i64 c.h.k, Value.bool c.h.v0, Value.int .i64 c.h.n0, Value.bool c.h.v1, Value.int .i64 c.h.n1, Value.bool c.h.v2, Value.int .i64 c.h.n2, sv])]) Try.func53 rfl Try.ntmps53 hG ⟨rfl, rfl, trivial⟩ (Nat.le_of_ble_eq_true rfl) ?_
  refine c_seq ?_
  refine c_region ?_
  refine r_box .none rfl rfl (IsRow.lit _) (fun b_1 => ?_)
  refine r_val .none rfl (p_assign rfl) ?_
  refine r_nil ?_
  refine e_next ?_
  refine c_seq ?_
  refine c_region ?_
  refine r_val .none rfl (p_move rfl) ?_
  refine r_callm (vs := [_]) .none rfl cl41 rfl (fun w hw => c_bnd _ _ hlen hs w hw) (fun G_1 v_4 hn_2 hr_3 => ?_)
  replace hs := hs.mono hn_2.le
  obtain ⟨zs, hzp, hzs, hzq⟩ := hr_3
  refine r_val .none rfl (p_assign rfl) ?_
  refine r_nil ?_
  refine e_next ?_
  refine c_seq ?_
  refine c_region ?_
  refine r_val .none rfl (p_assign rfl) ?_
  refine r_nil ?_
  refine e_next ?_
  refine c_seq ?_
  refine c_seq ?_
  refine c_region ?_
  refine r_val .none rfl (p_field Try.underlying38 rfl sz36 rfl) ?_
  refine r_val .none rfl (p_lda (k := 0) Try.underlying36 rfl sz36 rfl rfl (by first | exact of_decide_eq_true rfl | omega) (rfl : _ = Value.agg #[_, _, _, _, _, _])) ?_
  refine r_val .none rfl (p_move rfl) ?_
  refine r_nil ?_
  refine e_next ?_
  refine c_block ?_
  refine c_nilrow 92 3 ?_
  refine c_name (d := 3) rfl (fun u_6 hu_6 => ?_)
  refine c_name (d := 4) rfl (fun u_7 hu_7 => ?_)
  refine c_name (d := 5) rfl (fun u_8 hu_8 => ?_)
  refine c_name (d := 15) rfl (fun u_9 hu_9 => ?_)
  refine c_nameL (k := 1) rfl (fun A_10 hA_10 => ?_)
  refine c_loop (σ := Nat × Value × Ghost) (fun s => [(16, Value.int .i64 (s.1 : Nat)), (6, s.2.1), (3, u_6), (4, u_7), (5, u_8), (15, u_9)]) (fun s => [rowA (s.2.1) 92 3 ((testsTo l c.h s.1)).length (((testsTo l c.h s.1)).flatMap tC), A_10]) (fun s => s.2.2) (fun s => s.1 ≤ 3 ∧ GNew w nX G_1 s.2.2) (fun s => 3 - s.1) ((0, _, _)) ⟨Nat.zero_le _, GNew.refl _ _ _⟩ rfl ⟨rfl, rfl, rfl, rfl, rfl, rfl, trivial⟩ (.keep (fun _ _ h => rowA_nil rfl _ _ h) (.keep (fun _ _ h => h) (.nil))) (fun s hphi => ?_)
  subst hu_6
  subst hu_7
  subst hu_8
  subst hu_9
  subst hA_10
  obtain ⟨f, v, H⟩ := s
  obtain ⟨hf, hgn⟩ := hphi
  dsimp only at hf hgn ⊢
  refine c_row1 (k := 0) rfl (fun ov => ?_)
  refine c_rowlen (k := 0) rfl (fun l63 => ?_)
  replace hs := hs.mono hgn.le
  replace hzq := hzq.mono hgn.le
  obtain rfl | rfl | rfl | rfl : f = 0 ∨ f = 1 ∨ f = 2 ∨ f = 3 := by omega
  · skip
    refine c_seq ?_
    refine c_region ?_
    refine r_val .none rfl (p_lt rfl rfl) ?_
    refine r_say (d := 17) (v := Value.bool true) rfl ?_
    refine r_nil ?_
    refine e_next ?_
    refine c_seq ?_
    refine c_cond_t rfl ?_
    refine c_skip ?_
    refine e_next ?_
    refine c_seq ?_
    refine c_block ?_
    refine c_seq ?_
    refine c_region ?_
    refine r_val .none rfl (p_move rfl) ?_
    refine r_val .none rfl (p_indexa (k := 0) Try.underlying36 Try.underlying35 rfl sz35 rfl (IsRow.lit _) rfl rfl (by first | exact of_decide_eq_true rfl | omega) (rfl : _ = Value.agg #[_, _])) ?_
    refine r_alloc .none rfl zr35 (IsRow.lit _) (fun b_2 => ?_)
    refine r_val .none rfl (p_assign rfl) ?_
    refine r_stw (k := 0) .none sz35 rfl rfl (IsRow.lit _) (one_lit rfl rfl) rfl ?_
    refine r_nil ?_
    refine e_next ?_
    refine c_seq ?_
    refine c_seq ?_
    refine c_region ?_
    refine r_freezeX (k := 0) rfl (fun G_11 hn_12 hR_13 => ?_)
    replace hs := hs.mono hn_12.le
    replace hzq := hzq.mono hn_12.le
    have hR_14 : RowAt G_11 b_2 0 2 (at_ [Value.bool (vF c.h 0), Value.int .i64 (nF c.h 0)]) := RowAt.congr hR_13 (fun i hi => by match i, hi with | 0, _ => rfl | 1, _ => rfl)
    refine r_val .none rfl (p_field Try.underlying35 rfl sz4 rfl) ?_
    refine r_val .none rfl (p_ldg (j := 0) Try.underlying4 rfl rfl hR_14 (by first | exact of_decide_eq_true rfl | omega) (rfl : _ = Value.bool _)) ?_
    refine r_val .none rfl (p_not rfl) ?_
    refine r_nil ?_
    refine e_next ?_
    refine c_splitn (d := 22) rfl (fun h_15 => ?_) (fun h_15 => ?_)
    · skip
      have hv : vF c.h 0 = false := h_15
      first
        | (exfalso; omega)
        | (
          refine c_cond_t rfl ?_
          refine c_exit ?_
          refine e_exit_then ?_
          refine e_exit_block ?_
          refine e_next ?_
          refine c_region ?_
          refine r_val .none rfl (p_add rfl rfl (by omega)) ?_
          refine r_val .none rfl (p_move rfl) ?_
          refine r_nil ?_
          refine e_round ((1, _, _)) ⟨⟨Nat.le_of_ble_eq_true rfl, (hgn.trans hn_12)⟩, Nat.le_of_ble_eq_true rfl⟩ rfl ⟨rfl, rfl, rfl, rfl, rfl, rfl, trivial⟩ (.keep (fun _ _ h => rowA_same (by show testsTo l c.h (0 + 1) = _; rw [testsTo_succ, (by first | exact T1 hv | exact testF_n hv hbn hdn : testF l c.h 0 = []), List.append_nil]) _ _ h) (.keep (fun _ _ h => h) (.nil)))
          )
    · skip
      have hv : vF c.h 0 = true := h_15
      first
        | (exfalso; omega)
        | (
          refine c_cond_f rfl ?_
          refine c_skip ?_
          refine e_next ?_
          refine c_seq ?_
          refine c_region ?_
          refine r_val .none rfl (p_move rfl) ?_
          refine r_val .none rfl (p_mkfunc (vs := [_]) rfl) ?_
          refine r_call (vs := [_, _]) .none rfl cl66 rfl (fun w hw => c_idxP _ _ _ _ _ hzq cl67 (fun x w hw => c_tst1 x _ _ _ hR_14 w hw) w hw) ?_
          refine r_val .none rfl (p_assign rfl) ?_
          refine r_nil ?_
          refine e_next ?_
          refine c_seq ?_
          refine c_region ?_
          refine r_val .none rfl (p_move rfl) ?_
          refine r_val .none rfl (p_ge rfl rfl) ?_
          refine r_nil ?_
          refine e_next ?_
          refine c_splitd (d := 27) rfl (fun h_16 => ?_) (fun h_16 => ?_)
          · skip
            obtain ⟨i, hi1, hi2, hi3⟩ := idxF_some t0 (Int.le_refl 0) (h_16)
            rw [Int.zero_add] at hi1
            have hbd := found_bound hzp hi2 hi3
            first
              | (exfalso; omega)
              | (
                refine c_cond_t rfl ?_
                refine c_region_d (fun j => [14, 15].contains j) _ mixed (.keep (fun _ _ h => h) (.keep (fun _ _ h => h) (.nil))) ?_
                refine d_val1 0 rfl rfl (by kernel_rfl) (fun j hj => by have h : 15 < j := (Nat.lt_of_lt_of_le (by decide : 15 < 16) hj); simp; omega) .none rfl (p_move rfl) ?_
                refine d_val1 1 rfl rfl (by kernel_rfl) (fun j hj => by have h : 15 < j := (Nat.lt_of_lt_of_le (by decide : 15 < 16) hj); simp; omega) .none rfl (p_move rfl) ?_
                refine d_val1 2 rfl rfl (by kernel_rfl) (fun j hj => by have h : 15 < j := (Nat.lt_of_lt_of_le (by decide : 15 < 16) hj); simp; omega) .none rfl (p_move rfl) ?_
                refine d_val1 3 rfl rfl (by kernel_rfl) (fun j hj => by have h : 15 < j := (Nat.lt_of_lt_of_le (by decide : 15 < 16) hj); simp; omega) .none rfl (p_move rfl) ?_
                refine d_say (d := 31) (v := Value.int .i64 ((i : Nat) : Int)) (congrArg (fun x => some (Value.int .i64 x)) (by first | exact hi1 | omega)) ?_
                refine d_iaddr_g 4 rfl rfl (by kernel_rfl) (fun j hj => by have h : 15 < j := (Nat.lt_of_lt_of_le (by decide : 15 < 16) hj); simp; omega) .none rfl Try.underlying81 sz84 rfl hzq rfl (by first | exact of_decide_eq_true rfl | omega) (fun p_18 o_19 R_17 => ?_)
                refine d_val1 5 rfl rfl (by kernel_rfl) (fun j hj => by have h : 15 < j := (Nat.lt_of_lt_of_le (by decide : 15 < 16) hj); simp; omega) .none rfl (p_field Try.underlying84 rfl sz3 rfl) ?_
                refine d_val1 6 rfl rfl (by kernel_rfl) (fun j hj => by have h : 15 < j := (Nat.lt_of_lt_of_le (by decide : 15 < 16) hj); simp; omega) .none rfl (p_ldg (j := 1) Try.underlying3 rfl rfl R_17 (by first | exact of_decide_eq_true rfl | omega) (rfl : _ = Value.int _ _)) ?_
                refine d_val1 7 rfl rfl (by kernel_rfl) (fun j hj => by have h : 15 < j := (Nat.lt_of_lt_of_le (by decide : 15 < 16) hj); simp; omega) .none rfl (p_move rfl) ?_
                refine d_val1 8 rfl rfl (by kernel_rfl) (fun j hj => by have h : 15 < j := (Nat.lt_of_lt_of_le (by decide : 15 < 16) hj); simp; omega) .none rfl (p_move rfl) ?_
                refine d_say (d := 36) (v := Value.int .i64 ((i : Nat) : Int)) (congrArg (fun x => some (Value.int .i64 x)) (by first | exact hi1 | omega)) ?_
                refine d_iaddr_g 9 rfl rfl (by kernel_rfl) (fun j hj => by have h : 15 < j := (Nat.lt_of_lt_of_le (by decide : 15 < 16) hj); simp; omega) .none rfl Try.underlying81 sz84 rfl hzq rfl (by first | exact of_decide_eq_true rfl | omega) (fun p_21 o_22 R_20 => ?_)
                refine d_val1 10 rfl rfl (by kernel_rfl) (fun j hj => by have h : 15 < j := (Nat.lt_of_lt_of_le (by decide : 15 < 16) hj); simp; omega) .none rfl (p_field Try.underlying84 rfl sz3 rfl) ?_
                refine d_val1 11 rfl rfl (by kernel_rfl) (fun j hj => by have h : 15 < j := (Nat.lt_of_lt_of_le (by decide : 15 < 16) hj); simp; omega) .none rfl (p_ldg (j := 2) Try.underlying3 rfl rfl R_20 (by first | exact of_decide_eq_true rfl | omega) (rfl : _ = Value.int _ _)) ?_
                refine d_val1 12 rfl rfl (by kernel_rfl) (fun j hj => by have h : 15 < j := (Nat.lt_of_lt_of_le (by decide : 15 < 16) hj); simp; omega) .none rfl (p_build (vs := [(0, Value.int _ _), (1, Value.int _ _), (2, Value.int _ _)]) rfl (bl92_0i1_1i1_2i1 _ _ _)) ?_
                refine d_eff 13 rfl (by kernel_rfl) (fun K_23 hKK_23 hcK_23 => ?_)
                refine r_bslice (vs := [(0, Value.agg #[_, _, _])]) (c := #[_, _, _]) .none rfl Try.underlying62 el92 rfl rfl rfl (bs92_10a3 _ _ _) (IsRow.lit _) (fun b_3 => ?_)
                refine r_nil (e_d (i := 13) (brk := (fun j => [14, 15].contains j)) (ph' := true) hKK_23 hcK_23 rfl (fun _ => GLe.refl _) (fun _ => .drop (.keep (fun _ _ h => h) (.keep (fun _ _ h => h) (.nil)))) ?_)
                clear hKK_23 hcK_23 K_23
                refine d_eff 14 rfl (by kernel_rfl) (fun K_24 hKK_24 hcK_24 => ?_)
                refine r_append (k := 1) (k2 := 0) .none rfl Try.underlying62 el92 rfl (by decide) rfl rfl rfl rfl rfl (one_lit rfl rfl) (by have q0 := testsTo_len l c.h 0; have q1 := testsTo_len l c.h 1; have q2 := testsTo_len l c.h 2; simp only [maxLen]; omega) (by have q0 := testsTo_len l c.h 0; have q1 := testsTo_len l c.h 1; have q2 := testsTo_len l c.h 2; omega) (fun v_25 => ?_)
                refine r_row1 (k := 1) rfl (fun o_26 => ?_)
                refine r_nil (e_d (i := 14) (brk := (fun j => [14, 15].contains j)) (ph' := false) hKK_24 hcK_24 rfl (fun h => by cases h) (fun h => by cases h) ?_)
                clear hKK_24 hcK_24 K_24
                refine d_val2 15 rfl rfl (by kernel_rfl) .none rfl (fun _ => p_assign rfl) ?_
                refine d_nil (by kernel_rfl) ?_
                refine e_norm_block ?_
                refine e_next ?_
                refine c_region ?_
                refine r_val .none rfl (p_add rfl rfl (by omega)) ?_
                refine r_val .none rfl (p_move rfl) ?_
                refine r_nil ?_
                refine e_round ((1, _, _)) ⟨⟨Nat.le_of_ble_eq_true rfl, (hgn.trans hn_12)⟩, Nat.le_of_ble_eq_true rfl⟩ rfl ⟨rfl, rfl, rfl, rfl, rfl, rfl, trivial⟩ (.drop (.keep (fun _ _ h => rowA_snoc (l := testsTo l c.h 0) (x := (((0 : Nat) : Int), (zs.getD i t0).2.1, (zs.getD i t0).2.2)) (by show testsTo l c.h (0 + 1) = _; rw [testsTo_succ, testF_b hv hbd]) rfl rfl rfl _ _ h) (.keep (fun _ _ h => h) (.nil))))
                )
          · skip
            have hbn := found_none hzp (h_16)
            first
              | (exfalso; omega)
              | (
                refine c_cond_f rfl ?_
                refine c_seq ?_
                refine c_region ?_
                refine r_val .none rfl (p_ldw (k := 1) Try.underlying38 rfl sz38 rfl rfl (rfl : _ = Value.agg #[_, _, _, _, _, _, _, _])) ?_
                refine r_val .none rfl (p_move rfl) ?_
                refine r_call (vs := [_, _]) .none rfl cl68 rfl (fun w hw => c_own8 c sv 0 (by decide) h1 w) ?_
                refine r_val .none rfl (p_move rfl) ?_
                refine r_val .none rfl (p_extract rfl rfl) ?_
                refine r_val .none rfl (p_extract rfl rfl) ?_
                refine r_alloc .none rfl zr92 (IsRow.lit _) (fun b_4 => ?_)
                refine r_stw (k := 0) .none sz92 rfl rfl (IsRow.lit _) (one_lit rfl rfl) rfl ?_
                refine r_val .none rfl (p_assign rfl) ?_
                refine r_nil ?_
                refine e_next ?_
                refine c_seq ?_
                refine c_region ?_
                refine r_val .none rfl (p_move rfl) ?_
                refine r_nil ?_
                refine e_next ?_
                refine c_splitd (d := 49) rfl (fun h_27 => ?_) (fun h_27 => ?_)
                · skip
                  have hdp := dup_some (h := c.h) (f := 0) (by decide) (h_27)
                  first
                    | (exfalso; omega)
                    | (
                      refine c_cond_t rfl ?_
                      refine c_region ?_
                      refine r_val .none rfl (p_move rfl) ?_
                      refine r_val .none rfl (p_ldw (k := 0) Try.underlying92 rfl sz92 rfl rfl (rfl : _ = Value.agg #[_, _, _])) ?_
                      refine r_bslice (vs := [(0, Value.agg #[_, _, _])]) (c := #[_, _, _]) .none rfl Try.underlying62 el92 rfl rfl rfl (bs92_10a3 _ _ _) (IsRow.lit _) (fun b_5 => ?_)
                      refine r_append (k := 2) (k2 := 0) .none rfl Try.underlying62 el92 rfl (by decide) rfl rfl rfl rfl rfl (one_lit rfl rfl) (by have q0 := testsTo_len l c.h 0; have q1 := testsTo_len l c.h 1; have q2 := testsTo_len l c.h 2; simp only [maxLen]; omega) (by have q0 := testsTo_len l c.h 0; have q1 := testsTo_len l c.h 1; have q2 := testsTo_len l c.h 2; omega) (fun v_28 => ?_)
                      refine r_row1 (k := 2) rfl (fun o_29 => ?_)
                      refine r_val .none rfl (p_assign rfl) ?_
                      refine r_nil ?_
                      refine e_norm_block ?_
                      refine e_next ?_
                      refine c_region ?_
                      refine r_val .none rfl (p_add rfl rfl (by omega)) ?_
                      refine r_val .none rfl (p_move rfl) ?_
                      refine r_nil ?_
                      refine e_round ((1, _, _)) ⟨⟨Nat.le_of_ble_eq_true rfl, (hgn.trans hn_12)⟩, Nat.le_of_ble_eq_true rfl⟩ rfl ⟨rfl, rfl, rfl, rfl, rfl, rfl, trivial⟩ (.drop (.drop (.keep (fun _ _ h => rowA_snoc (l := testsTo l c.h 0) (x := (((0 : Nat) : Int), -1, ownG c.h 0)) (by show testsTo l c.h (0 + 1) = _; rw [testsTo_succ, testF_d hv hbn hdp]) rfl rfl rfl _ _ h) (.keep (fun _ _ h => h) (.nil)))))
                      )
                · skip
                  have hdn := dup_none (h := c.h) (f := 0) (by decide) (h_27)
                  first
                    | (exfalso; omega)
                    | (
                      refine c_cond_f rfl ?_
                      refine c_skip ?_
                      refine e_norm_block ?_
                      refine e_next ?_
                      refine c_region ?_
                      refine r_val .none rfl (p_add rfl rfl (by omega)) ?_
                      refine r_val .none rfl (p_move rfl) ?_
                      refine r_nil ?_
                      refine e_round ((1, _, _)) ⟨⟨Nat.le_of_ble_eq_true rfl, (hgn.trans hn_12)⟩, Nat.le_of_ble_eq_true rfl⟩ rfl ⟨rfl, rfl, rfl, rfl, rfl, rfl, trivial⟩ (.drop (.keep (fun _ _ h => rowA_same (by show testsTo l c.h (0 + 1) = _; rw [testsTo_succ, (by first | exact T1 hv | exact testF_n hv hbn hdn : testF l c.h 0 = []), List.append_nil]) _ _ h) (.keep (fun _ _ h => h) (.nil))))
                      )
                )
          )
  · skip
    refine c_seq ?_
    refine c_region ?_
    refine r_val .none rfl (p_lt rfl rfl) ?_
    refine r_say (d := 17) (v := Value.bool true) rfl ?_
    refine r_nil ?_
    refine e_next ?_
    refine c_seq ?_
    refine c_cond_t rfl ?_
    refine c_skip ?_
    refine e_next ?_
    refine c_seq ?_
    refine c_block ?_
    refine c_seq ?_
    refine c_region ?_
    refine r_val .none rfl (p_move rfl) ?_
    refine r_val .none rfl (p_indexa (k := 1) Try.underlying36 Try.underlying35 rfl sz35 rfl (IsRow.lit _) rfl rfl (by first | exact of_decide_eq_true rfl | omega) (rfl : _ = Value.agg #[_, _])) ?_
    refine r_alloc .none rfl zr35 (IsRow.lit _) (fun b_6 => ?_)
    refine r_val .none rfl (p_assign rfl) ?_
    refine r_stw (k := 0) .none sz35 rfl rfl (IsRow.lit _) (one_lit rfl rfl) rfl ?_
    refine r_nil ?_
    refine e_next ?_
    refine c_seq ?_
    refine c_seq ?_
    refine c_region ?_
    refine r_freezeX (k := 0) rfl (fun G_30 hn_31 hR_32 => ?_)
    replace hs := hs.mono hn_31.le
    replace hzq := hzq.mono hn_31.le
    have hR_33 : RowAt G_30 b_6 0 2 (at_ [Value.bool (vF c.h 1), Value.int .i64 (nF c.h 1)]) := RowAt.congr hR_32 (fun i hi => by match i, hi with | 0, _ => rfl | 1, _ => rfl)
    refine r_val .none rfl (p_field Try.underlying35 rfl sz4 rfl) ?_
    refine r_val .none rfl (p_ldg (j := 0) Try.underlying4 rfl rfl hR_33 (by first | exact of_decide_eq_true rfl | omega) (rfl : _ = Value.bool _)) ?_
    refine r_val .none rfl (p_not rfl) ?_
    refine r_nil ?_
    refine e_next ?_
    refine c_splitn (d := 22) rfl (fun h_34 => ?_) (fun h_34 => ?_)
    · skip
      have hv : vF c.h 1 = false := h_34
      first
        | (exfalso; omega)
        | (
          refine c_cond_t rfl ?_
          refine c_exit ?_
          refine e_exit_then ?_
          refine e_exit_block ?_
          refine e_next ?_
          refine c_region ?_
          refine r_val .none rfl (p_add rfl rfl (by omega)) ?_
          refine r_val .none rfl (p_move rfl) ?_
          refine r_nil ?_
          refine e_round ((2, _, _)) ⟨⟨Nat.le_of_ble_eq_true rfl, (hgn.trans hn_31)⟩, Nat.le_of_ble_eq_true rfl⟩ rfl ⟨rfl, rfl, rfl, rfl, rfl, rfl, trivial⟩ (.keep (fun _ _ h => rowA_same (by show testsTo l c.h (1 + 1) = _; rw [testsTo_succ, (by first | exact T1 hv | exact testF_n hv hbn hdn : testF l c.h 1 = []), List.append_nil]) _ _ h) (.keep (fun _ _ h => h) (.nil)))
          )
    · skip
      have hv : vF c.h 1 = true := h_34
      first
        | (exfalso; omega)
        | (
          refine c_cond_f rfl ?_
          refine c_skip ?_
          refine e_next ?_
          refine c_seq ?_
          refine c_region ?_
          refine r_val .none rfl (p_move rfl) ?_
          refine r_val .none rfl (p_mkfunc (vs := [_]) rfl) ?_
          refine r_call (vs := [_, _]) .none rfl cl66 rfl (fun w hw => c_idxP _ _ _ _ _ hzq cl67 (fun x w hw => c_tst1 x _ _ _ hR_33 w hw) w hw) ?_
          refine r_val .none rfl (p_assign rfl) ?_
          refine r_nil ?_
          refine e_next ?_
          refine c_seq ?_
          refine c_region ?_
          refine r_val .none rfl (p_move rfl) ?_
          refine r_val .none rfl (p_ge rfl rfl) ?_
          refine r_nil ?_
          refine e_next ?_
          refine c_splitd (d := 27) rfl (fun h_35 => ?_) (fun h_35 => ?_)
          · skip
            obtain ⟨i, hi1, hi2, hi3⟩ := idxF_some t0 (Int.le_refl 0) (h_35)
            rw [Int.zero_add] at hi1
            have hbd := found_bound hzp hi2 hi3
            first
              | (exfalso; omega)
              | (
                refine c_cond_t rfl ?_
                refine c_region_d (fun j => [14, 15].contains j) _ mixed (.keep (fun _ _ h => h) (.keep (fun _ _ h => h) (.nil))) ?_
                refine d_val1 0 rfl rfl (by kernel_rfl) (fun j hj => by have h : 15 < j := (Nat.lt_of_lt_of_le (by decide : 15 < 16) hj); simp; omega) .none rfl (p_move rfl) ?_
                refine d_val1 1 rfl rfl (by kernel_rfl) (fun j hj => by have h : 15 < j := (Nat.lt_of_lt_of_le (by decide : 15 < 16) hj); simp; omega) .none rfl (p_move rfl) ?_
                refine d_val1 2 rfl rfl (by kernel_rfl) (fun j hj => by have h : 15 < j := (Nat.lt_of_lt_of_le (by decide : 15 < 16) hj); simp; omega) .none rfl (p_move rfl) ?_
                refine d_val1 3 rfl rfl (by kernel_rfl) (fun j hj => by have h : 15 < j := (Nat.lt_of_lt_of_le (by decide : 15 < 16) hj); simp; omega) .none rfl (p_move rfl) ?_
                refine d_say (d := 31) (v := Value.int .i64 ((i : Nat) : Int)) (congrArg (fun x => some (Value.int .i64 x)) (by first | exact hi1 | omega)) ?_
                refine d_iaddr_g 4 rfl rfl (by kernel_rfl) (fun j hj => by have h : 15 < j := (Nat.lt_of_lt_of_le (by decide : 15 < 16) hj); simp; omega) .none rfl Try.underlying81 sz84 rfl hzq rfl (by first | exact of_decide_eq_true rfl | omega) (fun p_37 o_38 R_36 => ?_)
                refine d_val1 5 rfl rfl (by kernel_rfl) (fun j hj => by have h : 15 < j := (Nat.lt_of_lt_of_le (by decide : 15 < 16) hj); simp; omega) .none rfl (p_field Try.underlying84 rfl sz3 rfl) ?_
                refine d_val1 6 rfl rfl (by kernel_rfl) (fun j hj => by have h : 15 < j := (Nat.lt_of_lt_of_le (by decide : 15 < 16) hj); simp; omega) .none rfl (p_ldg (j := 1) Try.underlying3 rfl rfl R_36 (by first | exact of_decide_eq_true rfl | omega) (rfl : _ = Value.int _ _)) ?_
                refine d_val1 7 rfl rfl (by kernel_rfl) (fun j hj => by have h : 15 < j := (Nat.lt_of_lt_of_le (by decide : 15 < 16) hj); simp; omega) .none rfl (p_move rfl) ?_
                refine d_val1 8 rfl rfl (by kernel_rfl) (fun j hj => by have h : 15 < j := (Nat.lt_of_lt_of_le (by decide : 15 < 16) hj); simp; omega) .none rfl (p_move rfl) ?_
                refine d_say (d := 36) (v := Value.int .i64 ((i : Nat) : Int)) (congrArg (fun x => some (Value.int .i64 x)) (by first | exact hi1 | omega)) ?_
                refine d_iaddr_g 9 rfl rfl (by kernel_rfl) (fun j hj => by have h : 15 < j := (Nat.lt_of_lt_of_le (by decide : 15 < 16) hj); simp; omega) .none rfl Try.underlying81 sz84 rfl hzq rfl (by first | exact of_decide_eq_true rfl | omega) (fun p_40 o_41 R_39 => ?_)
                refine d_val1 10 rfl rfl (by kernel_rfl) (fun j hj => by have h : 15 < j := (Nat.lt_of_lt_of_le (by decide : 15 < 16) hj); simp; omega) .none rfl (p_field Try.underlying84 rfl sz3 rfl) ?_
                refine d_val1 11 rfl rfl (by kernel_rfl) (fun j hj => by have h : 15 < j := (Nat.lt_of_lt_of_le (by decide : 15 < 16) hj); simp; omega) .none rfl (p_ldg (j := 2) Try.underlying3 rfl rfl R_39 (by first | exact of_decide_eq_true rfl | omega) (rfl : _ = Value.int _ _)) ?_
                refine d_val1 12 rfl rfl (by kernel_rfl) (fun j hj => by have h : 15 < j := (Nat.lt_of_lt_of_le (by decide : 15 < 16) hj); simp; omega) .none rfl (p_build (vs := [(0, Value.int _ _), (1, Value.int _ _), (2, Value.int _ _)]) rfl (bl92_0i1_1i1_2i1 _ _ _)) ?_
                refine d_eff 13 rfl (by kernel_rfl) (fun K_42 hKK_42 hcK_42 => ?_)
                refine r_bslice (vs := [(0, Value.agg #[_, _, _])]) (c := #[_, _, _]) .none rfl Try.underlying62 el92 rfl rfl rfl (bs92_10a3 _ _ _) (IsRow.lit _) (fun b_7 => ?_)
                refine r_nil (e_d (i := 13) (brk := (fun j => [14, 15].contains j)) (ph' := true) hKK_42 hcK_42 rfl (fun _ => GLe.refl _) (fun _ => .drop (.keep (fun _ _ h => h) (.keep (fun _ _ h => h) (.nil)))) ?_)
                clear hKK_42 hcK_42 K_42
                refine d_eff 14 rfl (by kernel_rfl) (fun K_43 hKK_43 hcK_43 => ?_)
                refine r_append (k := 1) (k2 := 0) .none rfl Try.underlying62 el92 rfl (by decide) rfl rfl rfl rfl rfl (one_lit rfl rfl) (by have q0 := testsTo_len l c.h 0; have q1 := testsTo_len l c.h 1; have q2 := testsTo_len l c.h 2; simp only [maxLen]; omega) (by have q0 := testsTo_len l c.h 0; have q1 := testsTo_len l c.h 1; have q2 := testsTo_len l c.h 2; omega) (fun v_44 => ?_)
                refine r_row1 (k := 1) rfl (fun o_45 => ?_)
                refine r_nil (e_d (i := 14) (brk := (fun j => [14, 15].contains j)) (ph' := false) hKK_43 hcK_43 rfl (fun h => by cases h) (fun h => by cases h) ?_)
                clear hKK_43 hcK_43 K_43
                refine d_val2 15 rfl rfl (by kernel_rfl) .none rfl (fun _ => p_assign rfl) ?_
                refine d_nil (by kernel_rfl) ?_
                refine e_norm_block ?_
                refine e_next ?_
                refine c_region ?_
                refine r_val .none rfl (p_add rfl rfl (by omega)) ?_
                refine r_val .none rfl (p_move rfl) ?_
                refine r_nil ?_
                refine e_round ((2, _, _)) ⟨⟨Nat.le_of_ble_eq_true rfl, (hgn.trans hn_31)⟩, Nat.le_of_ble_eq_true rfl⟩ rfl ⟨rfl, rfl, rfl, rfl, rfl, rfl, trivial⟩ (.drop (.keep (fun _ _ h => rowA_snoc (l := testsTo l c.h 1) (x := (((1 : Nat) : Int), (zs.getD i t0).2.1, (zs.getD i t0).2.2)) (by show testsTo l c.h (1 + 1) = _; rw [testsTo_succ, testF_b hv hbd]) rfl rfl rfl _ _ h) (.keep (fun _ _ h => h) (.nil))))
                )
          · skip
            have hbn := found_none hzp (h_35)
            first
              | (exfalso; omega)
              | (
                refine c_cond_f rfl ?_
                refine c_seq ?_
                refine c_region ?_
                refine r_val .none rfl (p_ldw (k := 1) Try.underlying38 rfl sz38 rfl rfl (rfl : _ = Value.agg #[_, _, _, _, _, _, _, _])) ?_
                refine r_val .none rfl (p_move rfl) ?_
                refine r_call (vs := [_, _]) .none rfl cl68 rfl (fun w hw => c_own8 c sv 1 (by decide) h1 w) ?_
                refine r_val .none rfl (p_move rfl) ?_
                refine r_val .none rfl (p_extract rfl rfl) ?_
                refine r_val .none rfl (p_extract rfl rfl) ?_
                refine r_alloc .none rfl zr92 (IsRow.lit _) (fun b_8 => ?_)
                refine r_stw (k := 0) .none sz92 rfl rfl (IsRow.lit _) (one_lit rfl rfl) rfl ?_
                refine r_val .none rfl (p_assign rfl) ?_
                refine r_nil ?_
                refine e_next ?_
                refine c_seq ?_
                refine c_region ?_
                refine r_val .none rfl (p_move rfl) ?_
                refine r_nil ?_
                refine e_next ?_
                refine c_splitd (d := 49) rfl (fun h_46 => ?_) (fun h_46 => ?_)
                · skip
                  have hdp := dup_some (h := c.h) (f := 1) (by decide) (h_46)
                  first
                    | (exfalso; omega)
                    | (
                      refine c_cond_t rfl ?_
                      refine c_region ?_
                      refine r_val .none rfl (p_move rfl) ?_
                      refine r_val .none rfl (p_ldw (k := 0) Try.underlying92 rfl sz92 rfl rfl (rfl : _ = Value.agg #[_, _, _])) ?_
                      refine r_bslice (vs := [(0, Value.agg #[_, _, _])]) (c := #[_, _, _]) .none rfl Try.underlying62 el92 rfl rfl rfl (bs92_10a3 _ _ _) (IsRow.lit _) (fun b_9 => ?_)
                      refine r_append (k := 2) (k2 := 0) .none rfl Try.underlying62 el92 rfl (by decide) rfl rfl rfl rfl rfl (one_lit rfl rfl) (by have q0 := testsTo_len l c.h 0; have q1 := testsTo_len l c.h 1; have q2 := testsTo_len l c.h 2; simp only [maxLen]; omega) (by have q0 := testsTo_len l c.h 0; have q1 := testsTo_len l c.h 1; have q2 := testsTo_len l c.h 2; omega) (fun v_47 => ?_)
                      refine r_row1 (k := 2) rfl (fun o_48 => ?_)
                      refine r_val .none rfl (p_assign rfl) ?_
                      refine r_nil ?_
                      refine e_norm_block ?_
                      refine e_next ?_
                      refine c_region ?_
                      refine r_val .none rfl (p_add rfl rfl (by omega)) ?_
                      refine r_val .none rfl (p_move rfl) ?_
                      refine r_nil ?_
                      refine e_round ((2, _, _)) ⟨⟨Nat.le_of_ble_eq_true rfl, (hgn.trans hn_31)⟩, Nat.le_of_ble_eq_true rfl⟩ rfl ⟨rfl, rfl, rfl, rfl, rfl, rfl, trivial⟩ (.drop (.drop (.keep (fun _ _ h => rowA_snoc (l := testsTo l c.h 1) (x := (((1 : Nat) : Int), -1, ownG c.h 1)) (by show testsTo l c.h (1 + 1) = _; rw [testsTo_succ, testF_d hv hbn hdp]) rfl rfl rfl _ _ h) (.keep (fun _ _ h => h) (.nil)))))
                      )
                · skip
                  have hdn := dup_none (h := c.h) (f := 1) (by decide) (h_46)
                  first
                    | (exfalso; omega)
                    | (
                      refine c_cond_f rfl ?_
                      refine c_skip ?_
                      refine e_norm_block ?_
                      refine e_next ?_
                      refine c_region ?_
                      refine r_val .none rfl (p_add rfl rfl (by omega)) ?_
                      refine r_val .none rfl (p_move rfl) ?_
                      refine r_nil ?_
                      refine e_round ((2, _, _)) ⟨⟨Nat.le_of_ble_eq_true rfl, (hgn.trans hn_31)⟩, Nat.le_of_ble_eq_true rfl⟩ rfl ⟨rfl, rfl, rfl, rfl, rfl, rfl, trivial⟩ (.drop (.keep (fun _ _ h => rowA_same (by show testsTo l c.h (1 + 1) = _; rw [testsTo_succ, (by first | exact T1 hv | exact testF_n hv hbn hdn : testF l c.h 1 = []), List.append_nil]) _ _ h) (.keep (fun _ _ h => h) (.nil))))
                      )
                )
          )
  · skip
    refine c_seq ?_
    refine c_region ?_
    refine r_val .none rfl (p_lt rfl rfl) ?_
    refine r_say (d := 17) (v := Value.bool true) rfl ?_
    refine r_nil ?_
    refine e_next ?_
    refine c_seq ?_
    refine c_cond_t rfl ?_
    refine c_skip ?_
    refine e_next ?_
    refine c_seq ?_
    refine c_block ?_
    refine c_seq ?_
    refine c_region ?_
    refine r_val .none rfl (p_move rfl) ?_
    refine r_val .none rfl (p_indexa (k := 2) Try.underlying36 Try.underlying35 rfl sz35 rfl (IsRow.lit _) rfl rfl (by first | exact of_decide_eq_true rfl | omega) (rfl : _ = Value.agg #[_, _])) ?_
    refine r_alloc .none rfl zr35 (IsRow.lit _) (fun b_10 => ?_)
    refine r_val .none rfl (p_assign rfl) ?_
    refine r_stw (k := 0) .none sz35 rfl rfl (IsRow.lit _) (one_lit rfl rfl) rfl ?_
    refine r_nil ?_
    refine e_next ?_
    refine c_seq ?_
    refine c_seq ?_
    refine c_region ?_
    refine r_freezeX (k := 0) rfl (fun G_49 hn_50 hR_51 => ?_)
    replace hs := hs.mono hn_50.le
    replace hzq := hzq.mono hn_50.le
    have hR_52 : RowAt G_49 b_10 0 2 (at_ [Value.bool (vF c.h 2), Value.int .i64 (nF c.h 2)]) := RowAt.congr hR_51 (fun i hi => by match i, hi with | 0, _ => rfl | 1, _ => rfl)
    refine r_val .none rfl (p_field Try.underlying35 rfl sz4 rfl) ?_
    refine r_val .none rfl (p_ldg (j := 0) Try.underlying4 rfl rfl hR_52 (by first | exact of_decide_eq_true rfl | omega) (rfl : _ = Value.bool _)) ?_
    refine r_val .none rfl (p_not rfl) ?_
    refine r_nil ?_
    refine e_next ?_
    refine c_splitn (d := 22) rfl (fun h_53 => ?_) (fun h_53 => ?_)
    · skip
      have hv : vF c.h 2 = false := h_53
      first
        | (exfalso; omega)
        | (
          refine c_cond_t rfl ?_
          refine c_exit ?_
          refine e_exit_then ?_
          refine e_exit_block ?_
          refine e_next ?_
          refine c_region ?_
          refine r_val .none rfl (p_add rfl rfl (by omega)) ?_
          refine r_val .none rfl (p_move rfl) ?_
          refine r_nil ?_
          refine e_round ((3, _, _)) ⟨⟨Nat.le_of_ble_eq_true rfl, (hgn.trans hn_50)⟩, Nat.le_of_ble_eq_true rfl⟩ rfl ⟨rfl, rfl, rfl, rfl, rfl, rfl, trivial⟩ (.keep (fun _ _ h => rowA_same (by show testsTo l c.h (2 + 1) = _; rw [testsTo_succ, (by first | exact T1 hv | exact testF_n hv hbn hdn : testF l c.h 2 = []), List.append_nil]) _ _ h) (.keep (fun _ _ h => h) (.nil)))
          )
    · skip
      have hv : vF c.h 2 = true := h_53
      first
        | (exfalso; omega)
        | (
          refine c_cond_f rfl ?_
          refine c_skip ?_
          refine e_next ?_
          refine c_seq ?_
          refine c_region ?_
          refine r_val .none rfl (p_move rfl) ?_
          refine r_val .none rfl (p_mkfunc (vs := [_]) rfl) ?_
          refine r_call (vs := [_, _]) .none rfl cl66 rfl (fun w hw => c_idxP _ _ _ _ _ hzq cl67 (fun x w hw => c_tst1 x _ _ _ hR_52 w hw) w hw) ?_
          refine r_val .none rfl (p_assign rfl) ?_
          refine r_nil ?_
          refine e_next ?_
          refine c_seq ?_
          refine c_region ?_
          refine r_val .none rfl (p_move rfl) ?_
          refine r_val .none rfl (p_ge rfl rfl) ?_
          refine r_nil ?_
          refine e_next ?_
          refine c_splitd (d := 27) rfl (fun h_54 => ?_) (fun h_54 => ?_)
          · skip
            obtain ⟨i, hi1, hi2, hi3⟩ := idxF_some t0 (Int.le_refl 0) (h_54)
            rw [Int.zero_add] at hi1
            have hbd := found_bound hzp hi2 hi3
            first
              | (exfalso; omega)
              | (
                refine c_cond_t rfl ?_
                refine c_region_d (fun j => [14, 15].contains j) _ mixed (.keep (fun _ _ h => h) (.keep (fun _ _ h => h) (.nil))) ?_
                refine d_val1 0 rfl rfl (by kernel_rfl) (fun j hj => by have h : 15 < j := (Nat.lt_of_lt_of_le (by decide : 15 < 16) hj); simp; omega) .none rfl (p_move rfl) ?_
                refine d_val1 1 rfl rfl (by kernel_rfl) (fun j hj => by have h : 15 < j := (Nat.lt_of_lt_of_le (by decide : 15 < 16) hj); simp; omega) .none rfl (p_move rfl) ?_
                refine d_val1 2 rfl rfl (by kernel_rfl) (fun j hj => by have h : 15 < j := (Nat.lt_of_lt_of_le (by decide : 15 < 16) hj); simp; omega) .none rfl (p_move rfl) ?_
                refine d_val1 3 rfl rfl (by kernel_rfl) (fun j hj => by have h : 15 < j := (Nat.lt_of_lt_of_le (by decide : 15 < 16) hj); simp; omega) .none rfl (p_move rfl) ?_
                refine d_say (d := 31) (v := Value.int .i64 ((i : Nat) : Int)) (congrArg (fun x => some (Value.int .i64 x)) (by first | exact hi1 | omega)) ?_
                refine d_iaddr_g 4 rfl rfl (by kernel_rfl) (fun j hj => by have h : 15 < j := (Nat.lt_of_lt_of_le (by decide : 15 < 16) hj); simp; omega) .none rfl Try.underlying81 sz84 rfl hzq rfl (by first | exact of_decide_eq_true rfl | omega) (fun p_56 o_57 R_55 => ?_)
                refine d_val1 5 rfl rfl (by kernel_rfl) (fun j hj => by have h : 15 < j := (Nat.lt_of_lt_of_le (by decide : 15 < 16) hj); simp; omega) .none rfl (p_field Try.underlying84 rfl sz3 rfl) ?_
                refine d_val1 6 rfl rfl (by kernel_rfl) (fun j hj => by have h : 15 < j := (Nat.lt_of_lt_of_le (by decide : 15 < 16) hj); simp; omega) .none rfl (p_ldg (j := 1) Try.underlying3 rfl rfl R_55 (by first | exact of_decide_eq_true rfl | omega) (rfl : _ = Value.int _ _)) ?_
                refine d_val1 7 rfl rfl (by kernel_rfl) (fun j hj => by have h : 15 < j := (Nat.lt_of_lt_of_le (by decide : 15 < 16) hj); simp; omega) .none rfl (p_move rfl) ?_
                refine d_val1 8 rfl rfl (by kernel_rfl) (fun j hj => by have h : 15 < j := (Nat.lt_of_lt_of_le (by decide : 15 < 16) hj); simp; omega) .none rfl (p_move rfl) ?_
                refine d_say (d := 36) (v := Value.int .i64 ((i : Nat) : Int)) (congrArg (fun x => some (Value.int .i64 x)) (by first | exact hi1 | omega)) ?_
                refine d_iaddr_g 9 rfl rfl (by kernel_rfl) (fun j hj => by have h : 15 < j := (Nat.lt_of_lt_of_le (by decide : 15 < 16) hj); simp; omega) .none rfl Try.underlying81 sz84 rfl hzq rfl (by first | exact of_decide_eq_true rfl | omega) (fun p_59 o_60 R_58 => ?_)
                refine d_val1 10 rfl rfl (by kernel_rfl) (fun j hj => by have h : 15 < j := (Nat.lt_of_lt_of_le (by decide : 15 < 16) hj); simp; omega) .none rfl (p_field Try.underlying84 rfl sz3 rfl) ?_
                refine d_val1 11 rfl rfl (by kernel_rfl) (fun j hj => by have h : 15 < j := (Nat.lt_of_lt_of_le (by decide : 15 < 16) hj); simp; omega) .none rfl (p_ldg (j := 2) Try.underlying3 rfl rfl R_58 (by first | exact of_decide_eq_true rfl | omega) (rfl : _ = Value.int _ _)) ?_
                refine d_val1 12 rfl rfl (by kernel_rfl) (fun j hj => by have h : 15 < j := (Nat.lt_of_lt_of_le (by decide : 15 < 16) hj); simp; omega) .none rfl (p_build (vs := [(0, Value.int _ _), (1, Value.int _ _), (2, Value.int _ _)]) rfl (bl92_0i1_1i1_2i1 _ _ _)) ?_
                refine d_eff 13 rfl (by kernel_rfl) (fun K_61 hKK_61 hcK_61 => ?_)
                refine r_bslice (vs := [(0, Value.agg #[_, _, _])]) (c := #[_, _, _]) .none rfl Try.underlying62 el92 rfl rfl rfl (bs92_10a3 _ _ _) (IsRow.lit _) (fun b_11 => ?_)
                refine r_nil (e_d (i := 13) (brk := (fun j => [14, 15].contains j)) (ph' := true) hKK_61 hcK_61 rfl (fun _ => GLe.refl _) (fun _ => .drop (.keep (fun _ _ h => h) (.keep (fun _ _ h => h) (.nil)))) ?_)
                clear hKK_61 hcK_61 K_61
                refine d_eff 14 rfl (by kernel_rfl) (fun K_62 hKK_62 hcK_62 => ?_)
                refine r_append (k := 1) (k2 := 0) .none rfl Try.underlying62 el92 rfl (by decide) rfl rfl rfl rfl rfl (one_lit rfl rfl) (by have q0 := testsTo_len l c.h 0; have q1 := testsTo_len l c.h 1; have q2 := testsTo_len l c.h 2; simp only [maxLen]; omega) (by have q0 := testsTo_len l c.h 0; have q1 := testsTo_len l c.h 1; have q2 := testsTo_len l c.h 2; omega) (fun v_63 => ?_)
                refine r_row1 (k := 1) rfl (fun o_64 => ?_)
                refine r_nil (e_d (i := 14) (brk := (fun j => [14, 15].contains j)) (ph' := false) hKK_62 hcK_62 rfl (fun h => by cases h) (fun h => by cases h) ?_)
                clear hKK_62 hcK_62 K_62
                refine d_val2 15 rfl rfl (by kernel_rfl) .none rfl (fun _ => p_assign rfl) ?_
                refine d_nil (by kernel_rfl) ?_
                refine e_norm_block ?_
                refine e_next ?_
                refine c_region ?_
                refine r_val .none rfl (p_add rfl rfl (by omega)) ?_
                refine r_val .none rfl (p_move rfl) ?_
                refine r_nil ?_
                refine e_round ((3, _, _)) ⟨⟨Nat.le_of_ble_eq_true rfl, (hgn.trans hn_50)⟩, Nat.le_of_ble_eq_true rfl⟩ rfl ⟨rfl, rfl, rfl, rfl, rfl, rfl, trivial⟩ (.drop (.keep (fun _ _ h => rowA_snoc (l := testsTo l c.h 2) (x := (((2 : Nat) : Int), (zs.getD i t0).2.1, (zs.getD i t0).2.2)) (by show testsTo l c.h (2 + 1) = _; rw [testsTo_succ, testF_b hv hbd]) rfl rfl rfl _ _ h) (.keep (fun _ _ h => h) (.nil))))
                )
          · skip
            have hbn := found_none hzp (h_54)
            first
              | (exfalso; omega)
              | (
                refine c_cond_f rfl ?_
                refine c_seq ?_
                refine c_region ?_
                refine r_val .none rfl (p_ldw (k := 1) Try.underlying38 rfl sz38 rfl rfl (rfl : _ = Value.agg #[_, _, _, _, _, _, _, _])) ?_
                refine r_val .none rfl (p_move rfl) ?_
                refine r_call (vs := [_, _]) .none rfl cl68 rfl (fun w hw => c_own8 c sv 2 (by decide) h1 w) ?_
                refine r_val .none rfl (p_move rfl) ?_
                refine r_val .none rfl (p_extract rfl rfl) ?_
                refine r_val .none rfl (p_extract rfl rfl) ?_
                refine r_alloc .none rfl zr92 (IsRow.lit _) (fun b_12 => ?_)
                refine r_stw (k := 0) .none sz92 rfl rfl (IsRow.lit _) (one_lit rfl rfl) rfl ?_
                refine r_val .none rfl (p_assign rfl) ?_
                refine r_nil ?_
                refine e_next ?_
                refine c_seq ?_
                refine c_region ?_
                refine r_val .none rfl (p_move rfl) ?_
                refine r_nil ?_
                refine e_next ?_
                refine c_splitd (d := 49) rfl (fun h_65 => ?_) (fun h_65 => ?_)
                · skip
                  have hdp := dup_some (h := c.h) (f := 2) (by decide) (h_65)
                  first
                    | (exfalso; omega)
                    | (
                      refine c_cond_t rfl ?_
                      refine c_region ?_
                      refine r_val .none rfl (p_move rfl) ?_
                      refine r_val .none rfl (p_ldw (k := 0) Try.underlying92 rfl sz92 rfl rfl (rfl : _ = Value.agg #[_, _, _])) ?_
                      refine r_bslice (vs := [(0, Value.agg #[_, _, _])]) (c := #[_, _, _]) .none rfl Try.underlying62 el92 rfl rfl rfl (bs92_10a3 _ _ _) (IsRow.lit _) (fun b_13 => ?_)
                      refine r_append (k := 2) (k2 := 0) .none rfl Try.underlying62 el92 rfl (by decide) rfl rfl rfl rfl rfl (one_lit rfl rfl) (by have q0 := testsTo_len l c.h 0; have q1 := testsTo_len l c.h 1; have q2 := testsTo_len l c.h 2; simp only [maxLen]; omega) (by have q0 := testsTo_len l c.h 0; have q1 := testsTo_len l c.h 1; have q2 := testsTo_len l c.h 2; omega) (fun v_66 => ?_)
                      refine r_row1 (k := 2) rfl (fun o_67 => ?_)
                      refine r_val .none rfl (p_assign rfl) ?_
                      refine r_nil ?_
                      refine e_norm_block ?_
                      refine e_next ?_
                      refine c_region ?_
                      refine r_val .none rfl (p_add rfl rfl (by omega)) ?_
                      refine r_val .none rfl (p_move rfl) ?_
                      refine r_nil ?_
                      refine e_round ((3, _, _)) ⟨⟨Nat.le_of_ble_eq_true rfl, (hgn.trans hn_50)⟩, Nat.le_of_ble_eq_true rfl⟩ rfl ⟨rfl, rfl, rfl, rfl, rfl, rfl, trivial⟩ (.drop (.drop (.keep (fun _ _ h => rowA_snoc (l := testsTo l c.h 2) (x := (((2 : Nat) : Int), -1, ownG c.h 2)) (by show testsTo l c.h (2 + 1) = _; rw [testsTo_succ, testF_d hv hbn hdp]) rfl rfl rfl _ _ h) (.keep (fun _ _ h => h) (.nil)))))
                      )
                · skip
                  have hdn := dup_none (h := c.h) (f := 2) (by decide) (h_65)
                  first
                    | (exfalso; omega)
                    | (
                      refine c_cond_f rfl ?_
                      refine c_skip ?_
                      refine e_norm_block ?_
                      refine e_next ?_
                      refine c_region ?_
                      refine r_val .none rfl (p_add rfl rfl (by omega)) ?_
                      refine r_val .none rfl (p_move rfl) ?_
                      refine r_nil ?_
                      refine e_round ((3, _, _)) ⟨⟨Nat.le_of_ble_eq_true rfl, (hgn.trans hn_50)⟩, Nat.le_of_ble_eq_true rfl⟩ rfl ⟨rfl, rfl, rfl, rfl, rfl, rfl, trivial⟩ (.drop (.keep (fun _ _ h => rowA_same (by show testsTo l c.h (2 + 1) = _; rw [testsTo_succ, (by first | exact T1 hv | exact testF_n hv hbn hdn : testF l c.h 2 = []), List.append_nil]) _ _ h) (.keep (fun _ _ h => h) (.nil))))
                      )
                )
          )
  · skip
    refine c_seq ?_
    refine c_region ?_
    refine r_val .none rfl (p_lt rfl rfl) ?_
    refine r_say (d := 17) (v := Value.bool false) rfl ?_
    refine r_nil ?_
    refine e_next ?_
    refine c_seq ?_
    refine c_cond_f rfl ?_
    refine c_exit ?_
    refine e_exit_then ?_
    refine e_exit_then ?_
    refine e_exit_block ?_
    refine e_next ?_
    refine c_seq ?_
    refine c_region ?_
    refine r_val .none rfl (p_move rfl) ?_
    refine r_val .none rfl (p_assign rfl) ?_
    refine r_nil ?_
    refine e_next ?_
    refine c_ret ?_
    refine e_freezeF (k := 0) rfl (fun G_68 hn_69 hs_70 => ?_)
    replace hs := hs.mono hn_69.le
    replace hzq := hzq.mono hn_69.le
    refine e_ret1 Try.results53 (.tmp rfl .nil) (fun w hm => ⟨fr _ _, fr_new _ _, fun b o e => hm.has b o (fr_le _ _ b o e), ?_, hm.since⟩)
    exact SlL.of t0 (fun _ => rfl) rfl hs_70
end Go.Proofs.Ytoflaphnlfggkaa

/- Walks: what Go functions of this chapter come to, each as a function on plain data; no condition but those that each theorem names. Printed by a program of this work (gen.py). -/
namespace Go.Proofs.Ytoflaphnlfggkaa
open Go.Gx Go.Gx.T4 Go.Gx.T3 Go.Gx.T6 Go.Gx.T8 Go.Gx.T4 Go.Gx.T3 Go.Gx.T8 Go.Gx.T4 Go.Gx.T3 Go.Gx.T8 Go.Gx.T6 Go.Gx.T4 Go.Gx.T3
theorem cl30 : Callable Try.prog 30 := callable Try.func30 (by kernel_rfl) rfl
theorem cl48 : Callable Try.prog 48 := callable Try.func48 (by kernel_rfl) rfl
theorem cl52 : Callable Try.prog 52 := callable Try.func52 (by kernel_rfl) rfl
theorem cl53 : Callable Try.prog 53 := callable Try.func53 (by kernel_rfl) rfl
theorem bl64_0i1_3s3 (x0 : Int) (x1 : Option Addr) (x2 : Nat) (x3 : Nat) : Program.built Try.prog 64 [(0, Value.int .i64 x0), (3, Value.slice x1 x2 x3)] = some #[Value.int .i64 x0, Value.int .i64 0, Value.int .i64 0, Value.int .i64 0, Value.slice none 0 0, Value.slice x1 x2 x3] := by
  kernel_rfl
theorem bl64_0i1_1a3_2s3 (x0 : Int) (x1 : Value) (x2 : Value) (x3 : Value) (x4 : Option Addr) (x5 : Nat) (x6 : Nat) : Program.built Try.prog 64 [(0, Value.int .i64 x0), (1, Value.agg #[x1, x2, x3]), (2, Value.slice x4 x5 x6)] = some #[Value.int .i64 x0, x1, x2, x3, Value.slice x4 x5 x6, Value.slice none 0 0] := by
  kernel_rfl
def CStepIs (n : Nat) : Prop := ∀ (c : CT) (sv va : Value) (l : List CT) (G : Ghost) (w : World), SizeOf.sizeOf c ≤ n → l.length + size c ≤ 1000 → Cs G sv c.subs → Cs G va l → Has G w → Calls Try.prog 30 #[va, Value.agg #[Value.int .i64 c.h.k, Value.bool c.h.v0, Value.int .i64 c.h.n0, Value.bool c.h.v1, Value.int .i64 c.h.n1, Value.bool c.h.v2, Value.int .i64 c.h.n2, sv]] w (Ret fun r w' => ∃ H : Ghost, (∀ b, H b ≠ none → w.heap.size ≤ b) ∧ Has H w' ∧ (∃ ua ub, r = Value.agg #[Value.int .i64 (stepOf l c).h.k, Value.int .i64 (stepOf l c).h.k0, Value.int .i64 (stepOf l c).h.k1, Value.int .i64 (stepOf l c).h.k2, ua, ub] ∧ SlL H ua 3 tC t0 (stepOf l c).h.ts ∧ Ss H ub (stepOf l c).subs) ∧ Since nX w w')
theorem c_beh (n : Nat) (ih : CStepIs n) (va vl : Value) (ah l : List CT) {G : Ghost} (hz : SizeOf.sizeOf l ≤ n + 1) (hsz : ah.length + sizeL l ≤ 1000) (hsa : Cs G va ah) (hs : Cs G vl l) (w : World) (hG : Has G w) :
    Calls Try.prog 48 #[va, vl] w (Ret fun r w' => ∃ H : Ghost, (∀ b, H b ≠ none → w.heap.size ≤ b) ∧ Has H w' ∧ Ss H r (stepsOf ah l) ∧ Since nX w w') := by
  refine enter (args := [_, _]) (X := nX) (G := G) (l := [(0, va), (1, vl)]) Try.func48 rfl Try.ntmps48 hG ⟨rfl, rfl, trivial⟩ (Nat.le_of_ble_eq_true rfl) ?_
  obtain ⟨rs, hr, hp, hl⟩ := hs.inv
  have hbd := hr.bound
  have hll := sizeL_len l
  have hlr : l.length = rs.length := by rw [hl]; simp
  rw [hl] at hsz hll
  rw [List.length_map] at hll
  obtain ⟨es, ha, hap, hal⟩ := hsa.inv
  have hel : ah.length = es.length := by rw [hal]; simp
  refine c_seq ?_
  refine c_region ?_
  refine r_val .none rfl (p_assign rfl) ?_
  refine r_nil ?_
  refine e_next ?_
  refine c_seq ?_
  refine c_region ?_
  refine r_val .none rfl (p_assign rfl) ?_
  refine r_nil ?_
  refine e_next ?_
  refine c_seq ?_
  refine c_region ?_
  refine r_val .none rfl (p_move rfl) ?_
  refine r_callrow (vs := [_]) .none rfl cl44 rfl (fun w hw => c_cloneC _ es ha (by omega) hap w hw) (fun v_1 => ?_)
  refine r_val .none rfl (p_assign rfl) ?_
  refine r_nil ?_
  refine e_next ?_
  refine c_seq ?_
  refine c_seq ?_
  refine c_region ?_
  refine r_val .none rfl (p_move rfl) ?_
  refine r_val .none rfl (p_leng Try.underlying22 rfl hr) ?_
  have bd_2 := (hr).bound
  refine r_val .none rfl (p_move rfl) ?_
  refine r_nil ?_
  refine e_next ?_
  refine c_block ?_
  refine c_nilrow 64 6 ?_
  refine c_name (d := 4) rfl (fun u_3 hu_3 => ?_)
  refine c_name (d := 10) rfl (fun u_4 hu_4 => ?_)
  refine c_name (d := 11) rfl (fun u_5 hu_5 => ?_)
  refine c_loop (σ := Nat × Value × Value × List SVal × Ghost) (fun s => [(12, Value.int .i64 (s.1 : Nat)), (5, s.2.1), (0, s.2.2.1), (4, u_3), (10, u_4), (11, u_5)]) (fun s => [rowA (s.2.1) 64 6 (s.2.2.2.1).length ((s.2.2.2.1).flatMap sC), rowA (s.2.2.1) 38 8 ((es ++ rs.take s.1)).length (((es ++ rs.take s.1)).flatMap cvC)]) (fun s => s.2.2.2.2) (fun s => s.1 ≤ rs.length ∧ s.2.2.2.1.map Prod.fst = stepsOf ah ((rs.map Prod.fst).take s.1) ∧ (∀ p ∈ s.2.2.2.1, SlL (fr w s.2.2.2.2) p.2.1 3 tC t0 p.1.h.ts) ∧ (∀ p ∈ s.2.2.2.1, Ss (fr w s.2.2.2.2) p.2.2 p.1.subs) ∧ GNew w nX G s.2.2.2.2) (fun s => rs.length - s.1) ((0, _, _, [], _)) ⟨Nat.zero_le _, rfl, by simp, by simp, GNew.refl _ _ _⟩ rfl ⟨rfl, rfl, rfl, rfl, rfl, rfl, trivial⟩ (.keep (fun _ _ h => rowA_nil rfl _ _ h) (.keep (fun _ _ h => rowA_congr (by simp) (by simp) _ _ h) (.nil))) (fun s hphi => ?_)
  subst hu_3
  subst hu_4
  subst hu_5
  obtain ⟨k, v, v0, qs, H⟩ := s
  obtain ⟨hk, hq, hqt, hqs, hgn⟩ := hphi
  dsimp only at hk hq hqt hqs hgn ⊢
  have hql : qs.length ≤ k := (by have := congrArg List.length hq; rw [stepsOf_len] at this; simp at this; omega)
  refine c_row1 (k := 0) rfl (fun ov_6 => ?_)
  refine c_row1 (k := 1) rfl (fun ov_7 => ?_)
  replace ha := ha.mono hgn.le
  replace hr := hr.mono hgn.le
  replace hp := fun p hm0 => (hp p hm0).mono hgn.le
  replace hap := fun p hm0 => (hap p hm0).mono hgn.le
  refine c_seq ?_
  refine c_region ?_
  refine r_val .none rfl (p_lt rfl rfl) ?_
  refine r_nil ?_
  refine e_next ?_
  refine c_seq ?_
  refine c_splitd (d := 13) rfl (fun h_8 => ?_) (fun h_8 => ?_)
  · skip
    first
      | (exfalso; omega)
      | (
        refine c_cond_t rfl ?_
        refine c_skip ?_
        refine e_next ?_
        refine c_seq ?_
        refine c_block ?_
        refine c_seq ?_
        refine c_region ?_
        refine r_iaddr_g .none rfl Try.underlying22 sz38 rfl hr rfl (by first | exact of_decide_eq_true rfl | omega) (fun p_10 o_11 R_9 => ?_)
        have hc_12 := hp _ (getD_mem (i := k) (d := d0) (by omega))
        have hz9 : (ah ++ ((rs.map Prod.fst).take k)).length + size (rs.getD k d0).1 ≤ 1000 := by have q1 := sizeL_take (rs := rs) (k := k) (by omega); have q2 := sizeL_take_le (rs.map Prod.fst) (k + 1); have q3 := sizeL_len ((rs.map Prod.fst).take k); rw [List.length_take, List.length_map] at q3; rw [List.length_append, List.length_take, List.length_map]; omega
        refine r_val .none rfl (p_ldga0 Try.underlying38 rfl sz38 rfl R_9 (by first | exact of_decide_eq_true rfl | omega) (rfl : _ = Value.agg #[_, _, _, _, _, _, _, _])) ?_
        refine r_alloc .none rfl zr38 (IsRow.lit _) (fun b_1 => ?_)
        refine r_stw (k := 0) .none sz38 rfl rfl (IsRow.lit _) (one_lit rfl (all_cons rfl (all_cons rfl (all_cons rfl (all_cons rfl (all_cons rfl (all_cons rfl (all_cons rfl (all_cons (hc_12).one rfl))))))))) rfl ?_
        refine r_nil ?_
        refine e_next ?_
        refine c_seq ?_
        refine c_region ?_
        refine r_val .none rfl (p_move rfl) ?_
        refine r_val .none rfl (p_move rfl) ?_
        refine r_val .none rfl (p_ldw (k := 0) Try.underlying38 rfl sz38 rfl rfl (rfl : _ = Value.agg #[_, _, _, _, _, _, _, _])) ?_
        refine r_callfr (k := 2) (vs := [_, _]) .none rfl cl30 rfl rfl (fun _ _ _ hle hz => by obtain ⟨ua, ub, h1, h2, h3⟩ := hz; exact ⟨ua, ub, h1, h2.mono hle, h3.mono hle⟩) (fun w G_18 hw hle_19 hs_20 => ih (rs.getD k d0).1 _ _ _ _ w (by have := List.sizeOf_lt_of_mem (show (rs.getD k d0).1 ∈ l by rw [hl]; exact List.mem_map.2 ⟨_, getD_mem (by omega), rfl⟩); omega) hz9 (hc_12.mono hle_19) (by have h : Cs _ _ ((es ++ rs.take k).map Prod.fst) := Tr.mk _ (SlL.of d0 (fun _ => rfl) rfl hs_20) (fun p hm0 => by rcases List.mem_append.1 hm0 with h | h; exact (hap p h).mono hle_19; exact (hp p (List.mem_of_mem_take h)).mono hle_19); rw [List.map_append, ← hal, List.map_take] at h; exact h) hw) (fun G_13 v_16 hn_14 hr_15 => ?_)
        replace ha := ha.mono hn_14.le
        replace hr := hr.mono hn_14.le
        replace hp := fun p hm0 => (hp p hm0).mono hn_14.le
        replace hap := fun p hm0 => (hap p hm0).mono hn_14.le
        replace hqt := fun p hm0 => (hqt p hm0).mono (fr_mono _ hn_14.le)
        replace hqs := fun p hm0 => (hqs p hm0).mono (fr_mono _ hn_14.le)
        replace R_9 := R_9.mono hn_14.le
        replace hc_12 := hc_12.mono hn_14.le
        obtain ⟨u_17a, u_17b, rfl, u_17s, u_17t⟩ := hr_15
        refine r_bslice (vs := [(0, Value.agg #[_, _, _, _, _, _])]) (c := #[_, _, _, _, _, _]) .none rfl Try.underlying50 el64 rfl rfl rfl (bs64_10a6 _ _ _ _ _ _) (IsRow.lit _) (fun b_2 => ?_)
        refine r_append (k := 2) (k2 := 0) .none rfl Try.underlying50 el64 rfl (by decide) rfl rfl rfl rfl rfl (one_lit rfl (all_cons rfl (all_cons rfl (all_cons rfl (all_cons rfl (all_cons (u_17s).one (all_cons (u_17t).one rfl))))))) (by simp only [maxLen]; omega) (by omega) (fun v_21 => ?_)
        refine r_row1 (k := 2) rfl (fun o_22 => ?_)
        refine r_val .none rfl (p_assign rfl) ?_
        refine r_nil ?_
        refine e_next ?_
        refine c_region ?_
        refine r_val .none rfl (p_move rfl) ?_
        refine r_val .none rfl (p_ldw (k := 1) Try.underlying38 rfl sz38 rfl rfl (rfl : _ = Value.agg #[_, _, _, _, _, _, _, _])) ?_
        refine r_bslice (vs := [(0, Value.agg #[_, _, _, _, _, _, _, _])]) (c := #[_, _, _, _, _, _, _, _]) .none rfl Try.underlying22 el38 rfl rfl rfl (bs38_10a8 _ _ _ _ _ _ _ _) (IsRow.lit _) (fun b_3 => ?_)
        refine r_append (k := 4) (k2 := 0) .none rfl Try.underlying22 el38 rfl (by decide) rfl rfl rfl rfl rfl (one_lit rfl (all_cons rfl (all_cons rfl (all_cons rfl (all_cons rfl (all_cons rfl (all_cons rfl (all_cons rfl (all_cons (hc_12).one rfl))))))))) (by rw [List.length_append, List.length_take]; simp only [maxLen]; omega) (by rw [List.length_append, List.length_take]; omega) (fun v_23 => ?_)
        refine r_row1 (k := 4) rfl (fun o_24 => ?_)
        refine r_val .none rfl (p_assign rfl) ?_
        refine r_nil ?_
        refine e_norm_block ?_
        refine e_next ?_
        refine c_region ?_
        refine r_val .none rfl (p_add rfl rfl (by omega)) ?_
        refine r_val .none rfl (p_move rfl) ?_
        refine r_nil ?_
        refine e_round ((k + 1, _, _, qs ++ [(stepOf (ah ++ ((rs.map Prod.fst).take k)) (rs.getD k d0).1, u_17a, u_17b)], _)) ⟨⟨by dsimp only; omega, by rw [stepsOf_take (by omega), List.map_append, hq]; rfl, (fun p hp' => by rcases List.mem_append.1 hp' with h | h; exact hqt p h; rw [List.mem_singleton.1 h]; exact u_17s), (fun p hp' => by rcases List.mem_append.1 hp' with h | h; exact hqs p h; rw [List.mem_singleton.1 h]; exact u_17t), (hgn.trans hn_14)⟩, by dsimp only; omega⟩ rfl ⟨rfl, rfl, rfl, rfl, rfl, rfl, trivial⟩ (.drop (.drop (.drop (.keep (fun _ _ h => rowA_snoc (l := qs) (x := (stepOf (ah ++ ((rs.map Prod.fst).take k)) (rs.getD k d0).1, u_17a, u_17b)) rfl rfl rfl rfl _ _ h) (.keep (fun _ _ h => rowA_snoc (l := es ++ rs.take k) (x := rs.getD k d0) (by rw [take_rs (by omega), List.append_assoc]) rfl rfl rfl _ _ h) (.nil))))))
        )
  · skip
    first
      | (exfalso; omega)
      | (
        refine c_cond_f rfl ?_
        refine c_exit ?_
        refine e_exit_then ?_
        refine e_exit_then ?_
        refine e_exit_block ?_
        refine e_next ?_
        refine c_seq ?_
        refine c_region ?_
        refine r_val .none rfl (p_move rfl) ?_
        refine r_val .none rfl (p_assign rfl) ?_
        refine r_nil ?_
        refine e_next ?_
        refine c_ret ?_
        refine e_freezeF (k := 0) rfl (fun G_25 hn_26 hs_27 => ?_)
        replace ha := ha.mono hn_26.le
        replace hr := hr.mono hn_26.le
        replace hp := fun p hm0 => (hp p hm0).mono hn_26.le
        replace hap := fun p hm0 => (hap p hm0).mono hn_26.le
        replace hqt := fun p hm0 => (hqt p hm0).mono (fr_mono _ hn_26.le)
        replace hqs := fun p hm0 => (hqs p hm0).mono (fr_mono _ hn_26.le)
        refine e_ret1 Try.results48 (.tmp rfl .nil) (fun w hm => ⟨fr _ _, fr_new _ _, fun b o e => hm.has b o (fr_le _ _ b o e), ?_, hm.since⟩)
        rw [show stepsOf ah l = qs.map Prod.fst by rw [hq, hl, List.take_of_length_le (by simp; omega)]]
        exact Ss.mk qs (SlL.of s0 (fun _ => rfl) rfl hs_27) hqt hqs
        )
theorem c_cstep_s (n : Nat) (ih : CStepIs n) (c : CT) (sv va : Value) (l : List CT) {G : Ghost} (hz : SizeOf.sizeOf c ≤ n + 1) (hsz : l.length + size c ≤ 1000) (hs : Cs G sv c.subs) (hs2 : Cs G va l) (w : World) (hG : Has G w) :
    Calls Try.prog 30 #[va, Value.agg #[Value.int .i64 c.h.k, Value.bool c.h.v0, Value.int .i64 c.h.n0, Value.bool c.h.v1, Value.int .i64 c.h.n1, Value.bool c.h.v2, Value.int .i64 c.h.n2, sv]] w (Ret fun r w' => ∃ H : Ghost, (∀ b, H b ≠ none → w.heap.size ≤ b) ∧ Has H w' ∧ (∃ ua ub, r = Value.agg #[Value.int .i64 (stepOf l c).h.k, Value.int .i64 (stepOf l c).h.k0, Value.int .i64 (stepOf l c).h.k1, Value.int .i64 (stepOf l c).h.k2, ua, ub] ∧ SlL H ua 3 tC t0 (stepOf l c).h.ts ∧ Ss H ub (stepOf l c).subs) ∧ Since nX w w') := by
  refine enter (args := [_, _]) (X := nX) (G := G) (l := [(0, va), (1, Value.agg #[Value.int .i64 c.h.k, Value.bool c.h.v0, Value.int .i64 c.h.n0, Value.bool c.h.v1, Value.int .i64 c.h.n1, Value.bool c.h.v2, Value.int .i64 c.h.n2, sv])]) Try.func30 rfl Try.ntmps30 hG ⟨rfl, rfl, trivial⟩ (Nat.le_of_ble_eq_true rfl) ?_
  have hone := hs.one
  have hsq := size_eq c
  refine c_seq ?_
  refine c_region ?_
  refine r_box .none rfl rfl (IsRow.lit _) (fun b_1 => ?_)
  refine r_alloc .none rfl zr64 (IsRow.lit _) (fun b_2 => ?_)
  refine r_nil ?_
  refine e_next ?_
  refine c_seq ?_
  refine c_seq ?_
  refine c_region ?_
  refine r_val .none rfl (p_field Try.underlying38 rfl sz3 rfl) ?_
  refine r_val .none rfl (p_ld (k := 1) Try.underlying3 rfl rfl rfl (by first | exact of_decide_eq_true rfl | omega) (rfl : _ = Value.int _ _)) ?_
  refine r_val .none rfl (p_eq rfl rfl) ?_
  refine r_nil ?_
  refine e_next ?_
  refine c_splitd (d := 7) rfl (fun h_1 => ?_) (fun h_1 => ?_)
  · skip
    first
      | (exfalso; omega)
      | (
        refine c_cond_t rfl ?_
        refine c_seq ?_
        refine c_region_d (fun j => [7].contains j) _ mixed (.keep (fun _ _ h => h) (.keep (fun _ _ h => h) (.nil))) ?_
        refine d_val1 0 rfl rfl (by kernel_rfl) (fun j hj => by have h : 7 < j := (Nat.lt_of_lt_of_le (by decide : 7 < 8) hj); simp; omega) .none rfl (p_field Try.underlying38 rfl sz3 rfl) ?_
        refine d_val1 1 rfl rfl (by kernel_rfl) (fun j hj => by have h : 7 < j := (Nat.lt_of_lt_of_le (by decide : 7 < 8) hj); simp; omega) .none rfl (p_ld (k := 1) Try.underlying3 rfl rfl rfl (by first | exact of_decide_eq_true rfl | omega) (rfl : _ = Value.int _ _)) ?_
        refine d_val1 2 rfl rfl (by kernel_rfl) (fun j hj => by have h : 7 < j := (Nat.lt_of_lt_of_le (by decide : 7 < 8) hj); simp; omega) .none rfl (p_move rfl) ?_
        refine d_val1 3 rfl rfl (by kernel_rfl) (fun j hj => by have h : 7 < j := (Nat.lt_of_lt_of_le (by decide : 7 < 8) hj); simp; omega) .none rfl (p_field Try.underlying38 rfl sz22 rfl) ?_
        refine d_val1 4 rfl rfl (by kernel_rfl) (fun j hj => by have h : 7 < j := (Nat.lt_of_lt_of_le (by decide : 7 < 8) hj); simp; omega) .none rfl (p_ld (k := 1) Try.underlying22 rfl rfl rfl (by first | exact of_decide_eq_true rfl | omega) rfl) ?_
        refine d_eff 5 rfl (by kernel_rfl) (fun K_2 hKK_2 hcK_2 => ?_)
        refine r_callf (vs := [_, _]) .none rfl cl48 rfl (fun _ _ _ hle hz => hz.mono hle) (fun w hw => c_beh n ih _ _ l c.subs (by have := size_subs c; omega) (by omega) hs2 hs w hw) (fun G_3 v_6 hn_4 hr_5 => ?_)
        replace hs2 := hs2.mono hn_4.le
        replace hs := hs.mono hn_4.le
        have u_7 := hr_5
        refine r_nil (e_d (i := 5) (brk := (fun j => [7].contains j)) (ph' := true) hKK_2 hcK_2 rfl (fun _ => hn_4.le) (fun _ => .keep (fun _ _ h => h) (.keep (fun _ _ h => h) (.nil))) ?_)
        clear hKK_2 hcK_2 K_2
        obtain ⟨a_8, c_9, rfl⟩ := Ss.len u_7
        refine d_val1 6 rfl rfl (by kernel_rfl) (fun j hj => by have h : 7 < j := (Nat.lt_of_lt_of_le (by decide : 7 < 8) hj); simp; omega) .none rfl (p_build (vs := [(0, Value.int _ _), (3, Value.slice _ _ _)]) rfl (bl64_0i1_3s3 _ _ _ _)) ?_
        refine d_eff 7 rfl (by kernel_rfl) (fun K_10 hKK_10 hcK_10 => ?_)
        refine r_stw (k := 0) .none sz64 rfl rfl (IsRow.lit _) (one_lit rfl (all_cons rfl (all_cons rfl (all_cons rfl (all_cons rfl (all_cons rfl (all_cons (u_7).one rfl))))))) rfl ?_
        refine r_nil (e_d (i := 7) (brk := (fun j => [7].contains j)) (ph' := false) hKK_10 hcK_10 rfl (fun h => by cases h) (fun h => by cases h) ?_)
        clear hKK_10 hcK_10 K_10
        refine d_nil (by kernel_rfl) ?_
        refine e_next ?_
        refine c_ret ?_
        refine e_ret_then ?_
        refine e_ret1 Try.results30 (.cell (k := 0) rfl Try.underlying64 rfl sz64 rfl (rfl : _ = Value.agg #[_, _, _, _, _, _]) .nil) (fun w hm => ⟨fr _ _, fr_new _ _, fun b o e => hm.has b o (fr_le _ _ b o e), ?_, hm.since⟩)
        rw [stepOf_ncc (by omega)]
        exact ⟨_, _, rfl, SlG.nil _ _ _, u_7⟩
        )
  · skip
    first
      | (exfalso; omega)
      | (
        refine c_cond_f rfl ?_
        refine c_skip ?_
        refine e_next ?_
        refine c_seq ?_
        refine c_region_d (fun j => [9].contains j) _ mixed (.keep (fun _ _ h => h) (.keep (fun _ _ h => h) (.nil))) ?_
        refine d_val1 0 rfl rfl (by kernel_rfl) (fun j hj => by have h : 9 < j := (Nat.lt_of_lt_of_le (by decide : 9 < 10) hj); simp; omega) .none rfl (p_field Try.underlying38 rfl sz3 rfl) ?_
        refine d_val1 1 rfl rfl (by kernel_rfl) (fun j hj => by have h : 9 < j := (Nat.lt_of_lt_of_le (by decide : 9 < 10) hj); simp; omega) .none rfl (p_ld (k := 1) Try.underlying3 rfl rfl rfl (by first | exact of_decide_eq_true rfl | omega) (rfl : _ = Value.int _ _)) ?_
        refine d_val1 2 rfl rfl (by kernel_rfl) (fun j hj => by have h : 9 < j := (Nat.lt_of_lt_of_le (by decide : 9 < 10) hj); simp; omega) .none rfl (p_field Try.underlying38 rfl sz36 rfl) ?_
        refine d_val1 3 rfl rfl (by kernel_rfl) (fun j hj => by have h : 9 < j := (Nat.lt_of_lt_of_le (by decide : 9 < 10) hj); simp; omega) .none rfl (p_lda (k := 1) Try.underlying36 rfl sz36 rfl rfl (by first | exact of_decide_eq_true rfl | omega) (rfl : _ = Value.agg #[_, _, _, _, _, _])) ?_
        refine d_val1 5 rfl rfl (by kernel_rfl) (fun j hj => by have h : 9 < j := (Nat.lt_of_lt_of_le (by decide : 9 < 10) hj); simp; omega) .none rfl (p_move rfl) ?_
        refine d_val1 6 rfl rfl (by kernel_rfl) (fun j hj => by have h : 9 < j := (Nat.lt_of_lt_of_le (by decide : 9 < 10) hj); simp; omega) .none rfl (p_ldw (k := 1) Try.underlying38 rfl sz38 rfl rfl (rfl : _ = Value.agg #[_, _, _, _, _, _, _, _])) ?_
        refine d_eff 4 rfl (by kernel_rfl) (fun K_11 hKK_11 hcK_11 => ?_)
        refine r_call (vs := [_]) .none rfl cl52 rfl (fun w hw => c_keyof c.h w) ?_
        refine r_nil (e_d (i := 4) (brk := (fun j => [9].contains j)) (ph' := true) hKK_11 hcK_11 rfl (fun _ => GLe.refl _) (fun _ => .keep (fun _ _ h => h) (.keep (fun _ _ h => h) (.nil))) ?_)
        clear hKK_11 hcK_11 K_11
        refine d_eff 7 rfl (by kernel_rfl) (fun K_12 hKK_12 hcK_12 => ?_)
        refine r_callf (vs := [_, _]) .none rfl cl53 rfl (fun _ _ _ hle hz => hz.mono hle) (fun w hw => c_tests8 _ _ c sv (by omega) hs2 hone w hw) (fun G_13 v_16 hn_14 hr_15 => ?_)
        replace hs2 := hs2.mono hn_14.le
        replace hs := hs.mono hn_14.le
        have u_17 := hr_15
        refine r_nil (e_d (i := 7) (brk := (fun j => [9].contains j)) (ph' := true) hKK_12 hcK_12 rfl (fun _ => hn_14.le) (fun _ => .keep (fun _ _ h => h) (.keep (fun _ _ h => h) (.nil))) ?_)
        clear hKK_12 hcK_12 K_12
        obtain ⟨a_18, c_19, rfl⟩ := SlG.len u_17
        refine d_val1 8 rfl rfl (by kernel_rfl) (fun j hj => by have h : 9 < j := (Nat.lt_of_lt_of_le (by decide : 9 < 10) hj); simp; omega) .none rfl (p_build (vs := [(0, Value.int _ _), (1, Value.agg #[_, _, _]), (2, Value.slice _ _ _)]) rfl (bl64_0i1_1a3_2s3 _ _ _ _ _ _ _)) ?_
        refine d_eff 9 rfl (by kernel_rfl) (fun K_20 hKK_20 hcK_20 => ?_)
        refine r_stw (k := 0) .none sz64 rfl rfl (IsRow.lit _) (one_lit rfl (all_cons rfl (all_cons rfl (all_cons rfl (all_cons rfl (all_cons (u_17).one (all_cons rfl rfl))))))) rfl ?_
        refine r_nil (e_d (i := 9) (brk := (fun j => [9].contains j)) (ph' := false) hKK_20 hcK_20 rfl (fun h => by cases h) (fun h => by cases h) ?_)
        clear hKK_20 hcK_20 K_20
        refine d_nil (by kernel_rfl) ?_
        refine e_next ?_
        refine c_ret ?_
        refine e_ret1 Try.results30 (.cell (k := 0) rfl Try.underlying64 rfl sz64 rfl (rfl : _ = Value.agg #[_, _, _, _, _, _]) .nil) (fun w hm => ⟨fr _ _, fr_new _ _, fun b o e => hm.has b o (fr_le _ _ b o e), ?_, hm.since⟩)
        rw [stepOf_other (by omega)]
        exact ⟨_, _, rfl, u_17, Ss.nil⟩
        )
theorem c_cstep_n : ∀ n, CStepIs n
  | 0 => fun c sv va l G w hz _ _ _ _ => absurd hz (by have := size_subs c; omega)
  | n + 1 => fun c sv va l G w hz hsz hs hs2 hG => c_cstep_s n (c_cstep_n n) c sv va l hz hsz hs hs2 w hG
theorem c_cstep (c : CT) (sv va : Value) (l : List CT) {G : Ghost} (hsz : l.length + size c ≤ 1000) (hs : Cs G sv c.subs) (hs2 : Cs G va l) (w : World) (hG : Has G w) : Calls Try.prog 30 #[va, Value.agg #[Value.int .i64 c.h.k, Value.bool c.h.v0, Value.int .i64 c.h.n0, Value.bool c.h.v1, Value.int .i64 c.h.n1, Value.bool c.h.v2, Value.int .i64 c.h.n2, sv]] w (Ret fun r w' => ∃ H : Ghost, (∀ b, H b ≠ none → w.heap.size ≤ b) ∧ Has H w' ∧ (∃ ua ub, r = Value.agg #[Value.int .i64 (stepOf l c).h.k, Value.int .i64 (stepOf l c).h.k0, Value.int .i64 (stepOf l c).h.k1, Value.int .i64 (stepOf l c).h.k2, ua, ub] ∧ SlL H ua 3 tC t0 (stepOf l c).h.ts ∧ Ss H ub (stepOf l c).subs) ∧ Since nX w w') := c_cstep_n _ c sv va l G w (Nat.le_refl _) hsz hs hs2 hG
theorem c_ccomp (v : Value) (l : List CT) {G : Ghost} (hsz : sizeL l ≤ 1000) (hs : Cs G v l) (w : World) (hG : Has G w) :
    Calls Try.prog 24 #[v] w (Ret fun r w' => ∃ H : Ghost, (∀ b, H b ≠ none → w.heap.size ≤ b) ∧ Has H w' ∧ Ss H r (stepsOf [] l) ∧ Since nX w w') := by
  refine enter (args := [_]) (X := nX) (G := G) (l := [(0, v)]) Try.func24 rfl Try.ntmps24 hG ⟨rfl, trivial⟩ (Nat.le_of_ble_eq_true rfl) ?_
  refine c_seq ?_
  refine c_region ?_
  refine r_val .none rfl (p_assign rfl) ?_
  refine r_nil ?_
  refine e_next ?_
  refine c_seq ?_
  refine c_region ?_
  refine r_val .none rfl (p_move rfl) ?_
  refine r_callf (vs := [_, _]) .none rfl cl48 rfl (fun _ _ _ hle hz => hz.mono hle) (fun w hw => c_beh _ (c_cstep_n _) _ _ [] l (Nat.le_succ _) (by simpa using hsz) Tr.nil hs w hw) (fun G_1 v_4 hn_2 hr_3 => ?_)
  replace hs := hs.mono hn_2.le
  have u_5 := hr_3
  refine r_val .none rfl (p_assign rfl) ?_
  refine r_nil ?_
  refine e_next ?_
  refine c_ret ?_
  refine e_ret1 Try.results24 (.tmp rfl .nil) (fun w hm => ⟨fr _ _, fr_new _ _, fun b o e => hm.has b o (fr_le _ _ b o e), ?_, hm.since⟩)
  exact u_5
end Go.Proofs.Ytoflaphnlfggkaa

/- Walks: what Go functions of this chapter come to, each as a function on plain data; no condition but those that each theorem names. Printed by a program of this work (gen.py). -/
namespace Go.Proofs.Ytoflaphnlfggkaa
open Go.Gx Go.Gx.T4 Go.Gx.T3 Go.Gx.T6 Go.Gx.T8 Go.Gx.T4 Go.Gx.T3 Go.Gx.T8 Go.Gx.T4 Go.Gx.T3 Go.Gx.T8 Go.Gx.T6 Go.Gx.T4 Go.Gx.T3
theorem sz50 : SzIs Try.prog 50 1 := by
  unfold SzIs
  kernel_rfl
theorem lf61 : leafT Try.prog 9 61 = some [3, 3, 3] := by
  kernel_rfl
theorem ef61 : eqT Try.prog 9 61 = true := by
  kernel_rfl
theorem lf92 : leafT Try.prog 9 92 = some [3, 3, 3] := by
  kernel_rfl
theorem ef92 : eqT Try.prog 9 92 = true := by
  kernel_rfl
theorem eg61 : Try.prog.eqGuardType Try.prog.depth 61 = false := by
  kernel_rfl
theorem eg92 : Try.prog.eqGuardType Try.prog.depth 92 = false := by
  kernel_rfl
theorem cl24 : Callable Try.prog 24 := callable Try.func24 (by kernel_rfl) rfl
theorem cl29 : Callable Try.prog 29 := callable Try.func29 (by kernel_rfl) rfl
theorem cl50 : Callable Try.prog 50 := callable Try.func50 (by kernel_rfl) rfl
theorem cl51 : Callable Try.prog 51 := callable Try.func51 (by kernel_rfl) rfl
theorem bl61_0i1_1i1_2i1 (x0 : Int) (x1 : Int) (x2 : Int) : Program.built Try.prog 61 [(0, Value.int .i64 x0), (1, Value.int .i64 x1), (2, Value.int .i64 x2)] = some #[Value.int .i64 x0, Value.int .i64 x1, Value.int .i64 x2] := by
  kernel_rfl
def CsameIs (n : Nat) : Prop := ∀ (c c2 : ST) (ta sb ta2 sb2 : Value) (G : Ghost) (w : World), SizeOf.sizeOf c ≤ n → SlL G ta 3 tC t0 c.h.ts → Ss G sb c.subs → SlL G ta2 3 tC t0 c2.h.ts → Ss G sb2 c2.subs → Has G w → Calls Try.prog 29 #[Value.agg #[Value.int .i64 c.h.k, Value.int .i64 c.h.k0, Value.int .i64 c.h.k1, Value.int .i64 c.h.k2, ta, sb], Value.agg #[Value.int .i64 c2.h.k, Value.int .i64 c2.h.k0, Value.int .i64 c2.h.k1, Value.int .i64 c2.h.k2, ta2, sb2]] w (Ret fun r w' => r = Value.bool (seq c c2) ∧ Since nX w w')
theorem c_awake8   (w : World)  :
    Calls Try.prog 20 #[] w (Ret fun r w' => r = Value.bool true ∧ Since nX w w') := by
  refine enter (args := []) (X := nX) (G := (fun _ => none)) (l := []) Try.func20 rfl Try.ntmps20 (fun _ _ h => by cases h) trivial (Nat.le_of_ble_eq_true rfl) ?_
  refine c_seq ?_
  refine c_region ?_
  refine r_val .none rfl (p_assign rfl) ?_
  refine r_nil ?_
  refine e_next ?_
  refine c_seq ?_
  refine c_region ?_
  refine r_val .none rfl (p_build (vs := [(0, Value.bool _), (1, Value.int _ _)]) rfl (bl35_0b1_1i1 _ _)) ?_
  refine r_val .none rfl (p_build (vs := [(0, Value.bool _), (1, Value.int _ _)]) rfl (bl35_0b1_1i1 _ _)) ?_
  refine r_val .none rfl (p_build (vs := [(1, Value.int _ _)]) rfl (bl35_1i1 _)) ?_
  refine r_alloc .none rfl zr35 (IsRow.lit _) (fun b_1 => ?_)
  refine r_alloc .none rfl zr35 (IsRow.lit _) (fun b_2 => ?_)
  refine r_alloc .none rfl zr35 (IsRow.lit _) (fun b_3 => ?_)
  refine r_stw (k := 2) .none sz35 rfl rfl (IsRow.lit _) (one_lit rfl rfl) rfl ?_
  refine r_stw (k := 1) .none sz35 rfl rfl (IsRow.lit _) (one_lit rfl rfl) rfl ?_
  refine r_stw (k := 0) .none sz35 rfl rfl (IsRow.lit _) (one_lit rfl rfl) rfl ?_
  refine r_nil ?_
  refine e_next ?_
  refine c_seq ?_
  refine c_region ?_
  refine r_val .none rfl (p_ldw (k := 2) Try.underlying35 rfl sz35 rfl rfl (rfl : _ = Value.agg #[_, _])) ?_
  refine r_val .none rfl (p_ldw (k := 0) Try.underlying35 rfl sz35 rfl rfl (rfl : _ = Value.agg #[_, _])) ?_
  refine r_val .none rfl (p_ldw (k := 1) Try.underlying35 rfl sz35 rfl rfl (rfl : _ = Value.agg #[_, _])) ?_
  refine r_val .none rfl (p_build (vs := [(0, Value.agg #[_, _]), (1, Value.agg #[_, _]), (2, Value.agg #[_, _])]) rfl (bl36_0a2_1a2_2a2 _ _ _ _ _ _)) ?_
  refine r_val .none rfl (p_build (vs := [(0, Value.int _ _), (1, Value.agg #[_, _, _, _, _, _])]) rfl (bl38_0i1_1a6 _ _ _ _ _ _ _)) ?_
  refine r_val .none rfl (p_ldw (k := 1) Try.underlying35 rfl sz35 rfl rfl (rfl : _ = Value.agg #[_, _])) ?_
  refine r_val .none rfl (p_ldw (k := 0) Try.underlying35 rfl sz35 rfl rfl (rfl : _ = Value.agg #[_, _])) ?_
  refine r_val .none rfl (p_ldw (k := 2) Try.underlying35 rfl sz35 rfl rfl (rfl : _ = Value.agg #[_, _])) ?_
  refine r_val .none rfl (p_build (vs := [(0, Value.agg #[_, _]), (1, Value.agg #[_, _]), (2, Value.agg #[_, _])]) rfl (bl36_0a2_1a2_2a2 _ _ _ _ _ _)) ?_
  refine r_val .none rfl (p_build (vs := [(0, Value.int _ _), (1, Value.agg #[_, _, _, _, _, _])]) rfl (bl38_0i1_1a6 _ _ _ _ _ _ _)) ?_
  refine r_bslice (vs := [(0, Value.agg #[_, _, _, _, _, _, _, _]), (1, Value.agg #[_, _, _, _, _, _, _, _])]) (c := #[_, _, _, _, _, _, _, _, _, _, _, _, _, _, _, _]) .none rfl Try.underlying22 el38 rfl rfl rfl (bs38_20a8_1a8 _ _ _ _ _ _ _ _ _ _ _ _ _ _ _ _) (IsRow.lit _) (fun b_4 => ?_)
  refine r_freezeB (k := 0) 2 8 rfl rfl (by decide) (fun G_1 hn_2 hs_3 => ?_)
  have h18 : SlL G_1 (Value.slice (some ⟨b_4, 0, none⟩) 2 2) 8 cvC d0 [(.mk ⟨1, true, 1, false, 4, true, 2⟩ [], (Value.slice none 0 0)), (.mk ⟨1, true, 2, false, 4, true, 1⟩ [], (Value.slice none 0 0))] := SlG.congr hs_3 (fun i hi j hj => by match i, hi with | 0, _ => (match j, hj with | 0, _ => rfl | 1, _ => rfl | 2, _ => rfl | 3, _ => rfl | 4, _ => rfl | 5, _ => rfl | 6, _ => rfl | 7, _ => rfl) | 1, _ => (match j, hj with | 0, _ => rfl | 1, _ => rfl | 2, _ => rfl | 3, _ => rfl | 4, _ => rfl | 5, _ => rfl | 6, _ => rfl | 7, _ => rfl))
  have th18 : Cs G_1 (Value.slice (some ⟨b_4, 0, none⟩) 2 2) (L8) := Tr.mk _ h18 (by intro p hm0; simp only [List.mem_cons, List.not_mem_nil, or_false] at hm0; rcases hm0 with rfl | rfl; exact Tr.nil; exact Tr.nil)
  refine r_callf (vs := [_]) .none rfl cl24 rfl (fun _ _ _ hle hz => hz.mono hle) (fun w hw => c_ccomp _ L8 (by decide) th18 w hw) (fun G_4 v_7 hn_5 hr_6 => ?_)
  replace h18 := h18.mono hn_5.le
  replace th18 := th18.mono hn_5.le
  have u_8 := (hr_6).mono (fr_le _ _)
  obtain ⟨qs, hq, hqt, hqs, hql⟩ := (u_8).inv
  obtain ⟨a0, b0, a1, b1, rfl⟩ := L8_open hql
  have ht0 : SlL _ a0 3 tC t0 [] := hqt (S80, a0, b0) (by simp)
  have ht1 : SlL _ a1 3 tC t0 [(0, 0, 2), (2, 0, 0)] := hqt (S81, a1, b1) (by simp)
  refine r_val .none rfl (p_assign rfl) ?_
  refine r_nil ?_
  refine e_next ?_
  refine c_seq ?_
  refine c_region ?_
  refine r_val .none rfl (p_move rfl) ?_
  refine r_val .none rfl (p_leng Try.underlying50 rfl hq) ?_
  have bd_9 := (hq).bound
  refine r_val .none rfl (p_eq rfl rfl) ?_
  refine r_val .none rfl (p_move rfl) ?_
  refine' r_and (c := 23) (d := 30) [_, _, _, _, _, _, _] rfl (fun h_10 Q_11 hQ_12 => ?_) (fun h_10 Q_11 hQ_12 => ?_) ?_
  rotate_left 1
  · skip
    replace h_10 := of_decide_eq_true h_10
    refine r_val (.some rfl rfl) rfl (p_move rfl) ?_
    refine r_iaddr_g (i := 1) (.some rfl rfl) rfl Try.underlying50 sz64 rfl hq rfl (by first | exact of_decide_eq_true rfl | omega) (fun p_15 o_16 R_14 => ?_)
    refine r_val (.some rfl rfl) rfl (p_field Try.underlying64 rfl sz61 rfl) ?_
    refine r_val (.some rfl rfl) rfl (p_ldga (j := 1) Try.underlying61 rfl sz61 rfl R_14 (by first | exact of_decide_eq_true rfl | omega) (rfl : _ = Value.agg #[_, _, _])) ?_
    refine r_val (.some rfl rfl) rfl (p_build (vs := [(0, Value.int _ _), (1, Value.int _ _), (2, Value.int _ _)]) rfl (bl61_0i1_1i1_2i1 _ _ _)) ?_
    refine r_val (.some rfl rfl) rfl (p_eqa rfl rfl (eq_flat Try.underlying61 rfl lf61 ef61 eg61 (.cons (.int Try.underlying3) (.cons (.int Try.underlying3) (.cons (.int Try.underlying3) (.nil)))) (.cons (.int Try.underlying3) (.cons (.int Try.underlying3) (.cons (.int Try.underlying3) (.nil)))))) ?_
    refine r_val .none rfl (p_pick_t rfl rfl) ?_
    refine r_nil (e_fin (d := 30) hQ_12 rfl (by repeat (first | exact .refl | refine .put rfl ?_ | refine .say rfl ?_ | refine .say2 rfl (by first | assumption | simp_all) ?_)))
  · skip
    repeat (first | refine r_skip rfl (.no rfl rfl) ?_ | refine r_skip rfl (.un rfl rfl) ?_)
    refine r_val (by first | exact .none | exact .some rfl rfl) rfl (p_pick_f rfl rfl) ?_
    refine r_nil (e_fin (d := 30) hQ_12 rfl (by repeat (first | exact .refl | refine .put rfl ?_ | refine .say rfl ?_ | refine .say2 rfl (by first | assumption | simp_all) ?_)))
  refine r_val .none rfl (p_move rfl) ?_
  refine' r_and (c := 31) (d := 38) [_, _, _, _, _, _, _] rfl (fun h_17 Q_18 hQ_19 => ?_) (fun h_17 Q_18 hQ_19 => ?_) ?_
  rotate_left 1
  · skip
    try simp only [norms] at h_17
    refine r_val (.some rfl rfl) rfl (p_move rfl) ?_
    refine r_iaddr_g (i := 0) (.some rfl rfl) rfl Try.underlying50 sz64 rfl hq rfl (by first | exact of_decide_eq_true rfl | omega) (fun p_22 o_23 R_21 => ?_)
    refine r_val (.some rfl rfl) rfl (p_field Try.underlying64 rfl sz62 rfl) ?_
    refine r_val (.some rfl rfl) rfl (p_ldg (j := 4) Try.underlying62 rfl rfl R_21 (by first | exact of_decide_eq_true rfl | omega) rfl) ?_
    refine r_val (.some rfl rfl) rfl (p_leng Try.underlying62 rfl ht0) ?_
    have bd_24 := (ht0).bound
    refine r_val (.some rfl rfl) rfl (p_eq rfl rfl) ?_
    refine r_val .none rfl (p_pick_t rfl rfl) ?_
    refine r_nil (e_fin (d := 38) hQ_19 rfl (by repeat (first | exact .refl | refine .put rfl ?_ | refine .say rfl ?_ | refine .say2 rfl (by first | assumption | simp_all) ?_)))
  · skip
    repeat (first | refine r_skip rfl (.no rfl rfl) ?_ | refine r_skip rfl (.un rfl rfl) ?_)
    refine r_val (by first | exact .none | exact .some rfl rfl) rfl (p_pick_f rfl rfl) ?_
    refine r_nil (e_fin (d := 38) hQ_19 rfl (by repeat (first | exact .refl | refine .put rfl ?_ | refine .say rfl ?_ | refine .say2 rfl (by first | assumption | simp_all) ?_)))
  refine r_val .none rfl (p_move rfl) ?_
  refine' r_and (c := 39) (d := 46) [_, _, _, _, _, _, _] rfl (fun h_25 Q_26 hQ_27 => ?_) (fun h_25 Q_26 hQ_27 => ?_) ?_
  rotate_left 1
  · skip
    try simp only [norms] at h_25
    refine r_val (.some rfl rfl) rfl (p_move rfl) ?_
    refine r_iaddr_g (i := 1) (.some rfl rfl) rfl Try.underlying50 sz64 rfl hq rfl (by first | exact of_decide_eq_true rfl | omega) (fun p_30 o_31 R_29 => ?_)
    refine r_val (.some rfl rfl) rfl (p_field Try.underlying64 rfl sz62 rfl) ?_
    refine r_val (.some rfl rfl) rfl (p_ldg (j := 4) Try.underlying62 rfl rfl R_29 (by first | exact of_decide_eq_true rfl | omega) rfl) ?_
    refine r_val (.some rfl rfl) rfl (p_leng Try.underlying62 rfl ht1) ?_
    have bd_32 := (ht1).bound
    refine r_val (.some rfl rfl) rfl (p_eq rfl rfl) ?_
    refine r_val .none rfl (p_pick_t rfl rfl) ?_
    refine r_nil (e_fin (d := 46) hQ_27 rfl (by repeat (first | exact .refl | refine .put rfl ?_ | refine .say rfl ?_ | refine .say2 rfl (by first | assumption | simp_all) ?_)))
  · skip
    repeat (first | refine r_skip rfl (.no rfl rfl) ?_ | refine r_skip rfl (.un rfl rfl) ?_)
    refine r_val (by first | exact .none | exact .some rfl rfl) rfl (p_pick_f rfl rfl) ?_
    refine r_nil (e_fin (d := 46) hQ_27 rfl (by repeat (first | exact .refl | refine .put rfl ?_ | refine .say rfl ?_ | refine .say2 rfl (by first | assumption | simp_all) ?_)))
  refine r_val .none rfl (p_move rfl) ?_
  refine' r_and (c := 47) (d := 56) [_, _, _, _, _, _, _, _, _] rfl (fun h_33 Q_34 hQ_35 => ?_) (fun h_33 Q_34 hQ_35 => ?_) ?_
  rotate_left 1
  · skip
    try simp only [norms] at h_33
    refine r_val (.some rfl rfl) rfl (p_move rfl) ?_
    refine r_iaddr_g (i := 1) (.some rfl rfl) rfl Try.underlying50 sz64 rfl hq rfl (by first | exact of_decide_eq_true rfl | omega) (fun p_38 o_39 R_37 => ?_)
    refine r_val (.some rfl rfl) rfl (p_field Try.underlying64 rfl sz62 rfl) ?_
    refine r_val (.some rfl rfl) rfl (p_ldg (j := 4) Try.underlying62 rfl rfl R_37 (by first | exact of_decide_eq_true rfl | omega) rfl) ?_
    refine r_iaddr_g (i := 1) (.some rfl rfl) rfl Try.underlying62 sz92 rfl ht1 rfl (by first | exact of_decide_eq_true rfl | omega) (fun p_41 o_42 R_40 => ?_)
    refine r_val (.some rfl rfl) rfl (p_ldga0 Try.underlying92 rfl sz92 rfl R_40 (by first | exact of_decide_eq_true rfl | omega) (rfl : _ = Value.agg #[_, _, _])) ?_
    refine r_val (.some rfl rfl) rfl (p_build (vs := [(0, Value.int _ _), (1, Value.int _ _), (2, Value.int _ _)]) rfl (bl92_0i1_1i1_2i1 _ _ _)) ?_
    refine r_val (.some rfl rfl) rfl (p_eqa rfl rfl (eq_flat Try.underlying92 rfl lf92 ef92 eg92 (.cons (.int Try.underlying3) (.cons (.int Try.underlying3) (.cons (.int Try.underlying3) (.nil)))) (.cons (.int Try.underlying3) (.cons (.int Try.underlying3) (.cons (.int Try.underlying3) (.nil)))))) ?_
    refine r_val .none rfl (p_pick_t rfl rfl) ?_
    refine r_nil (e_fin (d := 56) hQ_35 rfl (by repeat (first | exact .refl | refine .put rfl ?_ | refine .say rfl ?_ | refine .say2 rfl (by first | assumption | simp_all) ?_)))
  · skip
    repeat (first | refine r_skip rfl (.no rfl rfl) ?_ | refine r_skip rfl (.un rfl rfl) ?_)
    refine r_val (by first | exact .none | exact .some rfl rfl) rfl (p_pick_f rfl rfl) ?_
    refine r_nil (e_fin (d := 56) hQ_35 rfl (by repeat (first | exact .refl | refine .put rfl ?_ | refine .say rfl ?_ | refine .say2 rfl (by first | assumption | simp_all) ?_)))
  refine r_val .none rfl (p_assign rfl) ?_
  refine r_nil ?_
  refine e_next ?_
  refine c_ret ?_
  refine e_ret1 Try.results20 (.tmp rfl .nil) (fun w hm => ⟨?_, hm.since⟩)
  exact congrArg Value.bool (by rfl)
theorem c_eqT (v v2 : Value) (a b : List TD) {G : Ghost} (hr : SlL G v 3 tC t0 a) (hr2 : SlL G v2 3 tC t0 b) (w : World) (hG : Has G w) :
    Calls Try.prog 50 #[v, v2] w (Ret fun r w' => r = Value.bool (decide (a = b)) ∧ Since nX w w') := by
  refine enter (args := [_, _]) (X := nX) (G := G) (l := [(0, v), (1, v2)]) Try.func50 rfl Try.ntmps50 hG ⟨rfl, rfl, trivial⟩ (Nat.le_of_ble_eq_true rfl) ?_
  have hbd := hr.bound
  have hbd2 := hr2.bound
  refine c_seq ?_
  refine c_region ?_
  refine r_val .none rfl (p_assign rfl) ?_
  refine r_nil ?_
  refine e_next ?_
  refine c_seq ?_
  refine c_seq ?_
  refine c_region ?_
  refine r_val .none rfl (p_move rfl) ?_
  refine r_val .none rfl (p_leng Try.underlying62 rfl hr) ?_
  have bd_1 := (hr).bound
  refine r_val .none rfl (p_move rfl) ?_
  refine r_val .none rfl (p_leng Try.underlying62 rfl hr2) ?_
  have bd_2 := (hr2).bound
  refine r_val .none rfl (p_ne rfl rfl) ?_
  refine r_nil ?_
  refine e_next ?_
  refine c_splitd (d := 10) rfl (fun h_3 => ?_) (fun h_3 => ?_)
  · skip
    first
      | (exfalso; omega)
      | (
        refine c_cond_t rfl ?_
        refine c_seq ?_
        refine c_region ?_
        refine r_val .none rfl (p_assign rfl) ?_
        refine r_nil ?_
        refine e_next ?_
        refine c_ret ?_
        refine e_ret_then ?_
        refine e_ret1 Try.results50 (.tmp rfl .nil) (fun w hm => ⟨?_, hm.since⟩)
        first
        | exact congrArg Value.bool (decide_eq_false (ne_of_len (by omega))).symm
        | exact congrArg Value.bool (decide_eq_false (ne_of_get hE)).symm
        | (have hk := hphi.2.2; rw [List.take_of_length_le (by omega), List.take_of_length_le (by omega)] at hk; exact congrArg Value.bool (decide_eq_true hk).symm)
        )
  · skip
    first
      | (exfalso; omega)
      | (
        refine c_cond_f rfl ?_
        refine c_skip ?_
        refine e_next ?_
        refine c_seq ?_
        refine c_seq ?_
        refine c_region ?_
        refine r_val .none rfl (p_move rfl) ?_
        refine r_val .none rfl (p_leng Try.underlying62 rfl hr) ?_
        have bd_4 := (hr).bound
        refine r_val .none rfl (p_move rfl) ?_
        refine r_nil ?_
        refine e_next ?_
        refine c_block ?_
        refine c_name (d := 0) rfl (fun u_5 hu_5 => ?_)
        refine c_name (d := 1) rfl (fun u_6 hu_6 => ?_)
        refine c_name (d := 12) rfl (fun u_7 hu_7 => ?_)
        refine c_loop (σ := Nat) (fun k => [(13, Value.int .i64 (k : Nat)), (0, u_5), (1, u_6), (12, u_7)]) (fun k => []) (fun _ => _) (fun k => k ≤ a.length ∧ a.length = b.length ∧ a.take k = b.take k) (fun k => a.length - k) (0) ⟨Nat.zero_le _, by omega, rfl⟩ rfl ⟨rfl, rfl, rfl, rfl, trivial⟩ (.nil) (fun k hphi => ?_)
        subst hu_5
        subst hu_6
        subst hu_7
        refine c_seq ?_
        refine c_region ?_
        refine r_val .none rfl (p_lt rfl rfl) ?_
        refine r_nil ?_
        refine e_next ?_
        refine c_seq ?_
        refine c_splitd (d := 14) rfl (fun h_8 => ?_) (fun h_8 => ?_)
        · skip
          first
            | (exfalso; omega)
            | (
              refine c_cond_t rfl ?_
              refine c_skip ?_
              refine e_next ?_
              refine c_seq ?_
              refine c_block ?_
              refine c_seq ?_
              refine c_region ?_
              refine r_val .none rfl (p_move rfl) ?_
              refine r_val .none rfl (p_assign rfl) ?_
              refine r_nil ?_
              refine e_next ?_
              refine c_seq ?_
              refine c_region_q mixed (by kernel_rfl) ?_
              refine q_val .none rfl (p_move rfl) ?_
              refine q_val .none rfl (p_move rfl) ?_
              refine q_iaddr_g .none rfl Try.underlying62 sz92 rfl hr rfl (by first | exact of_decide_eq_true rfl | omega) (fun p_10 o_11 R_9 => ?_)
              refine q_val .none rfl (p_ldga0 Try.underlying92 rfl sz92 rfl R_9 (by first | exact of_decide_eq_true rfl | omega) (rfl : _ = Value.agg #[_, _, _])) ?_
              refine q_val .none rfl (p_move rfl) ?_
              refine q_val .none rfl (p_move rfl) ?_
              refine q_iaddr_g .none rfl Try.underlying62 sz92 rfl hr2 rfl (by first | exact of_decide_eq_true rfl | omega) (fun p_13 o_14 R_12 => ?_)
              refine q_val .none rfl (p_ldga0 Try.underlying92 rfl sz92 rfl R_12 (by first | exact of_decide_eq_true rfl | omega) (rfl : _ = Value.agg #[_, _, _])) ?_
              refine q_val .none rfl (p_nea rfl rfl (eq_flat Try.underlying92 rfl lf92 ef92 eg92 (.cons (.int Try.underlying3) (.cons (.int Try.underlying3) (.cons (.int Try.underlying3) (.nil)))) (.cons (.int Try.underlying3) (.cons (.int Try.underlying3) (.cons (.int Try.underlying3) (.nil)))))) ?_
              refine q_nil ?_
              refine e_next ?_
              refine c_splitn (d := 24) rfl (fun h_15 => ?_) (fun h_15 => ?_)
              · skip
                have hE : a.getD k t0 ≠ b.getD k t0 := of_decide_eq_false ((tC_eq _ _).symm.trans h_15)
                first
                  | (exfalso; omega)
                  | (
                    refine c_cond_t rfl ?_
                    refine c_seq ?_
                    refine c_region ?_
                    refine r_val .none rfl (p_assign rfl) ?_
                    refine r_nil ?_
                    refine e_next ?_
                    refine c_ret ?_
                    refine e_ret_block ?_
                    refine e_ret_then ?_
                    refine e_ret_then ?_
                    refine e_ret_block ?_
                    refine e_ret_then ?_
                    refine e_ret1 Try.results50 (.tmp rfl .nil) (fun w hm => ⟨?_, hm.since⟩)
                    first
                    | exact congrArg Value.bool (decide_eq_false (ne_of_len (by omega))).symm
                    | exact congrArg Value.bool (decide_eq_false (ne_of_get hE)).symm
                    | (have hk := hphi.2.2; rw [List.take_of_length_le (by omega), List.take_of_length_le (by omega)] at hk; exact congrArg Value.bool (decide_eq_true hk).symm)
                    )
              · skip
                have hE : a.getD k t0 = b.getD k t0 := of_decide_eq_true ((tC_eq _ _).symm.trans h_15)
                first
                  | (exfalso; omega)
                  | (
                    refine c_cond_f rfl ?_
                    refine c_skip ?_
                    refine e_norm_block ?_
                    refine e_next ?_
                    refine c_region ?_
                    refine r_val .none rfl (p_add rfl rfl (by omega)) ?_
                    refine r_val .none rfl (p_move rfl) ?_
                    refine r_nil ?_
                    refine e_round (k + 1) ⟨⟨by omega, hphi.2.1, take_eq_succ (d := t0) (by omega) (by omega) hphi.2.2 hE⟩, by omega⟩ rfl ⟨rfl, rfl, rfl, rfl, trivial⟩ (.nil)
                    )
              )
        · skip
          first
            | (exfalso; omega)
            | (
              refine c_cond_f rfl ?_
              refine c_exit ?_
              refine e_exit_then ?_
              refine e_exit_then ?_
              refine e_exit_block ?_
              refine e_next ?_
              refine c_seq ?_
              refine c_region ?_
              refine r_val .none rfl (p_assign rfl) ?_
              refine r_nil ?_
              refine e_next ?_
              refine c_ret ?_
              refine e_ret1 Try.results50 (.tmp rfl .nil) (fun w hm => ⟨?_, hm.since⟩)
              first
              | exact congrArg Value.bool (decide_eq_false (ne_of_len (by omega))).symm
              | exact congrArg Value.bool (decide_eq_false (ne_of_get hE)).symm
              | (have hk := hphi.2.2; rw [List.take_of_length_le (by omega), List.take_of_length_le (by omega)] at hk; exact congrArg Value.bool (decide_eq_true hk).symm)
              )
        )
theorem c_eqfS (n : Nat) (ih : CsameIs n) (v v2 : Value) (l l2 : List ST) {G : Ghost} (hz : ∀ x ∈ l, SizeOf.sizeOf x ≤ n) (hs : Ss G v l) (hs2 : Ss G v2 l2) (w : World) (hG : Has G w) :
    Calls Try.prog 51 #[v, v2, Value.func (.func 29) #[] #[]] w (Ret fun r w' => r = Value.bool (seqL l l2) ∧ Since nX w w') := by
  refine enter (args := [_, _, _]) (X := nX) (G := G) (l := [(0, v), (1, v2), (2, Value.func (.func 29) #[] #[])]) Try.func51 rfl Try.ntmps51 hG ⟨rfl, rfl, rfl, trivial⟩ (Nat.le_of_ble_eq_true rfl) ?_
  obtain ⟨rs, hr, hrt, hrs, hl⟩ := hs.inv
  obtain ⟨rs2, hr2, hrt2, hrs2, hl2⟩ := hs2.inv
  have hbd := hr.bound
  have hbd2 := hr2.bound
  refine c_seq ?_
  refine c_region ?_
  refine r_val .none rfl (p_assign rfl) ?_
  refine r_nil ?_
  refine e_next ?_
  refine c_seq ?_
  refine c_seq ?_
  refine c_region ?_
  refine r_val .none rfl (p_move rfl) ?_
  refine r_val .none rfl (p_leng Try.underlying50 rfl hr) ?_
  have bd_1 := (hr).bound
  refine r_val .none rfl (p_move rfl) ?_
  refine r_val .none rfl (p_leng Try.underlying50 rfl hr2) ?_
  have bd_2 := (hr2).bound
  refine r_val .none rfl (p_ne rfl rfl) ?_
  refine r_nil ?_
  refine e_next ?_
  refine c_splitd (d := 14) rfl (fun h_3 => ?_) (fun h_3 => ?_)
  · skip
    first
      | (exfalso; omega)
      | (
        refine c_cond_t rfl ?_
        refine c_seq ?_
        refine c_region ?_
        refine r_val .none rfl (p_assign rfl) ?_
        refine r_nil ?_
        refine e_next ?_
        refine c_ret ?_
        refine e_ret_then ?_
        refine e_ret1 Try.results51 (.tmp rfl .nil) (fun w hm => ⟨?_, hm.since⟩)
        first
        | (rw [hl, hl2, seqL_len (by simp; omega)])
        | (rw [hl, hl2, ← hphi.2.2, seqL_no (by omega) (by omega) hE])
        | (rw [hl, hl2, ← hphi.2.2, List.drop_eq_nil_of_le (by simp; omega), List.drop_eq_nil_of_le (by simp; omega)]; rfl)
        )
  · skip
    first
      | (exfalso; omega)
      | (
        refine c_cond_f rfl ?_
        refine c_skip ?_
        refine e_next ?_
        refine c_seq ?_
        refine c_seq ?_
        refine c_region ?_
        refine r_val .none rfl (p_move rfl) ?_
        refine r_val .none rfl (p_leng Try.underlying50 rfl hr) ?_
        have bd_4 := (hr).bound
        refine r_val .none rfl (p_move rfl) ?_
        refine r_nil ?_
        refine e_next ?_
        refine c_block ?_
        refine c_name (d := 1) rfl (fun u_5 hu_5 => ?_)
        refine c_name (d := 2) rfl (fun u_6 hu_6 => ?_)
        refine c_name (d := 15) rfl (fun u_7 hu_7 => ?_)
        refine c_name (d := 16) rfl (fun u_8 hu_8 => ?_)
        refine c_loop (σ := Nat) (fun k => [(17, Value.int .i64 (k : Nat)), (1, u_5), (2, u_6), (15, u_7), (16, u_8)]) (fun k => []) (fun _ => _) (fun k => k ≤ rs.length ∧ rs.length = rs2.length ∧ seqL ((rs.map Prod.fst).drop k) ((rs2.map Prod.fst).drop k) = seqL (rs.map Prod.fst) (rs2.map Prod.fst)) (fun k => rs.length - k) (0) ⟨Nat.zero_le _, by omega, rfl⟩ rfl ⟨rfl, rfl, rfl, rfl, rfl, trivial⟩ (.nil) (fun k hphi => ?_)
        subst hu_5
        subst hu_6
        subst hu_7
        subst hu_8
        refine c_seq ?_
        refine c_region ?_
        refine r_val .none rfl (p_lt rfl rfl) ?_
        refine r_nil ?_
        refine e_next ?_
        refine c_seq ?_
        refine c_splitd (d := 18) rfl (fun h_9 => ?_) (fun h_9 => ?_)
        · skip
          first
            | (exfalso; omega)
            | (
              refine c_cond_t rfl ?_
              refine c_skip ?_
              refine e_next ?_
              refine c_seq ?_
              refine c_block ?_
              refine c_seq ?_
              refine c_region ?_
              refine r_val .none rfl (p_move rfl) ?_
              refine r_iaddr_g .none rfl Try.underlying50 sz64 rfl hr rfl (by first | exact of_decide_eq_true rfl | omega) (fun p_11 o_12 R_10 => ?_)
              have ht_13 := hrt _ (getD_mem (i := k) (d := s0) (by omega))
              have hc_14 := hrs _ (getD_mem (i := k) (d := s0) (by omega))
              refine r_val .none rfl (p_ldga0 Try.underlying64 rfl sz64 rfl R_10 (by first | exact of_decide_eq_true rfl | omega) (rfl : _ = Value.agg #[_, _, _, _, _, _])) ?_
              refine r_alloc .none rfl zr64 (IsRow.lit _) (fun b_1 => ?_)
              refine r_val .none rfl (p_assign rfl) ?_
              refine r_stw (k := 0) .none sz64 rfl rfl (IsRow.lit _) (one_lit rfl (all_cons rfl (all_cons rfl (all_cons rfl (all_cons rfl (all_cons (ht_13).one (all_cons (hc_14).one rfl))))))) rfl ?_
              refine r_nil ?_
              refine e_next ?_
              refine c_seq ?_
              refine c_region ?_
              refine r_val .none rfl (p_move rfl) ?_
              refine r_val .none rfl (p_move rfl) ?_
              refine r_iaddr_g .none rfl Try.underlying50 sz64 rfl hr2 rfl (by first | exact of_decide_eq_true rfl | omega) (fun p_16 o_17 R_15 => ?_)
              have ht_18 := hrt2 _ (getD_mem (i := k) (d := s0) (by omega))
              have hc_19 := hrs2 _ (getD_mem (i := k) (d := s0) (by omega))
              refine r_val .none rfl (p_ldga0 Try.underlying64 rfl sz64 rfl R_15 (by first | exact of_decide_eq_true rfl | omega) (rfl : _ = Value.agg #[_, _, _, _, _, _])) ?_
              refine r_alloc .none rfl zr64 (IsRow.lit _) (fun b_2 => ?_)
              refine r_stw (k := 0) .none sz64 rfl rfl (IsRow.lit _) (one_lit rfl (all_cons rfl (all_cons rfl (all_cons rfl (all_cons rfl (all_cons (ht_18).one (all_cons (hc_19).one rfl))))))) rfl ?_
              refine r_nil ?_
              refine e_next ?_
              refine c_seq ?_
              refine c_region ?_
              refine r_val .none rfl (p_move rfl) ?_
              refine r_val .none rfl (p_ldw (k := 1) Try.underlying64 rfl sz64 rfl rfl (rfl : _ = Value.agg #[_, _, _, _, _, _])) ?_
              refine r_val .none rfl (p_ldw (k := 0) Try.underlying64 rfl sz64 rfl rfl (rfl : _ = Value.agg #[_, _, _, _, _, _])) ?_
              refine r_fun (cs := []) .none rfl ?_
              refine r_call (vs := [_, _]) .none rfl cl29 rfl (fun w hw => ih (rs.getD k s0).1 _ _ _ _ _ _ w (hz _ (by rw [hl]; exact sv_mem (k := k) (by omega))) ht_13 hc_14 ht_18 hc_19 hw) ?_
              refine r_val .none rfl (p_not rfl) ?_
              refine r_nil ?_
              refine e_next ?_
              refine c_splitn (d := 30) rfl (fun h_20 => ?_) (fun h_20 => ?_)
              · skip
                have hE := h_20
                first
                  | (exfalso; omega)
                  | (
                    refine c_cond_t rfl ?_
                    refine c_seq ?_
                    refine c_region ?_
                    refine r_val .none rfl (p_assign rfl) ?_
                    refine r_nil ?_
                    refine e_next ?_
                    refine c_ret ?_
                    refine e_ret_block ?_
                    refine e_ret_then ?_
                    refine e_ret_then ?_
                    refine e_ret_block ?_
                    refine e_ret_then ?_
                    refine e_ret1 Try.results51 (.tmp rfl .nil) (fun w hm => ⟨?_, hm.since⟩)
                    first
                    | (rw [hl, hl2, seqL_len (by simp; omega)])
                    | (rw [hl, hl2, ← hphi.2.2, seqL_no (by omega) (by omega) hE])
                    | (rw [hl, hl2, ← hphi.2.2, List.drop_eq_nil_of_le (by simp; omega), List.drop_eq_nil_of_le (by simp; omega)]; rfl)
                    )
              · skip
                have hE := h_20
                first
                  | (exfalso; omega)
                  | (
                    refine c_cond_f rfl ?_
                    refine c_skip ?_
                    refine e_norm_block ?_
                    refine e_next ?_
                    refine c_region ?_
                    refine r_val .none rfl (p_add rfl rfl (by omega)) ?_
                    refine r_val .none rfl (p_move rfl) ?_
                    refine r_nil ?_
                    refine e_round (k + 1) ⟨⟨by omega, hphi.2.1, by rw [seqL_yes (by omega) (by omega) hE]; exact hphi.2.2⟩, by omega⟩ rfl ⟨rfl, rfl, rfl, rfl, rfl, trivial⟩ (.drop (.drop (.nil)))
                    )
              )
        · skip
          first
            | (exfalso; omega)
            | (
              refine c_cond_f rfl ?_
              refine c_exit ?_
              refine e_exit_then ?_
              refine e_exit_then ?_
              refine e_exit_block ?_
              refine e_next ?_
              refine c_seq ?_
              refine c_region ?_
              refine r_val .none rfl (p_assign rfl) ?_
              refine r_nil ?_
              refine e_next ?_
              refine c_ret ?_
              refine e_ret1 Try.results51 (.tmp rfl .nil) (fun w hm => ⟨?_, hm.since⟩)
              first
              | (rw [hl, hl2, seqL_len (by simp; omega)])
              | (rw [hl, hl2, ← hphi.2.2, seqL_no (by omega) (by omega) hE])
              | (rw [hl, hl2, ← hphi.2.2, List.drop_eq_nil_of_le (by simp; omega), List.drop_eq_nil_of_le (by simp; omega)]; rfl)
              )
        )
theorem c_csame_s (n : Nat) (ih : CsameIs n) (c c2 : ST) (ta sb ta2 sb2 : Value) {G : Ghost} (hz : SizeOf.sizeOf c ≤ n + 1) (ht : SlL G ta 3 tC t0 c.h.ts) (hs : Ss G sb c.subs) (ht2 : SlL G ta2 3 tC t0 c2.h.ts) (hs2 : Ss G sb2 c2.subs) (w : World) (hG : Has G w) :
    Calls Try.prog 29 #[Value.agg #[Value.int .i64 c.h.k, Value.int .i64 c.h.k0, Value.int .i64 c.h.k1, Value.int .i64 c.h.k2, ta, sb], Value.agg #[Value.int .i64 c2.h.k, Value.int .i64 c2.h.k0, Value.int .i64 c2.h.k1, Value.int .i64 c2.h.k2, ta2, sb2]] w (Ret fun r w' => r = Value.bool (seq c c2) ∧ Since nX w w') := by
  refine enter (args := [_, _]) (X := nX) (G := G) (l := [(0, Value.agg #[Value.int .i64 c.h.k, Value.int .i64 c.h.k0, Value.int .i64 c.h.k1, Value.int .i64 c.h.k2, ta, sb]), (1, Value.agg #[Value.int .i64 c2.h.k, Value.int .i64 c2.h.k0, Value.int .i64 c2.h.k1, Value.int .i64 c2.h.k2, ta2, sb2])]) Try.func29 rfl Try.ntmps29 hG ⟨rfl, rfl, trivial⟩ (Nat.le_of_ble_eq_true rfl) ?_
  refine c_seq ?_
  refine c_region ?_
  refine r_box .none rfl rfl (IsRow.lit _) (fun b_1 => ?_)
  refine r_box .none rfl rfl (IsRow.lit _) (fun b_2 => ?_)
  refine r_val .none rfl (p_assign rfl) ?_
  refine r_nil ?_
  refine e_next ?_
  refine c_seq ?_
  refine c_region ?_
  refine r_val .none rfl (p_field Try.underlying64 rfl sz3 rfl) ?_
  refine r_val .none rfl (p_ld (k := 1) Try.underlying3 rfl rfl rfl (by first | exact of_decide_eq_true rfl | omega) (rfl : _ = Value.int _ _)) ?_
  refine r_val .none rfl (p_field Try.underlying64 rfl sz3 rfl) ?_
  refine r_val .none rfl (p_ld (k := 0) Try.underlying3 rfl rfl rfl (by first | exact of_decide_eq_true rfl | omega) (rfl : _ = Value.int _ _)) ?_
  refine r_val .none rfl (p_eq rfl rfl) ?_
  refine r_val .none rfl (p_move rfl) ?_
  refine' r_and (c := 10) (d := 16) [_, _, _, _, _, _] rfl (fun h_1 Q_2 hQ_3 => ?_) (fun h_1 Q_2 hQ_3 => ?_) ?_
  rotate_left 1
  · skip
    replace h_1 := of_decide_eq_true h_1
    refine r_val (.some rfl rfl) rfl (p_field Try.underlying64 rfl sz61 rfl) ?_
    refine r_val (.some rfl rfl) rfl (p_lda (k := 1) Try.underlying61 rfl sz61 rfl rfl (by first | exact of_decide_eq_true rfl | omega) (rfl : _ = Value.agg #[_, _, _])) ?_
    refine r_val (.some rfl rfl) rfl (p_field Try.underlying64 rfl sz61 rfl) ?_
    refine r_val (.some rfl rfl) rfl (p_lda (k := 0) Try.underlying61 rfl sz61 rfl rfl (by first | exact of_decide_eq_true rfl | omega) (rfl : _ = Value.agg #[_, _, _])) ?_
    refine r_val (.some rfl rfl) rfl (p_eqa rfl rfl (eq_flat Try.underlying61 rfl lf61 ef61 eg61 (.cons (.int Try.underlying3) (.cons (.int Try.underlying3) (.cons (.int Try.underlying3) (.nil)))) (.cons (.int Try.underlying3) (.cons (.int Try.underlying3) (.cons (.int Try.underlying3) (.nil)))))) ?_
    refine r_val .none rfl (p_pick_t rfl rfl) ?_
    refine r_nil (e_fin (d := 16) hQ_3 rfl (by repeat (first | exact .refl | refine .put rfl ?_ | refine .say rfl ?_ | refine .say2 rfl (by first | assumption | simp_all) ?_)))
  · skip
    repeat (first | refine r_skip rfl (.no rfl rfl) ?_ | refine r_skip rfl (.un rfl rfl) ?_)
    refine r_val (by first | exact .none | exact .some rfl rfl) rfl (p_pick_f rfl rfl) ?_
    refine r_nil (e_fin (d := 16) hQ_3 rfl (by repeat (first | exact .refl | refine .put rfl ?_ | refine .say rfl ?_ | refine .say2 rfl (by first | assumption | simp_all) ?_)))
  refine r_val .none rfl (p_move rfl) ?_
  refine' r_and (c := 17) (d := 23) [_, _, _, _, _, _] rfl (fun h_5 Q_6 hQ_7 => ?_) (fun h_5 Q_6 hQ_7 => ?_) ?_
  rotate_left 1
  · skip
    try simp only [norms] at h_5
    refine r_val (.some rfl rfl) rfl (p_field Try.underlying64 rfl sz62 rfl) ?_
    refine r_val (.some rfl rfl) rfl (p_ld (k := 1) Try.underlying62 rfl rfl rfl (by first | exact of_decide_eq_true rfl | omega) rfl) ?_
    refine r_val (.some rfl rfl) rfl (p_field Try.underlying64 rfl sz62 rfl) ?_
    refine r_val (.some rfl rfl) rfl (p_ld (k := 0) Try.underlying62 rfl rfl rfl (by first | exact of_decide_eq_true rfl | omega) rfl) ?_
    refine r_call (vs := [_, _]) (.some rfl rfl) rfl cl50 rfl (fun w hw => c_eqT _ _ _ _ ht ht2 w hw) ?_
    refine r_val .none rfl (p_pick_t rfl rfl) ?_
    refine r_nil (e_fin (d := 23) hQ_7 rfl (by repeat (first | exact .refl | refine .put rfl ?_ | refine .say rfl ?_ | refine .say2 rfl (by first | assumption | simp_all) ?_)))
  · skip
    repeat (first | refine r_skip rfl (.no rfl rfl) ?_ | refine r_skip rfl (.un rfl rfl) ?_)
    refine r_val (by first | exact .none | exact .some rfl rfl) rfl (p_pick_f rfl rfl) ?_
    refine r_nil (e_fin (d := 23) hQ_7 rfl (by repeat (first | exact .refl | refine .put rfl ?_ | refine .say rfl ?_ | refine .say2 rfl (by first | assumption | simp_all) ?_)))
  refine r_val .none rfl (p_move rfl) ?_
  refine' r_and (c := 24) (d := 30) [_, _, _, _, _, _] rfl (fun h_9 Q_10 hQ_11 => ?_) (fun h_9 Q_10 hQ_11 => ?_) ?_
  rotate_left 1
  · skip
    try simp only [norms] at h_9
    refine r_val (.some rfl rfl) rfl (p_field Try.underlying64 rfl sz50 rfl) ?_
    refine r_val (.some rfl rfl) rfl (p_ld (k := 1) Try.underlying50 rfl rfl rfl (by first | exact of_decide_eq_true rfl | omega) rfl) ?_
    refine r_val (.some rfl rfl) rfl (p_field Try.underlying64 rfl sz50 rfl) ?_
    refine r_val (.some rfl rfl) rfl (p_ld (k := 0) Try.underlying50 rfl rfl rfl (by first | exact of_decide_eq_true rfl | omega) rfl) ?_
    refine r_call (vs := [_, _, _]) (.some rfl rfl) rfl cl51 rfl (fun w hw => c_eqfS n ih _ _ _ _ (fun x hx => by have := List.sizeOf_lt_of_mem hx; have := s_subs c; omega) hs hs2 w hw) ?_
    refine r_val .none rfl (p_pick_t rfl rfl) ?_
    refine r_nil (e_fin (d := 30) hQ_11 rfl (by repeat (first | exact .refl | refine .put rfl ?_ | refine .say rfl ?_ | refine .say2 rfl (by first | assumption | simp_all) ?_)))
  · skip
    repeat (first | refine r_skip rfl (.no rfl rfl) ?_ | refine r_skip rfl (.un rfl rfl) ?_)
    refine r_val (by first | exact .none | exact .some rfl rfl) rfl (p_pick_f rfl rfl) ?_
    refine r_nil (e_fin (d := 30) hQ_11 rfl (by repeat (first | exact .refl | refine .put rfl ?_ | refine .say rfl ?_ | refine .say2 rfl (by first | assumption | simp_all) ?_)))
  refine r_val .none rfl (p_assign rfl) ?_
  refine r_nil ?_
  refine e_next ?_
  refine c_ret ?_
  refine e_ret1 Try.results29 (.tmp rfl .nil) (fun w hm => ⟨?_, hm.since⟩)
  rw [seq_eq]
  first
  | rfl
  | (show _ = _; congr 1; simp only [Bool.and_assoc]; rfl)
theorem c_csame_n : ∀ n, CsameIs n
  | 0 => fun c c2 ta sb ta2 sb2 G w hz _ _ _ _ _ => absurd hz (by have := s_pos c; omega)
  | n + 1 => fun c c2 ta sb ta2 sb2 G w hz ht hs ht2 hs2 hG => c_csame_s n (c_csame_n n) c c2 ta sb ta2 sb2 hz ht hs ht2 hs2 w hG
theorem c_csame (c c2 : ST) (ta sb ta2 sb2 : Value) {G : Ghost} (ht : SlL G ta 3 tC t0 c.h.ts) (hs : Ss G sb c.subs) (ht2 : SlL G ta2 3 tC t0 c2.h.ts) (hs2 : Ss G sb2 c2.subs) (w : World) (hG : Has G w) : Calls Try.prog 29 #[Value.agg #[Value.int .i64 c.h.k, Value.int .i64 c.h.k0, Value.int .i64 c.h.k1, Value.int .i64 c.h.k2, ta, sb], Value.agg #[Value.int .i64 c2.h.k, Value.int .i64 c2.h.k0, Value.int .i64 c2.h.k1, Value.int .i64 c2.h.k2, ta2, sb2]] w (Ret fun r w' => r = Value.bool (seq c c2) ∧ Since nX w w') := c_csame_n _ c c2 ta sb ta2 sb2 G w (Nat.le_refl _) ht hs ht2 hs2 hG
end Go.Proofs.Ytoflaphnlfggkaa

/-
  GX: an assertion is brought to the front. Generic in the program.
-/
namespace Go.Gx
theorem Sep.front {w : World} : ∀ {L : List Asrt} {k : Nat} {A : Asrt} {U : Nat → Prop}, L[k]? = some A → Sep w L U → Sep w (A :: L.eraseIdx k) U
  | [], _, _, _, h, _ => by simp at h
  | B :: L, 0, A, U, h, hS => by
    simp at h; subst h; simpa using hS
  | B :: L, k + 1, A, U, h, ⟨F, hB, hF, hL⟩ => by
    simp at h
    obtain ⟨F2, hA, hF2, hR⟩ := Sep.front h hL
    refine ⟨F2, hA, fun b hb => (hF2 b hb).1, ?_⟩
    rw [List.eraseIdx_cons_succ]
    exact ⟨F, hB, fun b hb => ⟨hF b hb, fun h2 => (hF2 b h2).2 hb⟩, hR.mono (fun b _ hb => ⟨⟨hb.1.1, hb.2⟩, hb.1.2⟩)⟩
theorem Mem.front {X : Nat → Prop} {w0 w : World} {G : Ghost} {L : List Asrt} {k : Nat} {A : Asrt} (h : Mem X w0 G w L) (hL : L[k]? = some A) : Mem X w0 G w (A :: L.eraseIdx k) := ⟨h.since, h.has, h.sep.front hL⟩
section
variable {P : Program} {ops : Array Oper} {Q : Exit → Act → World → Prop} {N : Nat} {X : Nat → Prop} {w0 : World} {G : Ghost} {l : List (Nat × Value)} {L : List Asrt} {rest : List Oper} {k : Nat} {A : Asrt}
theorem r_front (hL : L[k]? = some A) (h : Runs P ops Q N X w0 G rest l (A :: L.eraseIdx k)) : Runs P ops Q N X w0 G rest l L := fun a w hS => h a w ⟨hS.fr, hS.mem.front hL⟩
theorem c_front {c : Code} (hL : L[k]? = some A) (h : CRuns P c Q N X w0 G l (A :: L.eraseIdx k)) : CRuns P c Q N X w0 G l L := fun a w hS => h a w ⟨hS.fr, hS.mem.front hL⟩
theorem e_front {e : Exit} (hL : L[k]? = some A) (h : ERuns Q e N X w0 G l (A :: L.eraseIdx k)) : ERuns Q e N X w0 G l L := fun a w hS => h a w ⟨hS.fr, hS.mem.front hL⟩
end
end Go.Gx
