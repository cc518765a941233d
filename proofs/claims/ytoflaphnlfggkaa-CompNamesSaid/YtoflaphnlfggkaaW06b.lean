/- Walks: what Go functions of this chapter come to, each as a function on plain data; no condition but those that each theorem names. Printed by a program of this work (gen.py). -/
import Derived.Test.YtoflaphnlfggkaaW06a
import Derived.Test.YtoflaphnlfggkaaRows
namespace Go.Proofs.Ytoflaphnlfggkaa
open Go.Gx Go.Gx.T4 Go.Gx.T3 Go.Gx.T6 Go.Gx.T8 Go.Gx.T4 Go.Gx.T3 Go.Gx.T8 Go.Gx.T4 Go.Gx.T3
theorem sz25 : SzIs Try.prog 25 1 := by
  unfold SzIs
  kernel_rfl
theorem zr25 : ZeroIs Try.prog 25 (Value.slice none 0 0) := by
  unfold ZeroIs
  kernel_rfl
theorem cl42 : Callable Try.prog 42 := callable Try.func42 (by kernel_rfl) rfl
theorem cl43 : Callable Try.prog 43 := callable Try.func43 (by kernel_rfl) rfl
theorem cl44 : Callable Try.prog 44 := callable Try.func44 (by kernel_rfl) rfl
theorem bs22_10s3 (a0 : Option Addr) (a1 a2 : Nat) : Instr.fill (fun i => some (i * 1, 1)) ((Array.range (1 * 1)).map ((Value.slice none 0 0).cells[· % (Value.slice none 0 0).cells.size]!)) [(0, Value.slice a0 a1 a2)] = some #[Value.slice a0 a1 a2] := by
  kernel_rfl
theorem bs38_10a8 (a0 a1 a2 a3 a4 a5 a6 a7 : Value) : Instr.fill (fun i => some (i * 8, 8)) ((Array.range (1 * 8)).map ((Value.agg #[Value.int .i64 0, Value.bool false, Value.int .i64 0, Value.bool false, Value.int .i64 0, Value.bool false, Value.int .i64 0, Value.slice none 0 0]).cells[· % (Value.agg #[Value.int .i64 0, Value.bool false, Value.int .i64 0, Value.bool false, Value.int .i64 0, Value.bool false, Value.int .i64 0, Value.slice none 0 0]).cells.size]!)) [(0, Value.agg #[a0, a1, a2, a3, a4, a5, a6, a7])] = some #[a0, a1, a2, a3, a4, a5, a6, a7] := by
  kernel_rfl
theorem el22 : ElemIs Try.prog 22 1 24 (Value.slice none 0 0) := by
  unfold ElemIs
  kernel_rfl
def GrowIs (n : Nat) : Prop := ∀ (va vl : Value) (ah l : List CT) (p : Nat) (z0 : List (List CT × Value)) (G : Ghost) (F : Nat → Prop) (w : World), SizeOf.sizeOf l ≤ n → ah.length + sizeL l ≤ 1000 → z0.length + sizeL l ≤ 3000 → Cs G va ah → Cs G vl l → ChC G z0 → Has G w → (outA 25 22 p (z0)).holds w F → (∀ b, F b → G b = none) → Calls Try.prog 42 #[va, vl, Value.func (.func 43) #[] #[.pointer (some ⟨p, 0, none⟩)]] w (Ret fun r w' => ∃ G' z', GNew w F G G' ∧ Has G' w' ∧ (r = .tuple #[] ∧ z'.map Prod.fst = z0.map Prod.fst ++ chains ah l ∧ ChC G' z') ∧ KeptG (outA 25 22 p (z')) F G' w w')
theorem c_ch1 (v : Value) (es : List (CT × Value)) (p : Nat) (z : List (List CT × Value)) {G : Ghost} {F : Nat → Prop} (hr : SlL G v 8 cvC d0 es) (hp : ∀ p ∈ es, Cs G p.2 p.1.subs) (hla : es.length ≤ 1000) (hlz : z.length ≤ 3000) (hz : ChC G z) (w : World) (hG : Has G w) (hA : (outA 25 22 p (z)).holds w F) (hFG : ∀ b, F b → G b = none) :
    Calls Try.prog 43 #[v, Value.pointer (some ⟨p, 0, none⟩)] w (Ret fun r w' => ∃ G' z', GNew w F G G' ∧ Has G' w' ∧ (r = .tuple #[] ∧ z'.map Prod.fst = z.map Prod.fst ++ [es.map Prod.fst] ∧ ChC G' z') ∧ KeptG (outA 25 22 p (z')) F G' w w') := by
  refine enterO (args := [_, _]) (G := G) (A := outA 25 22 p (z)) (l := [(0, v), (1, Value.pointer (some ⟨p, 0, none⟩))]) Try.func43 rfl Try.ntmps43 hG hA hFG ⟨rfl, rfl, trivial⟩ (Nat.le_of_ble_eq_true rfl) ?_
  refine c_unex (fun ov => ?_)
  refine c_unpack ?_
  refine c_row1 (k := 1) rfl (fun o1 => ?_)
  refine c_region_d (fun j => [4, 5].contains j) _ mixed (.keep (fun _ _ h => h) (.keep (fun _ _ h => h) (.nil))) ?_
  refine d_val1 0 rfl rfl (by kernel_rfl) (fun j hj => by have h : 5 < j := (Nat.lt_of_lt_of_le (by decide : 5 < 6) hj); simp; omega) .none rfl (p_ld (k := 0) Try.underlying25 rfl rfl rfl (by first | exact of_decide_eq_true rfl | omega) rfl) ?_
  refine d_val1 1 rfl rfl (by kernel_rfl) (fun j hj => by have h : 5 < j := (Nat.lt_of_lt_of_le (by decide : 5 < 6) hj); simp; omega) .none rfl (p_move rfl) ?_
  refine d_eff 2 rfl (by kernel_rfl) (fun K_1 hKK_1 hcK_1 => ?_)
  refine r_callm (vs := [_]) .none rfl cl44 rfl (fun w hw => c_cloneCM _ es hr hla hp w hw) (fun G_2 v_5 hn_3 hr_4 => ?_)
  replace hr := hr.mono hn_3.le
  replace hp := fun p hm0 => (hp p hm0).mono hn_3.le
  replace hz := ChC.mono hz hn_3.le
  have u_6 := hr_4
  refine r_nil (e_d (i := 2) (brk := (fun j => [4, 5].contains j)) (ph' := true) hKK_1 hcK_1 rfl (fun _ => hn_3.le) (fun _ => .keep (fun _ _ h => h) (.keep (fun _ _ h => h) (.nil))) ?_)
  clear hKK_1 hcK_1 K_1
  obtain ⟨a_7, c_8, rfl⟩ := SlG.len u_6
  refine d_eff 3 rfl (by kernel_rfl) (fun K_9 hKK_9 hcK_9 => ?_)
  refine r_bslice (vs := [(0, Value.slice _ _ _)]) (c := #[_]) .none rfl Try.underlying25 el22 rfl rfl rfl (bs22_10s3 _ _ _) (IsRow.lit _) (fun b_1 => ?_)
  refine r_nil (e_d (i := 3) (brk := (fun j => [4, 5].contains j)) (ph' := true) hKK_9 hcK_9 rfl (fun _ => hn_3.le) (fun _ => .drop (.keep (fun _ _ h => h) (.keep (fun _ _ h => h) (.nil)))) ?_)
  clear hKK_9 hcK_9 K_9
  refine d_eff 4 rfl (by kernel_rfl) (fun K_10 hKK_10 hcK_10 => ?_)
  refine r_append (k := 2) (k2 := 0) .none rfl Try.underlying25 el22 rfl (by decide) rfl rfl rfl rfl rfl (one_lit rfl rfl) (by simp only [maxLen]; omega) (by omega) (fun v_11 => ?_)
  refine r_row1 (k := 2) rfl (fun o_12 => ?_)
  refine r_nil (e_d (i := 4) (brk := (fun j => [4, 5].contains j)) (ph' := false) hKK_10 hcK_10 rfl (fun h => by cases h) (fun h => by cases h) ?_)
  clear hKK_10 hcK_10 K_10
  refine d_eff 5 rfl (by kernel_rfl) (fun K_13 hKK_13 hcK_13 => ?_)
  refine r_st (k := 1) .none sz25 rfl rfl o_12 rfl (by first | exact of_decide_eq_true rfl | omega) ?_
  refine r_nil (e_d (i := 5) (brk := (fun j => [4, 5].contains j)) (ph' := false) hKK_13 hcK_13 rfl (fun h => by cases h) (fun h => by cases h) ?_)
  clear hKK_13 hcK_13 K_13
  refine d_nil (by kernel_rfl) ?_
  refine e_end0 Try.results43 (fun w hm => ⟨_, (z ++ [(es.map Prod.fst, (Value.slice a_7 es.length c_8))]), hn_3, hm.has, ⟨rfl, by simp, ChC.snoc hz (Tr.mk _ u_6 hp)⟩, hm.keptG [box p 1 25 (at_ [v_11]), rowA v_11 22 1 (z ++ [(es.map Prod.fst, (Value.slice a_7 es.length c_8))]).length ((z ++ [(es.map Prod.fst, (Value.slice a_7 es.length c_8))]).flatMap lC)] (.drop (.keep (fun _ _ h => box_congr (fun i hi => by match i, hi with | 0, _ => rfl) _ _ h) (.keep (fun _ _ h => rowA_snoc (l := z) (x := (es.map Prod.fst, (Value.slice a_7 es.length c_8))) rfl rfl rfl rfl _ _ h) (.nil)))) (outA _ _ p (z ++ [(es.map Prod.fst, (Value.slice a_7 es.length c_8))])) (fun F' h => ⟨_, h⟩)⟩)
theorem c_grow6_s (n : Nat) (ih : GrowIs n) (va vl : Value) (ah l : List CT) (p : Nat) (z0 : List (List CT × Value)) {G : Ghost} {F : Nat → Prop} (hz : SizeOf.sizeOf l ≤ n + 1) (hsz : ah.length + sizeL l ≤ 1000) (hlz : z0.length + sizeL l ≤ 3000) (hsa : Cs G va ah) (hs : Cs G vl l) (hz0 : ChC G z0) (w : World) (hG : Has G w) (hA : (outA 25 22 p (z0)).holds w F) (hFG : ∀ b, F b → G b = none) :
    Calls Try.prog 42 #[va, vl, Value.func (.func 43) #[] #[.pointer (some ⟨p, 0, none⟩)]] w (Ret fun r w' => ∃ G' z', GNew w F G G' ∧ Has G' w' ∧ (r = .tuple #[] ∧ z'.map Prod.fst = z0.map Prod.fst ++ chains ah l ∧ ChC G' z') ∧ KeptG (outA 25 22 p (z')) F G' w w') := by
  refine enterO (args := [_, _, _]) (G := G) (A := outA 25 22 p (z0)) (l := [(0, va), (1, vl), (2, Value.func (.func 43) #[] #[.pointer (some ⟨p, 0, none⟩)])]) Try.func42 rfl Try.ntmps42 hG hA hFG ⟨rfl, rfl, rfl, trivial⟩ (Nat.le_of_ble_eq_true rfl) ?_
  obtain ⟨rs, hr, hp, rfl⟩ := hs.inv
  have hbd := hr.bound
  refine c_seq ?_
  refine c_region ?_
  refine r_val .none rfl (p_move rfl) ?_
  refine r_val .none rfl (p_leng Try.underlying22 rfl hr) ?_
  have bd_1 := (hr).bound
  refine r_val .none rfl (p_move rfl) ?_
  refine r_nil ?_
  refine e_next ?_
  refine c_block ?_
  refine c_name (d := 2) rfl (fun u_2 hu_2 => ?_)
  refine c_name (d := 8) rfl (fun u_3 hu_3 => ?_)
  refine c_name (d := 9) rfl (fun u_4 hu_4 => ?_)
  refine c_loop (σ := Nat × Value × List (List CT × Value) × Ghost) (fun s => [(10, Value.int .i64 (s.1 : Nat)), (0, s.2.1), (2, u_2), (8, u_3), (9, u_4)]) (fun s => [outA 25 22 p (s.2.2.1)]) (fun s => s.2.2.2) (fun s => s.1 ≤ rs.length ∧ Cs s.2.2.2 s.2.1 (ah ++ (rs.map Prod.fst).take s.1) ∧ s.2.2.1.map Prod.fst = z0.map Prod.fst ++ chains ah ((rs.map Prod.fst).take s.1) ∧ ChC s.2.2.2 s.2.2.1 ∧ GNew w F G s.2.2.2) (fun s => rs.length - s.1) ((0, _, z0, _)) ⟨Nat.zero_le _, by simpa using hsa, by simp [chains], hz0, GNew.refl _ _ _⟩ rfl ⟨rfl, rfl, rfl, rfl, rfl, trivial⟩ (.keep (fun _ _ h => h) (.nil)) (fun s hphi => ?_)
  subst hu_2
  subst hu_3
  subst hu_4
  obtain ⟨k, v, z, H⟩ := s
  obtain ⟨hk, hva, hzq, hzc, hgn⟩ := hphi
  dsimp only at hk hva hzq hzc hgn ⊢
  obtain ⟨es, ha, hap, hal⟩ := hva.inv
  have hla : es.length = ah.length + k := by have := congrArg List.length hal; simp at this; omega
  have hzl : z.length = z0.length + (chains ah ((rs.map Prod.fst).take k)).length := by have := congrArg List.length hzq; simpa using this
  have hcl := chains_take_le ah rs k
  have hst0 := sizeL_take_le (rs.map Prod.fst) k
  have hll := sizeL_len (rs.map Prod.fst)
  rw [List.length_map] at hll
  replace hsa := hsa.mono hgn.le
  replace hr := hr.mono hgn.le
  replace hp := fun p hm0 => (hp p hm0).mono hgn.le
  refine c_seq ?_
  refine c_region ?_
  refine r_val .none rfl (p_lt rfl rfl) ?_
  refine r_nil ?_
  refine e_next ?_
  refine c_seq ?_
  refine c_splitd (d := 11) rfl (fun h_5 => ?_) (fun h_5 => ?_)
  · skip
    first
      | (exfalso; omega)
      | (
        refine c_cond_t rfl ?_
        refine c_skip ?_
        refine e_next ?_
        refine c_seq ?_
        refine c_block ?_
        refine c_seq ?_
        refine c_region ?_
        refine r_iaddr_g .none rfl Try.underlying22 sz38 rfl hr rfl (by first | exact of_decide_eq_true rfl | omega) (fun p_7 o_8 R_6 => ?_)
        have hc_9 := hp _ (getD_mem (i := k) (d := d0) (by omega))
        have hkl := sizeL_len ((rs.map Prod.fst).take k)
        rw [List.length_take, List.length_map] at hkl
        have hsk := sizeL_take (rs := rs) (k := k) (by omega)
        have hsk2 := sizeL_take_le (rs.map Prod.fst) (k + 1)
        have hsq := size_eq (rs.getD k d0).1
        refine r_val .none rfl (p_ldga0 Try.underlying38 rfl sz38 rfl R_6 (by first | exact of_decide_eq_true rfl | omega) (rfl : _ = Value.agg #[_, _, _, _, _, _, _, _])) ?_
        refine r_alloc .none rfl zr38 (IsRow.lit _) (fun b_1 => ?_)
        refine r_stw (k := 0) .none sz38 rfl rfl (IsRow.lit _) (one_lit rfl (all_cons rfl (all_cons rfl (all_cons rfl (all_cons rfl (all_cons rfl (all_cons rfl (all_cons rfl (all_cons (hc_9).one rfl))))))))) rfl ?_
        refine r_nil ?_
        refine e_next ?_
        refine c_seq ?_
        refine c_seq ?_
        refine c_region ?_
        refine r_val .none rfl (p_field Try.underlying38 rfl sz3 rfl) ?_
        refine r_val .none rfl (p_ld (k := 0) Try.underlying3 rfl rfl rfl (by first | exact of_decide_eq_true rfl | omega) (rfl : _ = Value.int _ _)) ?_
        refine r_val .none rfl (p_eq rfl rfl) ?_
        refine r_nil ?_
        refine e_next ?_
        refine c_splitd (d := 16) rfl (fun h_10 => ?_) (fun h_10 => ?_)
        · skip
          have hk3 := h_10
          first
            | (exfalso; omega)
            | (
              refine c_cond_t rfl ?_
              refine c_region ?_
              refine r_val .none rfl (p_move rfl) ?_
              refine r_val .none rfl (p_field Try.underlying38 rfl sz22 rfl) ?_
              refine r_val .none rfl (p_ld (k := 0) Try.underlying22 rfl rfl rfl (by first | exact of_decide_eq_true rfl | omega) rfl) ?_
              refine r_val .none rfl (p_move rfl) ?_
              refine r_callox (k := 1) (vs := [_, _, _]) .none rfl cl42 rfl rfl (fun w F hw hA hFG => ih _ _ _ _ _ _ _ _ w (Nat.le_of_lt_succ (Nat.lt_of_lt_of_le (sub_size (by omega)) hz)) (by rw [List.length_append, List.length_take, List.length_map]; omega) (by omega) hva hc_9 hzc hw hA hFG) (fun G_11 v_14 z_16 hn_12 hr_13 => ?_)
              replace hsa := hsa.mono hn_12.le
              replace hr := hr.mono hn_12.le
              replace hp := fun p hm0 => (hp p hm0).mono hn_12.le
              replace ha := ha.mono hn_12.le
              replace hap := fun p hm0 => (hap p hm0).mono hn_12.le
              replace hva := hva.mono hn_12.le
              replace hzc := ChC.mono hzc hn_12.le
              replace R_6 := R_6.mono hn_12.le
              replace hc_9 := hc_9.mono hn_12.le
              obtain ⟨-, u_15q, u_15c⟩ := hr_13
              refine r_nil ?_
              refine e_next ?_
              refine c_seq ?_
              refine c_region_d (fun _ => false) _ mixed (.keep (fun _ _ h => h) (.keep (fun _ _ h => h) (.nil))) ?_
              refine d_val1 0 rfl rfl (by kernel_rfl) (fun _ _ => rfl) .none rfl (p_move rfl) ?_
              refine d_val1 2 rfl rfl (by kernel_rfl) (fun _ _ => rfl) .none rfl (p_ldw (k := 0) Try.underlying38 rfl sz38 rfl rfl (rfl : _ = Value.agg #[_, _, _, _, _, _, _, _])) ?_
              refine d_eff2 1 3 rfl rfl (by kernel_rfl) (fun K_17 hKK_17 hcK_17 => ?_) (fun K_17 hKK_17 hcK_17 => ?_)
              · skip
                refine r_callrow (vs := [_]) .none rfl cl44 rfl (fun w hw => c_cloneC _ es ha (by omega) hap w hw) (fun v_18 => ?_)
                refine r_nil (e_d (i := 1) (brk := (fun _ => false)) (ph' := true) hKK_17 hcK_17 rfl (fun _ => GLe.refl _) (fun _ => .drop (.keep (fun _ _ h => h) (.keep (fun _ _ h => h) (.nil)))) ?_)
                clear hKK_17 hcK_17 K_17
                refine d_eff 3 rfl (by kernel_rfl) (fun K_19 hKK_19 hcK_19 => ?_)
                refine r_bslice (vs := [(0, Value.agg #[_, _, _, _, _, _, _, _])]) (c := #[_, _, _, _, _, _, _, _]) .none rfl Try.underlying22 el38 rfl rfl rfl (bs38_10a8 _ _ _ _ _ _ _ _) (IsRow.lit _) (fun b_2 => ?_)
                refine r_nil (e_d (i := 3) (brk := (fun _ => false)) (ph' := true) hKK_19 hcK_19 rfl (fun _ => GLe.refl _) (fun _ => .drop (.drop (.keep (fun _ _ h => h) (.keep (fun _ _ h => h) (.nil))))) ?_)
                clear hKK_19 hcK_19 K_19
                refine d_eff 4 rfl (by kernel_rfl) (fun K_20 hKK_20 hcK_20 => ?_)
                refine r_append (k := 1) (k2 := 0) .none rfl Try.underlying22 el38 rfl (by decide) rfl rfl rfl rfl rfl (one_lit rfl (all_cons rfl (all_cons rfl (all_cons rfl (all_cons rfl (all_cons rfl (all_cons rfl (all_cons rfl (all_cons (hc_9).one rfl))))))))) (by simp only [maxLen]; omega) (by omega) (fun v_21 => ?_)
                refine r_row1 (k := 1) rfl (fun o_22 => ?_)
                refine r_nil (e_d (i := 4) (brk := (fun _ => false)) (ph' := true) hKK_20 hcK_20 rfl (fun _ => GLe.refl _) (fun _ => .drop (.drop (.keep (fun _ _ h => h) (.keep (fun _ _ h => h) (.nil))))) ?_)
                clear hKK_20 hcK_20 K_20
                refine d_val1 5 rfl rfl (by kernel_rfl) (fun _ _ => rfl) .none rfl (p_assign rfl) ?_
                refine d_nil (by kernel_rfl) ?_
                refine e_next ?_
                refine c_region ?_
                refine r_val .none rfl (p_move rfl) ?_
                refine r_freeze (k := 1) rfl (fun G_23 hn_24 hs_25 => ?_)
                replace hsa := hsa.mono hn_24.le
                replace hr := hr.mono hn_24.le
                replace hp := fun p hm0 => (hp p hm0).mono hn_24.le
                replace ha := ha.mono hn_24.le
                replace hap := fun p hm0 => (hap p hm0).mono hn_24.le
                replace hva := hva.mono hn_24.le
                replace hzc := ChC.mono hzc hn_24.le
                replace R_6 := R_6.mono hn_24.le
                replace hc_9 := hc_9.mono hn_24.le
                replace u_15c := ChC.mono u_15c hn_24.le
                have hs2 : SlL G_23 v_21 8 cvC d0 (es ++ [rs.getD k d0]) := SlL.of2 d0 (fun _ => rfl) (by simp) (by rw [List.flatMap_append, List.flatMap_cons, List.flatMap_nil, List.append_nil]; rfl) hs_25
                have hp2 : ∀ p ∈ es ++ [rs.getD k d0], Cs G_23 p.2 p.1.subs := fun p hp' => by rcases List.mem_append.1 hp' with h | h; exact hap p h; rw [List.mem_singleton.1 h]; exact hc_9
                have hva2 : Cs G_23 v_21 (ah ++ (rs.map Prod.fst).take (k + 1)) := by have h := Tr.mk _ hs2 hp2; rw [List.map_append, ← hal] at h; rw [map_take (d := d0) (by omega), ← List.append_assoc]; exact h
                have hm2 : (es ++ [rs.getD k d0]).map Prod.fst = ah ++ (rs.map Prod.fst).take (k + 1) := by rw [List.map_append, ← hal, map_take (d := d0) (by omega), ← List.append_assoc]; rfl
                refine r_val .none rfl (p_move rfl) ?_
                refine r_fun (cs := [_]) .none rfl ?_
                refine r_callox (k := 2) (vs := [_, _]) .none rfl cl43 rfl rfl (fun w F hw hA hFG => c_ch1 _ _ _ _ hs2 hp2 (by simp; omega) (by have h9 := congrArg List.length u_15q; rw [List.length_append, List.length_map, List.length_map] at h9; have h10 := chains_len (rs.getD k d0).1.subs (ah ++ (rs.map Prod.fst).take k); omega) u_15c w hw hA hFG) (fun G_26 v_29 z_31 hn_27 hr_28 => ?_)
                replace hsa := hsa.mono hn_27.le
                replace hr := hr.mono hn_27.le
                replace hp := fun p hm0 => (hp p hm0).mono hn_27.le
                replace ha := ha.mono hn_27.le
                replace hap := fun p hm0 => (hap p hm0).mono hn_27.le
                replace hva := hva.mono hn_27.le
                replace hzc := ChC.mono hzc hn_27.le
                replace R_6 := R_6.mono hn_27.le
                replace hc_9 := hc_9.mono hn_27.le
                replace u_15c := ChC.mono u_15c hn_27.le
                replace hs2 := hs2.mono hn_27.le
                replace hp2 := fun p hm0 => (hp2 p hm0).mono hn_27.le
                replace hva2 := hva2.mono hn_27.le
                obtain ⟨-, u_30q, u_30c⟩ := hr_28
                refine r_nil ?_
                refine e_norm_block ?_
                refine e_next ?_
                refine c_region ?_
                refine r_val .none rfl (p_add rfl rfl (by omega)) ?_
                refine r_val .none rfl (p_move rfl) ?_
                refine r_nil ?_
                refine e_round ((k + 1, _, z_31, _)) ⟨⟨by dsimp only; omega, hva2, by rw [u_30q, hm2, chains_take (by omega)]; first | (rw [hzq, chain1_other (by assumption), map_take (d := d0) (by omega)]; simp [List.append_assoc]; done) | (rw [u_15q, hzq, chain1_ncc (by assumption), map_take (d := d0) (by omega)]; simp [List.append_assoc]; done), u_30c, (((hgn.trans hn_12).trans hn_24).trans hn_27)⟩, by dsimp only; omega⟩ rfl ⟨rfl, rfl, rfl, rfl, rfl, trivial⟩ (.drop (.drop (.keep (fun _ _ h => h) (.nil))))
              · skip
                refine r_bslice (vs := [(0, Value.agg #[_, _, _, _, _, _, _, _])]) (c := #[_, _, _, _, _, _, _, _]) .none rfl Try.underlying22 el38 rfl rfl rfl (bs38_10a8 _ _ _ _ _ _ _ _) (IsRow.lit _) (fun b_3 => ?_)
                refine r_nil (e_d (i := 3) (brk := (fun _ => false)) (ph' := true) hKK_17 hcK_17 rfl (fun _ => GLe.refl _) (fun _ => .drop (.keep (fun _ _ h => h) (.keep (fun _ _ h => h) (.nil)))) ?_)
                clear hKK_17 hcK_17 K_17
                refine d_eff 1 rfl (by kernel_rfl) (fun K_32 hKK_32 hcK_32 => ?_)
                refine r_callrow (vs := [_]) .none rfl cl44 rfl (fun w hw => c_cloneC _ es ha (by omega) hap w hw) (fun v_33 => ?_)
                refine r_nil (e_d (i := 1) (brk := (fun _ => false)) (ph' := true) hKK_32 hcK_32 rfl (fun _ => GLe.refl _) (fun _ => .drop (.drop (.keep (fun _ _ h => h) (.keep (fun _ _ h => h) (.nil))))) ?_)
                clear hKK_32 hcK_32 K_32
                refine d_eff 4 rfl (by kernel_rfl) (fun K_34 hKK_34 hcK_34 => ?_)
                refine r_append (k := 0) (k2 := 1) .none rfl Try.underlying22 el38 rfl (by decide) rfl rfl rfl rfl rfl (one_lit rfl (all_cons rfl (all_cons rfl (all_cons rfl (all_cons rfl (all_cons rfl (all_cons rfl (all_cons rfl (all_cons (hc_9).one rfl))))))))) (by simp only [maxLen]; omega) (by omega) (fun v_35 => ?_)
                refine r_row1 (k := 0) rfl (fun o_36 => ?_)
                refine r_nil (e_d (i := 4) (brk := (fun _ => false)) (ph' := true) hKK_34 hcK_34 rfl (fun _ => GLe.refl _) (fun _ => .drop (.drop (.keep (fun _ _ h => h) (.keep (fun _ _ h => h) (.nil))))) ?_)
                clear hKK_34 hcK_34 K_34
                refine d_val1 5 rfl rfl (by kernel_rfl) (fun _ _ => rfl) .none rfl (p_assign rfl) ?_
                refine d_nil (by kernel_rfl) ?_
                refine e_next ?_
                refine c_region ?_
                refine r_val .none rfl (p_move rfl) ?_
                refine r_freeze (k := 0) rfl (fun G_37 hn_38 hs_39 => ?_)
                replace hsa := hsa.mono hn_38.le
                replace hr := hr.mono hn_38.le
                replace hp := fun p hm0 => (hp p hm0).mono hn_38.le
                replace ha := ha.mono hn_38.le
                replace hap := fun p hm0 => (hap p hm0).mono hn_38.le
                replace hva := hva.mono hn_38.le
                replace hzc := ChC.mono hzc hn_38.le
                replace R_6 := R_6.mono hn_38.le
                replace hc_9 := hc_9.mono hn_38.le
                replace u_15c := ChC.mono u_15c hn_38.le
                have hs2 : SlL G_37 v_35 8 cvC d0 (es ++ [rs.getD k d0]) := SlL.of2 d0 (fun _ => rfl) (by simp) (by rw [List.flatMap_append, List.flatMap_cons, List.flatMap_nil, List.append_nil]; rfl) hs_39
                have hp2 : ∀ p ∈ es ++ [rs.getD k d0], Cs G_37 p.2 p.1.subs := fun p hp' => by rcases List.mem_append.1 hp' with h | h; exact hap p h; rw [List.mem_singleton.1 h]; exact hc_9
                have hva2 : Cs G_37 v_35 (ah ++ (rs.map Prod.fst).take (k + 1)) := by have h := Tr.mk _ hs2 hp2; rw [List.map_append, ← hal] at h; rw [map_take (d := d0) (by omega), ← List.append_assoc]; exact h
                have hm2 : (es ++ [rs.getD k d0]).map Prod.fst = ah ++ (rs.map Prod.fst).take (k + 1) := by rw [List.map_append, ← hal, map_take (d := d0) (by omega), ← List.append_assoc]; rfl
                refine r_val .none rfl (p_move rfl) ?_
                refine r_fun (cs := [_]) .none rfl ?_
                refine r_callox (k := 2) (vs := [_, _]) .none rfl cl43 rfl rfl (fun w F hw hA hFG => c_ch1 _ _ _ _ hs2 hp2 (by simp; omega) (by have h9 := congrArg List.length u_15q; rw [List.length_append, List.length_map, List.length_map] at h9; have h10 := chains_len (rs.getD k d0).1.subs (ah ++ (rs.map Prod.fst).take k); omega) u_15c w hw hA hFG) (fun G_40 v_43 z_45 hn_41 hr_42 => ?_)
                replace hsa := hsa.mono hn_41.le
                replace hr := hr.mono hn_41.le
                replace hp := fun p hm0 => (hp p hm0).mono hn_41.le
                replace ha := ha.mono hn_41.le
                replace hap := fun p hm0 => (hap p hm0).mono hn_41.le
                replace hva := hva.mono hn_41.le
                replace hzc := ChC.mono hzc hn_41.le
                replace R_6 := R_6.mono hn_41.le
                replace hc_9 := hc_9.mono hn_41.le
                replace u_15c := ChC.mono u_15c hn_41.le
                replace hs2 := hs2.mono hn_41.le
                replace hp2 := fun p hm0 => (hp2 p hm0).mono hn_41.le
                replace hva2 := hva2.mono hn_41.le
                obtain ⟨-, u_44q, u_44c⟩ := hr_42
                refine r_nil ?_
                refine e_norm_block ?_
                refine e_next ?_
                refine c_region ?_
                refine r_val .none rfl (p_add rfl rfl (by omega)) ?_
                refine r_val .none rfl (p_move rfl) ?_
                refine r_nil ?_
                refine e_round ((k + 1, _, z_45, _)) ⟨⟨by dsimp only; omega, hva2, by rw [u_44q, hm2, chains_take (by omega)]; first | (rw [hzq, chain1_other (by assumption), map_take (d := d0) (by omega)]; simp [List.append_assoc]; done) | (rw [u_15q, hzq, chain1_ncc (by assumption), map_take (d := d0) (by omega)]; simp [List.append_assoc]; done), u_44c, (((hgn.trans hn_12).trans hn_38).trans hn_41)⟩, by dsimp only; omega⟩ rfl ⟨rfl, rfl, rfl, rfl, rfl, trivial⟩ (.drop (.drop (.keep (fun _ _ h => h) (.nil))))
              )
        · skip
          have hk3 := h_10
          first
            | (exfalso; omega)
            | (
              refine c_cond_f rfl ?_
              refine c_skip ?_
              refine e_next ?_
              refine c_seq ?_
              refine c_region_d (fun _ => false) _ mixed (.keep (fun _ _ h => h) (.keep (fun _ _ h => h) (.nil))) ?_
              refine d_val1 0 rfl rfl (by kernel_rfl) (fun _ _ => rfl) .none rfl (p_move rfl) ?_
              refine d_val1 2 rfl rfl (by kernel_rfl) (fun _ _ => rfl) .none rfl (p_ldw (k := 0) Try.underlying38 rfl sz38 rfl rfl (rfl : _ = Value.agg #[_, _, _, _, _, _, _, _])) ?_
              refine d_eff2 1 3 rfl rfl (by kernel_rfl) (fun K_46 hKK_46 hcK_46 => ?_) (fun K_46 hKK_46 hcK_46 => ?_)
              · skip
                refine r_callrow (vs := [_]) .none rfl cl44 rfl (fun w hw => c_cloneC _ es ha (by omega) hap w hw) (fun v_47 => ?_)
                refine r_nil (e_d (i := 1) (brk := (fun _ => false)) (ph' := true) hKK_46 hcK_46 rfl (fun _ => GLe.refl _) (fun _ => .drop (.keep (fun _ _ h => h) (.keep (fun _ _ h => h) (.nil)))) ?_)
                clear hKK_46 hcK_46 K_46
                refine d_eff 3 rfl (by kernel_rfl) (fun K_48 hKK_48 hcK_48 => ?_)
                refine r_bslice (vs := [(0, Value.agg #[_, _, _, _, _, _, _, _])]) (c := #[_, _, _, _, _, _, _, _]) .none rfl Try.underlying22 el38 rfl rfl rfl (bs38_10a8 _ _ _ _ _ _ _ _) (IsRow.lit _) (fun b_4 => ?_)
                refine r_nil (e_d (i := 3) (brk := (fun _ => false)) (ph' := true) hKK_48 hcK_48 rfl (fun _ => GLe.refl _) (fun _ => .drop (.drop (.keep (fun _ _ h => h) (.keep (fun _ _ h => h) (.nil))))) ?_)
                clear hKK_48 hcK_48 K_48
                refine d_eff 4 rfl (by kernel_rfl) (fun K_49 hKK_49 hcK_49 => ?_)
                refine r_append (k := 1) (k2 := 0) .none rfl Try.underlying22 el38 rfl (by decide) rfl rfl rfl rfl rfl (one_lit rfl (all_cons rfl (all_cons rfl (all_cons rfl (all_cons rfl (all_cons rfl (all_cons rfl (all_cons rfl (all_cons (hc_9).one rfl))))))))) (by simp only [maxLen]; omega) (by omega) (fun v_50 => ?_)
                refine r_row1 (k := 1) rfl (fun o_51 => ?_)
                refine r_nil (e_d (i := 4) (brk := (fun _ => false)) (ph' := true) hKK_49 hcK_49 rfl (fun _ => GLe.refl _) (fun _ => .drop (.drop (.keep (fun _ _ h => h) (.keep (fun _ _ h => h) (.nil))))) ?_)
                clear hKK_49 hcK_49 K_49
                refine d_val1 5 rfl rfl (by kernel_rfl) (fun _ _ => rfl) .none rfl (p_assign rfl) ?_
                refine d_nil (by kernel_rfl) ?_
                refine e_next ?_
                refine c_region ?_
                refine r_val .none rfl (p_move rfl) ?_
                refine r_freeze (k := 1) rfl (fun G_52 hn_53 hs_54 => ?_)
                replace hsa := hsa.mono hn_53.le
                replace hr := hr.mono hn_53.le
                replace hp := fun p hm0 => (hp p hm0).mono hn_53.le
                replace ha := ha.mono hn_53.le
                replace hap := fun p hm0 => (hap p hm0).mono hn_53.le
                replace hva := hva.mono hn_53.le
                replace hzc := ChC.mono hzc hn_53.le
                replace R_6 := R_6.mono hn_53.le
                replace hc_9 := hc_9.mono hn_53.le
                have hs2 : SlL G_52 v_50 8 cvC d0 (es ++ [rs.getD k d0]) := SlL.of2 d0 (fun _ => rfl) (by simp) (by rw [List.flatMap_append, List.flatMap_cons, List.flatMap_nil, List.append_nil]; rfl) hs_54
                have hp2 : ∀ p ∈ es ++ [rs.getD k d0], Cs G_52 p.2 p.1.subs := fun p hp' => by rcases List.mem_append.1 hp' with h | h; exact hap p h; rw [List.mem_singleton.1 h]; exact hc_9
                have hva2 : Cs G_52 v_50 (ah ++ (rs.map Prod.fst).take (k + 1)) := by have h := Tr.mk _ hs2 hp2; rw [List.map_append, ← hal] at h; rw [map_take (d := d0) (by omega), ← List.append_assoc]; exact h
                have hm2 : (es ++ [rs.getD k d0]).map Prod.fst = ah ++ (rs.map Prod.fst).take (k + 1) := by rw [List.map_append, ← hal, map_take (d := d0) (by omega), ← List.append_assoc]; rfl
                refine r_val .none rfl (p_move rfl) ?_
                refine r_fun (cs := [_]) .none rfl ?_
                refine r_callox (k := 2) (vs := [_, _]) .none rfl cl43 rfl rfl (fun w F hw hA hFG => c_ch1 _ _ _ _ hs2 hp2 (by simp; omega) (by omega) hzc w hw hA hFG) (fun G_55 v_58 z_60 hn_56 hr_57 => ?_)
                replace hsa := hsa.mono hn_56.le
                replace hr := hr.mono hn_56.le
                replace hp := fun p hm0 => (hp p hm0).mono hn_56.le
                replace ha := ha.mono hn_56.le
                replace hap := fun p hm0 => (hap p hm0).mono hn_56.le
                replace hva := hva.mono hn_56.le
                replace hzc := ChC.mono hzc hn_56.le
                replace R_6 := R_6.mono hn_56.le
                replace hc_9 := hc_9.mono hn_56.le
                replace hs2 := hs2.mono hn_56.le
                replace hp2 := fun p hm0 => (hp2 p hm0).mono hn_56.le
                replace hva2 := hva2.mono hn_56.le
                obtain ⟨-, u_59q, u_59c⟩ := hr_57
                refine r_nil ?_
                refine e_norm_block ?_
                refine e_next ?_
                refine c_region ?_
                refine r_val .none rfl (p_add rfl rfl (by omega)) ?_
                refine r_val .none rfl (p_move rfl) ?_
                refine r_nil ?_
                refine e_round ((k + 1, _, z_60, _)) ⟨⟨by dsimp only; omega, hva2, by rw [u_59q, hm2, chains_take (by omega)]; first | (rw [hzq, chain1_other (by assumption), map_take (d := d0) (by omega)]; simp [List.append_assoc]; done) | (rw [hzq, hzq, chain1_ncc (by assumption), map_take (d := d0) (by omega)]; simp [List.append_assoc]; done), u_59c, ((hgn.trans hn_53).trans hn_56)⟩, by dsimp only; omega⟩ rfl ⟨rfl, rfl, rfl, rfl, rfl, trivial⟩ (.drop (.drop (.keep (fun _ _ h => h) (.nil))))
              · skip
                refine r_bslice (vs := [(0, Value.agg #[_, _, _, _, _, _, _, _])]) (c := #[_, _, _, _, _, _, _, _]) .none rfl Try.underlying22 el38 rfl rfl rfl (bs38_10a8 _ _ _ _ _ _ _ _) (IsRow.lit _) (fun b_5 => ?_)
                refine r_nil (e_d (i := 3) (brk := (fun _ => false)) (ph' := true) hKK_46 hcK_46 rfl (fun _ => GLe.refl _) (fun _ => .drop (.keep (fun _ _ h => h) (.keep (fun _ _ h => h) (.nil)))) ?_)
                clear hKK_46 hcK_46 K_46
                refine d_eff 1 rfl (by kernel_rfl) (fun K_61 hKK_61 hcK_61 => ?_)
                refine r_callrow (vs := [_]) .none rfl cl44 rfl (fun w hw => c_cloneC _ es ha (by omega) hap w hw) (fun v_62 => ?_)
                refine r_nil (e_d (i := 1) (brk := (fun _ => false)) (ph' := true) hKK_61 hcK_61 rfl (fun _ => GLe.refl _) (fun _ => .drop (.drop (.keep (fun _ _ h => h) (.keep (fun _ _ h => h) (.nil))))) ?_)
                clear hKK_61 hcK_61 K_61
                refine d_eff 4 rfl (by kernel_rfl) (fun K_63 hKK_63 hcK_63 => ?_)
                refine r_append (k := 0) (k2 := 1) .none rfl Try.underlying22 el38 rfl (by decide) rfl rfl rfl rfl rfl (one_lit rfl (all_cons rfl (all_cons rfl (all_cons rfl (all_cons rfl (all_cons rfl (all_cons rfl (all_cons rfl (all_cons (hc_9).one rfl))))))))) (by simp only [maxLen]; omega) (by omega) (fun v_64 => ?_)
                refine r_row1 (k := 0) rfl (fun o_65 => ?_)
                refine r_nil (e_d (i := 4) (brk := (fun _ => false)) (ph' := true) hKK_63 hcK_63 rfl (fun _ => GLe.refl _) (fun _ => .drop (.drop (.keep (fun _ _ h => h) (.keep (fun _ _ h => h) (.nil))))) ?_)
                clear hKK_63 hcK_63 K_63
                refine d_val1 5 rfl rfl (by kernel_rfl) (fun _ _ => rfl) .none rfl (p_assign rfl) ?_
                refine d_nil (by kernel_rfl) ?_
                refine e_next ?_
                refine c_region ?_
                refine r_val .none rfl (p_move rfl) ?_
                refine r_freeze (k := 0) rfl (fun G_66 hn_67 hs_68 => ?_)
                replace hsa := hsa.mono hn_67.le
                replace hr := hr.mono hn_67.le
                replace hp := fun p hm0 => (hp p hm0).mono hn_67.le
                replace ha := ha.mono hn_67.le
                replace hap := fun p hm0 => (hap p hm0).mono hn_67.le
                replace hva := hva.mono hn_67.le
                replace hzc := ChC.mono hzc hn_67.le
                replace R_6 := R_6.mono hn_67.le
                replace hc_9 := hc_9.mono hn_67.le
                have hs2 : SlL G_66 v_64 8 cvC d0 (es ++ [rs.getD k d0]) := SlL.of2 d0 (fun _ => rfl) (by simp) (by rw [List.flatMap_append, List.flatMap_cons, List.flatMap_nil, List.append_nil]; rfl) hs_68
                have hp2 : ∀ p ∈ es ++ [rs.getD k d0], Cs G_66 p.2 p.1.subs := fun p hp' => by rcases List.mem_append.1 hp' with h | h; exact hap p h; rw [List.mem_singleton.1 h]; exact hc_9
                have hva2 : Cs G_66 v_64 (ah ++ (rs.map Prod.fst).take (k + 1)) := by have h := Tr.mk _ hs2 hp2; rw [List.map_append, ← hal] at h; rw [map_take (d := d0) (by omega), ← List.append_assoc]; exact h
                have hm2 : (es ++ [rs.getD k d0]).map Prod.fst = ah ++ (rs.map Prod.fst).take (k + 1) := by rw [List.map_append, ← hal, map_take (d := d0) (by omega), ← List.append_assoc]; rfl
                refine r_val .none rfl (p_move rfl) ?_
                refine r_fun (cs := [_]) .none rfl ?_
                refine r_callox (k := 2) (vs := [_, _]) .none rfl cl43 rfl rfl (fun w F hw hA hFG => c_ch1 _ _ _ _ hs2 hp2 (by simp; omega) (by omega) hzc w hw hA hFG) (fun G_69 v_72 z_74 hn_70 hr_71 => ?_)
                replace hsa := hsa.mono hn_70.le
                replace hr := hr.mono hn_70.le
                replace hp := fun p hm0 => (hp p hm0).mono hn_70.le
                replace ha := ha.mono hn_70.le
                replace hap := fun p hm0 => (hap p hm0).mono hn_70.le
                replace hva := hva.mono hn_70.le
                replace hzc := ChC.mono hzc hn_70.le
                replace R_6 := R_6.mono hn_70.le
                replace hc_9 := hc_9.mono hn_70.le
                replace hs2 := hs2.mono hn_70.le
                replace hp2 := fun p hm0 => (hp2 p hm0).mono hn_70.le
                replace hva2 := hva2.mono hn_70.le
                obtain ⟨-, u_73q, u_73c⟩ := hr_71
                refine r_nil ?_
                refine e_norm_block ?_
                refine e_next ?_
                refine c_region ?_
                refine r_val .none rfl (p_add rfl rfl (by omega)) ?_
                refine r_val .none rfl (p_move rfl) ?_
                refine r_nil ?_
                refine e_round ((k + 1, _, z_74, _)) ⟨⟨by dsimp only; omega, hva2, by rw [u_73q, hm2, chains_take (by omega)]; first | (rw [hzq, chain1_other (by assumption), map_take (d := d0) (by omega)]; simp [List.append_assoc]; done) | (rw [hzq, hzq, chain1_ncc (by assumption), map_take (d := d0) (by omega)]; simp [List.append_assoc]; done), u_73c, ((hgn.trans hn_67).trans hn_70)⟩, by dsimp only; omega⟩ rfl ⟨rfl, rfl, rfl, rfl, rfl, trivial⟩ (.drop (.drop (.keep (fun _ _ h => h) (.nil))))
              )
        )
  · skip
    first
      | (exfalso; omega)
      | (
        refine c_cond_f rfl ?_
        refine c_exit ?_
        refine e_exit_then ?_
        refine e_exit_then ?_
        refine e_exit_block ?_
        refine e_end0 Try.results42 (fun w hm => ⟨_, z, hgn, hm.has, ⟨rfl, by rw [hzq, List.take_of_length_le (by simp; omega)], hzc⟩, hm.keptG [outA _ _ p z] (.keep (fun _ _ h => h) (.nil)) (outA _ _ p z) (fun F' h => starL_one h)⟩)
        )
theorem c_grow6_n : ∀ n, GrowIs n
  | 0 => fun va vl ah l p z0 G F w hz _ _ _ _ _ _ _ _ => absurd hz (by cases l <;> simp)
  | n + 1 => fun va vl ah l p z0 G F w hz hsz hlz hsa hs hz0 hG hA hFG => c_grow6_s n (c_grow6_n n) va vl ah l p z0 hz hsz hlz hsa hs hz0 w hG hA hFG
theorem c_grow6 (va vl : Value) (ah l : List CT) (p : Nat) (z0 : List (List CT × Value)) {G : Ghost} {F : Nat → Prop} (hsz : ah.length + sizeL l ≤ 1000) (hlz : z0.length + sizeL l ≤ 3000) (hsa : Cs G va ah) (hs : Cs G vl l) (hz0 : ChC G z0) (w : World) (hG : Has G w) (hA : (outA 25 22 p (z0)).holds w F) (hFG : ∀ b, F b → G b = none) : Calls Try.prog 42 #[va, vl, Value.func (.func 43) #[] #[.pointer (some ⟨p, 0, none⟩)]] w (Ret fun r w' => ∃ G' z', GNew w F G G' ∧ Has G' w' ∧ (r = .tuple #[] ∧ z'.map Prod.fst = z0.map Prod.fst ++ chains ah l ∧ ChC G' z') ∧ KeptG (outA 25 22 p (z')) F G' w w') := c_grow6_n _ va vl ah l p z0 G F w (Nat.le_refl _) hsz hlz hsa hs hz0 hG hA hFG
theorem c_chains6 (v : Value) (l : List CT) {G : Ghost} (hsz : sizeL l ≤ 1000) (hs : Cs G v l) (w : World) (hG : Has G w) :
    Calls Try.prog 13 #[v] w (Ret fun r w' => ∃ G', GNew w nX G G' ∧ Has G' w' ∧ Ls (fun G v l => Cs G v l) ([] : List CT) G' r (chains [] l) ∧ Since nX w w') := by
  refine enter (args := [_]) (X := nX) (G := G) (l := [(0, v)]) Try.func13 rfl Try.ntmps13 hG ⟨rfl, trivial⟩ (Nat.le_of_ble_eq_true rfl) ?_
  refine c_seq ?_
  refine c_region ?_
  refine r_val .none rfl (p_assign rfl) ?_
  refine r_nil ?_
  refine e_next ?_
  refine c_seq ?_
  refine c_region ?_
  refine r_alloc .none rfl zr25 (IsRow.lit [_]) (fun b_1 => ?_)
  refine r_nil ?_
  refine e_next ?_
  refine c_seq ?_
  refine c_region ?_
  refine r_val .none rfl (p_move rfl) ?_
  refine r_val .none rfl (p_mkfunc (vs := [_]) rfl) ?_
  refine r_nilrow 22 1 ?_
  refine r_packout (rs := ([] : List (List CT × Value))) rfl rfl rfl ?_
  refine r_callox (k := 0) (vs := [_, _, _]) .none rfl cl42 rfl rfl (fun w F hw hA hFG => c_grow6 _ _ [] _ _ [] (by simp; omega) (by simp; omega) Tr.nil hs (by simp [ChC]) w hw hA hFG) (fun G_1 v_4 z_6 hn_2 hr_3 => ?_)
  replace hs := hs.mono hn_2.le
  obtain ⟨-, u_5q, u_5c⟩ := hr_3
  refine r_nil ?_
  refine e_next ?_
  refine c_seq ?_
  refine c_region ?_
  refine r_unpackout (fun ov => ?_)
  refine r_row1 (k := 1) rfl (fun o1 => ?_)
  refine r_val .none rfl (p_ld (k := 0) Try.underlying25 rfl rfl rfl (by first | exact of_decide_eq_true rfl | omega) rfl) ?_
  refine r_val .none rfl (p_assign rfl) ?_
  refine r_nil ?_
  refine e_next ?_
  refine c_ret ?_
  refine e_freeze (k := 1) rfl (fun G_7 hn_8 hs_9 => ?_)
  replace hs := hs.mono hn_8.le
  replace u_5c := ChC.mono u_5c hn_8.le
  refine e_ret1 Try.results13 (.tmp rfl .nil) (fun w hm => ⟨_, (hn_2.trans hn_8), hm.has, ?_, hm.since⟩)
  rw [show chains [] l = z_6.map Prod.fst by rw [u_5q]; rfl]
  exact Ls.mk _ (SlL.of (([] : List CT), Value.slice none 0 0) (fun _ => rfl) rfl hs_9) u_5c
end Go.Proofs.Ytoflaphnlfggkaa
