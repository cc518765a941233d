/- Texts of this work, laid together: a logic of steps, plain laws, and walks of Go functions, each without a condition but those that its theorems name. -/
import Derived.Test.YtpadfgomhojjnaaKPlainSteps3
import Derived.Test.YtpadfgomhojjnaaRows
/- Walks: what Go functions of this chapter come to, each as a function on plain data; no condition but those that each theorem names. Printed by a program of this work (gen.py). -/
namespace Go.Proofs.Ytpadfgomhojjnaa
open Go.Gx Go.Gx.T3 Go.Gx.T4 Go.Gx.T3 Go.Gx.T8 Go.Gx.T4 Go.Gx.T3
theorem sz140 : SzIs Try.prog 140 3 := by
 unfold SzIs
 kernel_rfl
theorem zr140 : ZeroIs Try.prog 140 (Value.agg #[Value.int .i64 0, Value.int .i64 0, Value.int .i64 0]) := by
 unfold ZeroIs
 kernel_rfl
theorem cl35 : Callable Try.prog 35 := callable Try.func35 (by kernel_rfl) rfl
theorem bl109_0i1_1a3_3s3 (x0 : Int) (x1 : Value) (x2 : Value) (x3 : Value) (x4 : Option Addr) (x5 : Nat) (x6 : Nat) : Program.built Try.prog 109 [(0, Value.int .i64 x0), (1, Value.agg #[x1, x2, x3]), (3, Value.slice x4 x5 x6)] = some #[Value.int .i64 x0, x1, x2, x3, Value.slice none 0 0, Value.slice x4 x5 x6] := by
 kernel_rfl
theorem bl141_0i1_1i1_2i1 (x0 : Int) (x1 : Int) (x2 : Int) : Program.built Try.prog 141 [(0, Value.int .i64 x0), (1, Value.int .i64 x1), (2, Value.int .i64 x2)] = some #[Value.int .i64 x0, Value.int .i64 x1, Value.int .i64 x2] := by
 kernel_rfl
theorem bs109_10a6 (a0 a1 a2 a3 a4 a5 : Value) : Instr.fill (fun i => some (i * 6, 6)) ((Array.range (1 * 6)).map ((Value.agg #[Value.int .i64 0, Value.int .i64 0, Value.int .i64 0, Value.int .i64 0, Value.slice none 0 0, Value.slice none 0 0]).cells[· % (Value.agg #[Value.int .i64 0, Value.int .i64 0, Value.int .i64 0, Value.int .i64 0, Value.slice none 0 0, Value.slice none 0 0]).cells.size]!)) [(0, Value.agg #[a0, a1, a2, a3, a4, a5])] = some #[a0, a1, a2, a3, a4, a5] := by
 kernel_rfl
theorem bs141_10a3 (a0 a1 a2 : Value) : Instr.fill (fun i => some (i * 3, 3)) ((Array.range (1 * 3)).map ((Value.agg #[Value.int .i64 0, Value.int .i64 0, Value.int .i64 0]).cells[· % (Value.agg #[Value.int .i64 0, Value.int .i64 0, Value.int .i64 0]).cells.size]!)) [(0, Value.agg #[a0, a1, a2])] = some #[a0, a1, a2] := by
 kernel_rfl
theorem el109 : ElemIs Try.prog 109 6 80 (Value.agg #[Value.int .i64 0, Value.int .i64 0, Value.int .i64 0, Value.int .i64 0, Value.slice none 0 0, Value.slice none 0 0]) := by
 unfold ElemIs
 kernel_rfl
theorem el141 : ElemIs Try.prog 141 3 24 (Value.agg #[Value.int .i64 0, Value.int .i64 0, Value.int .i64 0]) := by
 unfold ElemIs
 kernel_rfl
def StepsIs (n : Nat) : Prop := ∀ (v : Value) (l : List ST) (G : Ghost) (w : World), SizeOf.sizeOf l ≤ n → sszL l ≤ 5000 → Ss G v l → Has G w → Calls Try.prog 35 #[v] w (Ret fun r w' => ∃ G', GNew w nX G G' ∧ Has G' w' ∧ Ss G' r l ∧ Since nX w w')
theorem c_compile (v : Value) (l : List CT) {G : Ghost} (hsz : sizeL l ≤ 1000) (hs : Rs G v l) (w : World) (hG : Has G w) :
  Calls Try.prog 36 #[v] w (Ret fun r w' => ∃ G', GNew w nX G G' ∧ Has G' w' ∧ Ss G' r (stepsOf [] l) ∧ Since nX w w') := by
 refine enter (args := [_]) (X := nX) (G := G) (l := [(0, v)]) Try.func36 rfl Try.ntmps36 hG ⟨rfl, trivial⟩ (Nat.le_of_ble_eq_true rfl) ?_
 obtain ⟨rs, hr, hp, rfl⟩ := hs.inv
 have hbd := hr.bound
 have hll := sizeL_len (rs.map Prod.fst)
 rw [List.length_map] at hll
 refine c_seq ?_
 refine c_region ?_
 refine r_val .none rfl (p_assign rfl) ?_
 refine r_nil ?_
 refine e_next ?_
 refine c_seq ?_
 refine c_region ?_
 refine r_val .none rfl (p_assign rfl) ?_
 refine r_nil ?_
 refine e_next ?_
 refine c_seq ?_
 refine c_seq ?_
 refine c_region ?_
 refine r_val .none rfl (p_move rfl) ?_
 refine r_val .none rfl (p_leng Try.underlying75 rfl hr) ?_
 have bd_1 := (hr).bound
 refine r_val .none rfl (p_move rfl) ?_
 refine r_nil ?_
 refine e_next ?_
 refine c_block ?_
 refine c_nilrow 116 6 ?_
 refine c_name (d := 0) rfl (fun u_2 hu_2 => ?_)
 refine c_name (d := 2) rfl (fun u_3 hu_3 => ?_)
 refine c_name (d := 6) rfl (fun u_4 hu_4 => ?_)
 refine c_name (d := 7) rfl (fun u_5 hu_5 => ?_)
 refine c_loop (σ := Nat × Value × List SVal × Ghost) (fun s => [(8, Value.int .i64 (s.1 : Nat)), (3, s.2.1), (0, u_2), (2, u_3), (6, u_4), (7, u_5)]) (fun s => [rowA (s.2.1) 116 6 (s.2.2.1).length ((s.2.2.1).flatMap sC)]) (fun s => s.2.2.2) (fun s => s.1 ≤ rs.length ∧ s.2.2.1.map Prod.fst = stepsOf [] ((rs.map Prod.fst).take s.1) ∧ (∀ p ∈ s.2.2.1, SlL s.2.2.2 p.2.1 3 tC t0 p.1.h.ts) ∧ (∀ p ∈ s.2.2.1, Ss s.2.2.2 p.2.2 p.1.subs) ∧ GNew w nX G s.2.2.2) (fun s => rs.length - s.1) ((0, _, [], _)) ⟨Nat.zero_le _, rfl, by simp, by simp, GNew.refl _ _ _⟩ rfl ⟨rfl, rfl, rfl, rfl, rfl, rfl, trivial⟩ (.keep (fun _ _ h => rowA_nil rfl _ _ h) (.nil)) (fun s hphi => ?_)
 subst hu_2
 subst hu_3
 subst hu_4
 subst hu_5
 obtain ⟨k, v, qs, H⟩ := s
 obtain ⟨hk, hq, hqt, hqs, hgn⟩ := hphi
 dsimp only at hk hq hqt hqs hgn ⊢
 have hql : qs.length ≤ k := (by have := congrArg List.length hq; rw [stepsOf_len] at this; simp at this; omega)
 replace hr := hr.mono hgn.le
 replace hp := fun p hm0 => (hp p hm0).mono hgn.le
 refine c_seq ?_
 refine c_region ?_
 refine r_val .none rfl (p_lt rfl rfl) ?_
 refine r_nil ?_
 refine e_next ?_
 refine c_seq ?_
 refine c_splitd (d := 9) rfl (fun h_6 => ?_) (fun h_6 => ?_)
 ·
  first
   | (exfalso; omega)
   | (
    refine c_cond_t rfl ?_
    refine c_skip ?_
    refine e_next ?_
    refine c_seq ?_
    refine c_block ?_
    refine c_seq ?_
    refine c_region ?_
    refine r_val .none rfl (p_move rfl) ?_
    refine r_iaddr_g .none rfl Try.underlying75 sz102 rfl hr rfl (by first | exact of_decide_eq_true rfl | omega) (fun p_8 o_9 R_7 => ?_)
    have hc_10 := hp _ (getD_mem (i := k) (d := d0) (by omega))
    have hz6 : ((rs.map Prod.fst).take k).length + size (rs.getD k d0).1 ≤ 1000 := by have h1 := sizeL_take (rs := rs) (k := k) (by omega); have h2 := sizeL_take_le (rs.map Prod.fst) (k + 1); have h3 := sizeL_len ((rs.map Prod.fst).take k); omega
    refine r_val .none rfl (p_ldga0 Try.underlying102 rfl sz102 rfl R_7 (by first | exact of_decide_eq_true rfl | omega) (rfl : _ = Value.agg #[_, _, _, _, _, _, _, _])) ?_
    refine r_alloc .none rfl zr102 (IsRow.lit _) (fun b_1 => ?_)
    refine r_val .none rfl (p_assign rfl) ?_
    refine r_stw (k := 0) .none sz102 rfl rfl (IsRow.lit _) (one_lit rfl (all_cons rfl (all_cons rfl (all_cons rfl (all_cons rfl (all_cons rfl (all_cons rfl (all_cons rfl (all_cons (hc_10).one rfl))))))))) rfl ?_
    refine r_nil ?_
    refine e_next ?_
    refine c_region_d (fun _ => false) _ mixed (.keep (fun _ _ h => h) (.drop (.nil))) ?_
    refine d_val1 0 rfl rfl (by kernel_rfl) (fun _ _ => rfl) .none rfl (p_move rfl) ?_
    refine d_val1 1 rfl rfl (by kernel_rfl) (fun _ _ => rfl) .none rfl (p_move rfl) ?_
    refine d_val1 2 rfl rfl (by kernel_rfl) (fun _ _ => rfl) .none rfl (p_move rfl) ?_
    refine d_slice0 3 k rfl rfl (by kernel_rfl) (fun _ _ => rfl) .none rfl Try.underlying75 sz102 rfl hr rfl (by first | exact of_decide_eq_true rfl | omega) (fun v_11 hs_12 => ?_)
    have hT_14 := Tr.take2 (by omega) hs_12 hp
    refine d_val1 4 rfl rfl (by kernel_rfl) (fun _ _ => rfl) .none rfl (p_ldw (k := 0) Try.underlying102 rfl sz102 rfl rfl (rfl : _ = Value.agg #[_, _, _, _, _, _, _, _])) ?_
    refine d_eff 5 rfl (by kernel_rfl) (fun K_15 hKK_15 hcK_15 => ?_)
    refine r_callm (vs := [_, _]) .none rfl cl57 rfl (fun w hw => c_of (rs.getD k d0).1 _ _ _ hz6 hc_10 hT_14 w hw) (fun G_16 v_19 hn_17 hr_18 => ?_)
    replace hr := hr.mono hn_17.le
    replace hp := fun p hm0 => (hp p hm0).mono hn_17.le
    replace hqt := fun p hm0 => (hqt p hm0).mono hn_17.le
    replace hqs := fun p hm0 => (hqs p hm0).mono hn_17.le
    replace R_7 := R_7.mono hn_17.le
    replace hc_10 := hc_10.mono hn_17.le
    replace hs_12 := hs_12.mono hn_17.le
    replace hT_14 := hT_14.mono hn_17.le
    obtain ⟨u_20a, u_20b, rfl, u_20s, u_20t⟩ := hr_18
    refine r_nil (e_d (i := 5) (brk := (fun _ => false)) (ph' := true) hKK_15 hcK_15 rfl (fun _ => hn_17.le) (fun _ => .keep (fun _ _ h => h) (.drop (.nil))) ?_)
    clear hKK_15 hcK_15 K_15
    refine d_eff 6 rfl (by kernel_rfl) (fun K_21 hKK_21 hcK_21 => ?_)
    refine r_bslice (vs := [(0, Value.agg #[_, _, _, _, _, _])]) (c := #[_, _, _, _, _, _]) .none rfl Try.underlying83 el116 rfl rfl rfl (bs116_10a6 _ _ _ _ _ _) (IsRow.lit _) (fun b_2 => ?_)
    refine r_nil (e_d (i := 6) (brk := (fun _ => false)) (ph' := true) hKK_21 hcK_21 rfl (fun _ => hn_17.le) (fun _ => .drop (.keep (fun _ _ h => h) (.drop (.nil)))) ?_)
    clear hKK_21 hcK_21 K_21
    refine d_eff 7 rfl (by kernel_rfl) (fun K_22 hKK_22 hcK_22 => ?_)
    refine r_append (k := 2) (k2 := 0) .none rfl Try.underlying83 el116 rfl (by decide) rfl rfl rfl rfl rfl (one_lit rfl (all_cons rfl (all_cons rfl (all_cons rfl (all_cons rfl (all_cons (u_20s).one (all_cons (u_20t).one rfl))))))) (by simp only [maxLen]; omega) (by omega) (fun v_23 => ?_)
    refine r_row1 (k := 2) rfl (fun o_24 => ?_)
    refine r_nil (e_d (i := 7) (brk := (fun _ => false)) (ph' := true) hKK_22 hcK_22 rfl (fun _ => hn_17.le) (fun _ => .drop (.keep (fun _ _ h => h) (.drop (.nil)))) ?_)
    clear hKK_22 hcK_22 K_22
    refine d_val1 8 rfl rfl (by kernel_rfl) (fun _ _ => rfl) .none rfl (p_assign rfl) ?_
    refine d_nil (by kernel_rfl) ?_
    refine e_norm_block ?_
    refine e_next ?_
    refine c_region ?_
    refine r_val .none rfl (p_add rfl rfl (by omega)) ?_
    refine r_val .none rfl (p_move rfl) ?_
    refine r_nil ?_
    refine e_round ((k + 1, _, qs ++ [(stepOf ((rs.map Prod.fst).take k) (rs.getD k d0).1, u_20a, u_20b)], _)) ⟨⟨by dsimp only; omega, by rw [stepsOf_take (by omega), List.map_append, hq, List.nil_append]; rfl, (fun p hp' => by rcases List.mem_append.1 hp' with h | h; exact hqt p h; rw [List.mem_singleton.1 h]; exact u_20s), (fun p hp' => by rcases List.mem_append.1 hp' with h | h; exact hqs p h; rw [List.mem_singleton.1 h]; exact u_20t), (hgn.trans hn_17)⟩, by dsimp only; omega⟩ rfl ⟨rfl, rfl, rfl, rfl, rfl, rfl, trivial⟩ (.drop (.drop (.keep (fun _ _ h => rowA_snoc (l := qs) (x := (stepOf ((rs.map Prod.fst).take k) (rs.getD k d0).1, u_20a, u_20b)) rfl rfl rfl rfl _ _ h) (.nil))))
    )
 ·
  first
   | (exfalso; omega)
   | (
    refine c_cond_f rfl ?_
    refine c_exit ?_
    refine e_exit_then ?_
    refine e_exit_then ?_
    refine e_exit_block ?_
    refine e_next ?_
    refine c_seq ?_
    refine c_region ?_
    refine r_val .none rfl (p_move rfl) ?_
    refine r_val .none rfl (p_assign rfl) ?_
    refine r_nil ?_
    refine e_next ?_
    refine c_ret ?_
    refine e_freeze (k := 0) rfl (fun G_25 hn_26 hs_27 => ?_)
    replace hr := hr.mono hn_26.le
    replace hp := fun p hm0 => (hp p hm0).mono hn_26.le
    replace hqt := fun p hm0 => (hqt p hm0).mono hn_26.le
    replace hqs := fun p hm0 => (hqs p hm0).mono hn_26.le
    refine e_ret1 Try.results36 (.tmp rfl .nil) (fun w hm => ⟨_, (hgn.trans hn_26), hm.has, ?_, hm.since⟩)
    rw [show stepsOf [] (rs.map Prod.fst) = qs.map Prod.fst by rw [hq, List.take_of_length_le (by simp; omega)]]
    exact Ss.mk qs (SlL.of s0 (fun _ => rfl) rfl hs_27) hqt hqs
    )
theorem c_steps_s (n : Nat) (ih : StepsIs n) (v : Value) (l : List ST) {G : Ghost} (hz : SizeOf.sizeOf l ≤ n + 1) (hsz : sszL l ≤ 5000) (hs : Ss G v l) (w : World) (hG : Has G w) :
  Calls Try.prog 35 #[v] w (Ret fun r w' => ∃ G', GNew w nX G G' ∧ Has G' w' ∧ Ss G' r l ∧ Since nX w w') := by
 refine enter (args := [_]) (X := nX) (G := G) (l := [(0, v)]) Try.func35 rfl Try.ntmps35 hG ⟨rfl, trivial⟩ (Nat.le_of_ble_eq_true rfl) ?_
 obtain ⟨rs, hr, hrt, hp, hl⟩ := hs.inv
 have hbd := hr.bound
 have hll := sszL_len l
 have hlr : l.length = rs.length := by rw [hl]; simp
 refine c_seq ?_
 refine c_region ?_
 refine r_val .none rfl (p_assign rfl) ?_
 refine r_nil ?_
 refine e_next ?_
 refine c_seq ?_
 refine c_region ?_
 refine r_val .none rfl (p_assign rfl) ?_
 refine r_nil ?_
 refine e_next ?_
 refine c_seq ?_
 refine c_seq ?_
 refine c_region ?_
 refine r_val .none rfl (p_move rfl) ?_
 refine r_val .none rfl (p_leng Try.underlying83 rfl hr) ?_
 have bd_1 := (hr).bound
 refine r_val .none rfl (p_move rfl) ?_
 refine r_nil ?_
 refine e_next ?_
 refine c_block ?_
 refine c_nilrow 109 6 ?_
 refine c_name (d := 2) rfl (fun u_2 hu_2 => ?_)
 refine c_name (d := 9) rfl (fun u_3 hu_3 => ?_)
 refine c_name (d := 10) rfl (fun u_4 hu_4 => ?_)
 refine c_loop (σ := Nat × Value × List SVal × Ghost) (fun s => [(11, Value.int .i64 (s.1 : Nat)), (3, s.2.1), (2, u_2), (9, u_3), (10, u_4)]) (fun s => [rowA (s.2.1) 109 6 (s.2.2.1).length ((s.2.2.1).flatMap sC)]) (fun s => s.2.2.2) (fun s => s.1 ≤ rs.length ∧ s.2.2.1.map Prod.fst = (rs.map Prod.fst).take s.1 ∧ (∀ p ∈ s.2.2.1, SlL s.2.2.2 p.2.1 3 tC t0 p.1.h.ts) ∧ (∀ p ∈ s.2.2.1, Ss s.2.2.2 p.2.2 p.1.subs) ∧ GNew w nX G s.2.2.2) (fun s => rs.length - s.1) ((0, _, [], _)) ⟨Nat.zero_le _, rfl, by simp, by simp, GNew.refl _ _ _⟩ rfl ⟨rfl, rfl, rfl, rfl, rfl, trivial⟩ (.keep (fun _ _ h => rowA_nil rfl _ _ h) (.nil)) (fun s hphi => ?_)
 subst hu_2
 subst hu_3
 subst hu_4
 obtain ⟨k, v, qs, H⟩ := s
 obtain ⟨hk, hq, hqt, hqs, hgn⟩ := hphi
 dsimp only at hk hq hqt hqs hgn ⊢
 have hql : qs.length ≤ k := (by have := congrArg List.length hq; simp at this; omega)
 replace hr := hr.mono hgn.le
 replace hrt := fun p hm0 => (hrt p hm0).mono hgn.le
 replace hp := fun p hm0 => (hp p hm0).mono hgn.le
 refine c_seq ?_
 refine c_region ?_
 refine r_val .none rfl (p_lt rfl rfl) ?_
 refine r_nil ?_
 refine e_next ?_
 refine c_seq ?_
 refine c_splitd (d := 12) rfl (fun h_5 => ?_) (fun h_5 => ?_)
 ·
  first
   | (exfalso; omega)
   | (
    refine c_cond_t rfl ?_
    refine c_skip ?_
    refine e_next ?_
    refine c_seq ?_
    refine c_block ?_
    refine c_seq ?_
    refine c_region ?_
    refine r_iaddr_g .none rfl Try.underlying83 sz116 rfl hr rfl (by first | exact of_decide_eq_true rfl | omega) (fun p_7 o_8 R_6 => ?_)
    have ht_9 := hrt _ (getD_mem (i := k) (d := s0) (by omega))
    have hc_10 := hp _ (getD_mem (i := k) (d := s0) (by omega))
    have hz7 := Nat.le_trans (sszL_mem (by rw [hl]; exact sv_mem (k := k) (by omega))) hsz
    rw [ssz_eq] at hz7
    refine r_val .none rfl (p_ldga0 Try.underlying116 rfl sz116 rfl R_6 (by first | exact of_decide_eq_true rfl | omega) (rfl : _ = Value.agg #[_, _, _, _, _, _])) ?_
    refine r_alloc .none rfl zr116 (IsRow.lit _) (fun b_1 => ?_)
    refine r_stw (k := 0) .none sz116 rfl rfl (IsRow.lit _) (one_lit rfl (all_cons rfl (all_cons rfl (all_cons rfl (all_cons rfl (all_cons (ht_9).one (all_cons (hc_10).one rfl))))))) rfl ?_
    refine r_nil ?_
    refine e_next ?_
    refine c_seq ?_
    refine c_region_d (fun _ => false) _ mixed (.keep (fun _ _ h => h) (.keep (fun _ _ h => h) (.nil))) ?_
    refine d_val1 0 rfl rfl (by kernel_rfl) (fun _ _ => rfl) .none rfl (p_field Try.underlying116 rfl sz3 rfl) ?_
    refine d_val1 1 rfl rfl (by kernel_rfl) (fun _ _ => rfl) .none rfl (p_ld (k := 0) Try.underlying3 rfl rfl rfl (by first | exact of_decide_eq_true rfl | omega) (rfl : _ = Value.int _ _)) ?_
    refine d_val1 2 rfl rfl (by kernel_rfl) (fun _ _ => rfl) .none rfl (p_field Try.underlying116 rfl sz105 rfl) ?_
    refine d_val1 3 rfl rfl (by kernel_rfl) (fun _ _ => rfl) .none rfl (p_lda (k := 0) Try.underlying105 rfl sz105 rfl rfl (by first | exact of_decide_eq_true rfl | omega) (rfl : _ = Value.agg #[_, _, _])) ?_
    refine d_val1 4 rfl rfl (by kernel_rfl) (fun _ _ => rfl) .none rfl (p_field Try.underlying116 rfl sz83 rfl) ?_
    refine d_val1 5 rfl rfl (by kernel_rfl) (fun _ _ => rfl) .none rfl (p_ld (k := 0) Try.underlying83 rfl rfl rfl (by first | exact of_decide_eq_true rfl | omega) rfl) ?_
    refine d_eff2 6 8 rfl rfl (by kernel_rfl) (fun K_11 hKK_11 hcK_11 => ?_) (fun K_11 hKK_11 hcK_11 => ?_)
    ·
     refine r_callm (vs := [_]) .none rfl cl35 rfl (fun w hw => ih _ _ _ w (sv_at hl (by omega) hz) (by omega) hc_10 hw) (fun G_12 v_15 hn_13 hr_14 => ?_)
     replace hr := hr.mono hn_13.le
     replace hrt := fun p hm0 => (hrt p hm0).mono hn_13.le
     replace hp := fun p hm0 => (hp p hm0).mono hn_13.le
     replace hqt := fun p hm0 => (hqt p hm0).mono hn_13.le
     replace hqs := fun p hm0 => (hqs p hm0).mono hn_13.le
     replace R_6 := R_6.mono hn_13.le
     replace ht_9 := ht_9.mono hn_13.le
     replace hc_10 := hc_10.mono hn_13.le
     have u_16 := hr_14
     refine r_nil (e_d (i := 6) (brk := (fun _ => false)) (ph' := true) hKK_11 hcK_11 rfl (fun _ => hn_13.le) (fun _ => .keep (fun _ _ h => h) (.keep (fun _ _ h => h) (.nil))) ?_)
     clear hKK_11 hcK_11 K_11
     obtain ⟨a_17, c_18, rfl⟩ := Ss.len u_16
     refine d_val1 7 rfl rfl (by kernel_rfl) (fun _ _ => rfl) .none rfl (p_build (vs := [(0, Value.int _ _), (1, Value.agg #[_, _, _]), (3, Value.slice _ _ _)]) rfl (bl109_0i1_1a3_3s3 _ _ _ _ _ _ _)) ?_
     refine d_eff 8 rfl (by kernel_rfl) (fun K_19 hKK_19 hcK_19 => ?_)
     refine r_alloc .none rfl zr109 (IsRow.lit _) (fun b_2 => ?_)
     refine r_nil (e_d (i := 8) (brk := (fun _ => false)) (ph' := true) hKK_19 hcK_19 rfl (fun _ => hn_13.le) (fun _ => .drop (.keep (fun _ _ h => h) (.keep (fun _ _ h => h) (.nil)))) ?_)
     clear hKK_19 hcK_19 K_19
     refine d_eff 9 rfl (by kernel_rfl) (fun K_20 hKK_20 hcK_20 => ?_)
     refine r_stw (k := 0) .none sz109 rfl rfl (IsRow.lit _) (one_lit rfl (all_cons rfl (all_cons rfl (all_cons rfl (all_cons rfl (all_cons rfl (all_cons (u_16).one rfl))))))) rfl ?_
     refine r_nil (e_d (i := 9) (brk := (fun _ => false)) (ph' := true) hKK_20 hcK_20 rfl (fun _ => hn_13.le) (fun _ => .drop (.keep (fun _ _ h => h) (.keep (fun _ _ h => h) (.nil)))) ?_)
     clear hKK_20 hcK_20 K_20
     refine d_nil (by kernel_rfl) ?_
     refine e_next ?_
     refine c_seq ?_
     refine c_seq ?_
     refine c_region ?_
     refine r_val .none rfl (p_field Try.underlying116 rfl sz114 rfl) ?_
     refine r_val .none rfl (p_ld (k := 1) Try.underlying114 rfl rfl rfl (by first | exact of_decide_eq_true rfl | omega) rfl) ?_
     refine r_val .none rfl (p_leng Try.underlying114 rfl ht_9) ?_
     have bd_21 := (ht_9).bound
     refine r_val .none rfl (p_move rfl) ?_
     refine r_nil ?_
     refine e_next ?_
     refine c_block ?_
     refine c_nilrow 141 3 ?_
     refine c_name (d := 2) rfl (fun u_22 hu_22 => ?_)
     refine c_name (d := 3) rfl (fun u_23 hu_23 => ?_)
     refine c_name (d := 5) rfl (fun u_24 hu_24 => ?_)
     refine c_name (d := 6) rfl (fun u_25 hu_25 => ?_)
     refine c_name (d := 9) rfl (fun u_26 hu_26 => ?_)
     refine c_name (d := 10) rfl (fun u_27 hu_27 => ?_)
     refine c_name (d := 11) rfl (fun u_28 hu_28 => ?_)
     refine c_name (d := 12) rfl (fun u_29 hu_29 => ?_)
     refine c_name (d := 13) rfl (fun u_30 hu_30 => ?_)
     refine c_name (d := 14) rfl (fun u_31 hu_31 => ?_)
     refine c_name (d := 15) rfl (fun u_32 hu_32 => ?_)
     refine c_name (d := 16) rfl (fun u_33 hu_33 => ?_)
     refine c_name (d := 17) rfl (fun u_34 hu_34 => ?_)
     refine c_name (d := 18) rfl (fun u_35 hu_35 => ?_)
     refine c_name (d := 19) rfl (fun u_36 hu_36 => ?_)
     refine c_name (d := 20) rfl (fun u_37 hu_37 => ?_)
     refine c_name (d := 21) rfl (fun u_38 hu_38 => ?_)
     refine c_name (d := 22) rfl (fun u_39 hu_39 => ?_)
     refine c_name (d := 23) rfl (fun u_40 hu_40 => ?_)
     refine c_name (d := 24) rfl (fun u_41 hu_41 => ?_)
     refine c_name (d := 25) rfl (fun u_42 hu_42 => ?_)
     refine c_nameL (k := 2) rfl (fun A_43 hA_43 => ?_)
     refine c_nameL (k := 3) rfl (fun A_44 hA_44 => ?_)
     refine c_loop (σ := Nat × Value) (fun s => [(26, Value.int .i64 (s.1 : Nat)), (2, u_22), (3, u_23), (5, u_24), (6, u_25), (9, u_26), (10, u_27), (11, u_28), (12, u_29), (13, u_30), (14, u_31), (15, u_32), (16, u_33), (17, u_34), (18, u_35), (19, u_36), (20, u_37), (21, u_38), (22, u_39), (23, u_40), (24, u_41), (25, u_42)]) (fun s => [rowA (s.2) 141 3 (((rs.getD k s0).1.h.ts.take s.1)).length ((((rs.getD k s0).1.h.ts.take s.1)).flatMap tC), box b_2 6 109 (at_ [.int .i64 (rs.getD k s0).1.h.k, .int .i64 (rs.getD k s0).1.h.k0, .int .i64 (rs.getD k s0).1.h.k1, .int .i64 (rs.getD k s0).1.h.k2, s.2, (.slice a_17 (rs.getD k s0).1.subs.length c_18)]), A_43, A_44]) (fun _ => _) (fun s => s.1 ≤ (rs.getD k s0).1.h.ts.length) (fun s => (rs.getD k s0).1.h.ts.length - s.1) ((0, _)) (Nat.zero_le _) rfl ⟨rfl, rfl, rfl, rfl, rfl, rfl, rfl, rfl, rfl, rfl, rfl, rfl, rfl, rfl, rfl, rfl, rfl, rfl, rfl, rfl, rfl, rfl, trivial⟩ (.keep (fun _ _ h => rowA_nil rfl _ _ h) (.keep (fun _ _ h => box_congr (fun i hi => by match i, hi with | 0, _ => rfl | 1, _ => rfl | 2, _ => rfl | 3, _ => rfl | 4, _ => rfl | 5, _ => rfl) _ _ h) (.keep (fun _ _ h => h) (.keep (fun _ _ h => h) (.nil))))) (fun s hphi => ?_)
     subst hu_22
     subst hu_23
     subst hu_24
     subst hu_25
     subst hu_26
     subst hu_27
     subst hu_28
     subst hu_29
     subst hu_30
     subst hu_31
     subst hu_32
     subst hu_33
     subst hu_34
     subst hu_35
     subst hu_36
     subst hu_37
     subst hu_38
     subst hu_39
     subst hu_40
     subst hu_41
     subst hu_42
     subst hA_43
     subst hA_44
     obtain ⟨j, u⟩ := s
     dsimp only at hphi ⊢
     refine c_row1 (k := 0) rfl (fun ov => ?_)
     refine c_rowlen (k := 0) rfl (fun l63 => ?_)
     refine c_seq ?_
     refine c_region ?_
     refine r_val .none rfl (p_lt rfl rfl) ?_
     refine r_nil ?_
     refine e_next ?_
     refine c_seq ?_
     refine c_splitd (d := 27) rfl (fun h_45 => ?_) (fun h_45 => ?_)
     ·
      first
       | (exfalso; omega)
       | (
        refine c_cond_t rfl ?_
        refine c_skip ?_
        refine e_next ?_
        refine c_seq ?_
        refine c_block ?_
        refine c_seq ?_
        refine c_region ?_
        refine r_iaddr_g .none rfl Try.underlying114 sz140 rfl ht_9 rfl (by first | exact of_decide_eq_true rfl | omega) (fun p_47 o_48 R_46 => ?_)
        refine r_val .none rfl (p_ldga0 Try.underlying140 rfl sz140 rfl R_46 (by first | exact of_decide_eq_true rfl | omega) (rfl : _ = Value.agg #[_, _, _])) ?_
        refine r_alloc .none rfl zr140 (IsRow.lit _) (fun b_3 => ?_)
        refine r_stw (k := 0) .none sz140 rfl rfl (IsRow.lit _) (one_lit rfl rfl) rfl ?_
        refine r_nil ?_
        refine e_next ?_
        refine c_region ?_
        refine r_val .none rfl (p_field Try.underlying109 rfl sz107 rfl) ?_
        refine r_val .none rfl (p_ld (k := 2) Try.underlying107 rfl rfl rfl (by first | exact of_decide_eq_true rfl | omega) rfl) ?_
        refine r_val .none rfl (p_field Try.underlying140 rfl sz3 rfl) ?_
        refine r_val .none rfl (p_ld (k := 0) Try.underlying3 rfl rfl rfl (by first | exact of_decide_eq_true rfl | omega) (rfl : _ = Value.int _ _)) ?_
        refine r_val .none rfl (p_field Try.underlying140 rfl sz3 rfl) ?_
        refine r_val .none rfl (p_ld (k := 0) Try.underlying3 rfl rfl rfl (by first | exact of_decide_eq_true rfl | omega) (rfl : _ = Value.int _ _)) ?_
        refine r_val .none rfl (p_field Try.underlying140 rfl sz3 rfl) ?_
        refine r_val .none rfl (p_ld (k := 0) Try.underlying3 rfl rfl rfl (by first | exact of_decide_eq_true rfl | omega) (rfl : _ = Value.int _ _)) ?_
        refine r_val .none rfl (p_build (vs := [(0, Value.int _ _), (1, Value.int _ _), (2, Value.int _ _)]) rfl (bl141_0i1_1i1_2i1 _ _ _)) ?_
        refine r_bslice (vs := [(0, Value.agg #[_, _, _])]) (c := #[_, _, _]) .none rfl Try.underlying107 el141 rfl rfl rfl (bs141_10a3 _ _ _) (IsRow.lit _) (fun b_4 => ?_)
        refine r_append (k := 2) (k2 := 0) .none rfl Try.underlying107 el141 rfl (by decide) rfl rfl rfl rfl rfl (one_lit rfl rfl) (by rw [List.length_take]; simp only [maxLen]; omega) (by rw [List.length_take]; omega) (fun v_49 => ?_)
        refine r_row1 (k := 2) rfl (fun o_50 => ?_)
        refine r_val .none rfl (p_field Try.underlying109 rfl sz107 rfl) ?_
        refine r_st (k := 3) .none sz107 rfl rfl o_50 rfl (by first | exact of_decide_eq_true rfl | omega) ?_
        refine r_nil ?_
        refine e_norm_block ?_
        refine e_next ?_
        refine c_region ?_
        refine r_val .none rfl (p_add rfl rfl (by omega)) ?_
        refine r_val .none rfl (p_move rfl) ?_
        refine r_nil ?_
        refine e_round ((j + 1, _)) ⟨by dsimp only; omega, by dsimp only; omega⟩ rfl ⟨rfl, rfl, rfl, rfl, rfl, rfl, rfl, rfl, rfl, rfl, rfl, rfl, rfl, rfl, rfl, rfl, rfl, rfl, rfl, rfl, rfl, rfl, trivial⟩ (.drop (.drop (.keep (fun _ _ h => rowA_snoc (ts_next (by omega)) rfl rfl rfl _ _ h) (.keep (fun _ _ h => box_congr (fun i hi => by match i, hi with | 0, _ => rfl | 1, _ => rfl | 2, _ => rfl | 3, _ => rfl | 4, _ => rfl | 5, _ => rfl) _ _ h) (.keep (fun _ _ h => h) (.keep (fun _ _ h => h) (.nil)))))))
        )
     ·
      first
       | (exfalso; omega)
       | (
        refine c_cond_f rfl ?_
        refine c_exit ?_
        refine e_exit_then ?_
        refine e_exit_then ?_
        refine e_exit_block ?_
        refine e_next ?_
        refine c_region ?_
        have hj2 : (rs.getD k s0).1.h.ts.take j = (rs.getD k s0).1.h.ts := List.take_of_length_le (by omega)
        refine r_freeze (k := 0) rfl (fun G_51 hn_52 hs_53 => ?_)
        replace hr := hr.mono hn_52.le
        replace hrt := fun p hm0 => (hrt p hm0).mono hn_52.le
        replace hp := fun p hm0 => (hp p hm0).mono hn_52.le
        replace hqt := fun p hm0 => (hqt p hm0).mono hn_52.le
        replace hqs := fun p hm0 => (hqs p hm0).mono hn_52.le
        replace R_6 := R_6.mono hn_52.le
        replace ht_9 := ht_9.mono hn_52.le
        replace hc_10 := hc_10.mono hn_52.le
        replace u_16 := u_16.mono hn_52.le
        have hts_54 : SlL G_51 u 3 tC t0 (rs.getD k s0).1.h.ts := SlL.of2 t0 (fun _ => rfl) (by rw [hj2]) (by rw [hj2]) hs_53
        refine r_val .none rfl (p_move rfl) ?_
        refine r_val .none rfl (p_ldw (k := 0) Try.underlying109 rfl sz109 rfl rfl (rfl : _ = Value.agg #[_, _, _, _, _, _])) ?_
        refine r_bslice (vs := [(0, Value.agg #[_, _, _, _, _, _])]) (c := #[_, _, _, _, _, _]) .none rfl Try.underlying81 el109 rfl rfl rfl (bs109_10a6 _ _ _ _ _ _) (IsRow.lit _) (fun b_5 => ?_)
        refine r_append (k := 3) (k2 := 0) .none rfl Try.underlying81 el109 rfl (by decide) rfl rfl rfl rfl rfl (one_lit rfl (all_cons rfl (all_cons rfl (all_cons rfl (all_cons rfl (all_cons (hts_54).one (all_cons (u_16).one rfl))))))) (by simp only [maxLen]; omega) (by omega) (fun v_55 => ?_)
        refine r_row1 (k := 3) rfl (fun o_56 => ?_)
        refine r_val .none rfl (p_assign rfl) ?_
        refine r_nil ?_
        refine e_norm_block ?_
        refine e_next ?_
        refine c_region ?_
        refine r_val .none rfl (p_add rfl rfl (by omega)) ?_
        refine r_val .none rfl (p_move rfl) ?_
        refine r_nil ?_
        refine e_round ((k + 1, _, qs ++ [((rs.getD k s0).1, u, (.slice a_17 (rs.getD k s0).1.subs.length c_18))], _)) ⟨⟨by dsimp only; omega, by rw [sv_take (by omega), List.map_append, hq]; rfl, (fun p hp' => by rcases List.mem_append.1 hp' with h | h; exact hqt p h; rw [List.mem_singleton.1 h]; exact hts_54), (fun p hp' => by rcases List.mem_append.1 hp' with h | h; exact hqs p h; rw [List.mem_singleton.1 h]; exact u_16), ((hgn.trans hn_13).trans hn_52)⟩, by dsimp only; omega⟩ rfl ⟨rfl, rfl, rfl, rfl, rfl, trivial⟩ (.drop (.drop (.drop (.keep (fun _ _ h => rowA_snoc (l := qs) (x := ((rs.getD k s0).1, u, (.slice a_17 (rs.getD k s0).1.subs.length c_18))) rfl rfl rfl rfl _ _ h) (.nil)))))
        )
    ·
     refine r_alloc .none rfl zr109 (IsRow.lit _) (fun b_6 => ?_)
     refine r_nil (e_d (i := 8) (brk := (fun _ => false)) (ph' := true) hKK_11 hcK_11 rfl (fun _ => GLe.refl _) (fun _ => .drop (.keep (fun _ _ h => h) (.keep (fun _ _ h => h) (.nil)))) ?_)
     clear hKK_11 hcK_11 K_11
     refine d_eff 6 rfl (by kernel_rfl) (fun K_57 hKK_57 hcK_57 => ?_)
     refine r_callm (vs := [_]) .none rfl cl35 rfl (fun w hw => ih _ _ _ w (sv_at hl (by omega) hz) (by omega) hc_10 hw) (fun G_58 v_61 hn_59 hr_60 => ?_)
     replace hr := hr.mono hn_59.le
     replace hrt := fun p hm0 => (hrt p hm0).mono hn_59.le
     replace hp := fun p hm0 => (hp p hm0).mono hn_59.le
     replace hqt := fun p hm0 => (hqt p hm0).mono hn_59.le
     replace hqs := fun p hm0 => (hqs p hm0).mono hn_59.le
     replace R_6 := R_6.mono hn_59.le
     replace ht_9 := ht_9.mono hn_59.le
     replace hc_10 := hc_10.mono hn_59.le
     have u_62 := hr_60
     refine r_nil (e_d (i := 6) (brk := (fun _ => false)) (ph' := true) hKK_57 hcK_57 rfl (fun _ => hn_59.le) (fun _ => .drop (.keep (fun _ _ h => h) (.keep (fun _ _ h => h) (.nil)))) ?_)
     clear hKK_57 hcK_57 K_57
     obtain ⟨a_63, c_64, rfl⟩ := Ss.len u_62
     refine d_val1 7 rfl rfl (by kernel_rfl) (fun _ _ => rfl) .none rfl (p_build (vs := [(0, Value.int _ _), (1, Value.agg #[_, _, _]), (3, Value.slice _ _ _)]) rfl (bl109_0i1_1a3_3s3 _ _ _ _ _ _ _)) ?_
     refine d_eff 9 rfl (by kernel_rfl) (fun K_65 hKK_65 hcK_65 => ?_)
     refine r_stw (k := 0) .none sz109 rfl rfl (IsRow.lit _) (one_lit rfl (all_cons rfl (all_cons rfl (all_cons rfl (all_cons rfl (all_cons rfl (all_cons (u_62).one rfl))))))) rfl ?_
     refine r_nil (e_d (i := 9) (brk := (fun _ => false)) (ph' := true) hKK_65 hcK_65 rfl (fun _ => hn_59.le) (fun _ => .drop (.keep (fun _ _ h => h) (.keep (fun _ _ h => h) (.nil)))) ?_)
     clear hKK_65 hcK_65 K_65
     refine d_nil (by kernel_rfl) ?_
     refine e_next ?_
     refine c_seq ?_
     refine c_seq ?_
     refine c_region ?_
     refine r_val .none rfl (p_field Try.underlying116 rfl sz114 rfl) ?_
     refine r_val .none rfl (p_ld (k := 1) Try.underlying114 rfl rfl rfl (by first | exact of_decide_eq_true rfl | omega) rfl) ?_
     refine r_val .none rfl (p_leng Try.underlying114 rfl ht_9) ?_
     have bd_66 := (ht_9).bound
     refine r_val .none rfl (p_move rfl) ?_
     refine r_nil ?_
     refine e_next ?_
     refine c_block ?_
     refine c_nilrow 141 3 ?_
     refine c_name (d := 2) rfl (fun u_67 hu_67 => ?_)
     refine c_name (d := 3) rfl (fun u_68 hu_68 => ?_)
     refine c_name (d := 5) rfl (fun u_69 hu_69 => ?_)
     refine c_name (d := 6) rfl (fun u_70 hu_70 => ?_)
     refine c_name (d := 9) rfl (fun u_71 hu_71 => ?_)
     refine c_name (d := 10) rfl (fun u_72 hu_72 => ?_)
     refine c_name (d := 11) rfl (fun u_73 hu_73 => ?_)
     refine c_name (d := 12) rfl (fun u_74 hu_74 => ?_)
     refine c_name (d := 13) rfl (fun u_75 hu_75 => ?_)
     refine c_name (d := 14) rfl (fun u_76 hu_76 => ?_)
     refine c_name (d := 15) rfl (fun u_77 hu_77 => ?_)
     refine c_name (d := 16) rfl (fun u_78 hu_78 => ?_)
     refine c_name (d := 17) rfl (fun u_79 hu_79 => ?_)
     refine c_name (d := 18) rfl (fun u_80 hu_80 => ?_)
     refine c_name (d := 19) rfl (fun u_81 hu_81 => ?_)
     refine c_name (d := 20) rfl (fun u_82 hu_82 => ?_)
     refine c_name (d := 21) rfl (fun u_83 hu_83 => ?_)
     refine c_name (d := 22) rfl (fun u_84 hu_84 => ?_)
     refine c_name (d := 23) rfl (fun u_85 hu_85 => ?_)
     refine c_name (d := 24) rfl (fun u_86 hu_86 => ?_)
     refine c_name (d := 25) rfl (fun u_87 hu_87 => ?_)
     refine c_nameL (k := 2) rfl (fun A_88 hA_88 => ?_)
     refine c_nameL (k := 3) rfl (fun A_89 hA_89 => ?_)
     refine c_loop (σ := Nat × Value) (fun s => [(26, Value.int .i64 (s.1 : Nat)), (2, u_67), (3, u_68), (5, u_69), (6, u_70), (9, u_71), (10, u_72), (11, u_73), (12, u_74), (13, u_75), (14, u_76), (15, u_77), (16, u_78), (17, u_79), (18, u_80), (19, u_81), (20, u_82), (21, u_83), (22, u_84), (23, u_85), (24, u_86), (25, u_87)]) (fun s => [rowA (s.2) 141 3 (((rs.getD k s0).1.h.ts.take s.1)).length ((((rs.getD k s0).1.h.ts.take s.1)).flatMap tC), box b_6 6 109 (at_ [.int .i64 (rs.getD k s0).1.h.k, .int .i64 (rs.getD k s0).1.h.k0, .int .i64 (rs.getD k s0).1.h.k1, .int .i64 (rs.getD k s0).1.h.k2, s.2, (.slice a_63 (rs.getD k s0).1.subs.length c_64)]), A_88, A_89]) (fun _ => _) (fun s => s.1 ≤ (rs.getD k s0).1.h.ts.length) (fun s => (rs.getD k s0).1.h.ts.length - s.1) ((0, _)) (Nat.zero_le _) rfl ⟨rfl, rfl, rfl, rfl, rfl, rfl, rfl, rfl, rfl, rfl, rfl, rfl, rfl, rfl, rfl, rfl, rfl, rfl, rfl, rfl, rfl, rfl, trivial⟩ (.keep (fun _ _ h => rowA_nil rfl _ _ h) (.keep (fun _ _ h => box_congr (fun i hi => by match i, hi with | 0, _ => rfl | 1, _ => rfl | 2, _ => rfl | 3, _ => rfl | 4, _ => rfl | 5, _ => rfl) _ _ h) (.keep (fun _ _ h => h) (.keep (fun _ _ h => h) (.nil))))) (fun s hphi => ?_)
     subst hu_67
     subst hu_68
     subst hu_69
     subst hu_70
     subst hu_71
     subst hu_72
     subst hu_73
     subst hu_74
     subst hu_75
     subst hu_76
     subst hu_77
     subst hu_78
     subst hu_79
     subst hu_80
     subst hu_81
     subst hu_82
     subst hu_83
     subst hu_84
     subst hu_85
     subst hu_86
     subst hu_87
     subst hA_88
     subst hA_89
     obtain ⟨j, u⟩ := s
     dsimp only at hphi ⊢
     refine c_row1 (k := 0) rfl (fun ov => ?_)
     refine c_rowlen (k := 0) rfl (fun l63 => ?_)
     refine c_seq ?_
     refine c_region ?_
     refine r_val .none rfl (p_lt rfl rfl) ?_
     refine r_nil ?_
     refine e_next ?_
     refine c_seq ?_
     refine c_splitd (d := 27) rfl (fun h_90 => ?_) (fun h_90 => ?_)
     ·
      first
       | (exfalso; omega)
       | (
        refine c_cond_t rfl ?_
        refine c_skip ?_
        refine e_next ?_
        refine c_seq ?_
        refine c_block ?_
        refine c_seq ?_
        refine c_region ?_
        refine r_iaddr_g .none rfl Try.underlying114 sz140 rfl ht_9 rfl (by first | exact of_decide_eq_true rfl | omega) (fun p_92 o_93 R_91 => ?_)
        refine r_val .none rfl (p_ldga0 Try.underlying140 rfl sz140 rfl R_91 (by first | exact of_decide_eq_true rfl | omega) (rfl : _ = Value.agg #[_, _, _])) ?_
        refine r_alloc .none rfl zr140 (IsRow.lit _) (fun b_7 => ?_)
        refine r_stw (k := 0) .none sz140 rfl rfl (IsRow.lit _) (one_lit rfl rfl) rfl ?_
        refine r_nil ?_
        refine e_next ?_
        refine c_region ?_
        refine r_val .none rfl (p_field Try.underlying109 rfl sz107 rfl) ?_
        refine r_val .none rfl (p_ld (k := 2) Try.underlying107 rfl rfl rfl (by first | exact of_decide_eq_true rfl | omega) rfl) ?_
        refine r_val .none rfl (p_field Try.underlying140 rfl sz3 rfl) ?_
        refine r_val .none rfl (p_ld (k := 0) Try.underlying3 rfl rfl rfl (by first | exact of_decide_eq_true rfl | omega) (rfl : _ = Value.int _ _)) ?_
        refine r_val .none rfl (p_field Try.underlying140 rfl sz3 rfl) ?_
        refine r_val .none rfl (p_ld (k := 0) Try.underlying3 rfl rfl rfl (by first | exact of_decide_eq_true rfl | omega) (rfl : _ = Value.int _ _)) ?_
        refine r_val .none rfl (p_field Try.underlying140 rfl sz3 rfl) ?_
        refine r_val .none rfl (p_ld (k := 0) Try.underlying3 rfl rfl rfl (by first | exact of_decide_eq_true rfl | omega) (rfl : _ = Value.int _ _)) ?_
        refine r_val .none rfl (p_build (vs := [(0, Value.int _ _), (1, Value.int _ _), (2, Value.int _ _)]) rfl (bl141_0i1_1i1_2i1 _ _ _)) ?_
        refine r_bslice (vs := [(0, Value.agg #[_, _, _])]) (c := #[_, _, _]) .none rfl Try.underlying107 el141 rfl rfl rfl (bs141_10a3 _ _ _) (IsRow.lit _) (fun b_8 => ?_)
        refine r_append (k := 2) (k2 := 0) .none rfl Try.underlying107 el141 rfl (by decide) rfl rfl rfl rfl rfl (one_lit rfl rfl) (by rw [List.length_take]; simp only [maxLen]; omega) (by rw [List.length_take]; omega) (fun v_94 => ?_)
        refine r_row1 (k := 2) rfl (fun o_95 => ?_)
        refine r_val .none rfl (p_field Try.underlying109 rfl sz107 rfl) ?_
        refine r_st (k := 3) .none sz107 rfl rfl o_95 rfl (by first | exact of_decide_eq_true rfl | omega) ?_
        refine r_nil ?_
        refine e_norm_block ?_
        refine e_next ?_
        refine c_region ?_
        refine r_val .none rfl (p_add rfl rfl (by omega)) ?_
        refine r_val .none rfl (p_move rfl) ?_
        refine r_nil ?_
        refine e_round ((j + 1, _)) ⟨by dsimp only; omega, by dsimp only; omega⟩ rfl ⟨rfl, rfl, rfl, rfl, rfl, rfl, rfl, rfl, rfl, rfl, rfl, rfl, rfl, rfl, rfl, rfl, rfl, rfl, rfl, rfl, rfl, rfl, trivial⟩ (.drop (.drop (.keep (fun _ _ h => rowA_snoc (ts_next (by omega)) rfl rfl rfl _ _ h) (.keep (fun _ _ h => box_congr (fun i hi => by match i, hi with | 0, _ => rfl | 1, _ => rfl | 2, _ => rfl | 3, _ => rfl | 4, _ => rfl | 5, _ => rfl) _ _ h) (.keep (fun _ _ h => h) (.keep (fun _ _ h => h) (.nil)))))))
        )
     ·
      first
       | (exfalso; omega)
       | (
        refine c_cond_f rfl ?_
        refine c_exit ?_
        refine e_exit_then ?_
        refine e_exit_then ?_
        refine e_exit_block ?_
        refine e_next ?_
        refine c_region ?_
        have hj2 : (rs.getD k s0).1.h.ts.take j = (rs.getD k s0).1.h.ts := List.take_of_length_le (by omega)
        refine r_freeze (k := 0) rfl (fun G_96 hn_97 hs_98 => ?_)
        replace hr := hr.mono hn_97.le
        replace hrt := fun p hm0 => (hrt p hm0).mono hn_97.le
        replace hp := fun p hm0 => (hp p hm0).mono hn_97.le
        replace hqt := fun p hm0 => (hqt p hm0).mono hn_97.le
        replace hqs := fun p hm0 => (hqs p hm0).mono hn_97.le
        replace R_6 := R_6.mono hn_97.le
        replace ht_9 := ht_9.mono hn_97.le
        replace hc_10 := hc_10.mono hn_97.le
        replace u_62 := u_62.mono hn_97.le
        have hts_99 : SlL G_96 u 3 tC t0 (rs.getD k s0).1.h.ts := SlL.of2 t0 (fun _ => rfl) (by rw [hj2]) (by rw [hj2]) hs_98
        refine r_val .none rfl (p_move rfl) ?_
        refine r_val .none rfl (p_ldw (k := 0) Try.underlying109 rfl sz109 rfl rfl (rfl : _ = Value.agg #[_, _, _, _, _, _])) ?_
        refine r_bslice (vs := [(0, Value.agg #[_, _, _, _, _, _])]) (c := #[_, _, _, _, _, _]) .none rfl Try.underlying81 el109 rfl rfl rfl (bs109_10a6 _ _ _ _ _ _) (IsRow.lit _) (fun b_9 => ?_)
        refine r_append (k := 3) (k2 := 0) .none rfl Try.underlying81 el109 rfl (by decide) rfl rfl rfl rfl rfl (one_lit rfl (all_cons rfl (all_cons rfl (all_cons rfl (all_cons rfl (all_cons (hts_99).one (all_cons (u_62).one rfl))))))) (by simp only [maxLen]; omega) (by omega) (fun v_100 => ?_)
        refine r_row1 (k := 3) rfl (fun o_101 => ?_)
        refine r_val .none rfl (p_assign rfl) ?_
        refine r_nil ?_
        refine e_norm_block ?_
        refine e_next ?_
        refine c_region ?_
        refine r_val .none rfl (p_add rfl rfl (by omega)) ?_
        refine r_val .none rfl (p_move rfl) ?_
        refine r_nil ?_
        refine e_round ((k + 1, _, qs ++ [((rs.getD k s0).1, u, (.slice a_63 (rs.getD k s0).1.subs.length c_64))], _)) ⟨⟨by dsimp only; omega, by rw [sv_take (by omega), List.map_append, hq]; rfl, (fun p hp' => by rcases List.mem_append.1 hp' with h | h; exact hqt p h; rw [List.mem_singleton.1 h]; exact hts_99), (fun p hp' => by rcases List.mem_append.1 hp' with h | h; exact hqs p h; rw [List.mem_singleton.1 h]; exact u_62), ((hgn.trans hn_59).trans hn_97)⟩, by dsimp only; omega⟩ rfl ⟨rfl, rfl, rfl, rfl, rfl, trivial⟩ (.drop (.drop (.drop (.keep (fun _ _ h => rowA_snoc (l := qs) (x := ((rs.getD k s0).1, u, (.slice a_63 (rs.getD k s0).1.subs.length c_64))) rfl rfl rfl rfl _ _ h) (.nil)))))
        )
    )
 ·
  first
   | (exfalso; omega)
   | (
    refine c_cond_f rfl ?_
    refine c_exit ?_
    refine e_exit_then ?_
    refine e_exit_then ?_
    refine e_exit_block ?_
    refine e_next ?_
    refine c_seq ?_
    refine c_region ?_
    refine r_val .none rfl (p_move rfl) ?_
    refine r_val .none rfl (p_assign rfl) ?_
    refine r_nil ?_
    refine e_next ?_
    refine c_ret ?_
    refine e_freeze (k := 0) rfl (fun G_102 hn_103 hs_104 => ?_)
    replace hr := hr.mono hn_103.le
    replace hrt := fun p hm0 => (hrt p hm0).mono hn_103.le
    replace hp := fun p hm0 => (hp p hm0).mono hn_103.le
    replace hqt := fun p hm0 => (hqt p hm0).mono hn_103.le
    replace hqs := fun p hm0 => (hqs p hm0).mono hn_103.le
    refine e_ret1 Try.results35 (.tmp rfl .nil) (fun w hm => ⟨_, (hgn.trans hn_103), hm.has, ?_, hm.since⟩)
    rw [show l = qs.map Prod.fst by rw [hq, hl, List.take_of_length_le (by simp; omega)]]
    exact Ss.mk qs (SlL.of s0 (fun _ => rfl) rfl hs_104) hqt hqs
    )
theorem c_steps_n : ∀ n, StepsIs n
 | 0 => fun v l G w hz hsz hs hG => absurd hz (by cases l <;> simp)
 | n + 1 => fun v l G w hz hsz hs hG => c_steps_s n (c_steps_n n) v l hz hsz hs w hG
theorem c_steps (v : Value) (l : List ST) {G : Ghost} (hsz : sszL l ≤ 5000) (hs : Ss G v l) (w : World) (hG : Has G w) : Calls Try.prog 35 #[v] w (Ret fun r w' => ∃ G', GNew w nX G G' ∧ Has G' w' ∧ Ss G' r l ∧ Since nX w w') := c_steps_n _ v l G w (Nat.le_refl _) hsz hs hG
end Go.Proofs.Ytpadfgomhojjnaa

/- Plain laws of the example of matching: a slice of conditions of the call's own. -/
namespace Go.Gx.T14
open Go.Gx Go.Gx.T3 Go.Gx.T4 Go.Gx.T6 Go.Gx.T8 Go.Gx.T13
abbrev L14 (k : Int) : List CT := [A14, B14 k]
theorem rs_nil {G G' : Ghost} {v : Value} (h : Rs G v []) : Rs G' v [] := by
  obtain ⟨rs, h1, _, h3⟩ := h.inv
  have h0 : rs = [] := by cases rs with
    | nil => rfl
    | cons a t => simp at h3
  subst h0
  obtain ⟨a, cap, rfl, hc, _⟩ := h1
  exact Tr.mk [] ⟨a, cap, rfl, hc, fun hn => absurd hn (by simp)⟩ (by simp)
theorem cs_box {b : Nat} {T : TypeId} {c : Array Value} {k : Int} {f : Nat → Value} (hr : IsRow c 16 f) (hf : ∀ j, j < 16 → f j = at_ (cvC (A14, nilV) ++ cvC (B14 k, nilV)) j) : Cs (oneG b (.cells c T (0, 0))) (.slice (some ⟨b, 0, none⟩) 2 2) (L14 k) := by
  refine Tr.mk [(A14, nilV), (B14 k, nilV)] ⟨some ⟨b, 0, none⟩, 2, rfl, ⟨Nat.le_refl _, by simp [maxLen]⟩, fun _ => ⟨b, 0, rfl, fun i hi => ⟨c, T, (0, 0), by simp [oneG], fun j hj => ?_⟩⟩⟩ ?_
  · have hi2 : i = 0 ∨ i = 1 := by simp at hi; omega
    rw [hr.get (0 + i * 8 + j) (by rcases hi2 with rfl | rfl <;> omega), hf _ (by rcases hi2 with rfl | rfl <;> omega)]
    rcases hi2 with rfl | rfl
    · match j, hj with
      | 0, _ => rfl | 1, _ => rfl | 2, _ => rfl | 3, _ => rfl | 4, _ => rfl | 5, _ => rfl | 6, _ => rfl | 7, _ => rfl
    · match j, hj with
      | 0, _ => rfl | 1, _ => rfl | 2, _ => rfl | 3, _ => rfl | 4, _ => rfl | 5, _ => rfl | 6, _ => rfl | 7, _ => rfl
  · intro p hp
    simp only [List.mem_cons, List.not_mem_nil, or_false] at hp
    rcases hp with rfl | rfl
    · exact Tr.nil
    · exact Tr.nil
theorem rs_fr {w : World} {G : Ghost} {b : Nat} {T : TypeId} {c : Array Value} {k : Int} {f : Nat → Value} {r : Value} (hr : IsRow c 16 f) (hf : ∀ j, j < 16 → f j = at_ (cvC (A14, nilV) ++ cvC (B14 k, nilV)) j)
    (hn : GNew w nX (oneG b (.cells c T (0, 0))) G) (h : Rs G r (L14 k)) : Rs (fr w G) r (L14 k) := by
  obtain ⟨rs, h1, h2, h3⟩ := h.inv
  rw [h3]
  have hl : rs.length = 2 := by have := congrArg List.length h3; simpa using this.symm
  refine Tr.mk rs ?_ (fun p hp => ?_)
  · have h1' := h1
    obtain ⟨a, cap, e, hc, hrow⟩ := h1'
    refine ⟨a, cap, e, hc, fun h0 => ?_⟩
    obtain ⟨p, o, rfl, hrw⟩ := hrow h0
    refine ⟨p, o, rfl, fun i hi => (hrw i hi).other hn ?_⟩
    rintro rfl
    obtain ⟨c2, T2, fr2, e2, hcell⟩ := hrw 0 h0
    have e3 : G p = some (.cells c T (0, 0)) := hn.le _ _ (by simp [oneG])
    rw [e3] at e2
    cases e2
    have hx : rs.getD 0 d0 = (rs.getD 0 d0) := rfl
    have c1 := hcell 1 (by decide)
    have c3 := hcell 2 (by decide)
    have hcc : c = (row (at_ (cvC (A14, nilV) ++ cvC (B14 k, nilV))) 0 16).toArray := (hr.congr hf).eq
    rw [hcc] at c1 c3
    exact no_ints (o := o + 0 * 8 + 1) c1 c3
  · have hs := h2 p hp
    have hm : p.1 ∈ L14 k := by rw [h3]; exact List.mem_map_of_mem hp
    have hsub : p.1.subs = [] := by
      simp only [List.mem_cons, List.not_mem_nil, or_false] at hm
      rcases hm with h | h <;> rw [h] <;> rfl
    rw [hsub] at hs ⊢
    exact rs_nil hs
end Go.Gx.T14

/- Walks: what Go functions of this chapter come to, each as a function on plain data; no condition but those that each theorem names. Printed by a program of this work (gen.py). -/
namespace Go.Proofs.Ytpadfgomhojjnaa
open Go.Gx Go.Gx.T13 Go.Gx.T8 Go.Gx.T4 Go.Gx.T3 Go.Gx.T14 Go.Gx.T13 Go.Gx.T8 Go.Gx.T6 Go.Gx.T4 Go.Gx.T3 Go.Gx.T3 Go.Gx.T4 Go.Gx.T3 Go.Gx.T6 Go.Gx.T8 Go.Gx.T4 Go.Gx.T3 Go.Gx.T8 Go.Gx.T4 Go.Gx.T3 Go.Gx.T8 Go.Gx.T6 Go.Gx.T4 Go.Gx.T3
theorem cl34 : Callable Try.prog 34 := callable Try.func34 (by kernel_rfl) rfl
theorem cl36 : Callable Try.prog 36 := callable Try.func36 (by kernel_rfl) rfl
theorem cl37 : Callable Try.prog 37 := callable Try.func37 (by kernel_rfl) rfl
theorem bl94_0b1_1i1 (x0 : Bool) (x1 : Int) : Program.built Try.prog 94 [(0, Value.bool x0), (1, Value.int .i64 x1)] = some #[Value.bool x0, Value.int .i64 x1] := by
 kernel_rfl
theorem bl94_1i1 (x0 : Int) : Program.built Try.prog 94 [(1, Value.int .i64 x0)] = some #[Value.bool false, Value.int .i64 x0] := by
 kernel_rfl
theorem bl106_0i1_1i1_2i1 (x0 : Int) (x1 : Int) (x2 : Int) : Program.built Try.prog 106 [(0, Value.int .i64 x0), (1, Value.int .i64 x1), (2, Value.int .i64 x2)] = some #[Value.int .i64 x0, Value.int .i64 x1, Value.int .i64 x2] := by
 kernel_rfl
theorem bl120_0i1_1a3 (x0 : Int) (x1 : Value) (x2 : Value) (x3 : Value) : Program.built Try.prog 120 [(0, Value.int .i64 x0), (1, Value.agg #[x1, x2, x3])] = some #[Value.int .i64 x0, x1, x2, x3] := by
 kernel_rfl
theorem bl95_0a2_1a2_2a2 (x0 : Value) (x1 : Value) (x2 : Value) (x3 : Value) (x4 : Value) (x5 : Value) : Program.built Try.prog 95 [(0, Value.agg #[x0, x1]), (1, Value.agg #[x2, x3]), (2, Value.agg #[x4, x5])] = some #[x0, x1, x2, x3, x4, x5] := by
 kernel_rfl
theorem bl97_0i1_1a6 (x0 : Int) (x1 : Value) (x2 : Value) (x3 : Value) (x4 : Value) (x5 : Value) (x6 : Value) : Program.built Try.prog 97 [(0, Value.int .i64 x0), (1, Value.agg #[x1, x2, x3, x4, x5, x6])] = some #[Value.int .i64 x0, x1, x2, x3, x4, x5, x6, Value.slice none 0 0] := by
 kernel_rfl
theorem bs120_20a4_1a4 (a0 a1 a2 a3 : Value) (a4 a5 a6 a7 : Value) : Instr.fill (fun i => some (i * 4, 4)) ((Array.range (2 * 4)).map ((Value.agg #[Value.int .i64 0, Value.int .i64 0, Value.int .i64 0, Value.int .i64 0]).cells[· % (Value.agg #[Value.int .i64 0, Value.int .i64 0, Value.int .i64 0, Value.int .i64 0]).cells.size]!)) [(0, Value.agg #[a0, a1, a2, a3]), (1, Value.agg #[a4, a5, a6, a7])] = some #[a0, a1, a2, a3, a4, a5, a6, a7] := by
 kernel_rfl
theorem bs3_20i2_1i2 (a0 : IntKind) (a1 : Int) (a2 : IntKind) (a3 : Int) : Instr.fill (fun i => some (i * 1, 1)) ((Array.range (2 * 1)).map ((Value.int .i64 0).cells[· % (Value.int .i64 0).cells.size]!)) [(0, Value.int a0 a1), (1, Value.int a2 a3)] = some #[Value.int a0 a1, Value.int a2 a3] := by
 kernel_rfl
theorem bs97_20a8_1a8 (a0 a1 a2 a3 a4 a5 a6 a7 : Value) (a8 a9 a10 a11 a12 a13 a14 a15 : Value) : Instr.fill (fun i => some (i * 8, 8)) ((Array.range (2 * 8)).map ((Value.agg #[Value.int .i64 0, Value.bool false, Value.int .i64 0, Value.bool false, Value.int .i64 0, Value.bool false, Value.int .i64 0, Value.slice none 0 0]).cells[· % (Value.agg #[Value.int .i64 0, Value.bool false, Value.int .i64 0, Value.bool false, Value.int .i64 0, Value.bool false, Value.int .i64 0, Value.slice none 0 0]).cells.size]!)) [(0, Value.agg #[a0, a1, a2, a3, a4, a5, a6, a7]), (1, Value.agg #[a8, a9, a10, a11, a12, a13, a14, a15])] = some #[a0, a1, a2, a3, a4, a5, a6, a7, a8, a9, a10, a11, a12, a13, a14, a15] := by
 kernel_rfl
theorem el97 : ElemIs Try.prog 97 8 80 (Value.agg #[Value.int .i64 0, Value.bool false, Value.int .i64 0, Value.bool false, Value.int .i64 0, Value.bool false, Value.int .i64 0, Value.slice none 0 0]) := by
 unfold ElemIs
 kernel_rfl
theorem el120 : ElemIs Try.prog 120 4 32 (Value.agg #[Value.int .i64 0, Value.int .i64 0, Value.int .i64 0, Value.int .i64 0]) := by
 unfold ElemIs
 kernel_rfl
theorem c_lref2 (k : Int) {b : Nat} {T : TypeId} {f : Nat → Value} (hf : ∀ j, j < 16 → f j = at_ (cvC (A14, nilV) ++ cvC (B14 k, nilV)) j) (w : World) (hB : BoxAt w b 16 T f) :
  Calls Try.prog 42 #[.slice (some ⟨b, 0, none⟩) 2 2] w (Ret fun r w' => ∃ H : Ghost, (∀ b, H b ≠ none → w.heap.size ≤ b) ∧ Has H w' ∧ Rs H r (L14 k) ∧ Since nX w w') := by
 obtain ⟨c, hc, hr⟩ := hB
 refine (c_lref _ (L14 k) (by simp [sizeL, size]) (cs_box hr hf) w (oneG_has (b := b) (o := .cells c T (0, 0)) hc)).mono (fun e w' hR => ?_)
 cases e with
 | returned r =>
  obtain ⟨G', hn, hh, hrs, hs⟩ := hR
  exact ⟨fr w G', fr_new w G', fun b o e => hh b o (fr_le w G' b o e), rs_fr hr hf hn hrs, hs⟩
 | panicked c => exact hR.elim
 | outgrown => exact hR.elim
theorem c_awake14   (w : World)  :
  Calls Try.prog 31 #[] w (Ret fun r w' => r = Value.bool true ∧ Since nX w w') := by
 refine enter (args := []) (X := nX) (G := (fun _ => none)) (l := []) Try.func31 rfl Try.ntmps31 (fun _ _ h => by cases h) trivial (Nat.le_of_ble_eq_true rfl) ?_
 refine c_seq ?_
 refine c_region ?_
 refine r_val .none rfl (p_assign rfl) ?_
 refine r_nil ?_
 refine e_next ?_
 refine c_seq ?_
 refine c_region ?_
 refine r_val .none rfl (p_build (vs := [(0, Value.bool _), (1, Value.int _ _)]) rfl (bl94_0b1_1i1 _ _)) ?_
 refine r_val .none rfl (p_build (vs := [(0, Value.bool _), (1, Value.int _ _)]) rfl (bl94_0b1_1i1 _ _)) ?_
 refine r_val .none rfl (p_build (vs := [(0, Value.bool _), (1, Value.int _ _)]) rfl (bl94_0b1_1i1 _ _)) ?_
 refine r_val .none rfl (p_build (vs := [(1, Value.int _ _)]) rfl (bl94_1i1 _)) ?_
 refine r_alloc .none rfl zr94 (IsRow.lit _) (fun b_1 => ?_)
 refine r_alloc .none rfl zr94 (IsRow.lit _) (fun b_2 => ?_)
 refine r_alloc .none rfl zr94 (IsRow.lit _) (fun b_3 => ?_)
 refine r_alloc .none rfl zr94 (IsRow.lit _) (fun b_4 => ?_)
 refine r_stw (k := 3) .none sz94 rfl rfl (IsRow.lit _) (one_lit rfl rfl) rfl ?_
 refine r_stw (k := 2) .none sz94 rfl rfl (IsRow.lit _) (one_lit rfl rfl) rfl ?_
 refine r_stw (k := 1) .none sz94 rfl rfl (IsRow.lit _) (one_lit rfl rfl) rfl ?_
 refine r_stw (k := 0) .none sz94 rfl rfl (IsRow.lit _) (one_lit rfl rfl) rfl ?_
 refine r_nil ?_
 refine e_next ?_
 refine c_seq ?_
 refine c_region ?_
 refine r_val .none rfl (p_build (vs := [(0, Value.int _ _), (1, Value.int _ _), (2, Value.int _ _)]) rfl (bl106_0i1_1i1_2i1 _ _ _)) ?_
 refine r_val .none rfl (p_build (vs := [(0, Value.int _ _), (1, Value.agg #[_, _, _])]) rfl (bl120_0i1_1a3 _ _ _ _)) ?_
 refine r_val .none rfl (p_build (vs := [(0, Value.int _ _), (1, Value.int _ _), (2, Value.int _ _)]) rfl (bl106_0i1_1i1_2i1 _ _ _)) ?_
 refine r_val .none rfl (p_build (vs := [(0, Value.int _ _), (1, Value.agg #[_, _, _])]) rfl (bl120_0i1_1a3 _ _ _ _)) ?_
 refine r_bslice (vs := [(0, Value.agg #[_, _, _, _]), (1, Value.agg #[_, _, _, _])]) (c := #[_, _, _, _, _, _, _, _]) .none rfl Try.underlying72 el120 rfl rfl rfl (bs120_20a4_1a4 _ _ _ _ _ _ _ _) (IsRow.lit _) (fun b_5 => ?_)
 refine r_freezeB (k := 0) 2 4 rfl rfl (by decide) (fun G_1 hn_2 hs_3 => ?_)
 have h17 : SlL G_1 (Value.slice (some ⟨b_5, 0, none⟩) 2 2) 4 fC f0 F14 := SlG.congr hs_3 (fun i hi j hj => by match i, hi with | 0, _ => (match j, hj with | 0, _ => rfl | 1, _ => rfl | 2, _ => rfl | 3, _ => rfl) | 1, _ => (match j, hj with | 0, _ => rfl | 1, _ => rfl | 2, _ => rfl | 3, _ => rfl))
 refine r_val .none rfl (p_assign rfl) ?_
 refine r_nil ?_
 refine e_next ?_
 refine c_seq ?_
 refine c_region ?_
 refine r_val .none rfl (p_ldw (k := 3) Try.underlying94 rfl sz94 rfl rfl (rfl : _ = Value.agg #[_, _])) ?_
 refine r_val .none rfl (p_ldw (k := 0) Try.underlying94 rfl sz94 rfl rfl (rfl : _ = Value.agg #[_, _])) ?_
 refine r_val .none rfl (p_ldw (k := 2) Try.underlying94 rfl sz94 rfl rfl (rfl : _ = Value.agg #[_, _])) ?_
 refine r_val .none rfl (p_build (vs := [(0, Value.agg #[_, _]), (1, Value.agg #[_, _]), (2, Value.agg #[_, _])]) rfl (bl95_0a2_1a2_2a2 _ _ _ _ _ _)) ?_
 refine r_val .none rfl (p_build (vs := [(0, Value.int _ _), (1, Value.agg #[_, _, _, _, _, _])]) rfl (bl97_0i1_1a6 _ _ _ _ _ _ _)) ?_
 refine r_val .none rfl (p_ldw (k := 2) Try.underlying94 rfl sz94 rfl rfl (rfl : _ = Value.agg #[_, _])) ?_
 refine r_val .none rfl (p_ldw (k := 0) Try.underlying94 rfl sz94 rfl rfl (rfl : _ = Value.agg #[_, _])) ?_
 refine r_val .none rfl (p_ldw (k := 1) Try.underlying94 rfl sz94 rfl rfl (rfl : _ = Value.agg #[_, _])) ?_
 refine r_val .none rfl (p_build (vs := [(0, Value.agg #[_, _]), (1, Value.agg #[_, _]), (2, Value.agg #[_, _])]) rfl (bl95_0a2_1a2_2a2 _ _ _ _ _ _)) ?_
 refine r_val .none rfl (p_build (vs := [(0, Value.int _ _), (1, Value.agg #[_, _, _, _, _, _])]) rfl (bl97_0i1_1a6 _ _ _ _ _ _ _)) ?_
 refine r_bslice (vs := [(0, Value.agg #[_, _, _, _, _, _, _, _]), (1, Value.agg #[_, _, _, _, _, _, _, _])]) (c := #[_, _, _, _, _, _, _, _, _, _, _, _, _, _, _, _]) .none rfl Try.underlying67 el97 rfl rfl rfl (bs97_20a8_1a8 _ _ _ _ _ _ _ _ _ _ _ _ _ _ _ _) (IsRow.lit _) (fun b_6 => ?_)
 refine r_val .none rfl (p_assign rfl) ?_
 refine r_nil ?_
 refine e_next ?_
 refine c_seq ?_
 refine c_region ?_
 refine r_val .none rfl (p_move rfl) ?_
 refine r_val .none rfl (p_move rfl) ?_
 refine r_callbm (k := 0) (S := fun H r => Rs H r (L14 1)) (vs := [_]) .none rfl cl42 rfl rfl (fun w hB => c_lref2 1 (fun j hj => by match j, hj with | 0, _ => rfl | 1, _ => rfl | 2, _ => rfl | 3, _ => rfl | 4, _ => rfl | 5, _ => rfl | 6, _ => rfl | 7, _ => rfl | 8, _ => rfl | 9, _ => rfl | 10, _ => rfl | 11, _ => rfl | 12, _ => rfl | 13, _ => rfl | 14, _ => rfl | 15, _ => rfl | j + 16, h => exact absurd h (by omega)) w hB) (fun G_4 v_7 hn_5 hr_6 => ?_)
 replace h17 := h17.mono hn_5.le
 obtain ⟨Hu_8, hHu_8, hru_8⟩ := hr_6
 have u_8 := hru_8.mono hHu_8
 refine r_callm (vs := [_]) .none rfl cl36 rfl (fun w hw => c_compile _ (L14 1) (by simp [sizeL, size]) u_8 w hw) (fun G_9 v_12 hn_10 hr_11 => ?_)
 replace h17 := h17.mono hn_10.le
 replace u_8 := u_8.mono hn_10.le
 have u_13 := hr_11
 refine r_callm (vs := [_]) .none rfl cl35 rfl (fun w hw => c_steps _ _ (by decide +kernel) u_13 w hw) (fun G_14 v_17 hn_15 hr_16 => ?_)
 replace h17 := h17.mono hn_15.le
 replace u_8 := u_8.mono hn_15.le
 replace u_13 := u_13.mono hn_15.le
 have u_18 := hr_16
 refine r_callm (vs := [_, _]) .none rfl cl34 rfl (fun w hw => c_partial _ _ F14 (stepsOf [] (L14 1)) ⟨by decide, by decide +kernel⟩ (okSL_of _ [] (by decide +kernel)) (by decide +kernel) h17 u_18 w hw) (fun G_19 v_22 hn_20 hr_21 => ?_)
 replace h17 := h17.mono hn_20.le
 replace u_8 := u_8.mono hn_20.le
 replace u_13 := u_13.mono hn_20.le
 replace u_18 := u_18.mono hn_20.le
 rw [gm14a] at hr_21
 have u_23 := hr_21
 refine r_val .none rfl (p_assign rfl) ?_
 refine r_nil ?_
 refine e_next ?_
 refine c_seq ?_
 refine c_region ?_
 refine r_val .none rfl (p_move rfl) ?_
 refine r_val .none rfl (iaddr_o (i := 1) Try.underlying67 sz97 rfl rfl rfl (by first | exact of_decide_eq_true rfl | omega)) ?_
 refine r_val .none rfl (p_field Try.underlying97 rfl sz3 rfl) ?_
 refine r_st (k := 0) .none sz3 rfl rfl rfl rfl (by first | exact of_decide_eq_true rfl | omega) ?_
 refine r_nil ?_
 refine e_next ?_
 refine c_seq ?_
 refine c_region ?_
 refine r_val .none rfl (p_move rfl) ?_
 refine r_val .none rfl (p_move rfl) ?_
 refine r_callbm (k := 0) (S := fun H r => Rs H r (L14 2)) (vs := [_]) .none rfl cl42 rfl rfl (fun w hB => c_lref2 2 (fun j hj => by match j, hj with | 0, _ => rfl | 1, _ => rfl | 2, _ => rfl | 3, _ => rfl | 4, _ => rfl | 5, _ => rfl | 6, _ => rfl | 7, _ => rfl | 8, _ => rfl | 9, _ => rfl | 10, _ => rfl | 11, _ => rfl | 12, _ => rfl | 13, _ => rfl | 14, _ => rfl | 15, _ => rfl | j + 16, h => exact absurd h (by omega)) w hB) (fun G_24 v_27 hn_25 hr_26 => ?_)
 replace h17 := h17.mono hn_25.le
 replace u_8 := u_8.mono hn_25.le
 replace u_13 := u_13.mono hn_25.le
 replace u_18 := u_18.mono hn_25.le
 replace u_23 := LI.mono u_23 hn_25.le
 obtain ⟨Hu_28, hHu_28, hru_28⟩ := hr_26
 have u_28 := hru_28.mono hHu_28
 refine r_callm (vs := [_]) .none rfl cl36 rfl (fun w hw => c_compile _ (L14 2) (by simp [sizeL, size]) u_28 w hw) (fun G_29 v_32 hn_30 hr_31 => ?_)
 replace h17 := h17.mono hn_30.le
 replace u_8 := u_8.mono hn_30.le
 replace u_13 := u_13.mono hn_30.le
 replace u_18 := u_18.mono hn_30.le
 replace u_23 := LI.mono u_23 hn_30.le
 replace u_28 := u_28.mono hn_30.le
 have u_33 := hr_31
 refine r_callm (vs := [_]) .none rfl cl35 rfl (fun w hw => c_steps _ _ (by decide +kernel) u_33 w hw) (fun G_34 v_37 hn_35 hr_36 => ?_)
 replace h17 := h17.mono hn_35.le
 replace u_8 := u_8.mono hn_35.le
 replace u_13 := u_13.mono hn_35.le
 replace u_18 := u_18.mono hn_35.le
 replace u_23 := LI.mono u_23 hn_35.le
 replace u_28 := u_28.mono hn_35.le
 replace u_33 := u_33.mono hn_35.le
 have u_38 := hr_36
 refine r_callm (vs := [_, _]) .none rfl cl34 rfl (fun w hw => c_partial _ _ F14 (stepsOf [] (L14 2)) ⟨by decide, by decide +kernel⟩ (okSL_of _ [] (by decide +kernel)) (by decide +kernel) h17 u_38 w hw) (fun G_39 v_42 hn_40 hr_41 => ?_)
 replace h17 := h17.mono hn_40.le
 replace u_8 := u_8.mono hn_40.le
 replace u_13 := u_13.mono hn_40.le
 replace u_18 := u_18.mono hn_40.le
 replace u_23 := LI.mono u_23 hn_40.le
 replace u_28 := u_28.mono hn_40.le
 replace u_33 := u_33.mono hn_40.le
 replace u_38 := u_38.mono hn_40.le
 rw [gm14b] at hr_41
 have u_43 := hr_41
 refine r_val .none rfl (p_assign rfl) ?_
 refine r_nil ?_
 refine e_next ?_
 refine c_seq ?_
 refine c_region ?_
 refine r_val .none rfl (p_move rfl) ?_
 refine r_bslice (vs := [(0, Value.int _ _), (1, Value.int _ _)]) (c := #[_, _]) .none rfl Try.underlying22 el3 rfl rfl rfl (bs3_20i2_1i2 _ _ _ _) (IsRow.lit _) (fun b_7 => ?_)
 refine r_freezeB (k := 0) 2 1 rfl rfl (by decide) (fun G_44 hn_45 hs_46 => ?_)
 replace h17 := h17.mono hn_45.le
 replace u_8 := u_8.mono hn_45.le
 replace u_13 := u_13.mono hn_45.le
 replace u_18 := u_18.mono hn_45.le
 replace u_23 := LI.mono u_23 hn_45.le
 replace u_28 := u_28.mono hn_45.le
 replace u_33 := u_33.mono hn_45.le
 replace u_38 := u_38.mono hn_45.le
 replace u_43 := LI.mono u_43 hn_45.le
 have h45 : SlL G_44 (Value.slice (some ⟨b_7, 0, none⟩) 2 2) 1 cI 0 [1, 2] := SlG.congr hs_46 (fun i hi j hj => by match i, hi with | 0, _ => (match j, hj with | 0, _ => rfl) | 1, _ => (match j, hj with | 0, _ => rfl))
 refine r_bslice (vs := [(0, Value.slice _ _ _)]) (c := #[_]) .none rfl Try.underlying79 el22 rfl rfl rfl (bs22_10s3 _ _ _) (IsRow.lit _) (fun b_8 => ?_)
 refine r_freezeB (k := 0) 1 1 rfl rfl (by decide) (fun G_47 hn_48 hs_49 => ?_)
 replace h17 := h17.mono hn_48.le
 replace u_8 := u_8.mono hn_48.le
 replace u_13 := u_13.mono hn_48.le
 replace u_18 := u_18.mono hn_48.le
 replace u_23 := LI.mono u_23 hn_48.le
 replace u_28 := u_28.mono hn_48.le
 replace u_33 := u_33.mono hn_48.le
 replace u_38 := u_38.mono hn_48.le
 replace u_43 := LI.mono u_43 hn_48.le
 replace h45 := h45.mono hn_48.le
 have h46 : SlL G_47 (Value.slice (some ⟨b_8, 0, none⟩) 1 1) 1 lC (([] : List Int), Value.slice none 0 0) [([1, 2], Value.slice (some ⟨b_7, 0, none⟩) 2 2)] := SlG.congr hs_49 (fun i hi j hj => by match i, hi with | 0, _ => (match j, hj with | 0, _ => rfl))
 have Lh46 : LI G_47 (Value.slice (some ⟨b_8, 0, none⟩) 1 1) [[1, 2]] := Ls.mk _ h46 (by intro p hm0; simp only [List.mem_cons, List.not_mem_nil, or_false] at hm0; subst hm0; exact h45)
 refine r_call (vs := [_, _]) .none rfl cl37 rfl (fun w hw => (show Calls Try.prog _ _ w (Ret fun r w' => r = Value.bool true ∧ Since nX w w') from c_same14 _ _ [[1, 2]] [[1, 2]] u_23 Lh46 w hw)) ?_
 refine r_val .none rfl (p_move rfl) ?_
 refine r_val (.some rfl rfl) rfl (p_move rfl) ?_
 refine r_bslice (vs := [(0, Value.int _ _)]) (c := #[_]) (.some rfl rfl) rfl Try.underlying22 el3 rfl rfl rfl (bs3_10i2 _ _) (IsRow.lit _) (fun b_9 => ?_)
 refine r_freezeB (k := 0) 1 1 rfl rfl (by decide) (fun G_50 hn_51 hs_52 => ?_)
 replace h17 := h17.mono hn_51.le
 replace u_8 := u_8.mono hn_51.le
 replace u_13 := u_13.mono hn_51.le
 replace u_18 := u_18.mono hn_51.le
 replace u_23 := LI.mono u_23 hn_51.le
 replace u_28 := u_28.mono hn_51.le
 replace u_33 := u_33.mono hn_51.le
 replace u_38 := u_38.mono hn_51.le
 replace u_43 := LI.mono u_43 hn_51.le
 replace h45 := h45.mono hn_51.le
 replace h46 := h46.mono hn_51.le
 replace Lh46 := LI.mono Lh46 hn_51.le
 have h50 : SlL G_50 (Value.slice (some ⟨b_9, 0, none⟩) 1 1) 1 cI 0 [2] := SlG.congr hs_52 (fun i hi j hj => by match i, hi with | 0, _ => (match j, hj with | 0, _ => rfl))
 refine r_bslice (vs := [(0, Value.slice _ _ _)]) (c := #[_]) (.some rfl rfl) rfl Try.underlying79 el22 rfl rfl rfl (bs22_10s3 _ _ _) (IsRow.lit _) (fun b_10 => ?_)
 refine r_freezeB (k := 0) 1 1 rfl rfl (by decide) (fun G_53 hn_54 hs_55 => ?_)
 replace h17 := h17.mono hn_54.le
 replace u_8 := u_8.mono hn_54.le
 replace u_13 := u_13.mono hn_54.le
 replace u_18 := u_18.mono hn_54.le
 replace u_23 := LI.mono u_23 hn_54.le
 replace u_28 := u_28.mono hn_54.le
 replace u_33 := u_33.mono hn_54.le
 replace u_38 := u_38.mono hn_54.le
 replace u_43 := LI.mono u_43 hn_54.le
 replace h45 := h45.mono hn_54.le
 replace h46 := h46.mono hn_54.le
 replace Lh46 := LI.mono Lh46 hn_54.le
 replace h50 := h50.mono hn_54.le
 have h51 : SlL G_53 (Value.slice (some ⟨b_10, 0, none⟩) 1 1) 1 lC (([] : List Int), Value.slice none 0 0) [([2], Value.slice (some ⟨b_9, 0, none⟩) 1 1)] := SlG.congr hs_55 (fun i hi j hj => by match i, hi with | 0, _ => (match j, hj with | 0, _ => rfl))
 have Lh51 : LI G_53 (Value.slice (some ⟨b_10, 0, none⟩) 1 1) [[2]] := Ls.mk _ h51 (by intro p hm0; simp only [List.mem_cons, List.not_mem_nil, or_false] at hm0; subst hm0; exact h50)
 refine r_call (vs := [_, _]) (.some rfl rfl) rfl cl37 rfl (fun w hw => (show Calls Try.prog _ _ w (Ret fun r w' => r = Value.bool true ∧ Since nX w w') from c_same14 _ _ [[2]] [[2]] u_43 Lh51 w hw)) ?_
 refine r_val .none rfl (p_pick_t rfl rfl) ?_
 refine r_val .none rfl (p_assign rfl) ?_
 refine r_nil ?_
 refine e_next ?_
 refine c_ret ?_
 refine e_ret1 Try.results31 (.tmp rfl .nil) (fun w hm => ⟨?_, hm.since⟩)
 exact congrArg Value.bool (by rfl)
end Go.Proofs.Ytpadfgomhojjnaa

/- Plain laws of the statements of matching; no program in sight. -/
namespace Go.Gx.T14
open Go.Gx Go.Gx.T3 Go.Gx.T4 Go.Gx.T6 Go.Gx.T8 Go.Gx.T13
def posTo (l : List CT) (k : Nat) : Bool := (l.take k).any fun c => decide (c.h.k = 1)
def negTo (l : List CT) (k : Nat) : Bool := (l.take k).all fun c => decide (c.h.k = 2)
end Go.Gx.T14

/- Walks: what Go functions of this chapter come to, each as a function on plain data; no condition but those that each theorem names. Printed by a program of this work (gen.py). -/
namespace Go.Proofs.Ytpadfgomhojjnaa
open Go.Gx Go.Gx.T13 Go.Gx.T8 Go.Gx.T4 Go.Gx.T3 Go.Gx.T14 Go.Gx.T13 Go.Gx.T8 Go.Gx.T6 Go.Gx.T4 Go.Gx.T3 Go.Gx.T3 Go.Gx.T4 Go.Gx.T3 Go.Gx.T6 Go.Gx.T8 Go.Gx.T4 Go.Gx.T3 Go.Gx.T8 Go.Gx.T4 Go.Gx.T3 Go.Gx.T8 Go.Gx.T6 Go.Gx.T4 Go.Gx.T3
theorem cl31 : Callable Try.prog 31 := callable Try.func31 (by kernel_rfl) rfl
end Go.Proofs.Ytpadfgomhojjnaa

/- Plain laws of the guards of matching: how many Pos there are, how many choices, and facts of triples; no program in sight. -/
namespace Go.Gx.T14
open Go.Gx Go.Gx.T3 Go.Gx.T4 Go.Gx.T6 Go.Gx.T8 Go.Gx.T13
mutual
def posC : CT → Nat
  | .mk _ s => posL s
def posL : List CT → Nat
  | [] => 0
  | c :: t => (if c.h.k = 1 then 1 else 0) + posC c + posL t
end
theorem posC_eq (c : CT) : posC c = posL c.subs := by cases c; rw [posC]; rfl
theorem posL_snoc : ∀ (a : List CT) (c : CT), posL (a ++ [c]) = posL a + (if c.h.k = 1 then 1 else 0) + posL c.subs
  | [], c => by simp [posL, posC_eq]
  | x :: a, c => by rw [List.cons_append, posL, posL, posL_snoc a c]; omega
theorem posL_take {rs : List (CT × Value)} {k : Nat} (hk : k < rs.length) : posL ((rs.map Prod.fst).take (k + 1)) = posL ((rs.map Prod.fst).take k) + (if (rs.getD k d0).1.h.k = 1 then 1 else 0) + posL (rs.getD k d0).1.subs := by
  rw [map_take (d := d0) hk, posL_snoc]
mutual
theorem posC_le : ∀ c : CT, posC c + 1 ≤ size c
  | .mk h l => by
    have := posL_le l
    rw [posC, size]; omega
theorem posL_le : ∀ l : List CT, posL l ≤ sizeL l
  | [] => by rw [posL]; omega
  | c :: t => by
    have h1 := posC_le c
    have h2 := posL_le t
    rw [posL, sizeL]
    split <;> omega
end
theorem posL_take_le {rs : List (CT × Value)} {k : Nat} (hk : k < rs.length) : posL ((rs.map Prod.fst).take k) + (if (rs.getD k d0).1.h.k = 1 then 1 else 0) + posL (rs.getD k d0).1.subs ≤ sizeL (rs.map Prod.fst) := by
  rw [← posL_take hk]
  exact Nat.le_trans (posL_le _) (sizeL_take_le _ _)
theorem pos_yes {c : CT} (h : c.h.k = 1) : (if c.h.k = 1 then 1 else 0 : Nat) = 1 := if_pos h
theorem pos_no {c : CT} (h : ¬ c.h.k = 1) : (if c.h.k = 1 then 1 else 0 : Nat) = 0 := if_neg h
/-! ### choices -/
theorem cost_mul {n f : Nat} (hn : n ≤ 3000) (hf : f ≤ 12) : -9223372036854775808 ≤ (n : Int) * ((f : Int) + 1) ∧ (n : Int) * ((f : Int) + 1) ≤ 9223372036854775807 := by
  have h1 : n * (f + 1) ≤ 3000 * 13 := Nat.mul_le_mul hn (by omega)
  have h2 : (n : Int) * ((f : Int) + 1) = ((n * (f + 1) : Nat) : Int) := by rw [Int.natCast_mul]; rfl
  rw [h2]; omega
theorem cost_next (f j : Nat) : (((f + 1) ^ j : Nat) : Int) * ((f : Int) + 1) = (((f + 1) ^ (j + 1) : Nat) : Int) := by
  rw [Nat.pow_succ, Int.natCast_mul]; rfl
def costB (f : Nat) (l : List CT) : Bool := decide ((f + 1) ^ posL l ≤ 3000)
theorem cost_end {f j p : Nat} {l : List CT} (hp : posL l = p) (hj : j ≤ p) (h : j = p ∨ 3000 < (f + 1) ^ j) : decide ((((f + 1) ^ j : Nat) : Int) ≤ 3000) = costB f l := by
  unfold costB
  rw [hp]
  rcases h with rfl | h
  · congr 1
    exact propext (by omega)
  · have h2 : (f + 1) ^ j ≤ (f + 1) ^ p := Nat.pow_le_pow_right (by omega) hj
    rw [decide_eq_false (by omega), decide_eq_false (by omega)]
/-! ### facts of triples -/
def fTo (l : List Tri) (d : Int) (k : Nat) : List FD := (List.range k).map fun (i : Nat) => ((1 + (i : Int) * d, l.getD i z3) : FD)
theorem fTo_len (l : List Tri) (d : Int) (k : Nat) : (fTo l d k).length = k := by simp [fTo]
theorem fTo_succ (l : List Tri) (d : Int) (k : Nat) : fTo l d (k + 1) = fTo l d k ++ [(1 + (k : Int) * d, l.getD k z3)] := by simp [fTo, List.range_succ]
def tOk (t : Tri) : Bool := tripleRight t.1 t.2.1 t.2.2
def okTo (l : List Tri) (k : Nat) : Bool := (l.take k).all tOk
def allOk (l : List Tri) : Bool := l.all tOk
def fcts (l : List Tri) (d : Int) : List FD := if allOk l = true then fTo l d l.length else []
theorem allOk_no {l : List Tri} {k : Nat} (hk : k < l.length) (h : tOk (l.getD k z3) = false) : allOk l = false := by
  have e : l.getD k z3 = l[k] := by simp [List.getD, hk]
  rw [e] at h
  cases h2 : allOk l with
  | false => rfl
  | true => exact absurd (List.all_eq_true.1 h2 _ (List.getElem_mem hk)) (by rw [h]; decide)
theorem okTo_succ {l : List Tri} {k : Nat} (hk : k < l.length) : okTo l (k + 1) = (okTo l k && tOk (l.getD k z3)) := by
  unfold okTo
  have e : l.getD k z3 = l[k] := by simp [List.getD, hk]
  rw [List.take_succ_eq_append_getElem hk, e, List.all_append, List.all_cons, List.all_nil, Bool.and_true]
theorem okTo_all {l : List Tri} {k : Nat} (hk : l.length ≤ k) : okTo l k = allOk l := by
  unfold okTo allOk
  rw [List.take_of_length_le hk]
theorem fcts_yes {l : List Tri} {d : Int} (h : allOk l = true) : fcts l d = fTo l d l.length := if_pos h
theorem fcts_no {l : List Tri} {d : Int} (h : allOk l = false) : fcts l d = [] := if_neg (by rw [h]; decide)
/-! ### how many matches there are -/
theorem fm_len {α β : Type} {n : Nat} {f : α → List β} : ∀ (l : List α), (∀ x ∈ l, (f x).length ≤ n) → (l.flatMap f).length ≤ l.length * n
  | [], _ => by simp
  | a :: t, h => by
    have h1 := h a (by simp)
    have h2 := fm_len t (fun x hx => h x (by simp [hx]))
    rw [List.flatMap_cons, List.length_append, List.length_cons, Nat.add_mul, Nat.one_mul]
    omega
def sPos : List ST → Nat
  | [] => 0
  | c :: t => (if c.h.k = 1 then 1 else 0) + sPos t
theorem gm_len (fs : List FD) : ∀ (l : List ST) (m : MT), (gm fs l m).length ≤ (fs.length + 1) ^ sPos l
  | [], m => by rw [gm, sPos]; simp
  | c :: t, m => by
    rw [gm, sPos]
    have ih := fun m => gm_len fs t m
    have hp : 0 < (fs.length + 1) ^ sPos t := Nat.pow_pos (by omega)
    split
    · rw [Nat.add_comm 1 (sPos t), Nat.pow_succ]
      refine Nat.le_trans (fm_len _ (fun f _ => ih (mw m f))) ?_
      rw [Nat.mul_comm]
      refine Nat.mul_le_mul_left _ ?_
      have := List.length_filter_le (fun f : FD => meets c.h.k (sKey c.h) c.h.ts m.2 f.2) fs
      omega
    · rw [Nat.zero_add]
      split
      · split
        · exact ih m
        · simp
      · split
        · exact ih m
        · simp
end Go.Gx.T14

/- Walks: what Go functions of this chapter come to, each as a function on plain data; no condition but those that each theorem names. Printed by a program of this work (gen.py). -/
namespace Go.Proofs.Ytpadfgomhojjnaa
open Go.Gx Go.Gx.T13 Go.Gx.T8 Go.Gx.T4 Go.Gx.T3 Go.Gx.T14 Go.Gx.T13 Go.Gx.T8 Go.Gx.T6 Go.Gx.T4 Go.Gx.T3 Go.Gx.T3 Go.Gx.T4 Go.Gx.T3 Go.Gx.T6 Go.Gx.T8 Go.Gx.T4 Go.Gx.T3 Go.Gx.T8 Go.Gx.T4 Go.Gx.T3 Go.Gx.T8 Go.Gx.T6 Go.Gx.T4 Go.Gx.T3
theorem cl54 : Callable Try.prog 54 := callable Try.func54 (by kernel_rfl) rfl
theorem cl62 : Callable Try.prog 62 := callable Try.func62 (by kernel_rfl) rfl
theorem bs120_10a4 (a0 a1 a2 a3 : Value) : Instr.fill (fun i => some (i * 4, 4)) ((Array.range (1 * 4)).map ((Value.agg #[Value.int .i64 0, Value.int .i64 0, Value.int .i64 0, Value.int .i64 0]).cells[· % (Value.agg #[Value.int .i64 0, Value.int .i64 0, Value.int .i64 0, Value.int .i64 0]).cells.size]!)) [(0, Value.agg #[a0, a1, a2, a3])] = some #[a0, a1, a2, a3] := by
 kernel_rfl
def PosIs (n : Nat) : Prop := ∀ (v : Value) (l : List CT) (G : Ghost) (w : World), SizeOf.sizeOf l ≤ n → sizeL l ≤ 1000 → Rs G v l → Has G w → Calls Try.prog 62 #[v] w (Ret fun r w' => r = Value.int .i64 (posL l : Nat) ∧ Since nX w w')
theorem c_rtri13 (t : Tri)  (w : World)  :
  Calls Try.prog 54 #[kT t] w (Ret fun r w' => r = Value.bool (tripleRight t.1 t.2.1 t.2.2) ∧ Since nX w w') := by
 refine enter (args := [_]) (X := nX) (G := (fun _ => none)) (l := [(0, kT t)]) Try.func54 rfl Try.ntmps54 (fun _ _ h => by cases h) ⟨rfl, trivial⟩ (Nat.le_of_ble_eq_true rfl) ?_
 refine c_seq ?_
 refine c_region ?_
 refine r_box .none rfl rfl (IsRow.lit _) (fun b_1 => ?_)
 refine r_val .none rfl (p_assign rfl) ?_
 refine r_nil ?_
 refine e_next ?_
 refine c_seq ?_
 refine c_seq ?_
 refine c_region ?_
 refine r_val .none rfl (p_assign rfl) ?_
 refine r_nil ?_
 refine e_next ?_
 refine c_block ?_
 refine c_unroll 4 ?_
 refine l_round (n := 3) ?_
 refine c_seq ?_
 refine c_seq ?_
 refine c_region ?_
 refine r_val .none rfl (p_move rfl) ?_
 refine r_val .none rfl (p_lt rfl rfl) ?_
 refine r_say (d := 5) (v := Value.bool true) rfl ?_
 refine r_nil ?_
 refine e_next ?_
 refine c_cond_t rfl ?_
 refine c_skip ?_
 refine e_next ?_
 refine c_seq ?_
 refine c_block ?_
 refine c_seq ?_
 refine c_region ?_
 refine r_val .none rfl (p_move rfl) ?_
 refine r_val .none rfl (p_iaddr (k := 0) Try.underlying105 sz3 rfl rfl (by first | exact of_decide_eq_true rfl | omega)) ?_
 refine r_val .none rfl (p_ld (k := 0) Try.underlying3 rfl rfl rfl (by first | exact of_decide_eq_true rfl | omega) (rfl : _ = Value.int _ _)) ?_
 refine r_val .none rfl (p_lt rfl rfl) ?_
 refine r_val .none rfl (p_move rfl) ?_
 refine r_splitd (d := 12) rfl (fun h_1 => ?_) (fun h_1 => ?_)
 ·
  first
   | (exfalso; omega)
   | (
    refine r_skip rfl (.no rfl rfl) ?_
    refine r_skip rfl (.no rfl rfl) ?_
    refine r_skip rfl (.no rfl rfl) ?_
    refine r_skip rfl (.no rfl rfl) ?_
    refine r_val .none rfl (p_pick_t rfl rfl) ?_
    refine r_nil ?_
    refine e_next ?_
    refine c_cond_t rfl ?_
    refine c_seq ?_
    refine c_region ?_
    refine r_val .none rfl (p_assign rfl) ?_
    refine r_nil ?_
    refine e_next ?_
    refine c_ret ?_
    refine e_ret_block ?_
    refine e_ret_then ?_
    refine e_ret_then ?_
    refine e_ret_block ?_
    refine e_ret_then ?_
    refine e_ret1 Try.results54 (.tmp rfl .nil) (fun w hm => ⟨?_, hm.since⟩)
    (simp [tripleRight, triL, at_] at *; try omega)
    )
 ·
  first
   | (exfalso; omega)
   | (
    refine r_val (.some rfl rfl) rfl (p_move rfl) ?_
    refine r_val (.some rfl rfl) rfl (p_iaddr (k := 0) Try.underlying105 sz3 rfl rfl (by first | exact of_decide_eq_true rfl | omega)) ?_
    refine r_val (.some rfl rfl) rfl (p_ld (k := 0) Try.underlying3 rfl rfl rfl (by first | exact of_decide_eq_true rfl | omega) (rfl : _ = Value.int _ _)) ?_
    refine r_val (.some rfl rfl) rfl (p_gt rfl rfl) ?_
    refine r_val .none rfl (p_pick_f rfl rfl) ?_
    refine r_nil ?_
    refine e_next ?_
    refine c_splitd (d := 17) rfl (fun h_2 => ?_) (fun h_2 => ?_)
    ·
     first
      | (exfalso; omega)
      | (
       refine c_cond_t rfl ?_
       refine c_seq ?_
       refine c_region ?_
       refine r_val .none rfl (p_assign rfl) ?_
       refine r_nil ?_
       refine e_next ?_
       refine c_ret ?_
       refine e_ret_block ?_
       refine e_ret_then ?_
       refine e_ret_then ?_
       refine e_ret_block ?_
       refine e_ret_then ?_
       refine e_ret1 Try.results54 (.tmp rfl .nil) (fun w hm => ⟨?_, hm.since⟩)
       (simp [tripleRight, triL, at_] at *; try omega)
       )
    ·
     first
      | (exfalso; omega)
      | (
       refine c_cond_f rfl ?_
       refine c_skip ?_
       refine e_norm_block ?_
       refine e_next ?_
       refine c_region ?_
       refine r_val .none rfl (p_move rfl) ?_
       refine r_val .none rfl (p_add rfl rfl (by omega)) ?_
       refine r_val .none rfl (p_assign rfl) ?_
       refine r_nil ?_
       refine e_again ?_
       refine l_round (n := 2) ?_
       refine c_seq ?_
       refine c_seq ?_
       refine c_region ?_
       refine r_val .none rfl (p_move rfl) ?_
       refine r_val .none rfl (p_lt rfl rfl) ?_
       refine r_say (d := 5) (v := Value.bool true) rfl ?_
       refine r_nil ?_
       refine e_next ?_
       refine c_cond_t rfl ?_
       refine c_skip ?_
       refine e_next ?_
       refine c_seq ?_
       refine c_block ?_
       refine c_seq ?_
       refine c_region ?_
       refine r_val .none rfl (p_move rfl) ?_
       refine r_val .none rfl (p_iaddr (k := 1) Try.underlying105 sz3 rfl rfl (by first | exact of_decide_eq_true rfl | omega)) ?_
       refine r_val .none rfl (p_ld (k := 0) Try.underlying3 rfl rfl rfl (by first | exact of_decide_eq_true rfl | omega) (rfl : _ = Value.int _ _)) ?_
       refine r_val .none rfl (p_lt rfl rfl) ?_
       refine r_val .none rfl (p_move rfl) ?_
       refine r_splitd (d := 12) rfl (fun h_3 => ?_) (fun h_3 => ?_)
       ·
        first
         | (exfalso; omega)
         | (
          refine r_skip rfl (.no rfl rfl) ?_
          refine r_skip rfl (.no rfl rfl) ?_
          refine r_skip rfl (.no rfl rfl) ?_
          refine r_skip rfl (.no rfl rfl) ?_
          refine r_val .none rfl (p_pick_t rfl rfl) ?_
          refine r_nil ?_
          refine e_next ?_
          refine c_cond_t rfl ?_
          refine c_seq ?_
          refine c_region ?_
          refine r_val .none rfl (p_assign rfl) ?_
          refine r_nil ?_
          refine e_next ?_
          refine c_ret ?_
          refine e_ret_block ?_
          refine e_ret_then ?_
          refine e_ret_then ?_
          refine e_ret_block ?_
          refine e_ret_then ?_
          refine e_ret1 Try.results54 (.tmp rfl .nil) (fun w hm => ⟨?_, hm.since⟩)
          (simp [tripleRight, triL, at_] at *; try omega)
          )
       ·
        first
         | (exfalso; omega)
         | (
          refine r_val (.some rfl rfl) rfl (p_move rfl) ?_
          refine r_val (.some rfl rfl) rfl (p_iaddr (k := 1) Try.underlying105 sz3 rfl rfl (by first | exact of_decide_eq_true rfl | omega)) ?_
          refine r_val (.some rfl rfl) rfl (p_ld (k := 0) Try.underlying3 rfl rfl rfl (by first | exact of_decide_eq_true rfl | omega) (rfl : _ = Value.int _ _)) ?_
          refine r_val (.some rfl rfl) rfl (p_gt rfl rfl) ?_
          refine r_val .none rfl (p_pick_f rfl rfl) ?_
          refine r_nil ?_
          refine e_next ?_
          refine c_splitd (d := 17) rfl (fun h_4 => ?_) (fun h_4 => ?_)
          ·
           first
            | (exfalso; omega)
            | (
             refine c_cond_t rfl ?_
             refine c_seq ?_
             refine c_region ?_
             refine r_val .none rfl (p_assign rfl) ?_
             refine r_nil ?_
             refine e_next ?_
             refine c_ret ?_
             refine e_ret_block ?_
             refine e_ret_then ?_
             refine e_ret_then ?_
             refine e_ret_block ?_
             refine e_ret_then ?_
             refine e_ret1 Try.results54 (.tmp rfl .nil) (fun w hm => ⟨?_, hm.since⟩)
             (simp [tripleRight, triL, at_] at *; try omega)
             )
          ·
           first
            | (exfalso; omega)
            | (
             refine c_cond_f rfl ?_
             refine c_skip ?_
             refine e_norm_block ?_
             refine e_next ?_
             refine c_region ?_
             refine r_val .none rfl (p_move rfl) ?_
             refine r_val .none rfl (p_add rfl rfl (by omega)) ?_
             refine r_val .none rfl (p_assign rfl) ?_
             refine r_nil ?_
             refine e_again ?_
             refine l_round (n := 1) ?_
             refine c_seq ?_
             refine c_seq ?_
             refine c_region ?_
             refine r_val .none rfl (p_move rfl) ?_
             refine r_val .none rfl (p_lt rfl rfl) ?_
             refine r_say (d := 5) (v := Value.bool true) rfl ?_
             refine r_nil ?_
             refine e_next ?_
             refine c_cond_t rfl ?_
             refine c_skip ?_
             refine e_next ?_
             refine c_seq ?_
             refine c_block ?_
             refine c_seq ?_
             refine c_region ?_
             refine r_val .none rfl (p_move rfl) ?_
             refine r_val .none rfl (p_iaddr (k := 2) Try.underlying105 sz3 rfl rfl (by first | exact of_decide_eq_true rfl | omega)) ?_
             refine r_val .none rfl (p_ld (k := 0) Try.underlying3 rfl rfl rfl (by first | exact of_decide_eq_true rfl | omega) (rfl : _ = Value.int _ _)) ?_
             refine r_val .none rfl (p_lt rfl rfl) ?_
             refine r_val .none rfl (p_move rfl) ?_
             refine r_splitd (d := 12) rfl (fun h_5 => ?_) (fun h_5 => ?_)
             ·
              first
               | (exfalso; omega)
               | (
                refine r_skip rfl (.no rfl rfl) ?_
                refine r_skip rfl (.no rfl rfl) ?_
                refine r_skip rfl (.no rfl rfl) ?_
                refine r_skip rfl (.no rfl rfl) ?_
                refine r_val .none rfl (p_pick_t rfl rfl) ?_
                refine r_nil ?_
                refine e_next ?_
                refine c_cond_t rfl ?_
                refine c_seq ?_
                refine c_region ?_
                refine r_val .none rfl (p_assign rfl) ?_
                refine r_nil ?_
                refine e_next ?_
                refine c_ret ?_
                refine e_ret_block ?_
                refine e_ret_then ?_
                refine e_ret_then ?_
                refine e_ret_block ?_
                refine e_ret_then ?_
                refine e_ret1 Try.results54 (.tmp rfl .nil) (fun w hm => ⟨?_, hm.since⟩)
                (simp [tripleRight, triL, at_] at *; try omega)
                )
             ·
              first
               | (exfalso; omega)
               | (
                refine r_val (.some rfl rfl) rfl (p_move rfl) ?_
                refine r_val (.some rfl rfl) rfl (p_iaddr (k := 2) Try.underlying105 sz3 rfl rfl (by first | exact of_decide_eq_true rfl | omega)) ?_
                refine r_val (.some rfl rfl) rfl (p_ld (k := 0) Try.underlying3 rfl rfl rfl (by first | exact of_decide_eq_true rfl | omega) (rfl : _ = Value.int _ _)) ?_
                refine r_val (.some rfl rfl) rfl (p_gt rfl rfl) ?_
                refine r_val .none rfl (p_pick_f rfl rfl) ?_
                refine r_nil ?_
                refine e_next ?_
                refine c_splitd (d := 17) rfl (fun h_6 => ?_) (fun h_6 => ?_)
                ·
                 first
                  | (exfalso; omega)
                  | (
                   refine c_cond_t rfl ?_
                   refine c_seq ?_
                   refine c_region ?_
                   refine r_val .none rfl (p_assign rfl) ?_
                   refine r_nil ?_
                   refine e_next ?_
                   refine c_ret ?_
                   refine e_ret_block ?_
                   refine e_ret_then ?_
                   refine e_ret_then ?_
                   refine e_ret_block ?_
                   refine e_ret_then ?_
                   refine e_ret1 Try.results54 (.tmp rfl .nil) (fun w hm => ⟨?_, hm.since⟩)
                   (simp [tripleRight, triL, at_] at *; try omega)
                   )
                ·
                 first
                  | (exfalso; omega)
                  | (
                   refine c_cond_f rfl ?_
                   refine c_skip ?_
                   refine e_norm_block ?_
                   refine e_next ?_
                   refine c_region ?_
                   refine r_val .none rfl (p_move rfl) ?_
                   refine r_val .none rfl (p_add rfl rfl (by omega)) ?_
                   refine r_val .none rfl (p_assign rfl) ?_
                   refine r_nil ?_
                   refine e_again ?_
                   refine l_round (n := 0) ?_
                   refine c_seq ?_
                   refine c_seq ?_
                   refine c_region ?_
                   refine r_val .none rfl (p_move rfl) ?_
                   refine r_val .none rfl (p_lt rfl rfl) ?_
                   refine r_say (d := 5) (v := Value.bool false) rfl ?_
                   refine r_nil ?_
                   refine e_next ?_
                   refine c_cond_f rfl ?_
                   refine c_exit ?_
                   refine e_exit_then ?_
                   refine e_exit_then ?_
                   refine e_exit_block ?_
                   refine e_next ?_
                   refine c_seq ?_
                   refine c_region ?_
                   refine r_val .none rfl (p_assign rfl) ?_
                   refine r_nil ?_
                   refine e_next ?_
                   refine c_ret ?_
                   refine e_ret1 Try.results54 (.tmp rfl .nil) (fun w hm => ⟨?_, hm.since⟩)
                   (simp [tripleRight, triL, at_] at *; try omega)
                   )
                )
             )
          )
       )
    )
theorem c_pos_s (n : Nat) (ih : PosIs n) (v : Value) (l : List CT) {G : Ghost} (hz : SizeOf.sizeOf l ≤ n + 1) (hsz : sizeL l ≤ 1000) (hs : Rs G v l) (w : World) (hG : Has G w) :
  Calls Try.prog 62 #[v] w (Ret fun r w' => r = Value.int .i64 (posL l : Nat) ∧ Since nX w w') := by
 refine enter (args := [_]) (X := nX) (G := G) (l := [(0, v)]) Try.func62 rfl Try.ntmps62 hG ⟨rfl, trivial⟩ (Nat.le_of_ble_eq_true rfl) ?_
 obtain ⟨rs, hr, hp, hl⟩ := hs.inv
 refine c_seq ?_
 refine c_region ?_
 refine r_val .none rfl (p_assign rfl) ?_
 refine r_nil ?_
 refine e_next ?_
 refine c_seq ?_
 refine c_region ?_
 refine r_val .none rfl (p_assign rfl) ?_
 refine r_nil ?_
 refine e_next ?_
 refine c_seq ?_
 refine c_seq ?_
 refine c_region ?_
 refine r_val .none rfl (p_move rfl) ?_
 refine r_val .none rfl (p_leng Try.underlying75 rfl hr) ?_
 have bd_1 := (hr).bound
 refine r_val .none rfl (p_move rfl) ?_
 refine r_nil ?_
 refine e_next ?_
 refine c_block ?_
 refine c_name (d := 2) rfl (fun u_2 hu_2 => ?_)
 refine c_name (d := 6) rfl (fun u_3 hu_3 => ?_)
 refine c_name (d := 7) rfl (fun u_4 hu_4 => ?_)
 refine c_loop (σ := Nat) (fun k => [(8, Value.int .i64 (k : Nat)), (3, Value.int .i64 (posL ((rs.map Prod.fst).take k) : Nat)), (2, u_2), (6, u_3), (7, u_4)]) (fun k => []) (fun _ => _) (fun k => k ≤ rs.length) (fun k => rs.length - k) (0) (Nat.zero_le _) rfl ⟨rfl, rfl, rfl, rfl, rfl, trivial⟩ (.nil) (fun k hphi => ?_)
 subst hu_2
 subst hu_3
 subst hu_4
 refine c_seq ?_
 refine c_region ?_
 refine r_val .none rfl (p_lt rfl rfl) ?_
 refine r_nil ?_
 refine e_next ?_
 refine c_seq ?_
 refine c_splitd (d := 9) rfl (fun h_5 => ?_) (fun h_5 => ?_)
 ·
  first
   | (exfalso; omega)
   | (
    refine c_cond_t rfl ?_
    refine c_skip ?_
    refine e_next ?_
    refine c_seq ?_
    refine c_block ?_
    refine c_seq ?_
    refine c_region ?_
    refine r_iaddr_g .none rfl Try.underlying75 sz102 rfl hr rfl (by first | exact of_decide_eq_true rfl | omega) (fun p_7 o_8 R_6 => ?_)
    have hc_9 := hp _ (getD_mem (i := k) (d := d0) (by omega))
    refine r_val .none rfl (p_ldga0 Try.underlying102 rfl sz102 rfl R_6 (by first | exact of_decide_eq_true rfl | omega) (rfl : _ = Value.agg #[_, _, _, _, _, _, _, _])) ?_
    have hle : posL ((rs.map Prod.fst).take k) + (if (rs.getD k d0).1.h.k = 1 then 1 else 0) + posL (rs.getD k d0).1.subs ≤ sizeL l := by rw [hl]; exact posL_take_le (by omega)
    refine r_alloc .none rfl zr102 (IsRow.lit _) (fun b_1 => ?_)
    refine r_stw (k := 0) .none sz102 rfl rfl (IsRow.lit _) (one_lit rfl (all_cons rfl (all_cons rfl (all_cons rfl (all_cons rfl (all_cons rfl (all_cons rfl (all_cons rfl (all_cons (hc_9).one rfl))))))))) rfl ?_
    refine r_nil ?_
    refine e_next ?_
    refine c_seq ?_
    refine c_seq ?_
    refine c_region ?_
    refine r_val .none rfl (p_field Try.underlying102 rfl sz3 rfl) ?_
    refine r_val .none rfl (p_ld (k := 0) Try.underlying3 rfl rfl rfl (by first | exact of_decide_eq_true rfl | omega) (rfl : _ = Value.int _ _)) ?_
    refine r_val .none rfl (p_eq rfl rfl) ?_
    refine r_nil ?_
    refine e_next ?_
    refine c_splitd (d := 14) rfl (fun h_10 => ?_) (fun h_10 => ?_)
    ·
     first
      | (exfalso; omega)
      | (
       refine c_cond_t rfl ?_
       refine c_region ?_
       refine r_val .none rfl (p_move rfl) ?_
       refine r_val .none rfl (p_add rfl rfl (by rw [pos_yes (by omega)] at hle; omega)) ?_
       refine r_val .none rfl (p_assign rfl) ?_
       refine r_nil ?_
       refine e_next ?_
       refine c_region ?_
       refine r_val .none rfl (p_move rfl) ?_
       refine r_val .none rfl (p_field Try.underlying102 rfl sz75 rfl) ?_
       refine r_val .none rfl (p_ld (k := 0) Try.underlying75 rfl rfl rfl (by first | exact of_decide_eq_true rfl | omega) rfl) ?_
       refine r_call (vs := [_]) .none rfl cl62 rfl (fun w hw => ih _ _ _ w (by have q1 := List.sizeOf_lt_of_mem (show (rs.getD k d0).1 ∈ l by rw [hl]; exact List.mem_map.2 ⟨_, getD_mem (i := k) (d := d0) (by omega), rfl⟩); have q2 := size_subs (rs.getD k d0).1; omega) (by have q1 := sizeL_mem (show (rs.getD k d0).1 ∈ l by rw [hl]; exact List.mem_map.2 ⟨_, getD_mem (i := k) (d := d0) (by omega), rfl⟩); have q2 := size_eq (rs.getD k d0).1; omega) hc_9 hw) ?_
       refine r_val .none rfl (p_add rfl rfl (by first | (rw [pos_yes (by omega)] at hle; omega) | (rw [pos_no (by omega)] at hle; omega))) ?_
       refine r_val .none rfl (p_assign rfl) ?_
       refine r_nil ?_
       refine e_norm_block ?_
       refine e_next ?_
       refine c_region ?_
       refine r_val .none rfl (p_add rfl rfl (by omega)) ?_
       refine r_val .none rfl (p_move rfl) ?_
       refine r_nil ?_
       refine e_round (k + 1) ⟨by omega, by omega⟩ rfl ⟨rfl, (congrArg (fun z => some (Value.int .i64 z)) (by rw [posL_take (by omega)]; (first | rw [pos_yes (by omega)] | rw [pos_no (by omega)]); omega)), rfl, rfl, rfl, trivial⟩ (.drop (.nil))
       )
    ·
     first
      | (exfalso; omega)
      | (
       refine c_cond_f rfl ?_
       refine c_skip ?_
       refine e_next ?_
       refine c_region ?_
       refine r_val .none rfl (p_move rfl) ?_
       refine r_val .none rfl (p_field Try.underlying102 rfl sz75 rfl) ?_
       refine r_val .none rfl (p_ld (k := 0) Try.underlying75 rfl rfl rfl (by first | exact of_decide_eq_true rfl | omega) rfl) ?_
       refine r_call (vs := [_]) .none rfl cl62 rfl (fun w hw => ih _ _ _ w (by have q1 := List.sizeOf_lt_of_mem (show (rs.getD k d0).1 ∈ l by rw [hl]; exact List.mem_map.2 ⟨_, getD_mem (i := k) (d := d0) (by omega), rfl⟩); have q2 := size_subs (rs.getD k d0).1; omega) (by have q1 := sizeL_mem (show (rs.getD k d0).1 ∈ l by rw [hl]; exact List.mem_map.2 ⟨_, getD_mem (i := k) (d := d0) (by omega), rfl⟩); have q2 := size_eq (rs.getD k d0).1; omega) hc_9 hw) ?_
       refine r_val .none rfl (p_add rfl rfl (by first | (rw [pos_yes (by omega)] at hle; omega) | (rw [pos_no (by omega)] at hle; omega))) ?_
       refine r_val .none rfl (p_assign rfl) ?_
       refine r_nil ?_
       refine e_norm_block ?_
       refine e_next ?_
       refine c_region ?_
       refine r_val .none rfl (p_add rfl rfl (by omega)) ?_
       refine r_val .none rfl (p_move rfl) ?_
       refine r_nil ?_
       refine e_round (k + 1) ⟨by omega, by omega⟩ rfl ⟨rfl, (congrArg (fun z => some (Value.int .i64 z)) (by rw [posL_take (by omega)]; (first | rw [pos_yes (by omega)] | rw [pos_no (by omega)]); omega)), rfl, rfl, rfl, trivial⟩ (.drop (.nil))
       )
    )
 ·
  first
   | (exfalso; omega)
   | (
    refine c_cond_f rfl ?_
    refine c_exit ?_
    refine e_exit_then ?_
    refine e_exit_then ?_
    refine e_exit_block ?_
    refine e_next ?_
    refine c_seq ?_
    refine c_region ?_
    refine r_val .none rfl (p_move rfl) ?_
    refine r_val .none rfl (p_assign rfl) ?_
    refine r_nil ?_
    refine e_next ?_
    refine c_ret ?_
    refine e_ret1 Try.results62 (.tmp rfl .nil) (fun w hm => ⟨?_, hm.since⟩)
    exact congrArg (fun (z : Nat) => Value.int .i64 (z : Int)) (by rw [hl, List.take_of_length_le (by simp; omega)])
    )
theorem c_pos_n : ∀ n, PosIs n
 | 0 => fun v l G w hz hsz hs hG => absurd hz (by cases l <;> simp)
 | n + 1 => fun v l G w hz hsz hs hG => c_pos_s n (c_pos_n n) v l hz hsz hs w hG
theorem c_pos (v : Value) (l : List CT) {G : Ghost} (hsz : sizeL l ≤ 1000) (hs : Rs G v l) (w : World) (hG : Has G w) : Calls Try.prog 62 #[v] w (Ret fun r w' => r = Value.int .i64 (posL l : Nat) ∧ Since nX w w') := c_pos_n _ v l G w (Nat.le_refl _) hsz hs hG
theorem c_cost (f : Nat) (v : Value) (l : List CT) {G : Ghost} (hf : f ≤ 12) (hsz : sizeL l ≤ 1000) (hs : Rs G v l) (w : World) (hG : Has G w) :
  Calls Try.prog 41 #[Value.int .i64 (f : Nat), v, Value.int .i64 3000] w (Ret fun r w' => r = Value.bool (costB f l) ∧ Since nX w w') := by
 refine enter (args := [_, _, _]) (X := nX) (G := G) (l := [(0, Value.int .i64 (f : Nat)), (1, v), (2, Value.int .i64 3000)]) Try.func41 rfl Try.ntmps41 hG ⟨rfl, rfl, rfl, trivial⟩ (Nat.le_of_ble_eq_true rfl) ?_
 obtain ⟨p, hpp⟩ : ∃ p, posL l = p := ⟨_, rfl⟩
 have hpl := posL_le l
 refine c_seq ?_
 refine c_region ?_
 refine r_val .none rfl (p_assign rfl) ?_
 refine r_nil ?_
 refine e_next ?_
 refine c_seq ?_
 refine c_region ?_
 refine r_val .none rfl (p_assign rfl) ?_
 refine r_nil ?_
 refine e_next ?_
 refine c_seq ?_
 refine c_seq ?_
 refine c_region ?_
 refine r_val .none rfl (p_move rfl) ?_
 refine r_call (vs := [_]) .none rfl cl62 rfl (fun w hw => c_pos _ l hsz hs w hw) ?_
 refine r_val .none rfl (p_assign rfl) ?_
 refine r_nil ?_
 refine e_next ?_
 refine c_block ?_
 refine c_name (d := 0) rfl (fun u_1 hu_1 => ?_)
 refine c_name (d := 2) rfl (fun u_2 hu_2 => ?_)
 refine c_name (d := 6) rfl (fun u_3 hu_3 => ?_)
 refine c_loop (σ := Nat) (fun j => [(7, Value.int .i64 (((f + 1) ^ j : Nat) : Int)), (8, Value.int .i64 (((p - j : Nat) : Nat) : Int)), (0, u_1), (2, u_2), (6, u_3)]) (fun j => []) (fun _ => _) (fun j => j ≤ p) (fun j => p - j) (0) (Nat.zero_le _) rfl ⟨(congrArg (fun z => some (Value.int .i64 z)) (by rw [Nat.pow_zero]; rfl)), (congrArg (fun z => some (Value.int .i64 z)) (by rw [hpp]; rfl)), rfl, rfl, rfl, trivial⟩ (.nil) (fun j hphi => ?_)
 subst hu_1
 subst hu_2
 subst hu_3
 refine c_seq ?_
 refine c_seq ?_
 refine c_region ?_
 refine r_val .none rfl (p_move rfl) ?_
 refine r_val .none rfl (p_gt rfl rfl) ?_
 refine r_val .none rfl (p_move rfl) ?_
 refine' r_and (c := 13) (d := 17) [_, _, _, _] rfl (fun h_4 Q_5 hQ_6 => ?_) (fun h_4 Q_5 hQ_6 => ?_) ?_
 rotate_left 1
 ·
  replace h_4 := of_decide_eq_true h_4
  refine r_val (.some rfl rfl) rfl (p_move rfl) ?_
  refine r_val (.some rfl rfl) rfl (p_move rfl) ?_
  refine r_val (.some rfl rfl) rfl (p_le rfl rfl) ?_
  refine r_val .none rfl (p_pick_t rfl rfl) ?_
  refine r_nil (e_fin (d := 17) hQ_6 rfl (by repeat (first | exact .refl | refine .put rfl ?_ | refine .say rfl ?_ | refine .say2 rfl (by first | assumption | simp_all) ?_)))
 ·
  repeat (first | refine r_skip rfl (.no rfl rfl) ?_ | refine r_skip rfl (.un rfl rfl) ?_)
  refine r_val (by first | exact .none | exact .some rfl rfl) rfl (p_pick_f rfl rfl) ?_
  refine r_nil (e_fin (d := 17) hQ_6 rfl (by repeat (first | exact .refl | refine .put rfl ?_ | refine .say rfl ?_ | refine .say2 rfl (by first | assumption | simp_all) ?_)))
 refine r_nil ?_
 refine e_next ?_
 refine c_split (d := 17) rfl (fun h_8 => ?_) (fun h_8 => ?_)
 ·
  try simp only [norms] at h_8
  first
   | (exfalso; omega)
   | (
    refine c_cond_t rfl ?_
    refine c_skip ?_
    refine e_next ?_
    refine c_seq ?_
    refine c_block ?_
    refine c_region ?_
    refine r_val .none rfl (p_move rfl) ?_
    refine r_val .none rfl (p_move rfl) ?_
    refine r_val .none rfl (p_add rfl rfl (by omega)) ?_
    refine r_val .none rfl (p_mul rfl rfl (cost_mul (by omega) hf)) ?_
    refine r_val .none rfl (p_assign rfl) ?_
    refine r_nil ?_
    refine e_norm_block ?_
    refine e_next ?_
    refine c_region ?_
    refine r_val .none rfl (p_move rfl) ?_
    refine r_val .none rfl (p_sub rfl rfl (by omega)) ?_
    refine r_val .none rfl (p_assign rfl) ?_
    refine r_nil ?_
    refine e_round (j + 1) ⟨by omega, by omega⟩ rfl ⟨(congrArg (fun z => some (Value.int .i64 z)) (cost_next f j)), (congrArg (fun z => some (Value.int .i64 z)) (by omega)), rfl, rfl, rfl, trivial⟩ (.nil)
    )
 ·
  try simp only [norms] at h_8
  first
   | (exfalso; omega)
   | (
    refine c_cond_f rfl ?_
    refine c_exit ?_
    refine e_exit_then ?_
    refine e_exit_then ?_
    refine e_exit_block ?_
    refine e_next ?_
    refine c_seq ?_
    refine c_region ?_
    refine r_val .none rfl (p_move rfl) ?_
    refine r_val .none rfl (p_move rfl) ?_
    refine r_val .none rfl (p_le rfl rfl) ?_
    refine r_val .none rfl (p_assign rfl) ?_
    refine r_nil ?_
    refine e_next ?_
    refine c_ret ?_
    refine e_ret1 Try.results41 (.tmp rfl .nil) (fun w hm => ⟨?_, hm.since⟩)
    exact congrArg Value.bool (cost_end hpp hphi (by omega))
    )
theorem c_facts (v : Value) (l : List Tri) (d : Int) {G : Ghost} (hln : l.length ≤ 1000) (hd : 1 ≤ d ∧ d ≤ 2) (hs : SlL G v 3 triL z3 l) (w : World) (hG : Has G w) :
    Calls Try.prog 32 #[v, Value.int .i64 d] w (Ret fun r w' => ∃ G', GNew w nX G G' ∧ Has G' w' ∧ (∃ u, r = .tuple #[u, .bool (allOk l)] ∧ SlL G' u 4 fC f0 (fcts l d)) ∧ Since nX w w') := by
  refine enter (args := [_, _]) (X := nX) (G := G) (l := [(0, v), (1, Value.int .i64 d)]) Try.func32 rfl Try.ntmps32 hG ⟨rfl, rfl, trivial⟩ (Nat.le_of_ble_eq_true rfl) ?_
  refine c_seq ?_
  refine c_region ?_
  refine r_val .none rfl (p_assign rfl) ?_
  refine r_val .none rfl (p_assign rfl) ?_
  refine r_nil ?_
  refine e_next ?_
  refine c_seq ?_
  refine c_region ?_
  refine r_val .none rfl (p_assign rfl) ?_
  refine r_nil ?_
  refine e_next ?_
  refine c_seq ?_
  refine c_seq ?_
  refine c_region ?_
  refine r_val .none rfl (p_move rfl) ?_
  refine r_val .none rfl (p_leng Try.underlying70 rfl hs) ?_
  have bd_1 := (hs).bound
  refine r_val .none rfl (p_move rfl) ?_
  refine r_nil ?_
  refine e_next ?_
  refine c_block ?_
  refine c_nilrow 120 4 ?_
  refine c_name (d := 1) rfl (fun u_2 hu_2 => ?_)
  refine c_name (d := 9) rfl (fun u_3 hu_3 => ?_)
  refine c_name (d := 10) rfl (fun u_4 hu_4 => ?_)
  refine c_loop (σ := Nat × Value) (fun s => [(11, Value.int .i64 (s.1 : Nat)), (6, s.2), (1, u_2), (9, u_3), (10, u_4)]) (fun s => [rowA (s.2) 120 4 ((fTo l d s.1)).length (((fTo l d s.1)).flatMap fC)]) (fun _ => _) (fun s => s.1 ≤ l.length ∧ okTo l s.1 = true) (fun s => l.length - s.1) ((0, _)) ⟨Nat.zero_le _, by simp [okTo]⟩ rfl ⟨rfl, rfl, rfl, rfl, rfl, trivial⟩ (.keep (fun _ _ h => rowA_nil rfl _ _ h) (.nil)) (fun s hphi => ?_)
  subst hu_2
  subst hu_3
  subst hu_4
  obtain ⟨k, u⟩ := s
  obtain ⟨hk, hok⟩ := hphi
  dsimp only at hk hok ⊢
  have hfl := fTo_len l d k
  refine c_seq ?_
  refine c_region ?_
  refine r_val .none rfl (p_lt rfl rfl) ?_
  refine r_nil ?_
  refine e_next ?_
  refine c_seq ?_
  refine c_splitd (d := 12) rfl (fun h_5 => ?_) (fun h_5 => ?_)
  · skip
    first
      | (exfalso; omega)
      | (
        refine c_cond_t rfl ?_
        refine c_skip ?_
        refine e_next ?_
        refine c_seq ?_
        refine c_block ?_
        refine c_seq ?_
        refine c_region ?_
        refine r_val .none rfl (p_move rfl) ?_
        refine r_iaddr_g .none rfl Try.underlying70 sz106 rfl hs rfl (by first | exact of_decide_eq_true rfl | omega) (fun p_7 o_8 R_6 => ?_)
        refine r_val .none rfl (p_ldga0 Try.underlying106 rfl sz106 rfl R_6 (by first | exact of_decide_eq_true rfl | omega) (rfl : _ = Value.agg #[_, _, _])) ?_
        refine r_alloc .none rfl zr106 (IsRow.lit _) (fun b_1 => ?_)
        refine r_val .none rfl (p_assign rfl) ?_
        refine r_stw (k := 0) .none sz106 rfl rfl (IsRow.lit _) (one_lit rfl rfl) rfl ?_
        refine r_nil ?_
        refine e_next ?_
        refine c_seq ?_
        refine c_seq ?_
        refine c_region ?_
        refine r_val .none rfl (p_ldw (k := 0) Try.underlying106 rfl sz106 rfl rfl (rfl : _ = Value.agg #[_, _, _])) ?_
        refine r_call (vs := [_]) .none rfl cl54 rfl (fun w hw => c_rtri13 (l.getD k z3) w) ?_
        refine r_val .none rfl (p_not rfl) ?_
        refine r_nil ?_
        refine e_next ?_
        refine c_splitn (d := 18) rfl (fun h_9 => ?_) (fun h_9 => ?_)
        · skip
          have hT : tOk (l.getD k z3) = false := by have h0 := h_9; simpa [tOk] using h0
          first
            | (exfalso; omega)
            | (
              refine c_cond_t rfl ?_
              refine c_seq ?_
              refine c_region ?_
              refine r_val .none rfl (p_assign rfl) ?_
              refine r_val .none rfl (p_assign rfl) ?_
              refine r_nil ?_
              refine e_next ?_
              refine c_ret ?_
              refine e_ret_then ?_
              refine e_ret_block ?_
              refine e_ret_then ?_
              refine e_ret_then ?_
              refine e_ret_block ?_
              refine e_ret_then ?_
              refine e_retn Try.results32 (.tmp rfl (.tmp rfl .nil)) rfl (fun w hm => ⟨_, (GNew.refl _ _ _), hm.has, ?_, hm.since⟩)
              first
              | (rw [allOk_no (k := k) (by omega) hT]; exact ⟨_, rfl, by rw [fcts_no (allOk_no (k := k) (by omega) hT)]; exact SlG.nil _ _ _⟩)
              | (have hall : allOk l = true := by rw [← okTo_all (k := k) (by omega)]; exact hok
                 have hkl : k = l.length := by omega
                 subst hkl
                 rw [hall]; exact ⟨_, rfl, by rw [fcts_yes hall]; exact SlL.of f0 (fun _ => rfl) rfl %s0⟩)
              )
        · skip
          have hT : tOk (l.getD k z3) = true := by have h0 := h_9; simpa [tOk] using h0
          first
            | (exfalso; omega)
            | (
              refine c_cond_f rfl ?_
              refine c_skip ?_
              refine e_next ?_
              refine c_region ?_
              refine r_val .none rfl (p_move rfl) ?_
              refine r_val .none rfl (p_move rfl) ?_
              refine r_val .none rfl (p_move rfl) ?_
              refine r_val .none rfl (p_mul rfl rfl (by have h1 : (k : Int) * d ≤ 1000 * 2 := Int.mul_le_mul (by omega) (by omega) (by omega) (by omega); have h2 : 0 ≤ (k : Int) * d := Int.mul_nonneg (by omega) (by omega); omega)) ?_
              refine r_val .none rfl (p_add rfl rfl (by have h1 : (k : Int) * d ≤ 1000 * 2 := Int.mul_le_mul (by omega) (by omega) (by omega) (by omega); have h2 : 0 ≤ (k : Int) * d := Int.mul_nonneg (by omega) (by omega); omega)) ?_
              refine r_val .none rfl (p_ldw (k := 0) Try.underlying106 rfl sz106 rfl rfl (rfl : _ = Value.agg #[_, _, _])) ?_
              refine r_val .none rfl (p_build (vs := [(0, Value.int _ _), (1, Value.agg #[_, _, _])]) rfl (bl120_0i1_1a3 _ _ _ _)) ?_
              refine r_bslice (vs := [(0, Value.agg #[_, _, _, _])]) (c := #[_, _, _, _]) .none rfl Try.underlying72 el120 rfl rfl rfl (bs120_10a4 _ _ _ _) (IsRow.lit _) (fun b_2 => ?_)
              refine r_append (k := 2) (k2 := 0) .none rfl Try.underlying72 el120 rfl (by decide) rfl rfl rfl rfl rfl (one_lit rfl rfl) (by rw [hfl]; simp only [maxLen]; omega) (by rw [hfl]; omega) (fun v_10 => ?_)
              refine r_row1 (k := 2) rfl (fun o_11 => ?_)
              refine r_val .none rfl (p_assign rfl) ?_
              refine r_nil ?_
              refine e_norm_block ?_
              refine e_next ?_
              refine c_region ?_
              refine r_val .none rfl (p_add rfl rfl (by omega)) ?_
              refine r_val .none rfl (p_move rfl) ?_
              refine r_nil ?_
              refine e_round ((k + 1, _)) ⟨⟨by dsimp only; omega, by dsimp only; rw [okTo_succ (by omega), hok, Bool.true_and]; exact hT⟩, by dsimp only; omega⟩ rfl ⟨rfl, rfl, rfl, rfl, rfl, trivial⟩ (.drop (.drop (.keep (fun _ _ h => rowA_snoc (fTo_succ l d k) rfl rfl rfl _ _ h) (.nil))))
              )
        )
  · skip
    first
      | (exfalso; omega)
      | (
        refine c_cond_f rfl ?_
        refine c_exit ?_
        refine e_exit_then ?_
        refine e_exit_then ?_
        refine e_exit_block ?_
        refine e_next ?_
        refine c_seq ?_
        refine c_region ?_
        refine r_val .none rfl (p_move rfl) ?_
        refine r_val .none rfl (p_assign rfl) ?_
        refine r_val .none rfl (p_assign rfl) ?_
        refine r_nil ?_
        refine e_next ?_
        refine c_ret ?_
        refine e_freeze (k := 0) rfl (fun G_12 hn_13 hs_14 => ?_)
        replace hs := hs.mono hn_13.le
        refine e_retn Try.results32 (.tmp rfl (.tmp rfl .nil)) rfl (fun w hm => ⟨_, hn_13, hm.has, ?_, hm.since⟩)
        first
        | (rw [allOk_no (k := k) (by omega) hT]; exact ⟨_, rfl, by rw [fcts_no (allOk_no (k := k) (by omega) hT)]; exact SlG.nil _ _ _⟩)
        | (have hall : allOk l = true := by rw [← okTo_all (k := k) (by omega)]; exact hok
           have hkl : k = l.length := by omega
           subst hkl
           rw [hall]; exact ⟨_, rfl, by rw [fcts_yes hall]; exact SlL.of f0 (fun _ => rfl) rfl hs_14⟩)
        )
end Go.Proofs.Ytpadfgomhojjnaa

/- Plain laws of rising lists without a twin: what sorting and making runs one leaves; no program in sight. -/
namespace Go.Gx.Set
open Go.Lib

theorem cu (d : Array Int) (hs : ∀ i j, i ≤ j → j < d.size → d[i]! ≤ d[j]!) : ∀ m, m ≤ d.size → (compactUpTo d m).Pairwise (· < ·) ∧ ∀ x, x ∈ compactUpTo d m ↔ ∃ j, j < m ∧ d[j]! = x
  | 0, _ => ⟨by simp [compactUpTo], fun x => by simp [compactUpTo]⟩
  | m + 1, hm => by
    obtain ⟨h1, h2⟩ := cu d hs m (by omega)
    rw [compactUpTo_succ]
    by_cases hk : keeps d m = true
    · rw [if_pos hk]
      refine ⟨List.pairwise_append.2 ⟨h1, by simp, fun x hx y hy => ?_⟩, fun x => ?_⟩
      · obtain ⟨j, hj, rfl⟩ := (h2 x).1 hx
        obtain rfl : y = d[m]! := by simpa using hy
        have e1 := hs j (m - 1) (by omega) (by omega)
        have e2 := hs (m - 1) m (by omega) (by omega)
        have e3 : d[m]! ≠ d[m - 1]! := by
          have : decide (m = 0 ∨ d[m]! ≠ d[m - 1]!) = true := hk
          rcases of_decide_eq_true this with h | h
          · omega
          · exact h
        omega
      · rw [List.mem_append, h2]
        constructor
        · rintro (⟨j, hj, e⟩ | h)
          · exact ⟨j, by omega, e⟩
          · exact ⟨m, by omega, by simpa using (List.mem_singleton.1 h).symm⟩
        · rintro ⟨j, hj, e⟩
          by_cases hjm : j = m
          · subst hjm; exact .inr (by simp [e])
          · exact .inl ⟨j, by omega, e⟩
    · rw [if_neg hk, List.append_nil]
      refine ⟨h1, fun x => ?_⟩
      rw [h2]
      have e3 : 0 < m ∧ d[m]! = d[m - 1]! := by
        have : ¬ (m = 0 ∨ d[m]! ≠ d[m - 1]!) := fun h => hk (decide_eq_true h)
        exact ⟨by omega, by
          apply Classical.byContradiction
          intro h; exact this (.inr h)⟩
      constructor
      · rintro ⟨j, hj, e⟩; exact ⟨j, by omega, e⟩
      · rintro ⟨j, hj, e⟩
        by_cases hjm : j = m
        · subst hjm; exact ⟨j - 1, by omega, by rw [← e3.2, e]⟩
        · exact ⟨j, by omega, e⟩

/-- The list, rising, each element once. -/
def once (l : List Int) : List Int := compact (l.mergeSort fun x y => decide (x ≤ y))

theorem once_both (l : List Int) : (once l).Pairwise (· < ·) ∧ ∀ x, x ∈ once l ↔ x ∈ l := by
  have hp := List.mergeSort_perm l fun x y => decide (x ≤ y)
  have hs : (l.mergeSort fun x y => decide (x ≤ y)).Pairwise fun x y => x ≤ y :=
    (List.pairwise_mergeSort (le := fun x y : Int => decide (x ≤ y)) (by intro a b c; simp; omega) (by intro a b; simp; omega) l).imp (by simp)
  have hm : ∀ x, x ∈ (l.mergeSort fun x y => decide (x ≤ y)) ↔ x ∈ l := fun x => hp.mem_iff
  unfold once compact
  generalize (l.mergeSort fun x y => decide (x ≤ y)) = s at hs hm
  have hg : ∀ i j, i ≤ j → j < s.toArray.size → s.toArray[i]! ≤ s.toArray[j]! := by
    intro i j hij hj
    have hj' : j < s.length := by simpa using hj
    rw [getElem!_pos s.toArray i (by simp; omega), getElem!_pos s.toArray j hj]
    by_cases e : i = j
    · subst e; exact Int.le_refl _
    · simpa using List.pairwise_iff_getElem.1 hs i j (by omega) hj' (by omega)
  obtain ⟨h1, h2⟩ := cu s.toArray hg s.length (by simp)
  refine ⟨h1, fun x => ?_⟩
  rw [h2, ← hm]
  constructor
  · rintro ⟨j, hj, rfl⟩
    rw [getElem!_pos s.toArray j (by simpa using hj)]
    simp
  · intro hx
    obtain ⟨j, hj, rfl⟩ := List.mem_iff_getElem.1 hx
    exact ⟨j, hj, by rw [getElem!_pos s.toArray j (by simpa using hj)]; simp⟩

theorem mem_once {l : List Int} {x : Int} : x ∈ once l ↔ x ∈ l := (once_both l).2 x

/-- How many of a list lie below a bound. -/
def below (U : List Int) (n : Int) : Nat := U.countP fun x => decide (x < n)
end Go.Gx.Set

/- Plain laws of terms and bindings: what the document's pairs say, and how it puts; no program in sight. -/
namespace Go.Gx.T3
open Go.Gx

abbrev Pr := Int × Int
def pr (p : Pr) : List Value := [.int .i64 p.1, .int .i64 p.2]

def prs (B : Nat → Int) : Nat → List Pr
  | 0 => []
  | k + 1 => prs B k ++ (if 0 < (k : Int) ∧ 0 < B k then [((k : Int), B k)] else [])
def getP : List Pr → Int → Int
  | [], _ => 0
  | p :: t, v => if p.1 = v then p.2 else getP t v

theorem getP_append (l m : List Pr) (v : Int) : getP (l ++ m) v = bif l.any fun p => decide (p.1 = v) then getP l v else getP m v := by
  induction l with
  | nil => simp
  | cons p t ih =>
    simp only [List.cons_append, getP, List.any_cons]
    by_cases h : p.1 = v
    · simp [h]
    · rw [if_neg h, ih, decide_eq_false h, Bool.false_or, if_neg h]

theorem getP_none {l : List Pr} {v : Int} (h : (l.any fun p => decide (p.1 = v)) = false) : getP l v = 0 := by
  induction l with
  | nil => rfl
  | cons p t ih =>
    simp only [List.any_cons, Bool.or_eq_false_iff, decide_eq_false_iff_not] at h
    rw [getP, if_neg h.1, ih h.2]

/-! ### putting -/

def rpv (v : Bool) (n : Int) (ps : List Pr) : Int := if v then getP ps n else n
def pv (v : Bool) (n : Int) (B : Nat → Int) : Int := if v then B (cl n) else n
def put1 (x : Int) (k : Nat) (T : Nat → Int) : Option (Nat → Int) := if x = 0 then none else some (updI T k x)
def upTo {α : Type} (f : Nat → α → Option α) (s : α) : Nat → Option α
  | 0 => some s
  | k + 1 => (upTo f s k).bind (f k)
def sel3 (x0 x1 x2 : Int) : Nat → Int
  | 0 => x0
  | 1 => x1
  | _ => x2
def put (x0 x1 x2 : Int) : Nat → Option (Nat → Int) := upTo (fun k => put1 (sel3 x0 x1 x2 k) k) (fun _ => 0)

/-! ### fitting, as the document says it -/

def rfit1 (v : Bool) (n t : Int) (ps : List Pr) : Option (List Pr) :=
  if v = true then (if getP ps n = 0 then some (ps ++ [(n, t)]) else if getP ps n = t then some ps else none) else if n = t then some ps else none

def selB (v0 v1 v2 : Bool) : Nat → Bool
  | 0 => v0
  | 1 => v1
  | _ => v2

def rfit (v0 : Bool) (n0 : Int) (v1 : Bool) (n1 : Int) (v2 : Bool) (n2 : Int) (t0 t1 t2 : Int) (ps : List Pr) : Nat → Option (List Pr) :=
  upTo (fun k => rfit1 (selB v0 v1 v2 k) (sel3 n0 n1 n2 k) (sel3 t0 t1 t2 k)) ps

/-- What the pairs say is what the binding says. -/
structure Agree (ps : List Pr) (B : Nat → Int) : Prop where
  nz : ∀ p ∈ ps, p.2 ≠ 0
  eq : ∀ k : Nat, 1 ≤ k → k < 33 → getP ps k = B k

theorem getP_nz {ps : List Pr} {v : Int} (h : ∀ p ∈ ps, p.2 ≠ 0) (h0 : getP ps v = 0) : (ps.any fun p => decide (p.1 = v)) = false := by
  induction ps with
  | nil => rfl
  | cons p t ih =>
    rw [getP] at h0
    by_cases hp : p.1 = v
    · rw [if_pos hp] at h0
      exact absurd h0 (h p (by simp))
    · rw [if_neg hp] at h0
      rw [List.any_cons, decide_eq_false hp, Bool.false_or]
      exact ih (fun q hq => h q (by simp [hq])) h0

theorem fit1_agree {v : Bool} {n t : Int} {ps : List Pr} {B : Nat → Int} (ha : Agree ps B) (hr : termRight v n = true) (ht : 1 ≤ t) :
    match fit1 v n t B, rfit1 v n t ps with
    | some C, some qs => Agree qs C ∧ (C 0 = B 0)
    | none, none => True
    | _, _ => False := by
  unfold fit1 rfit1
  cases v with
  | false => by_cases h : n = t <;> simp [h, ha]
  | true =>
    have h0 : 1 ≤ n ∧ n ≤ 32 := by simpa [termRight] using hr
    have h1 : ((cl n : Nat) : Int) = n := by rw [cl_cast]; omega
    have h2 : 1 ≤ cl n := by omega
    have h4 := ha.eq (cl n) h2 (cl_lt n)
    rw [h1] at h4
    simp only [if_true, h4]
    by_cases h5 : B (cl n) = 0
    · simp only [h5, if_true]
      rw [h5] at h4
      have hno := getP_nz ha.nz h4
      refine ⟨⟨fun p hp => ?_, fun k hk1 hk2 => ?_⟩, by simp [updI]; omega⟩
      · rcases List.mem_append.1 hp with hp | hp
        · exact ha.nz p hp
        · simp at hp; subst hp; show t ≠ 0; omega
      · rw [getP_append]
        by_cases hk : k = cl n
        · subst hk
          rw [h1, hno, cond_false]
          simp [getP, updI]
        · simp only [updI, hk, if_false]
          cases h6 : (ps.any fun p => decide (p.1 = (k : Int))) with
          | true => rw [cond_true, ha.eq k hk1 hk2]
          | false =>
            rw [cond_false, getP, if_neg (by simp; omega), getP, ← ha.eq k hk1 hk2, getP_none h6]
    · rw [if_neg h5, if_neg h5]
      by_cases h6 : B (cl n) = t
      · rw [if_pos h6, if_pos h6]; exact ⟨ha, rfl⟩
      · rw [if_neg h6, if_neg h6]; trivial

def Rel (x : Option (Nat → Int)) (y : Option (List Pr)) : Prop :=
  match x, y with
  | some C, some qs => Agree qs C ∧ C 0 = 0
  | none, none => True
  | _, _ => False

theorem Rel.bind {x : Option (Nat → Int)} {y : Option (List Pr)} (h : Rel x y) {v : Bool} {n t : Int} (hr : termRight v n = true) (ht : 1 ≤ t) : Rel (x.bind (fit1 v n t)) (y.bind (rfit1 v n t)) := by
  cases x with
  | none => cases y with
    | none => exact h
    | some _ => exact h.elim
  | some C => cases y with
    | none => exact h.elim
    | some qs =>
      obtain ⟨h1, h2⟩ := h
      have := fit1_agree h1 hr ht
      show Rel (fit1 v n t C) (rfit1 v n t qs)
      unfold Rel
      cases h3 : fit1 v n t C <;> cases h4 : rfit1 v n t qs <;> simp only [h3, h4] at this ⊢
      exact ⟨this.1, by rw [this.2, h2]⟩

section
variable {v0 : Bool} {n0 : Int} {v1 : Bool} {n1 : Int} {v2 : Bool} {n2 : Int} {t0 t1 t2 : Int} (B : Nat → Int) (hf : fine v0 n0 v1 n1 v2 n2 = true) (ht : tripleRight t0 t1 t2 = true)
include hf ht

omit hf ht in
end

end Go.Gx.T3

/- Plain laws of the variables of terms; no program in sight. -/
namespace Go.Gx.T3
open Go.Gx

section
variable (v0 : Bool) (n0 : Int) (v1 : Bool) (n1 : Int) (v2 : Bool) (n2 : Int)
/-- The variables of the first k terms. -/
def vsTo : Nat → List Int
  | 0 => []
  | k + 1 => vsTo k ++ if selB v0 v1 v2 k then [sel3 n0 n1 n2 k] else []
abbrev vars : List Int := Set.once (vsTo v0 n0 v1 n1 v2 n2 3)
end
section
variable {v0 : Bool} {n0 : Int} {v1 : Bool} {n1 : Int} {v2 : Bool} {n2 : Int}
theorem vs_len : ∀ k, (vsTo v0 n0 v1 n1 v2 n2 k).length ≤ k
  | 0 => Nat.le_refl _
  | k + 1 => by have := vs_len k; unfold vsTo; split <;> simp <;> omega
theorem own_mem {n : Nat} : (n : Int) ∈ vars v0 n0 v1 n1 v2 n2 ↔ ownTo v0 n0 v1 n1 v2 n2 n 3 = true := by
  rw [Set.mem_once]
  cases v0 <;> cases v1 <;> cases v2 <;> simp [vsTo, selB, sel3, ownTo, owns, eq_comm (a := (n : Int)), or_assoc]
theorem vars_mem {x : Int} (hf : fine v0 n0 v1 n1 v2 n2 = true) (hx : x ∈ vars v0 n0 v1 n1 v2 n2) : 1 ≤ x ∧ x ≤ 32 := by
  rw [Set.mem_once] at hx
  simp only [fine, termRight, Bool.and_eq_true, decide_eq_true_eq] at hf
  obtain ⟨h0, h1, h2⟩ := hf
  cases v0 <;> cases v1 <;> cases v2 <;> simp [vsTo, selB, sel3] at hx h0 h1 h2 <;> omega
end
end Go.Gx.T3

/- Plain laws of the variables of conditions; no program in sight. -/
namespace Go.Gx.T4
open Go.Gx Go.Gx.T3

def own (h : Hd) : List Int := if h.k = 3 then [] else vars h.v0 h.n0 h.v1 h.n1 h.v2 h.n2
mutual
def cvars : CT → List Int
  | .mk h l => Set.once (own h ++ cvarsL l)
def cvarsL : List CT → List Int
  | [] => []
  | c :: t => cvars c ++ cvarsL t
end
theorem once_len (l : List Int) : (Set.once l).length ≤ l.length := by
  have := compact_le (l.mergeSort fun x y => decide (x ≤ y))
  rw [List.length_mergeSort] at this
  exact this
theorem own_len (h : Hd) : (own h).length ≤ 3 := by
  unfold own
  split
  · simp
  · exact Nat.le_trans (once_len _) (vs_len 3)
mutual
theorem cvars_len : ∀ c : CT, (cvars c).length ≤ 3 * size c
  | .mk h l => by
    have h1 := once_len (own h ++ cvarsL l)
    have h2 := own_len h
    have h3 := cvarsL_len l
    rw [List.length_append] at h1
    rw [cvars, size]; omega
theorem cvarsL_len : ∀ l : List CT, (cvarsL l).length ≤ 3 * sizeL l
  | [] => by simp [cvarsL]
  | c :: t => by
    have h1 := cvars_len c
    have h2 := cvarsL_len t
    rw [cvarsL, sizeL, List.length_append]; omega
end
/-! ### the document's: does a variable stand in it? -/
mutual
def has : CT → Nat → Bool
  | .mk h l, v => (decide (h.k < 3) && ownTo h.v0 h.n0 h.v1 h.n1 h.v2 h.n2 v 3) || hasL l v
def hasL : List CT → Nat → Bool
  | [], _ => false
  | c :: t, v => has c v || hasL t v
end
theorem has_eq (c : CT) (v : Nat) : has c v = ((decide (c.h.k < 3) && ownTo c.h.v0 c.h.n0 c.h.v1 c.h.n1 c.h.v2 c.h.n2 v 3) || hasL c.subs v) := by cases c; rw [has]; rfl
theorem hasL_yes {c : CT} {t : List CT} {v : Nat} (h : has c v = true) : hasL (c :: t) v = true := by rw [hasL, h]; rfl
theorem hasL_no {c : CT} {t : List CT} {v : Nat} (h : has c v = false) : hasL (c :: t) v = hasL t v := by rw [hasL, h]; rfl

/-- What is right has kinds and terms that may be. -/
theorem check_right {h : Hd} {l : List CT} {d : Int} (hc : check (.mk h l) d = 0) : (h.k = 3 ∧ checkL l (max d 1 + 1) = 0) ∨ ((h.k = 1 ∨ h.k = 2) ∧ headOk h = true ∧ l = []) := by
  rw [check] at hc
  by_cases c1 : 3 < max d 1
  · rw [if_pos c1] at hc; omega
  rw [if_neg c1] at hc
  by_cases c2 : h.k = 3
  · rw [if_pos c2] at hc
    by_cases c3 : headNone h = false
    · rw [if_pos c3] at hc; omega
    rw [if_neg c3] at hc
    by_cases c4 : l.length = 0
    · rw [if_pos c4] at hc; omega
    rw [if_neg c4] at hc
    exact .inl ⟨c2, hc⟩
  · rw [if_neg c2] at hc
    by_cases c3 : h.k ≠ 1 ∧ h.k ≠ 2
    · rw [if_pos c3] at hc; omega
    rw [if_neg c3] at hc
    by_cases c4 : headOk h = false ∨ 0 < l.length
    · rw [if_pos c4] at hc; omega
    refine .inr ⟨by omega, ?_, List.eq_nil_of_length_eq_zero (by omega)⟩
    cases e : headOk h with
    | true => rfl
    | false => exact absurd (.inl e) c4
theorem checkL_right {c : CT} {t : List CT} {d : Int} (h : checkL (c :: t) d = 0) : check c d = 0 ∧ checkL t d = 0 := by
  rw [checkL] at h
  split at h
  · rename_i h1; exact ⟨h1, h⟩
  · rename_i h1; exact absurd h h1
mutual
theorem has_mem : ∀ (c : CT) (d : Int) (v : Nat), check c d = 0 → (((v : Int) ∈ cvars c ↔ has c v = true) ∧ ∀ x ∈ cvars c, 1 ≤ x ∧ x ≤ 32)
  | .mk h l, d, v, hc => by
    rw [cvars, has]
    rcases check_right hc with ⟨hk, hl⟩ | ⟨hk, ho, rfl⟩
    · obtain ⟨h1, h2⟩ := hasL_mem l (max d 1 + 1) v hl
      have e : own h = [] := by rw [own, if_pos hk]
      rw [e, List.nil_append]
      refine ⟨?_, fun x hx => h2 x (Set.mem_once.1 hx)⟩
      rw [Set.mem_once, h1]
      simp [hk]
    · have e : own h = vars h.v0 h.n0 h.v1 h.n1 h.v2 h.n2 := by rw [own, if_neg (by omega)]
      rw [e]
      simp only [cvarsL, hasL, List.append_nil, Bool.or_false]
      have hf : fine h.v0 h.n0 h.v1 h.n1 h.v2 h.n2 = true := ho
      refine ⟨?_, fun x hx => vars_mem hf (Set.mem_once.1 hx)⟩
      rw [Set.mem_once, own_mem]
      simp [show h.k < 3 by omega]
theorem hasL_mem : ∀ (l : List CT) (d : Int) (v : Nat), checkL l d = 0 → (((v : Int) ∈ cvarsL l ↔ hasL l v = true) ∧ ∀ x ∈ cvarsL l, 1 ≤ x ∧ x ≤ 32)
  | [], _, _, _ => by simp [cvarsL, hasL]
  | c :: t, d, v, hc => by
    obtain ⟨a, b⟩ := checkL_right hc
    obtain ⟨h1, h2⟩ := has_mem c d v a
    obtain ⟨h3, h4⟩ := hasL_mem t d v b
    rw [cvarsL, hasL, List.mem_append, h1, h3]
    refine ⟨by simp, fun x hx => ?_⟩
    rcases List.mem_append.1 hx with hx | hx
    · exact h2 x hx
    · exact h4 x hx
end
theorem own_yes {h : Hd} {v : Nat} (e : h.k < 3 ∧ ((vi h.v0 = 1 ∧ h.n0 = (v : Int)) ∨ (vi h.v1 = 1 ∧ h.n1 = (v : Int)) ∨ (vi h.v2 = 1 ∧ h.n2 = (v : Int)))) : (decide (h.k < 3) && ownTo h.v0 h.n0 h.v1 h.n1 h.v2 h.n2 v 3) = true := by
  rw [decide_eq_true e.1, Bool.true_and]
  simp only [ownTo, owns]
  rcases e.2 with ⟨a, b⟩ | ⟨a, b⟩ | ⟨a, b⟩
  · have : h.v0 = true := by cases e : h.v0 <;> simp_all [vi]
    simp [this, b]
  · have : h.v1 = true := by cases e : h.v1 <;> simp_all [vi]
    simp [this, b]
  · have : h.v2 = true := by cases e : h.v2 <;> simp_all [vi]
    simp [this, b]
theorem own_no {h : Hd} {v : Nat} (e : ¬ (h.k < 3 ∧ vi h.v0 = 1 ∧ h.n0 = (v : Int)) ∧ ¬ (h.k < 3 ∧ vi h.v1 = 1 ∧ h.n1 = (v : Int)) ∧ ¬ (h.k < 3 ∧ vi h.v2 = 1 ∧ h.n2 = (v : Int))) : (decide (h.k < 3) && ownTo h.v0 h.n0 h.v1 h.n1 h.v2 h.n2 v 3) = false := by
  rw [← Bool.not_eq_true]
  intro hx
  simp only [ownTo, owns, Bool.and_eq_true, Bool.or_eq_true, decide_eq_true_eq] at hx
  obtain ⟨hk, (⟨a, b⟩ | ⟨a, b⟩) | ⟨a, b⟩⟩ := hx
  · exact e.1 ⟨hk, by simp [vi, a], b⟩
  · exact e.2.1 ⟨hk, by simp [vi, a], b⟩
  · exact e.2.2 ⟨hk, by simp [vi, a], b⟩
end Go.Gx.T4

/- Plain laws of rules: wysF to where a variable stands, and its scope; no program in sight. -/
namespace Go.Gx.T5
open Go.Gx Go.Gx.T3 Go.Gx.T4 Go.Gx.T8 Go.Gx.T6
abbrev ownV (h : Hd) (v : Nat) : Bool := ownTo h.v0 h.n0 h.v1 h.n1 h.v2 h.n2 v 3
mutual
/-- The wysF to where a variable stands, with the kinds of the conditions there. -/
def wk1 : CT → Nat → Int → List (List Int × Int)
  | .mk h s, v, i => if h.k = 3 then (wk s v 0).map (fun p => (i :: p.1, p.2)) else if ownV h v = true then [([i], h.k)] else []
def wk : List CT → Nat → Int → List (List Int × Int)
  | [], _, _ => []
  | c :: t, v, i => wk1 c v i ++ wk t v (i + 1)
end
theorem wk1_ncc {c : CT} {v : Nat} {i : Int} (h : c.h.k = 3) : wk1 c v i = (wk c.subs v 0).map (fun p => (i :: p.1, p.2)) := by
  cases c with | mk hd l => have h' : hd.k = 3 := h; rw [wk1, if_pos h']; rfl
theorem wk1_own {c : CT} {v : Nat} {i : Int} (h : c.h.k ≠ 3) (ho : ownV c.h v = true) : wk1 c v i = [([i], c.h.k)] := by
  cases c with | mk hd l => have h' : hd.k ≠ 3 := h; have ho' : ownV hd v = true := ho; rw [wk1, if_neg h', if_pos ho']; rfl
theorem wk1_none {c : CT} {v : Nat} {i : Int} (h : c.h.k ≠ 3) (ho : ownV c.h v = false) : wk1 c v i = [] := by
  cases c with | mk hd l => have h' : hd.k ≠ 3 := h; have ho' : ownV hd v = false := ho; rw [wk1, if_neg h', if_neg (by rw [ho']; decide)]
mutual
theorem wk1_len : ∀ (c : CT) (v : Nat) (i : Int), (wk1 c v i).length ≤ size c
  | .mk h s, v, i => by
    have := wk_len s v 0
    rw [wk1, size]
    split
    · rw [List.length_map]; omega
    · split <;> simp
theorem wk_len : ∀ (l : List CT) (v : Nat) (i : Int), (wk l v i).length ≤ sizeL l
  | [], _, _ => by simp [wk]
  | c :: t, v, i => by
    have h1 := wk1_len c v i
    have h2 := wk_len t v (i + 1)
    rw [wk, sizeL, List.length_append]; omega
end
/-- The wysF behind a way. -/
def wysF (l : List CT) (v : Nat) (way : List Int) : List (List Int) := (wk l v 0).map fun p => way ++ p.1
/-- Where a way goes on from a condition. -/
def desc : CT → List Int → CT
  | c, [] => c
  | c, i :: w => desc (c.subs.getD i.toNat d0.1) w
def okW : CT → List Int → Prop
  | _, [] => True
  | c, i :: w => (0 ≤ i ∧ i < (c.subs.length : Int)) ∧ okW (c.subs.getD i.toNat d0.1) w
mutual
theorem wk1_at : ∀ (c : CT) (v : Nat) (i : Int), ∀ p ∈ wk1 c v i, ∃ w, p.1 = i :: w ∧ okW c w ∧ (desc c w).h.k = p.2
  | .mk h s, v, i, p, hp => by
    rw [wk1] at hp
    split at hp
    · obtain ⟨q, hq, rfl⟩ := List.mem_map.1 hp
      obtain ⟨j, w, e, hj, ho, hk⟩ := wk_at s v 0 q hq
      refine ⟨q.1, rfl, ?_, ?_⟩
      · rw [e, okW]
        refine ⟨by show 0 ≤ j ∧ j < ((CT.mk h s).subs.length : Int); exact ⟨by omega, by show j < (s.length : Int); omega⟩, ?_⟩
        rw [Int.sub_zero] at ho; exact ho
      · rw [e, desc]
        rw [Int.sub_zero] at hk; exact hk
    · rename_i h3
      split at hp
      · rw [List.mem_singleton.1 hp]
        exact ⟨[], rfl, trivial, rfl⟩
      · cases hp
theorem wk_at : ∀ (l : List CT) (v : Nat) (i : Int), ∀ p ∈ wk l v i, ∃ j w, p.1 = j :: w ∧ (i ≤ j ∧ j < i + l.length) ∧ okW (l.getD (j - i).toNat d0.1) w ∧ (desc (l.getD (j - i).toNat d0.1) w).h.k = p.2
  | [], _, _, p, hp => by rw [wk] at hp; cases hp
  | c :: t, v, i, p, hp => by
    rw [wk] at hp
    rcases List.mem_append.1 hp with hp | hp
    · obtain ⟨w, e, h1, h2⟩ := wk1_at c v i p hp
      refine ⟨i, w, e, by simp; omega, ?_⟩
      rw [Int.sub_self]
      exact ⟨h1, h2⟩
    · obtain ⟨j, w, e, hj, h1, h2⟩ := wk_at t v (i + 1) p hp
      refine ⟨j, w, e, by simp; omega, ?_⟩
      have e2 : (j - i).toNat = (j - (i + 1)).toNat + 1 := by omega
      rw [e2]
      exact ⟨h1, h2⟩
end
/-- Are all wysF in the scope of the first one? -/
def scopeOf (p : List Int × Int) : List Int := if p.2 = 1 then p.1.dropLast else p.1
def begins (sc w : List Int) : Bool := decide (sc.length ≤ w.length) && decide (w.take sc.length = sc)
def inPl : List (List Int × Int) → Bool
  | [] => true
  | p :: t => (p :: t).all fun q => begins (scopeOf p) q.1
/- The document's: where a variable stands behind its scope. -/
mutual
def out1 : CT → Nat → Int
  | .mk _ s, v => out s v
def out : List CT → Nat → Int
  | [], _ => 0
  | c :: t, v => if has c v = false then out t v else if c.h.k = 1 then 2 else if hasL t v = true then 1 else if c.h.k = 3 ∧ out1 c v = 1 then 1 else 0
end
theorem out1_eq (c : CT) (v : Nat) : out1 c v = out c.subs v := by cases c; rw [out1]; rfl
mutual
/-- All kinds are kinds, at any depth. -/
def kinds1 : CT → Prop
  | .mk h s => (h.k = 1 ∨ h.k = 2 ∨ h.k = 3) ∧ kindsL s
def kindsL : List CT → Prop
  | [] => True
  | c :: t => kinds1 c ∧ kindsL t
end
theorem kinds1_eq (c : CT) : kinds1 c = ((c.h.k = 1 ∨ c.h.k = 2 ∨ c.h.k = 3) ∧ kindsL c.subs) := by cases c; rw [kinds1]; rfl
mutual
theorem kinds1_of : ∀ (c : CT) (d : Int), check c d = 0 → kinds1 c
  | .mk h s, d, hc => by
    rw [kinds1]
    rcases check_right hc with ⟨h1, h2⟩ | ⟨h1, _, h3⟩
    · exact ⟨.inr (.inr h1), kindsL_of s _ h2⟩
    · subst h3
      refine ⟨?_, by rw [kindsL]; trivial⟩
      rcases h1 with h1 | h1
      · exact .inl h1
      · exact .inr (.inl h1)
theorem kindsL_of : ∀ (l : List CT) (d : Int), checkL l d = 0 → kindsL l
  | [], _, _ => by rw [kindsL]; trivial
  | c :: t, d, hc => by
    have h := checkL_right hc
    rw [kindsL]
    exact ⟨kinds1_of c d h.1, kindsL_of t d h.2⟩
end
mutual
theorem wk1_nil : ∀ (c : CT) (v : Nat) (i : Int), flatOk c = true → (c.h.k = 1 ∨ c.h.k = 2 ∨ c.h.k = 3) → kindsL c.subs → (wk1 c v i = [] ↔ has c v = false)
  | .mk h s, v, i, hf, hk, hks => by
    rw [flatOk, Bool.and_eq_true] at hf
    have hk' : h.k = 1 ∨ h.k = 2 ∨ h.k = 3 := hk
    rw [wk1, has]
    by_cases h3 : h.k = 3
    · rw [if_pos h3, decide_eq_false (show ¬ h.k < 3 by omega), Bool.false_and, Bool.false_or, List.map_eq_nil_iff]
      exact wk_nil s v 0 hf.2 hks
    · have hs : s = [] := by
        have h4 := hf.1
        rw [decide_eq_false h3, Bool.false_or] at h4
        simpa using h4
      subst hs
      rw [if_neg h3, decide_eq_true (show h.k < 3 by omega), Bool.true_and, hasL, Bool.or_false]
      by_cases ho : ownV h v = true
      · have ho' : ownTo h.v0 h.n0 h.v1 h.n1 h.v2 h.n2 v 3 = true := ho
        rw [if_pos ho, ho']; simp
      · have ho' : ownTo h.v0 h.n0 h.v1 h.n1 h.v2 h.n2 v 3 = false := by simpa using ho
        rw [if_neg ho, ho']; simp
theorem wk_nil : ∀ (l : List CT) (v : Nat) (i : Int), flatOkL l = true → kindsL l → (wk l v i = [] ↔ hasL l v = false)
  | [], _, _, _, _ => by simp [wk, hasL]
  | c :: t, v, i, hf, hk => by
    rw [flatOkL, Bool.and_eq_true] at hf
    rw [kindsL, kinds1_eq] at hk
    rw [wk, hasL, List.append_eq_nil_iff, Bool.or_eq_false_iff, wk1_nil c v i hf.1 hk.1.1 hk.1.2, wk_nil t v (i + 1) hf.2 hk.2]
end
theorem begins_nil (w : List Int) : begins [] w = true := by simp [begins]
theorem begins_cons (i : Int) (sc : List Int) (w : List Int) : begins (i :: sc) (i :: w) = begins sc w := by simp [begins]
theorem begins_other {i j : Int} (sc w : List Int) (h : i ≠ j) : begins (i :: sc) (j :: w) = false := by
  have : ¬ (j :: w).take (i :: sc).length = i :: sc := by
    simp only [List.length_cons, List.take_succ_cons, List.cons.injEq, not_and]
    intro h2; exact absurd h2.symm h
  rw [begins, decide_eq_false this, Bool.and_false]
theorem scope_cons {i : Int} {p : List Int × Int} (h : p.1 ≠ []) : scopeOf (i :: p.1, p.2) = i :: scopeOf p := by
  unfold scopeOf
  split
  · cases hp : p.1 with
    | nil => exact absurd hp h
    | cons a b => rfl
  · rfl
theorem inPl_some {ws ts : List (List Int × Int)} {i : Int} (hne : ws ≠ []) (hw : ∀ p ∈ ws, p.1 ≠ []) (ht : ∀ p ∈ ts, ∃ j w, p.1 = j :: w ∧ i < j) :
    inPl (ws.map (fun p => (i :: p.1, p.2)) ++ ts) = (inPl ws && decide (ts = [])) := by
  cases ws with
  | nil => exact absurd rfl hne
  | cons p t =>
    show ((((i :: p.1, p.2) :: t.map (fun p => (i :: p.1, p.2))) ++ ts).all fun q => begins (scopeOf (i :: p.1, p.2)) q.1) = _
    rw [scope_cons (hw p (by simp)), List.all_append]
    congr 1
    · show (((p :: t).map (fun p => (i :: p.1, p.2))).all _) = _
      rw [List.all_map]
      show (p :: t).all _ = (p :: t).all (fun q => begins (scopeOf p) q.1)
      congr 1
      funext q
      exact begins_cons i _ _
    · cases ts with
      | nil => rfl
      | cons q r =>
        obtain ⟨j, w, e, hj⟩ := ht q (by simp)
        rw [List.all_cons, e, begins_other _ _ (show i ≠ j by omega), Bool.false_and]
        simp
mutual
theorem inPl1 : ∀ (c : CT) (v : Nat), flatOk c = true → (c.h.k = 1 ∨ c.h.k = 2 ∨ c.h.k = 3) → kindsL c.subs → inPl (wk c.subs v 0) = decide (out1 c v ≠ 1)
  | .mk h s, v, hf, hk, hks => by
    rw [flatOk, Bool.and_eq_true] at hf
    rw [out1]
    exact inPl_out s v 0 hf.2 hks
theorem inPl_out : ∀ (l : List CT) (v : Nat) (i : Int), flatOkL l = true → kindsL l → inPl (wk l v i) = decide (out l v ≠ 1)
  | [], _, _, _, _ => by simp [wk, inPl, out]
  | c :: t, v, i, hf, hk => by
    rw [flatOkL, Bool.and_eq_true] at hf
    rw [kindsL, kinds1_eq] at hk
    have hn := wk1_nil c v i hf.1 hk.1.1 hk.1.2
    have ht := wk_nil t v (i + 1) hf.2 hk.2
    have htj : ∀ p ∈ wk t v (i + 1), ∃ j w, p.1 = j :: w ∧ i < j := fun p hp => by
      obtain ⟨j, w, e, hj, _⟩ := wk_at t v (i + 1) p hp
      exact ⟨j, w, e, by omega⟩
    rw [wk, out]
    by_cases hc : has c v = false
    · rw [if_pos hc, hn.2 hc, List.nil_append]
      exact inPl_out t v (i + 1) hf.2 hk.2
    rw [if_neg hc]
    have hh : has c v = true := by simpa using hc
    by_cases h1 : c.h.k = 1
    · rw [if_pos h1]
      have ho : ownV c.h v = true := by
        cases e : ownV c.h v with
        | true => rfl
        | false => exact absurd (hn.1 (wk1_none (by omega) e)) hc
      rw [wk1_own (by omega) ho, h1]
      have : inPl ([([i], (1 : Int))] ++ wk t v (i + 1)) = true := by
        show (([i], (1 : Int)) :: wk t v (i + 1)).all (fun q => begins (scopeOf ([i], (1 : Int))) q.1) = true
        refine List.all_eq_true.2 fun q _ => ?_
        show begins (scopeOf ([i], (1 : Int))) q.1 = true
        exact begins_nil _
      rw [this]; rfl
    rw [if_neg h1]
    have hbt : decide (wk t v (i + 1) = []) = !(hasL t v) := by
      cases e : hasL t v with
      | true => exact decide_eq_false (fun h => by rw [ht.1 h] at e; cases e)
      | false => exact decide_eq_true (ht.2 e)
    by_cases h3 : c.h.k = 3
    · rw [wk1_ncc h3]
      have hs : hasL c.subs v = true := by
        rw [has_eq, decide_eq_false (show ¬ c.h.k < 3 by omega), Bool.false_and, Bool.false_or] at hh
        exact hh
      have hne : wk c.subs v 0 ≠ [] := fun h => by
        have hfs : flatOkL c.subs = true := by
          have := hf.1
          cases c with | mk hd l => rw [flatOk, Bool.and_eq_true] at this; exact this.2
        rw [(wk_nil c.subs v 0 hfs hk.1.2).1 h] at hs; cases hs
      rw [inPl_some hne (fun p hp => by obtain ⟨j, w, e, _⟩ := wk_at c.subs v 0 p hp; rw [e]; simp) htj, inPl1 c v hf.1 hk.1.1 hk.1.2, hbt]
      by_cases ht2 : hasL t v = true
      · rw [if_pos ht2, ht2]; simp
      · rw [if_neg ht2, Bool.eq_false_iff.2 ht2]
        by_cases ho : out1 c v = 1
        · rw [if_pos ⟨h3, ho⟩]; simp [ho]
        · rw [if_neg (fun h => ho h.2)]; simp [ho]
    · have ho : ownV c.h v = true := by
        cases e : ownV c.h v with
        | true => rfl
        | false => exact absurd (hn.1 (wk1_none h3 e)) hc
      have h2 : c.h.k = 2 := by rcases hk.1.1 with h | h | h <;> omega
      rw [wk1_own h3 ho, h2]
      have e1 : inPl ([([i], (2 : Int))] ++ wk t v (i + 1)) = decide (wk t v (i + 1) = []) := by
        cases e : wk t v (i + 1) with
        | nil => simp [inPl, scopeOf, begins]
        | cons q r =>
          obtain ⟨j, w, e2, hj⟩ := htj q (by rw [e]; simp)
          show (([i], (2 : Int)) :: q :: r).all (fun q => begins (scopeOf ([i], (2 : Int))) q.1) = _
          rw [List.all_cons, List.all_cons, e2]
          have : begins (scopeOf ([i], (2 : Int))) (j :: w) = false := begins_other [] w (show i ≠ j by omega)
          rw [this]; simp
      rw [e1, hbt]
      by_cases ht2 : hasL t v = true
      · rw [if_pos ht2, ht2]; simp
      · rw [if_neg ht2, if_neg (by omega), Bool.eq_false_iff.2 ht2]; simp
end
end Go.Gx.T5

/- Plain laws of names of variables that are turned about; no program in sight. -/
namespace Go.Gx.T8
open Go.Gx Go.Gx.T3 Go.Gx.T4
def tnV (y : Int) (b : Bool) (n : Int) : Int := if b = true then (n - 1 + y) % 32 + 1 else n
def tnH (y : Int) (h : Hd) : Hd := ⟨h.k, h.v0, tnV y h.v0 h.n0, h.v1, tnV y h.v1 h.n1, h.v2, tnV y h.v2 h.n2⟩
mutual
/-- A condition with other names. -/
def tn (y : Int) : CT → CT
  | .mk h l => .mk (tnH y h) (tnL y l)
def tnL (y : Int) : List CT → List CT
  | [] => []
  | c :: t => tn y c :: tnL y t
end
theorem tn_eq (y : Int) (c : CT) : tn y c = .mk (tnH y c.h) (tnL y c.subs) := by cases c; rw [tn]; rfl
theorem tnL_append (y : Int) (a b : List CT) : tnL y (a ++ b) = tnL y a ++ tnL y b := by
  induction a with
  | nil => rfl
  | cons c t ih => simp [tnL, ih]
mutual
theorem tn_size (y : Int) : ∀ c : CT, size (tn y c) = size c
  | .mk h l => by rw [tn, size, size, tnL_size y l]
theorem tnL_size (y : Int) : ∀ l : List CT, sizeL (tnL y l) = sizeL l
  | [] => rfl
  | c :: t => by rw [tnL, sizeL, sizeL, tn_size y c, tnL_size y t]
end
def okV (b : Bool) (n : Int) : Prop := b = true → 1 ≤ n ∧ n ≤ 32
def okH (h : Hd) : Prop := okV h.v0 h.n0 ∧ okV h.v1 h.n1 ∧ okV h.v2 h.n2
mutual
/-- Names that may be, at any depth. -/
def okC : CT → Prop
  | .mk h l => okH h ∧ okCL l
def okCL : List CT → Prop
  | [] => True
  | c :: t => okC c ∧ okCL t
end
theorem okCL_append : ∀ {a b : List CT}, okCL a → okCL b → okCL (a ++ b)
  | [], _, _, h => h
  | x :: t, b, h, h2 => by
    rw [okCL] at h
    rw [List.cons_append, okCL]
    exact ⟨h.1, okCL_append h.2 h2⟩
theorem okH_head {h : Hd} (e : headOk h = true) : okH h := by
  simp only [headOk, Bool.and_eq_true] at e
  have f : ∀ b n, termRight b n = true → okV b n := by
    intro b n e hb
    subst hb
    simpa [termRight] using e
  exact ⟨f _ _ e.1, f _ _ e.2.1, f _ _ e.2.2⟩
theorem okH_none {h : Hd} (e : headNone h = true) : okH h := by
  simp only [headNone, Bool.and_eq_true, Bool.not_eq_true', decide_eq_true_eq] at e
  obtain ⟨⟨⟨a0, _⟩, a1, _⟩, a2, _⟩ := e
  exact ⟨fun hb => by (rw [a0] at hb; cases hb), fun hb => by (rw [a1] at hb; cases hb), fun hb => by (rw [a2] at hb; cases hb)⟩
mutual
theorem ok_check : ∀ (c : CT) (d : Int), check c d = 0 → okC c
  | .mk h l, d, hc => by
    rw [okC]
    rw [check] at hc
    by_cases c1 : 3 < max d 1
    · rw [if_pos c1] at hc; omega
    rw [if_neg c1] at hc
    by_cases c2 : h.k = 3
    · rw [if_pos c2] at hc
      by_cases c3 : headNone h = false
      · rw [if_pos c3] at hc; omega
      rw [if_neg c3] at hc
      by_cases c4 : l.length = 0
      · rw [if_pos c4] at hc; omega
      rw [if_neg c4] at hc
      exact ⟨okH_none (by simpa using c3), ok_checkL l _ hc⟩
    · rw [if_neg c2] at hc
      by_cases c3 : h.k ≠ 1 ∧ h.k ≠ 2
      · rw [if_pos c3] at hc; omega
      rw [if_neg c3] at hc
      by_cases c4 : headOk h = false ∨ 0 < l.length
      · rw [if_pos c4] at hc; omega
      have hl : l = [] := List.eq_nil_of_length_eq_zero (by omega)
      subst hl
      refine ⟨okH_head ?_, by rw [okCL]; trivial⟩
      cases e : headOk h with
      | true => rfl
      | false => exact absurd (.inl e) c4
theorem ok_checkL : ∀ (l : List CT) (d : Int), checkL l d = 0 → okCL l
  | [], _, _ => by rw [okCL]; trivial
  | c :: t, d, hc => by
    rw [checkL] at hc
    rw [okCL]
    by_cases h : check c d = 0
    · rw [if_pos h] at hc
      exact ⟨ok_check c d h, ok_checkL t d hc⟩
    · rw [if_neg h] at hc; exact absurd hc h
end
theorem tnV_inj {y : Int} {b : Bool} {n m : Int} (hn : okV b n) (hm : okV b m) : tnV y b n = tnV y b m ↔ n = m := by
  cases b with
  | false => simp [tnV]
  | true =>
    have h1 := hn rfl
    have h2 := hm rfl
    simp only [tnV, if_true]
    omega
theorem tnH_v (y : Int) (h : Hd) (f : Nat) : vF (tnH y h) f = vF h f := by
  match f with
  | 0 => rfl
  | 1 => rfl
  | _ + 2 => rfl
theorem tnH_n (y : Int) (h : Hd) (f : Nat) : nF (tnH y h) f = tnV y (vF h f) (nF h f) := by
  match f with
  | 0 => rfl
  | 1 => rfl
  | _ + 2 => rfl
theorem okH_at {h : Hd} (e : okH h) (f : Nat) : okV (vF h f) (nF h f) := by
  match f with
  | 0 => exact e.1
  | 1 => exact e.2.1
  | _ + 2 => exact e.2.2
theorem tn_sameF {y : Int} {h : Hd} (e : okH h) (g f : Nat) : sameF (tnH y h) g f = sameF h g f := by
  unfold sameF
  rw [tnH_v, tnH_v, tnH_n, tnH_n]
  by_cases hv : vF h g = vF h f
  · have h1 := okH_at e g
    have h2 := okH_at e f
    rw [hv] at h1 ⊢
    simp only [tnV_inj h1 h2]
  · rw [decide_eq_false hv, Bool.false_and, Bool.false_and]
theorem tn_dupF {y : Int} {h : Hd} (e : okH h) (f : Nat) : dupF (tnH y h) f = dupF h f := by
  unfold dupF
  rw [tn_sameF e, tn_sameF e]
theorem tn_firstF {y : Int} {h : Hd} {v : Int} (e : okH h) (hv : okV true v) : firstF (tnH y h) (tnV y true v) = firstF h v := by
  have f : ∀ b n, okV b n → ((b = true ∧ tnV y b n = tnV y true v) ↔ (b = true ∧ n = v)) := by
    intro b n hn
    constructor
    · rintro ⟨rfl, h2⟩; exact ⟨rfl, (tnV_inj hn hv).1 h2⟩
    · rintro ⟨rfl, h2⟩; exact ⟨rfl, (tnV_inj hn hv).2 h2⟩
  unfold firstF
  have h0 := f _ _ e.1
  have h1 := f _ _ e.2.1
  have h2 := f _ _ e.2.2
  simp only [tnH, h0, h1, h2]
theorem tn_bound {y : Int} {v : Int} (hv : okV true v) : ∀ {l : List CT} {b : Int}, okCL l → bound (tnV y true v) (tnL y l) b = bound v l b
  | [], _, _ => rfl
  | .mk h s :: t, b, e => by
    rw [okCL, okC] at e
    rw [tnL, tn, bound, bound]
    have h1 : (CT.mk (tnH y h) (tnL y s)).h = tnH y h := rfl
    have h2 : (CT.mk h s).h = h := rfl
    rw [h1, h2, tn_firstF e.1.1 hv, tn_bound hv e.2, tn_bound hv e.2]
    rfl
theorem tn_testF {y : Int} {ch : List CT} {h : Hd} (hc : okCL ch) (e : okH h) (f : Nat) : testF (tnL y ch) (tnH y h) f = testF ch h f := by
  unfold testF
  rw [tnH_v, tnH_n, tn_dupF e]
  by_cases hv : vF h f = true
  · have h1 := okH_at e f
    rw [hv] at h1 ⊢
    rw [tn_bound h1 hc]
  · rw [if_neg hv, if_neg hv]
theorem tn_testsTo {y : Int} {ch : List CT} {h : Hd} (hc : okCL ch) (e : okH h) : ∀ f, testsTo (tnL y ch) (tnH y h) f = testsTo ch h f
  | 0 => rfl
  | f + 1 => by rw [testsTo, testsTo, tn_testsTo hc e f, tn_testF hc e]
theorem tn_keyTo (y : Int) (h : Hd) (f i : Nat) : keyTo (tnH y h) f i = keyTo h f i := by
  unfold keyTo
  rw [tnH_v, tnH_n]
  by_cases hv : i < f ∧ vF h i = false
  · rw [if_pos hv, if_pos hv, hv.2]; simp [tnV]
  · rw [if_neg hv, if_neg hv]
mutual
theorem tn_step {y : Int} : ∀ (c : CT) (ch : List CT), okCL ch → okC c → stepOf (tnL y ch) (tn y c) = stepOf ch c
  | .mk h l, ch, hc, e => by
    rw [okC] at e
    rw [tn, stepOf, stepOf]
    have hk : (tnH y h).k = h.k := rfl
    rw [hk, tn_steps l ch hc e.2, tn_keyTo, tn_keyTo, tn_keyTo, tn_testsTo hc e.1]
theorem tn_steps {y : Int} : ∀ (l ch : List CT), okCL ch → okCL l → stepsOf (tnL y ch) (tnL y l) = stepsOf ch l
  | [], _, _, _ => by rw [tnL, stepsOf, stepsOf]
  | c :: t, ch, hc, e => by
    rw [okCL] at e
    rw [tnL, stepsOf, stepsOf, tn_step c ch hc e.1]
    have h1 : tnL y ch ++ [tn y c] = tnL y (ch ++ [c]) := by rw [tnL_append]; simp [tnL]
    rw [h1, tn_steps t (ch ++ [c]) (okCL_append hc (by rw [okCL]; exact ⟨e.1, by rw [okCL]; trivial⟩)) e.2]
end
end Go.Gx.T8
namespace Go.Gx.T8
open Go.Gx Go.Gx.T3 Go.Gx.T4
/-- A name, when the first f terms are turned. -/
def tnF (y : Int) (h : Hd) (f i : Nat) : Int := if i < f then tnV y (vF h i) (nF h i) else nF h i
end Go.Gx.T8

/- Plain laws of names and symbols; no program in sight. -/
namespace Go.Gx.T1
open Go.Gx

def okb (n : Nat) : Bool := decide ((97 ≤ n ∧ n ≤ 122) ∨ (65 ≤ n ∧ n ≤ 90) ∨ (48 ≤ n ∧ n ≤ 57) ∨ n = 45 ∨ n = 95)
def okTo (s : ByteArray) (k : Nat) : Prop := ∀ i, i < k → okb (byteAt s i) = true
theorem okTo_zero (s : ByteArray) : okTo s 0 := fun _ h => by omega
theorem okTo_succ {s : ByteArray} {k : Nat} (h : okTo s k) (hk : okb (byteAt s k) = true) : okTo s (k + 1) := fun i hi => by
  by_cases e : i = k
  · subst e; exact hk
  · exact h i (by omega)
instance (s : ByteArray) (k : Nat) : Decidable (okTo s k) := Nat.decidableBallLT k (fun i _ => okb (byteAt s i) = true)
def symRight (s : ByteArray) : Bool := decide ((1 ≤ s.size ∧ s.size ≤ 32) ∧ okTo s s.size)
theorem symRight_yes {s : ByteArray} (h : 1 ≤ s.size ∧ s.size ≤ 32) (h2 : okTo s s.size) : symRight s = true := decide_eq_true ⟨h, h2⟩
theorem symRight_size {s : ByteArray} (h : ¬ (1 ≤ s.size ∧ s.size ≤ 32)) : symRight s = false := decide_eq_false (fun h2 => h h2.1)
theorem symRight_bad {s : ByteArray} {k : Nat} (hk : k < s.size) (h : okb (byteAt s k) = false) : symRight s = false := decide_eq_false (fun h2 => by
  have := h2.2 k hk
  rw [h] at this; cases this)

def sc (s : ByteArray) : List Value := [.string s]

/-- The place of s, from 1 on; 0: it isn't there. -/
def fnd : List ByteArray → ByteArray → Nat → Nat
  | [], _, _ => 0
  | x :: t, s, i => if x = s then i + 1 else fnd t s (i + 1)

def ix : List ByteArray → Nat → List (ByteArray × Int)
  | [], _ => []
  | x :: t, i => (x, ((i + 1 : Nat) : Int)) :: ix t (i + 1)

theorem fnd_le (s : ByteArray) : ∀ (l : List ByteArray) (i : Nat), fnd l s i ≤ i + l.length ∧ (fnd l s i ≠ 0 → i < fnd l s i)
  | [], i => by simp [fnd]
  | x :: t, i => by
    simp only [fnd, List.length_cons]
    split
    · omega
    · have := fnd_le s t (i + 1)
      omega

/-- Intern: the list behind it, the symbol, the error. -/
def intern (l : List ByteArray) (s : ByteArray) : List ByteArray × Nat × Nat :=
  if symRight s = true then (if 0 < fnd l s 0 then (l, fnd l s 0, 0) else if 4096 ≤ l.length then (l, 0, 15) else (l ++ [s], l.length + 1, 0)) else (l, 0, 1)

theorem intern_1 {l : List ByteArray} {s : ByteArray} (h : symRight s = false) : intern l s = (l, 0, 1) := by unfold intern; rw [if_neg (by rw [h]; simp)]
theorem intern_2 {l : List ByteArray} {s : ByteArray} (h : symRight s = true) (h2 : 0 < fnd l s 0) : intern l s = (l, fnd l s 0, 0) := by unfold intern; rw [if_pos h, if_pos h2]
theorem intern_3 {l : List ByteArray} {s : ByteArray} (h : symRight s = true) (h2 : ¬ 0 < fnd l s 0) (h3 : 4096 ≤ l.length) : intern l s = (l, 0, 15) := by unfold intern; rw [if_pos h, if_neg h2, if_pos h3]
theorem intern_4 {l : List ByteArray} {s : ByteArray} (h : symRight s = true) (h2 : ¬ 0 < fnd l s 0) (h3 : l.length < 4096) : intern l s = (l ++ [s], l.length + 1, 0) := by unfold intern; rw [if_pos h, if_neg h2, if_neg (by omega)]

def nameAt (l : List ByteArray) (n : Int) : ByteArray := if 1 ≤ n ∧ n ≤ (l.length : Int) then l.getD (n - 1).toNat .empty else .empty
/-- What was interned and is remembered: symbol and name. -/
structure Had (h : List (Int × ByteArray)) (l : List ByteArray) : Prop where
  nodup : (h.map (·.1)).Nodup
  at_ : ∀ n s, lkp h n = some s ↔ (1 ≤ n ∧ n ≤ (l.length : Int)) ∧ l.getD (n - 1).toNat .empty = s
  len : h.length = l.length
  uniq : ∀ i, i < l.length → fnd l (l.getD i .empty) 0 = i + 1

theorem Had.nil : Had [] [] := ⟨by simp, fun n s => by simp [lkp]; omega, rfl, fun i h => by simp at h⟩

theorem fnd_snoc (s x : ByteArray) : ∀ (l : List ByteArray) (i : Nat), fnd (l ++ [x]) s i = if fnd l s i = 0 then (if x = s then i + l.length + 1 else 0) else fnd l s i
  | [], i => by simp [fnd]
  | y :: t, i => by
    simp only [List.cons_append, fnd]
    by_cases h : y = s
    · simp [h]
    · simp only [h, if_false, fnd_snoc s x t (i + 1), List.length_cons]
      congr 2
      omega

theorem fnd_getD {l : List ByteArray} {s : ByteArray} : ∀ {i : Nat}, fnd l s i ≠ 0 → l.getD (fnd l s i - i - 1) .empty = s := by
  induction l with
  | nil => intro i h; simp [fnd] at h
  | cons x t ih =>
    intro i h
    simp only [fnd] at h ⊢
    by_cases hx : x = s
    · simp [hx]
    · simp only [hx, if_false] at h ⊢
      have h1 := ih h
      have h2 := (fnd_le s t (i + 1)).2 h
      have e : fnd t s (i + 1) - i - 1 = (fnd t s (i + 1) - (i + 1) - 1) + 1 := by omega
      rw [e, List.getD_cons_succ]
      exact h1

/-- One more name. -/
theorem Had.new {h : List (Int × ByteArray)} {l : List ByteArray} {s : ByteArray} (H : Had h l) (hf : ¬ 0 < fnd l s 0) : lkp h ((l.length + 1 : Nat) : Int) = none ∧ Had (mput h ((l.length + 1 : Nat) : Int) s) (l ++ [s]) := by
  have hno : lkp h ((l.length + 1 : Nat) : Int) = none := by
    cases e : lkp h ((l.length + 1 : Nat) : Int) with
    | none => rfl
    | some u => have := (H.at_ _ _).1 e; omega
  refine ⟨hno, mput_nodup H.nodup _ _, fun n u => ?_, by rw [mput_none hno]; simp [H.len], fun i hi => ?_⟩
  · rw [lkp_mput]
    by_cases hn : ((l.length + 1 : Nat) : Int) = n
    · subst hn
      have e1 : (((l.length + 1 : Nat) : Int) - 1).toNat = l.length := by omega
      rw [if_pos rfl, e1]
      simp [List.getD]
      omega
    · rw [if_neg hn, H.at_]
      have key : (1 ≤ n ∧ n ≤ (l.length : Int)) → (l ++ [s]).getD (n - 1).toNat .empty = l.getD (n - 1).toNat .empty := fun h1 => by
        simp only [List.getD]
        rw [List.getElem?_append_left (by omega)]
      constructor
      · rintro ⟨h1, h2⟩
        exact ⟨⟨h1.1, by simp; omega⟩, by rw [key h1]; exact h2⟩
      · rintro ⟨h1, h2⟩
        have h3 : 1 ≤ n ∧ n ≤ (l.length : Int) := ⟨h1.1, by have := h1.2; simp at this; omega⟩
        exact ⟨h3, by rw [← key h3]; exact h2⟩
  · rw [fnd_snoc]
    simp at hi
    by_cases hl : i < l.length
    · have e1 : (l ++ [s]).getD i .empty = l.getD i .empty := by
        simp only [List.getD]; rw [List.getElem?_append_left hl]
      rw [e1, H.uniq i hl, if_neg (by omega)]
    · have e1 : i = l.length := by omega
      subst e1
      have e2 : (l ++ [s]).getD l.length .empty = s := by simp [List.getD]
      rw [e2, if_pos (by omega), if_pos rfl]; omega

/-- A name that is there. -/
theorem Had.old {h : List (Int × ByteArray)} {l : List ByteArray} {s : ByteArray} (H : Had h l) (hf : 0 < fnd l s 0) : lkp h ((fnd l s 0 : Nat) : Int) = some s ∧ mput h ((fnd l s 0 : Nat) : Int) s = h := by
  have h1 := fnd_le s l 0
  have h2 : lkp h ((fnd l s 0 : Nat) : Int) = some s := by
    rw [H.at_]
    refine ⟨⟨by omega, by omega⟩, ?_⟩
    have := fnd_getD (l := l) (s := s) (i := 0) (by omega)
    have e : (((fnd l s 0 : Nat) : Int) - 1).toNat = fnd l s 0 - 0 - 1 := by omega
    rw [e]; exact this
  exact ⟨h2, mput_same h2⟩

/-- What is remembered is found by both ways. -/
theorem Had.says {h : List (Int × ByteArray)} {l : List ByteArray} (H : Had h l) {p : Int × ByteArray} (hp : p ∈ h) : ((fnd l p.2 0 : Nat) : Int) = p.1 ∧ (1 ≤ p.1 ∧ p.1 ≤ (l.length : Int)) ∧ nameAt l p.1 = p.2 := by
  have h1 := (H.at_ p.1 p.2).1 (lkp_mem H.nodup hp)
  obtain ⟨h2, h3⟩ := h1
  have h4 := H.uniq (p.1 - 1).toNat (by omega)
  rw [h3] at h4
  refine ⟨by omega, h2, ?_⟩
  unfold nameAt
  rw [if_pos h2, h3]

theorem Had.step {h : List (Int × ByteArray)} {l : List ByteArray} {s : ByteArray} (H : Had h l) (he : (((intern l s).2.2 : Nat) : Int) = 0) :
    Had (mput h (((intern l s).2.1 : Nat) : Int) s) (intern l s).1 ∧ ∀ x, lkp h (((intern l s).2.1 : Nat) : Int) = some x → x = s := by
  by_cases h1 : symRight s = true
  · by_cases h2 : 0 < fnd l s 0
    · rw [intern_2 h1 h2]
      obtain ⟨h3, h4⟩ := H.old h2
      simp only [h4]
      exact ⟨H, fun x hx => by rw [h3] at hx; cases hx; rfl⟩
    · by_cases h3 : 4096 ≤ l.length
      · rw [intern_3 h1 h2 h3] at he; simp at he
      · rw [intern_4 h1 h2 (by omega)]
        obtain ⟨h4, h5⟩ := H.new h2
        exact ⟨h5, fun x hx => by simp only at hx; rw [h4] at hx; cases hx⟩
  · rw [intern_1 (by simpa using h1)] at he; simp at he

end Go.Gx.T1

/- Plain laws of rules: what is wrong with one; the first conditions of one; names that are turned about; no program in sight. -/
namespace Go.Gx.T5
open Go.Gx Go.Gx.T1 Go.Gx.T3 Go.Gx.T4 Go.Gx.T8 Go.Gx.T6
def anyBad (l : List CT) : Bool := (List.range 32).any fun j => decide (out l (j + 1) = 1)
theorem anyBad_yes {l : List CT} {v : Nat} (h1 : 1 ≤ v) (h2 : v ≤ 32) (h : out l v = 1) : anyBad l = true := by
  refine List.any_eq_true.2 ⟨v - 1, List.mem_range.2 (by omega), ?_⟩
  rw [show v - 1 + 1 = v by omega]; exact decide_eq_true h
theorem anyBad_no {l : List CT} (h : ∀ v, 1 ≤ v → v < 33 → out l v ≠ 1) : anyBad l = false := by
  rw [anyBad, List.any_eq_false]
  intro j hj
  have := List.mem_range.1 hj
  simpa using h (j + 1) (by omega) (by omega)
/-- The error's number. -/
def ruleChk (s : ByteArray) (l : List CT) : Int := if symRight s = false then 1 else if l.length = 0 then 2 else if checkL l 1 ≠ 0 then checkL l 1 else if 16 < sizeL l then 7 else if anyBad l = true then 6 else 0
section
variable {s : ByteArray} {l : List CT}
theorem chk_name (h : symRight s = false) : ruleChk s l = 1 := by rw [ruleChk, if_pos h]
theorem chk_empty (h : symRight s = true) (h2 : l.length = 0) : ruleChk s l = 2 := by rw [ruleChk, if_neg (by rw [h]; decide), if_pos h2]
theorem chk_bad (h : symRight s = true) (h2 : ¬ l.length = 0) (h3 : checkL l 1 ≠ 0) : ruleChk s l = checkL l 1 := by rw [ruleChk, if_neg (by rw [h]; decide), if_neg h2, if_pos h3]
theorem chk_long (h : symRight s = true) (h2 : ¬ l.length = 0) (h3 : checkL l 1 = 0) (h4 : 16 < sizeL l) : ruleChk s l = 7 := by rw [ruleChk, if_neg (by rw [h]; decide), if_neg h2, if_neg (by rw [h3]; decide), if_pos h4]
theorem chk_scope (h : symRight s = true) (h2 : ¬ l.length = 0) (h3 : checkL l 1 = 0) (h4 : ¬ 16 < sizeL l) (h5 : anyBad l = true) : ruleChk s l = 6 := by rw [ruleChk, if_neg (by rw [h]; decide), if_neg h2, if_neg (by rw [h3]; decide), if_neg h4, if_pos h5]
theorem chk_ok (h : symRight s = true) (h2 : ¬ l.length = 0) (h3 : checkL l 1 = 0) (h4 : ¬ 16 < sizeL l) (h5 : anyBad l = false) : ruleChk s l = 0 := by rw [ruleChk, if_neg (by rw [h]; decide), if_neg h2, if_neg (by rw [h3]; decide), if_neg h4, if_neg (by rw [h5]; decide)]
theorem checkL_all {d : Int} : ∀ {l : List CT}, (∀ c ∈ l, check c d = 0) → checkL l d = 0
  | [], _ => by rw [checkL]
  | c :: t, h => by rw [checkL, if_pos (h c (by simp))]; exact checkL_all (fun x hx => h x (by simp [hx]))
/-- A rule that is right. -/
theorem chk_zero (h : ruleChk s l = 0) : symRight s = true ∧ l.length ≠ 0 ∧ checkL l 1 = 0 ∧ sizeL l ≤ 16 ∧ anyBad l = false := by
  unfold ruleChk at h
  split at h
  · omega
  rename_i h1
  split at h
  · omega
  rename_i h2
  split at h
  · rename_i h3; exact absurd h h3
  rename_i h3
  split at h
  · omega
  rename_i h4
  split at h
  · omega
  rename_i h5
  exact ⟨by simpa using h1, h2, Decidable.not_not.1 h3, by omega, by simpa using h5⟩
end
/-! ### the first conditions -/
/-! ### how many Pos -/
def posC (l : List CT) : Nat := l.countP fun c => decide (c.h.k = 1)
theorem posC_le (l : List CT) : posC l ≤ l.length := List.countP_le_length
/-! ### names that are turned about; what is none stays -/
def tvV (y : Int) (b : Bool) (n : Int) : Int := if (b = true ∧ 1 ≤ n) ∧ n ≤ 32 then (n - 1 + y) % 32 + 1 else n
def tvH (y : Int) (h : Hd) : Hd := ⟨h.k, h.v0, tvV y h.v0 h.n0, h.v1, tvV y h.v1 h.n1, h.v2, tvV y h.v2 h.n2⟩
mutual
def tv (y : Int) : CT → CT
  | .mk h l => .mk (tvH y h) (tvL y l)
def tvL (y : Int) : List CT → List CT
  | [] => []
  | c :: t => tv y c :: tvL y t
end
theorem tvL_len (y : Int) : ∀ l : List CT, (tvL y l).length = l.length
  | [] => rfl
  | c :: t => by simp [tvL, tvL_len y t]
mutual
theorem tv_size (y : Int) : ∀ c : CT, size (tv y c) = size c
  | .mk h l => by rw [tv, size, size, tvL_size y l]
theorem tvL_size (y : Int) : ∀ l : List CT, sizeL (tvL y l) = sizeL l
  | [] => rfl
  | c :: t => by rw [tvL, sizeL, sizeL, tv_size y c, tvL_size y t]
end
def tvF (y : Int) (h : Hd) (f i : Nat) : Int := if i < f then tvV y (vF h i) (nF h i) else nF h i
theorem tv_termRight (y : Int) (b : Bool) (n : Int) : termRight b (tvV y b n) = termRight b n := by
  unfold tvV
  split
  · rename_i h
    have hb := h.1.1
    subst hb
    have h2 := h.1.2
    simp only [termRight, if_true]
    exact decide_eq_decide.2 (by omega)
  · rfl
theorem tv_none (y : Int) (b : Bool) (n : Int) : (!b && decide (tvV y b n = 0)) = (!b && decide (n = 0)) := by
  cases b with
  | true => rfl
  | false => simp [tvV]
theorem tv_headOk (y : Int) (h : Hd) : headOk (tvH y h) = headOk h := by simp only [headOk, tvH, tv_termRight]
theorem tv_headNone (y : Int) (h : Hd) : headNone (tvH y h) = headNone h := by
  show (!h.v0 && decide (tvV y h.v0 h.n0 = 0) && (!h.v1 && decide (tvV y h.v1 h.n1 = 0)) && (!h.v2 && decide (tvV y h.v2 h.n2 = 0))) = (!h.v0 && decide (h.n0 = 0) && (!h.v1 && decide (h.n1 = 0)) && (!h.v2 && decide (h.n2 = 0)))
  rw [tv_none, tv_none, tv_none]
mutual
theorem tv_check (y : Int) : ∀ (c : CT) (d : Int), check (tv y c) d = check c d
  | .mk h l, d => by
    have hk : (tvH y h).k = h.k := rfl
    rw [tv, check, check, tv_headOk, tv_headNone, tv_checkL y l, tvL_len, hk]
theorem tv_checkL (y : Int) : ∀ (l : List CT) (d : Int), checkL (tvL y l) d = checkL l d
  | [], _ => by rw [tvL]
  | c :: t, d => by rw [tvL, checkL, checkL, tv_check y c, tv_checkL y t]
end
theorem tvH_ok {y : Int} {h : Hd} (e : okH h) : tvH y h = tnH y h := by
  have f : ∀ b n, okV b n → tvV y b n = tnV y b n := by
    intro b n hn
    unfold tvV tnV
    cases b with
    | false => simp
    | true => have := hn rfl; simp [this]
  unfold tvH tnH
  rw [f _ _ e.1, f _ _ e.2.1, f _ _ e.2.2]
mutual
theorem tv_ok {y : Int} : ∀ c : CT, okC c → tv y c = tn y c
  | .mk h l, e => by rw [okC] at e; rw [tv, tn, tvH_ok e.1, tvL_ok l e.2]
theorem tvL_ok {y : Int} : ∀ l : List CT, okCL l → tvL y l = tnL y l
  | [], _ => rfl
  | c :: t, e => by rw [okCL] at e; rw [tvL, tnL, tv_ok c e.1, tvL_ok t e.2]
end
/-- A name that is turned. -/
def tnN (y v : Nat) : Nat := (v - 1 + y) % 32 + 1
theorem owns_tn {y v : Nat} {b : Bool} {n : Int} (hn : okV b n) (hv : 1 ≤ v ∧ v ≤ 32) : owns b (tnV (y : Int) b n) (tnN y v) = owns b n v := by
  cases b with
  | false => simp [owns]
  | true =>
    have := hn rfl
    simp only [owns, tnV, tnN, if_true, Bool.true_and]
    exact decide_eq_decide.2 (by omega)
theorem ownTo_tn {y v : Nat} {h : Hd} (e : okH h) (hv : 1 ≤ v ∧ v ≤ 32) : ownTo (tnH y h).v0 (tnH y h).n0 (tnH y h).v1 (tnH y h).n1 (tnH y h).v2 (tnH y h).n2 (tnN y v) 3 = ownTo h.v0 h.n0 h.v1 h.n1 h.v2 h.n2 v 3 := by
  simp only [ownTo, tnH, owns_tn e.1 hv, owns_tn e.2.1 hv, owns_tn e.2.2 hv]
mutual
theorem has_tn {y v : Nat} (hv : 1 ≤ v ∧ v ≤ 32) : ∀ c : CT, okC c → has (tn y c) (tnN y v) = has c v
  | .mk h l, e => by
    rw [okC] at e
    have hk : (tnH (y : Int) h).k = h.k := rfl
    rw [tn, has, has, hasL_tn hv l e.2, ownTo_tn e.1 hv, hk]
theorem hasL_tn {y v : Nat} (hv : 1 ≤ v ∧ v ≤ 32) : ∀ l : List CT, okCL l → hasL (tnL y l) (tnN y v) = hasL l v
  | [], _ => rfl
  | c :: t, e => by rw [okCL] at e; rw [tnL, hasL, hasL, has_tn hv c e.1, hasL_tn hv t e.2]
end
mutual
theorem out1_tn {y v : Nat} (hv : 1 ≤ v ∧ v ≤ 32) : ∀ c : CT, okC c → out1 (tn y c) (tnN y v) = out1 c v
  | .mk h l, e => by rw [okC] at e; rw [tn, out1, out1, out_tn hv l e.2]
theorem out_tn {y v : Nat} (hv : 1 ≤ v ∧ v ≤ 32) : ∀ l : List CT, okCL l → out (tnL y l) (tnN y v) = out l v
  | [], _ => rfl
  | c :: t, e => by
    rw [okCL] at e
    have hk : (tn (y : Int) c).h.k = c.h.k := by rw [tn_eq]; rfl
    rw [tnL, out, out, has_tn hv c e.1, out_tn hv t e.2, hasL_tn hv t e.2, out1_tn hv c e.1, hk]
end
end Go.Gx.T5
namespace Go.Gx.T5
open Go.Gx Go.Gx.T1 Go.Gx.T3 Go.Gx.T4 Go.Gx.T8 Go.Gx.T6
abbrev termsL (h : Hd) : List TT := [(h.v0, h.n0), (h.v1, h.n1), (h.v2, h.n2)]
/-- Ways with their values. -/
abbrev WyC (G : Ghost) (z : List (List Int × Value)) : Prop := ∀ q ∈ z, SlL G q.2 1 cI 0 q.1
theorem WyC.mono {G G' : Ghost} {z : List (List Int × Value)} (h : WyC G z) (hle : GLe G G') : WyC G' z := fun q hq => (h q hq).mono hle
theorem WyC.snoc {G : Ghost} {z : List (List Int × Value)} {v : Value} {l : List Int} (h : WyC G z) (hl : SlL G v 1 cI 0 l) : WyC G (z ++ [(l, v)]) := fun q hq => by
  rcases List.mem_append.1 hq with h1 | h1
  · exact h q h1
  · rw [List.mem_singleton.1 h1]; exact hl
theorem sub_size5 {rs : List (CT × Value)} {k : Nat} (hk : k < rs.length) : SizeOf.sizeOf (rs.getD k d0).1.subs < SizeOf.sizeOf (rs.map Prod.fst) := by
  have h1 : (rs.getD k d0).1 ∈ rs.map Prod.fst := List.mem_map.2 ⟨_, getD_mem hk, rfl⟩
  have h2 := List.sizeOf_lt_of_mem h1
  have h3 := size_subs (rs.getD k d0).1
  omega
end Go.Gx.T5
namespace Go.Gx.T5
open Go.Gx Go.Gx.T1 Go.Gx.T3 Go.Gx.T4 Go.Gx.T8 Go.Gx.T6
abbrev es5 : List Int × Value := ([], .slice none 0 0)
theorem checkL_at {rs : List (CT × Value)} {k : Nat} {d : Int} (hk : k < rs.length) (h : ∀ c ∈ (rs.map Prod.fst).take k, check c d = 0) (hb : check (rs.getD k d0).1 d ≠ 0) : checkL (rs.map Prod.fst) d = check (rs.getD k d0).1 d := by
  have e : rs.map Prod.fst = (rs.map Prod.fst).take k ++ ((rs.getD k d0).1 :: (rs.map Prod.fst).drop (k + 1)) := by
    rw [← map_drop (d := d0) hk, List.take_append_drop]
  rw [e]
  generalize (rs.map Prod.fst).take k = a at h
  induction a with
  | nil => exact checkL_no hb
  | cons x t ih => rw [List.cons_append, checkL_ok (h x (by simp))]; exact ih (fun c hc => h c (by simp [hc]))
section
variable {rs : List (CT × Value)} {k v : Nat}
theorem out_skip (hk : k < rs.length) (h : has (rs.getD k d0).1 v = false) : out ((rs.map Prod.fst).drop k) v = out ((rs.map Prod.fst).drop (k + 1)) v := by
  rw [map_drop (d := d0) hk, out, if_pos h]
theorem out_pos (hk : k < rs.length) (h : has (rs.getD k d0).1 v = true) (h1 : (rs.getD k d0).1.h.k = 1) : out ((rs.map Prod.fst).drop k) v = 2 := by
  rw [map_drop (d := d0) hk, out, if_neg (by rw [h]; decide), if_pos h1]
theorem out_rest (hk : k < rs.length) (h : has (rs.getD k d0).1 v = true) (h1 : ¬ (rs.getD k d0).1.h.k = 1) (h2 : hasL ((rs.map Prod.fst).drop (k + 1)) v = true) : out ((rs.map Prod.fst).drop k) v = 1 := by
  rw [map_drop (d := d0) hk, out, if_neg (by rw [h]; decide), if_neg h1, if_pos h2]
theorem out_in (hk : k < rs.length) (h : has (rs.getD k d0).1 v = true) (h1 : ¬ (rs.getD k d0).1.h.k = 1) (h2 : hasL ((rs.map Prod.fst).drop (k + 1)) v = false) (h3 : (rs.getD k d0).1.h.k = 3) (h4 : out (rs.getD k d0).1.subs v = 1) : out ((rs.map Prod.fst).drop k) v = 1 := by
  rw [map_drop (d := d0) hk, out, if_neg (by rw [h]; decide), if_neg h1, if_neg (by rw [h2]; decide), if_pos ⟨h3, by rw [out1_eq]; exact h4⟩]
theorem out_zero (hk : k < rs.length) (h : has (rs.getD k d0).1 v = true) (h1 : ¬ (rs.getD k d0).1.h.k = 1) (h2 : hasL ((rs.map Prod.fst).drop (k + 1)) v = false) (h3 : ¬ ((rs.getD k d0).1.h.k = 3 ∧ out (rs.getD k d0).1.subs v = 1)) : out ((rs.map Prod.fst).drop k) v = 0 := by
  rw [map_drop (d := d0) hk, out, if_neg (by rw [h]; decide), if_neg h1, if_neg (by rw [h2]; decide), if_neg (by rw [out1_eq]; exact h3)]
end
def fineR (s : ByteArray) (l : List CT) : Bool := (small 21 (.mk h0 l) 5 0).1 && decide ((s.size : Int) ≤ 200) && decide (ruleChk s l = 0)
theorem small_sz {m : Nat} {l : List CT} (h : (small m (.mk h0 l) 5 0).1 = true) : sizeL l ≤ m := by
  have := small_le h
  rw [size_eq] at this
  have e : (CT.mk h0 l).subs = l := rfl
  rw [e] at this; omega
end Go.Gx.T5
namespace Go.Gx.T5
open Go.Gx Go.Gx.T1 Go.Gx.T3 Go.Gx.T4 Go.Gx.T8 Go.Gx.T6
abbrev nmr : ByteArray := ⟨#[114]⟩
abbrev L52 : List CT := [.mk ⟨1, true, 1, false, 1, false, 2⟩ [], .mk ⟨2, true, 1, false, 3, true, 2⟩ []]
abbrev L53 : List CT := [.mk ⟨1, true, 1, false, 1, false, 2⟩ [], .mk ⟨2, true, 1, false, 3, true, 2⟩ [], .mk ⟨1, true, 2, false, 1, false, 4⟩ []]
end Go.Gx.T5
namespace Go.Gx.T5
open Go.Gx Go.Gx.T1 Go.Gx.T3 Go.Gx.T4 Go.Gx.T8 Go.Gx.T6
theorem fine_yes {nm : ByteArray} {l : List CT} (h : fineR nm l = true) : sizeL l ≤ 21 ∧ ruleChk nm l = 0 := by
  unfold fineR at h
  rw [Bool.and_eq_true, Bool.and_eq_true] at h
  exact ⟨small_sz (m := 21) h.1.1, of_decide_eq_true h.2⟩
end Go.Gx.T5
