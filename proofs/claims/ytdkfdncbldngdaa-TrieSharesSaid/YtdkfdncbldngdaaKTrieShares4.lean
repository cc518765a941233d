/- Texts of this work, laid together: a logic of steps, plain laws, and walks of Go functions, each without a condition but those that its theorems name. -/
import Derived.Test.YtdkfdncbldngdaaKTrieShares3
import Derived.Test.YtdkfdncbldngdaaRows
import Derived.Shelf.SlSortCmp.NoneTotal
import Derived.Shelf.Small.Bits
import Derived.Shelf.Small.Wraps
import Derived.Shelf.Strconv.Itoa0
import Derived.Shelf.Sort.Plain
import Derived.Shelf.Slices.Reverse
import Derived.Ground.Names2Prog
import Derived.Shelf.Slices.Clone
import Derived.Shelf.Slices.CompactI
import Derived.Shelf.Slices.SearchI
import Derived.Shelf.Slices.Cells
import Derived.Shelf.Slices.In.SortNone
import Derived.Ground.SlgnProg
import Derived.Shelf.SlicesE.Clone
import Derived.Shelf.SlGeneric
import Derived.Ground.GgzProg
import Derived.Shelf.SlIterI.Nil
import Derived.Test.YtdkfdncbldngdaaProg
/- Walks: what Go functions of this chapter come to, each as a function on plain data; no condition but those that each theorem names. Printed by a program of this work (gen.py). -/
namespace Go.Proofs.Ytdkfdncbldngdaa
open Go.Gx Go.Gx.T4 Go.Gx.T3 Go.Gx.T6 Go.Gx.T8 Go.Gx.T4 Go.Gx.T3 Go.Gx.T8 Go.Gx.T4 Go.Gx.T3 Go.Gx.T8 Go.Gx.T6 Go.Gx.T4 Go.Gx.T3
theorem cl14 : Callable Try.prog 14 := callable Try.func14 (by kernel_rfl) rfl
theorem bs29_10s3 (a0 : Option Addr) (a1 a2 : Nat) : Instr.fill (fun i => some (i * 1, 1)) ((Array.range (1 * 1)).map ((Value.slice none 0 0).cells[· % (Value.slice none 0 0).cells.size]!)) [(0, Value.slice a0 a1 a2)] = some #[Value.slice a0 a1 a2] := by
 kernel_rfl
theorem el29 : ElemIs Try.prog 29 1 24 (Value.slice none 0 0) := by
 unfold ElemIs
 kernel_rfl
def RchSIs (n : Nat) : Prop := ∀ (va vl : Value) (es : List SVal) (l : List ST) (G : Ghost) (F : Nat → Prop) (w : World), SizeOf.sizeOf l ≤ n → es.length + sszL l ≤ 5000 → (∀ p ∈ es, SlL G p.2.1 3 tC t0 p.1.h.ts) → (∀ p ∈ es, Ss G p.2.2 p.1.subs) → Ss G vl l → Has G w → (rowA va 90 6 es.length (es.flatMap sC)).holds w F → (∀ b, F b → G b = none) → Calls Try.prog 14 #[va, vl] w (Ret fun r w' => ∃ G', GNew w F G G' ∧ Has G' w' ∧ Ls (fun G v l => Ss G v l) ([] : List ST) G' r (schains (es.map Prod.fst) l) ∧ KeptG (rowA va 90 6 es.length (es.flatMap sC)) F G' w w')
theorem c_rchS_s (n : Nat) (ih : RchSIs n) (va vl : Value) (es : List SVal) (l : List ST) {G : Ghost} {F : Nat → Prop} (hz : SizeOf.sizeOf l ≤ n + 1) (hsz : es.length + sszL l ≤ 5000) (het : ∀ p ∈ es, SlL G p.2.1 3 tC t0 p.1.h.ts) (hes : ∀ p ∈ es, Ss G p.2.2 p.1.subs) (hs : Ss G vl l) (w : World) (hG : Has G w) (hA : (rowA va 90 6 es.length (es.flatMap sC)).holds w F) (hFG : ∀ b, F b → G b = none) :
  Calls Try.prog 14 #[va, vl] w (Ret fun r w' => ∃ G', GNew w F G G' ∧ Has G' w' ∧ Ls (fun G v l => Ss G v l) ([] : List ST) G' r (schains (es.map Prod.fst) l) ∧ KeptG (rowA va 90 6 es.length (es.flatMap sC)) F G' w w') := by
 refine enterO (args := [_, _]) (G := G) (A := rowA va 90 6 es.length (es.flatMap sC)) (l := [(0, va), (1, vl)]) Try.func14 rfl Try.ntmps14 hG hA hFG ⟨rfl, rfl, trivial⟩ (Nat.le_of_ble_eq_true rfl) ?_
 obtain ⟨rs, hr, hpt, hps, rfl⟩ := hs.inv
 have hbd := hr.bound
 refine c_seq ?_
 refine c_region ?_
 refine r_val .none rfl (p_assign rfl) ?_
 refine r_nil ?_
 refine e_next ?_
 refine c_seq ?_
 refine c_region ?_
 refine r_val .none rfl (p_assign rfl) ?_
 refine r_nil ?_
 refine e_next ?_
 refine c_seq ?_
 refine c_seq ?_
 refine c_region ?_
 refine r_val .none rfl (p_move rfl) ?_
 refine r_val .none rfl (p_leng Try.underlying29 rfl hr) ?_
 have bd_1 := (hr).bound
 refine r_val .none rfl (p_move rfl) ?_
 refine r_nil ?_
 refine e_next ?_
 refine c_block ?_
 refine c_nilrow 29 1 ?_
 refine c_name (d := 0) rfl (fun u_2 hu_2 => ?_)
 refine c_name (d := 1) rfl (fun u_3 hu_3 => ?_)
 refine c_name (d := 4) rfl (fun u_4 hu_4 => ?_)
 refine c_name (d := 9) rfl (fun u_5 hu_5 => ?_)
 refine c_name (d := 10) rfl (fun u_6 hu_6 => ?_)
 refine c_nameL (k := 1) rfl (fun A_7 hA_7 => ?_)
 refine c_loop (σ := Nat × Value × List (List ST × Value) × Ghost) (fun s => [(11, Value.int .i64 (s.1 : Nat)), (5, s.2.1), (0, u_2), (1, u_3), (4, u_4), (9, u_5), (10, u_6)]) (fun s => [rowA (s.2.1) 29 1 (s.2.2.1).length ((s.2.2.1).flatMap lC), A_7]) (fun s => s.2.2.2) (fun s => s.1 ≤ rs.length ∧ s.2.2.1.map Prod.fst = schains (es.map Prod.fst) ((rs.map Prod.fst).take s.1) ∧ StC s.2.2.2 s.2.2.1 ∧ GNew w F G s.2.2.2) (fun s => rs.length - s.1) ((0, _, [], _)) ⟨Nat.zero_le _, by simp [schains], by simp [StC], GNew.refl _ _ _⟩ rfl ⟨rfl, rfl, rfl, rfl, rfl, rfl, rfl, trivial⟩ (.keep (fun _ _ h => rowA_nil rfl _ _ h) (.keep (fun _ _ h => h) (.nil))) (fun s hphi => ?_)
 subst hu_2
 subst hu_3
 subst hu_4
 subst hu_5
 subst hu_6
 subst hA_7
 obtain ⟨k, v, z, H⟩ := s
 obtain ⟨hk, hzq, hzc, hgn⟩ := hphi
 dsimp only at hk hzq hzc hgn ⊢
 have hzl : z.length = (schains (es.map Prod.fst) ((rs.map Prod.fst).take k)).length := by have := congrArg List.length hzq; simpa using this
 have hcl := schains_len ((rs.map Prod.fst).take k) (es.map Prod.fst)
 have hst0 := sszL_take_le (rs.map Prod.fst) k
 have hll := sszL_len (rs.map Prod.fst)
 rw [List.length_map] at hll
 have hm9 : (es ++ rs.take k).map Prod.fst = es.map Prod.fst ++ (rs.map Prod.fst).take k := by rw [List.map_append, List.map_take]
 refine c_row1 (k := 0) rfl (fun ov => ?_)
 refine c_rowlen (k := 0) rfl (fun l63 => ?_)
 replace hr := hr.mono hgn.le
 replace hpt := fun p hm0 => (hpt p hm0).mono hgn.le
 replace hps := fun p hm0 => (hps p hm0).mono hgn.le
 replace het := fun p hm0 => (het p hm0).mono hgn.le
 replace hes := fun p hm0 => (hes p hm0).mono hgn.le
 refine c_seq ?_
 refine c_region ?_
 refine r_val .none rfl (p_lt rfl rfl) ?_
 refine r_nil ?_
 refine e_next ?_
 refine c_seq ?_
 refine c_splitd (d := 12) rfl (fun h_8 => ?_) (fun h_8 => ?_)
 ·
  first
   | (exfalso; omega)
   | (
    refine c_cond_t rfl ?_
    refine c_skip ?_
    refine e_next ?_
    refine c_seq ?_
    refine c_block ?_
    refine c_seq ?_
    refine c_region ?_
    refine r_val .none rfl (p_move rfl) ?_
    refine r_iaddr_g .none rfl Try.underlying29 sz90 rfl hr rfl (by first | exact of_decide_eq_true rfl | omega) (fun p_10 o_11 R_9 => ?_)
    have ht_12 := hpt _ (getD_mem (i := k) (d := s0) (by omega))
    have hc_13 := hps _ (getD_mem (i := k) (d := s0) (by omega))
    have hkl := sszL_len ((rs.map Prod.fst).take k)
    rw [List.length_take, List.length_map] at hkl
    have hsk := sszL_take (rs := rs) (k := k) (by omega)
    have hsk2 := sszL_take_le (rs.map Prod.fst) (k + 1)
    have hsq := ssz_eq (rs.getD k s0).1
    refine r_val .none rfl (p_ldga0 Try.underlying90 rfl sz90 rfl R_9 (by first | exact of_decide_eq_true rfl | omega) (rfl : _ = Value.agg #[_, _, _, _, _, _])) ?_
    refine r_alloc .none rfl zr90 (IsRow.lit _) (fun b_1 => ?_)
    refine r_val .none rfl (p_assign rfl) ?_
    refine r_stw (k := 0) .none sz90 rfl rfl (IsRow.lit _) (one_lit rfl (all_cons rfl (all_cons rfl (all_cons rfl (all_cons rfl (all_cons (ht_12).one (all_cons (hc_13).one rfl))))))) rfl ?_
    refine r_nil ?_
    refine e_next ?_
    refine c_seq ?_
    refine c_region ?_
    refine r_val .none rfl (p_assign rfl) ?_
    refine r_nil ?_
    refine e_next ?_
    refine c_seq ?_
    refine c_region ?_
    refine r_val .none rfl (p_move rfl) ?_
    refine r_val .none rfl (p_move rfl) ?_
    refine r_nilrow 90 6 ?_
    refine r_append_o (k := 0) (k2 := 3) .none rfl Try.underlying29 el90 rfl (by decide) rfl rfl rfl rfl (ss_all het hes) (by simp only [maxLen]; omega) (by omega) (fun v_15 => ?_)
    refine r_row1 (k := 0) rfl (fun o_16 => ?_)
    refine r_val .none rfl (p_assign rfl) ?_
    refine r_nil ?_
    refine e_next ?_
    refine c_seq ?_
    refine c_region ?_
    refine r_val .none rfl (p_move rfl) ?_
    refine r_val .none rfl (p_move rfl) ?_
    refine r_val .none rfl (p_move rfl) ?_
    refine r_slice0 (k) .none rfl Try.underlying29 sz90 rfl hr rfl (by first | exact of_decide_eq_true rfl | omega) (fun v_17 hs_18 => ?_)
    have hpt9_20 := ss_take (by omega) hs_18
    refine r_append_g (k := 0) .none rfl Try.underlying29 el90 rfl (by decide) rfl rfl rfl hpt9_20 (ss_ones (fun p hm0 => hpt p (List.mem_of_mem_take hm0)) (fun p hm0 => hps p (List.mem_of_mem_take hm0))) (by rw [List.length_take]; simp only [maxLen]; omega) (by rw [List.length_take]; omega) (fun v_21 => ?_)
    refine r_row1 (k := 0) rfl (fun o_22 => ?_)
    refine r_conv (B := rowA v_21 _ 6 (es ++ rs.take k).length ((es ++ rs.take k).flatMap sC)) (k := 0) rfl (fun _ _ h => rowA_congr (by simp) (by rw [List.nil_append, flat_all (cells := sC) (fun _ => rfl), List.flatMap_append]) _ _ h) ?_
    refine r_val .none rfl (p_assign rfl) ?_
    refine r_nil ?_
    refine e_next ?_
    refine c_seq ?_
    refine c_seq ?_
    refine c_region ?_
    refine r_val .none rfl (p_field Try.underlying90 rfl sz3 rfl) ?_
    refine r_val .none rfl (p_ld (k := 1) Try.underlying3 rfl rfl rfl (by first | exact of_decide_eq_true rfl | omega) (rfl : _ = Value.int _ _)) ?_
    refine r_val .none rfl (p_eq rfl rfl) ?_
    refine r_nil ?_
    refine e_next ?_
    refine c_splitd (d := 26) rfl (fun h_23 => ?_) (fun h_23 => ?_)
    ·
     have hk3 := h_23
     first
      | (exfalso; omega)
      | (
       refine c_cond_t rfl ?_
       refine c_region ?_
       refine r_val .none rfl (p_move rfl) ?_
       refine r_val .none rfl (p_move rfl) ?_
       refine r_val .none rfl (p_field Try.underlying90 rfl sz29 rfl) ?_
       refine r_val .none rfl (p_ld (k := 1) Try.underlying29 rfl rfl rfl (by first | exact of_decide_eq_true rfl | omega) rfl) ?_
       refine r_callom (k := 0) (vs := [_, _]) .none rfl cl14 rfl rfl (fun w F hw hA hFG => ih _ _ _ _ _ _ w (Nat.le_of_lt_succ (Nat.lt_of_lt_of_le (ssub_size (by omega)) hz)) (by rw [List.length_append, List.length_take]; omega) (fun p hm0 => by rcases List.mem_append.1 hm0 with h | h; exact het p h; exact hpt p (List.mem_of_mem_take h)) (fun p hm0 => by rcases List.mem_append.1 hm0 with h | h; exact hes p h; exact hps p (List.mem_of_mem_take h)) hc_13 hw hA hFG) (fun G_24 v_27 hn_25 hr_26 => ?_)
       replace hr := hr.mono hn_25.le
       replace hpt := fun p hm0 => (hpt p hm0).mono hn_25.le
       replace hps := fun p hm0 => (hps p hm0).mono hn_25.le
       replace het := fun p hm0 => (het p hm0).mono hn_25.le
       replace hes := fun p hm0 => (hes p hm0).mono hn_25.le
       replace hzc := StC.mono hzc hn_25.le
       replace R_9 := R_9.mono hn_25.le
       replace ht_12 := ht_12.mono hn_25.le
       replace hc_13 := hc_13.mono hn_25.le
       replace hs_18 := hs_18.mono hn_25.le
       replace hpt9_20 := hpt9_20.mono hn_25.le
       obtain ⟨u_28z, u_28h, u_28p, u_28q⟩ := hr_26
       rw [hm9] at u_28q
       refine r_append_g (k := 2) .none rfl Try.underlying26 el29 rfl (by decide) rfl rfl rfl u_28h (ss_one1 u_28p) (by have h9 := congrArg List.length u_28q; rw [List.length_map] at h9; have h8 := schains_len (rs.getD k s0).1.subs (es.map Prod.fst ++ (rs.map Prod.fst).take k); simp only [maxLen]; omega) (by have h9 := congrArg List.length u_28q; rw [List.length_map] at h9; have h8 := schains_len (rs.getD k s0).1.subs (es.map Prod.fst ++ (rs.map Prod.fst).take k); omega) (fun v_29 => ?_)
       refine r_row1 (k := 2) rfl (fun o_30 => ?_)
       refine r_conv (B := rowA v_29 _ 1 (z ++ u_28z).length ((z ++ u_28z).flatMap lC)) (k := 2) rfl (fun _ _ h => rowA_congr (by simp) (by rw [flat_all (cells := lC) (fun _ => rfl), List.flatMap_append]) _ _ h) ?_
       refine r_val .none rfl (p_assign rfl) ?_
       refine r_nil ?_
       refine e_next ?_
       refine c_seq ?_
       refine c_region ?_
       refine r_val .none rfl (p_move rfl) ?_
       refine r_val .none rfl (p_ldw (k := 1) Try.underlying90 rfl sz90 rfl rfl (rfl : _ = Value.agg #[_, _, _, _, _, _])) ?_
       refine r_bslice (vs := [(0, Value.agg #[_, _, _, _, _, _])]) (c := #[_, _, _, _, _, _]) .none rfl Try.underlying29 el90 rfl rfl rfl (bs90_10a6 _ _ _ _ _ _) (IsRow.lit _) (fun b_2 => ?_)
       refine r_append (k := 1) (k2 := 0) .none rfl Try.underlying29 el90 rfl (by decide) rfl rfl rfl rfl rfl (one_lit rfl (all_cons rfl (all_cons rfl (all_cons rfl (all_cons rfl (all_cons (ht_12).one (all_cons (hc_13).one rfl))))))) (by rw [List.length_append, List.length_take]; simp only [maxLen]; omega) (by rw [List.length_append, List.length_take]; omega) (fun v_31 => ?_)
       refine r_row1 (k := 1) rfl (fun o_32 => ?_)
       refine r_val .none rfl (p_assign rfl) ?_
       refine r_nil ?_
       refine e_next ?_
       refine c_region ?_
       refine r_val .none rfl (p_move rfl) ?_
       refine r_val .none rfl (p_move rfl) ?_
       refine r_freeze (k := 1) rfl (fun G_33 hn_34 hs_35 => ?_)
       replace hr := hr.mono hn_34.le
       replace hpt := fun p hm0 => (hpt p hm0).mono hn_34.le
       replace hps := fun p hm0 => (hps p hm0).mono hn_34.le
       replace het := fun p hm0 => (het p hm0).mono hn_34.le
       replace hes := fun p hm0 => (hes p hm0).mono hn_34.le
       replace hzc := StC.mono hzc hn_34.le
       replace R_9 := R_9.mono hn_34.le
       replace ht_12 := ht_12.mono hn_34.le
       replace hc_13 := hc_13.mono hn_34.le
       replace hs_18 := hs_18.mono hn_34.le
       replace hpt9_20 := hpt9_20.mono hn_34.le
       replace u_28h := u_28h.mono hn_34.le
       replace u_28p := StC.mono u_28p hn_34.le
       have hs2 : SlL G_33 v_31 6 sC s0 ((es ++ rs.take k) ++ [rs.getD k s0]) := SlL.of2 s0 (fun _ => rfl) (by simp [Nat.add_assoc]) (by rw [List.flatMap_append (xs := es ++ rs.take k), List.flatMap_cons, List.flatMap_nil, List.append_nil]; rfl) hs_35
       have hva2 : Ss G_33 v_31 (es.map Prod.fst ++ (rs.map Prod.fst).take k ++ [(rs.getD k s0).1]) := by have h := Ss.mk _ hs2 (fun p hm0 => by rcases List.mem_append.1 hm0 with h | h; rcases List.mem_append.1 h with h | h; exact het p h; exact hpt p (List.mem_of_mem_take h); rw [List.mem_singleton.1 h]; exact ht_12) (fun p hm0 => by rcases List.mem_append.1 hm0 with h | h; rcases List.mem_append.1 h with h | h; exact hes p h; exact hps p (List.mem_of_mem_take h); rw [List.mem_singleton.1 h]; exact hc_13); rw [List.map_append, hm9] at h; exact h
       obtain ⟨a_36, c_37, rfl⟩ := SlG.len hs2
       refine r_bslice (vs := [(0, Value.slice _ _ _)]) (c := #[_]) .none rfl Try.underlying26 el29 rfl rfl rfl (bs29_10s3 _ _ _) (IsRow.lit _) (fun b_3 => ?_)
       refine r_append (k := 3) (k2 := 0) .none rfl Try.underlying26 el29 rfl (by decide) rfl rfl rfl rfl rfl (one_lit rfl rfl) (by first | (simp only [maxLen]; omega) | (have h9 := congrArg List.length u_28q; rw [List.length_map] at h9; have h8 := schains_len (rs.getD k s0).1.subs (es.map Prod.fst ++ (rs.map Prod.fst).take k); rw [List.length_append]; simp only [maxLen]; omega)) (by first | omega | (have h9 := congrArg List.length u_28q; rw [List.length_map] at h9; have h8 := schains_len (rs.getD k s0).1.subs (es.map Prod.fst ++ (rs.map Prod.fst).take k); rw [List.length_append]; omega)) (fun v_38 => ?_)
       refine r_row1 (k := 3) rfl (fun o_39 => ?_)
       refine r_val .none rfl (p_assign rfl) ?_
       refine r_nil ?_
       refine e_norm_block ?_
       refine e_next ?_
       refine c_region ?_
       refine r_val .none rfl (p_add rfl rfl (by omega)) ?_
       refine r_val .none rfl (p_move rfl) ?_
       refine r_nil ?_
       refine e_round ((k + 1, _, (z ++ u_28z) ++ [(es.map Prod.fst ++ (rs.map Prod.fst).take k ++ [(rs.getD k s0).1], Value.slice a_36 ((es ++ rs.take k) ++ [rs.getD k s0]).length c_37)], _)) ⟨⟨by dsimp only; omega, by rw [schains_take (by omega), schain1_ncc hk3, List.map_append, List.map_append, hzq, ← u_28q, List.append_assoc]; rfl, StC.snoc (StC.app hzc u_28p) hva2, ((hgn.trans hn_25).trans hn_34)⟩, by dsimp only; omega⟩ rfl ⟨rfl, rfl, rfl, rfl, rfl, rfl, rfl, trivial⟩ (.drop (.drop (.drop (.keep (fun _ _ h => rowA_snoc (l := (z ++ u_28z)) (x := (es.map Prod.fst ++ (rs.map Prod.fst).take k ++ [(rs.getD k s0).1], Value.slice a_36 ((es ++ rs.take k) ++ [rs.getD k s0]).length c_37)) rfl rfl rfl rfl _ _ h) (.keep (fun _ _ h => h) (.nil))))))
       )
    ·
     have hk3 := h_23
     first
      | (exfalso; omega)
      | (
       refine c_cond_f rfl ?_
       refine c_skip ?_
       refine e_next ?_
       refine c_seq ?_
       refine c_region ?_
       refine r_val .none rfl (p_move rfl) ?_
       refine r_val .none rfl (p_ldw (k := 1) Try.underlying90 rfl sz90 rfl rfl (rfl : _ = Value.agg #[_, _, _, _, _, _])) ?_
       refine r_bslice (vs := [(0, Value.agg #[_, _, _, _, _, _])]) (c := #[_, _, _, _, _, _]) .none rfl Try.underlying29 el90 rfl rfl rfl (bs90_10a6 _ _ _ _ _ _) (IsRow.lit _) (fun b_4 => ?_)
       refine r_append (k := 1) (k2 := 0) .none rfl Try.underlying29 el90 rfl (by decide) rfl rfl rfl rfl rfl (one_lit rfl (all_cons rfl (all_cons rfl (all_cons rfl (all_cons rfl (all_cons (ht_12).one (all_cons (hc_13).one rfl))))))) (by rw [List.length_append, List.length_take]; simp only [maxLen]; omega) (by rw [List.length_append, List.length_take]; omega) (fun v_40 => ?_)
       refine r_row1 (k := 1) rfl (fun o_41 => ?_)
       refine r_val .none rfl (p_assign rfl) ?_
       refine r_nil ?_
       refine e_next ?_
       refine c_region ?_
       refine r_val .none rfl (p_move rfl) ?_
       refine r_val .none rfl (p_move rfl) ?_
       refine r_freeze (k := 1) rfl (fun G_42 hn_43 hs_44 => ?_)
       replace hr := hr.mono hn_43.le
       replace hpt := fun p hm0 => (hpt p hm0).mono hn_43.le
       replace hps := fun p hm0 => (hps p hm0).mono hn_43.le
       replace het := fun p hm0 => (het p hm0).mono hn_43.le
       replace hes := fun p hm0 => (hes p hm0).mono hn_43.le
       replace hzc := StC.mono hzc hn_43.le
       replace R_9 := R_9.mono hn_43.le
       replace ht_12 := ht_12.mono hn_43.le
       replace hc_13 := hc_13.mono hn_43.le
       replace hs_18 := hs_18.mono hn_43.le
       replace hpt9_20 := hpt9_20.mono hn_43.le
       have hs2 : SlL G_42 v_40 6 sC s0 ((es ++ rs.take k) ++ [rs.getD k s0]) := SlL.of2 s0 (fun _ => rfl) (by simp [Nat.add_assoc]) (by rw [List.flatMap_append (xs := es ++ rs.take k), List.flatMap_cons, List.flatMap_nil, List.append_nil]; rfl) hs_44
       have hva2 : Ss G_42 v_40 (es.map Prod.fst ++ (rs.map Prod.fst).take k ++ [(rs.getD k s0).1]) := by have h := Ss.mk _ hs2 (fun p hm0 => by rcases List.mem_append.1 hm0 with h | h; rcases List.mem_append.1 h with h | h; exact het p h; exact hpt p (List.mem_of_mem_take h); rw [List.mem_singleton.1 h]; exact ht_12) (fun p hm0 => by rcases List.mem_append.1 hm0 with h | h; rcases List.mem_append.1 h with h | h; exact hes p h; exact hps p (List.mem_of_mem_take h); rw [List.mem_singleton.1 h]; exact hc_13); rw [List.map_append, hm9] at h; exact h
       obtain ⟨a_45, c_46, rfl⟩ := SlG.len hs2
       refine r_bslice (vs := [(0, Value.slice _ _ _)]) (c := #[_]) .none rfl Try.underlying26 el29 rfl rfl rfl (bs29_10s3 _ _ _) (IsRow.lit _) (fun b_5 => ?_)
       refine r_append (k := 3) (k2 := 0) .none rfl Try.underlying26 el29 rfl (by decide) rfl rfl rfl rfl rfl (one_lit rfl rfl) (by first | (simp only [maxLen]; omega) | (have h9 := congrArg List.length q; rw [List.length_map] at h9; have h8 := schains_len (rs.getD k s0).1.subs (es.map Prod.fst ++ (rs.map Prod.fst).take k); rw [List.length_append]; simp only [maxLen]; omega)) (by first | omega | (have h9 := congrArg List.length q; rw [List.length_map] at h9; have h8 := schains_len (rs.getD k s0).1.subs (es.map Prod.fst ++ (rs.map Prod.fst).take k); rw [List.length_append]; omega)) (fun v_47 => ?_)
       refine r_row1 (k := 3) rfl (fun o_48 => ?_)
       refine r_val .none rfl (p_assign rfl) ?_
       refine r_nil ?_
       refine e_norm_block ?_
       refine e_next ?_
       refine c_region ?_
       refine r_val .none rfl (p_add rfl rfl (by omega)) ?_
       refine r_val .none rfl (p_move rfl) ?_
       refine r_nil ?_
       refine e_round ((k + 1, _, z ++ [(es.map Prod.fst ++ (rs.map Prod.fst).take k ++ [(rs.getD k s0).1], Value.slice a_45 ((es ++ rs.take k) ++ [rs.getD k s0]).length c_46)], _)) ⟨⟨by dsimp only; omega, by rw [schains_take (by omega), schain1_other hk3, List.map_append, hzq]; rfl, StC.snoc hzc hva2, (hgn.trans hn_43)⟩, by dsimp only; omega⟩ rfl ⟨rfl, rfl, rfl, rfl, rfl, rfl, rfl, trivial⟩ (.drop (.drop (.drop (.keep (fun _ _ h => rowA_snoc (l := z) (x := (es.map Prod.fst ++ (rs.map Prod.fst).take k ++ [(rs.getD k s0).1], Value.slice a_45 ((es ++ rs.take k) ++ [rs.getD k s0]).length c_46)) rfl rfl rfl rfl _ _ h) (.keep (fun _ _ h => h) (.nil))))))
       )
    )
 ·
  first
   | (exfalso; omega)
   | (
    refine c_cond_f rfl ?_
    refine c_exit ?_
    refine e_exit_then ?_
    refine e_exit_then ?_
    refine e_exit_block ?_
    refine e_next ?_
    refine c_seq ?_
    refine c_region ?_
    refine r_val .none rfl (p_move rfl) ?_
    refine r_val .none rfl (p_assign rfl) ?_
    refine r_nil ?_
    refine e_next ?_
    refine c_ret ?_
    refine e_freeze (k := 0) rfl (fun G_49 hn_50 hs_51 => ?_)
    replace hr := hr.mono hn_50.le
    replace hpt := fun p hm0 => (hpt p hm0).mono hn_50.le
    replace hps := fun p hm0 => (hps p hm0).mono hn_50.le
    replace het := fun p hm0 => (het p hm0).mono hn_50.le
    replace hes := fun p hm0 => (hes p hm0).mono hn_50.le
    replace hzc := StC.mono hzc hn_50.le
    refine e_ret1 Try.results14 (.tmp rfl .nil) (fun w hm => ⟨_, (hgn.trans hn_50), hm.has, ?_, hm.keptG [rowA _ 90 6 es.length (es.flatMap sC)] (.keep (fun _ _ h => h) (.nil)) _ (fun F' h => starL_one h)⟩)
    rw [show schains (es.map Prod.fst) (rs.map Prod.fst) = z.map Prod.fst by rw [hzq, List.take_of_length_le (by simp; omega)]]
    exact Ls.mk z (SlL.of (([] : List ST), Value.slice none 0 0) (fun _ => rfl) rfl hs_51) hzc
    )
theorem c_rchS_n : ∀ n, RchSIs n
 | 0 => fun va vl es l G F w hz _ _ _ _ _ _ _ => absurd hz (by cases l <;> simp)
 | n + 1 => fun va vl es l G F w hz hsz het hes hs hG hA hFG => c_rchS_s n (c_rchS_n n) va vl es l hz hsz het hes hs w hG hA hFG
theorem c_rchS (va vl : Value) (es : List SVal) (l : List ST) {G : Ghost} {F : Nat → Prop} (hsz : es.length + sszL l ≤ 5000) (het : ∀ p ∈ es, SlL G p.2.1 3 tC t0 p.1.h.ts) (hes : ∀ p ∈ es, Ss G p.2.2 p.1.subs) (hs : Ss G vl l) (w : World) (hG : Has G w) (hA : (rowA va 90 6 es.length (es.flatMap sC)).holds w F) (hFG : ∀ b, F b → G b = none) : Calls Try.prog 14 #[va, vl] w (Ret fun r w' => ∃ G', GNew w F G G' ∧ Has G' w' ∧ Ls (fun G v l => Ss G v l) ([] : List ST) G' r (schains (es.map Prod.fst) l) ∧ KeptG (rowA va 90 6 es.length (es.flatMap sC)) F G' w w') := c_rchS_n _ va vl es l G F w (Nat.le_refl _) hsz het hes hs hG hA hFG
end Go.Proofs.Ytdkfdncbldngdaa

/- Plain laws of tries: the document's lists and chains, and nodes; no program in sight. -/
namespace Go.Gx.T16
open Go.Gx Go.Gx.T3 Go.Gx.T4 Go.Gx.T6 Go.Gx.T8

/-! ### the document's -/
abbrev It := List ST × Bool
structure RT where
  lists : List (List ST)
  its : List It
/-- Chains are alike. -/
def ceq (a b : List ST) : Bool := seqL a b
theorem ceq_iff (a b : List ST) : ceq a b = true ↔ a = b := seqL_iff a b
theorem ceq_self (a : List ST) : ceq a a = true := (ceq_iff a a).2 rfl
/-- The numbers of those that are there and have something. -/
def numsF (p : List ST → Bool) : List It → Int → List Int
  | [], _ => []
  | x :: t, i => if x.2 = false ∧ p x.1 = true then i :: numsF p t (i + 1) else numsF p t (i + 1)
theorem numsF_append (p : List ST → Bool) : ∀ (a b : List It) (i : Int), numsF p (a ++ b) i = numsF p a i ++ numsF p b (i + a.length)
  | [], b, i => by simp [numsF]
  | x :: t, b, i => by
    rw [List.cons_append, numsF, numsF, numsF_append p t b (i + 1)]
    have e : i + 1 + (t.length : Int) = i + ((x :: t).length : Nat) := by simp; omega
    rw [e]
    split <;> simp
theorem numsF_ge {p : List ST → Bool} : ∀ {l : List It} {i k : Int}, k ∈ numsF p l i → i ≤ k ∧ k < i + l.length
  | [], i, k, h => by simp [numsF] at h
  | x :: t, i, k, h => by
    rw [numsF] at h
    split at h
    · rcases List.mem_cons.1 h with rfl | h
      · simp; omega
      · have := numsF_ge h; simp; omega
    · have := numsF_ge h; simp; omega
theorem numsF_mem {p : List ST → Bool} : ∀ {l : List It} {i k : Int}, k ∈ numsF p l i ↔ ∃ j c, k = i + (j : Nat) ∧ l[j]? = some (c, false) ∧ p c = true
  | [], i, k => by simp [numsF]
  | x :: t, i, k => by
    have ih := numsF_mem (p := p) (l := t) (i := i + 1) (k := k)
    have step : k ∈ numsF p (x :: t) i ↔ (x.2 = false ∧ p x.1 = true ∧ k = i) ∨ k ∈ numsF p t (i + 1) := by
      rw [numsF]
      split
      · rename_i h; simp [h.1, h.2]
      · rename_i h
        constructor
        · exact .inr
        · rintro (⟨h1, h2, _⟩ | h')
          · exact absurd ⟨h1, h2⟩ h
          · exact h'
    rw [step, ih]
    constructor
    · rintro (⟨h1, h2, rfl⟩ | ⟨j, c, rfl, h1, h2⟩)
      · exact ⟨0, x.1, by simp, by simp [← h1], h2⟩
      · exact ⟨j + 1, c, by push_cast; omega, by simpa using h1, h2⟩
    · rintro ⟨j, c, rfl, h1, h2⟩
      cases j with
      | zero => simp at h1; left; rw [h1]; exact ⟨rfl, h2, by simp⟩
      | succ j => right; exact ⟨j, c, by push_cast; omega, by simpa using h1, h2⟩
theorem numsF_none {p : List ST → Bool} : ∀ {l : List It} {i : Int}, (∀ x ∈ l, x.2 = false → p x.1 = false) → numsF p l i = []
  | [], _, _ => rfl
  | x :: t, i, h => by
    rw [numsF, numsF_none (l := t) (fun y hy => h y (List.mem_cons_of_mem _ hy)), if_neg]
    rintro ⟨h1, h2⟩
    rw [h x (by simp) h1] at h2; cases h2
theorem numsF_sorted {p : List ST → Bool} : ∀ {l : List It} {i : Int}, (numsF p l i).Pairwise (· < ·)
  | [], _ => List.Pairwise.nil
  | x :: t, i => by
    rw [numsF]
    split
    · refine List.Pairwise.cons (fun k hk => ?_) numsF_sorted
      have := numsF_ge hk; omega
    · exact numsF_sorted
/-- A chain's number. -/
def findF (c : List ST) : List It → Int → Int
  | [], _ => 0
  | x :: t, i => if x.2 = false ∧ ceq x.1 c = true then i else findF c t (i + 1)
def find (R : RT) (c : List ST) : Int := if c.length = 0 then 1 else findF c R.its 2
theorem findF_nums (c : List ST) : ∀ (l : List It) (i : Int), findF c l i = (numsF (ceq · c) l i).headD 0
  | [], _ => rfl
  | x :: t, i => by
    rw [findF, numsF]
    split
    · rfl
    · exact findF_nums c t (i + 1)
/-- The chain of a number. -/
def getF : List It → Int → Option (List ST)
  | [], _ => none
  | x :: t, k => if k = 0 then (if x.2 = false then some x.1 else none) else getF t (k - 1)
def getR (R : RT) (id : Int) : Option (List ST) := if id = 1 then some [] else getF R.its (id - 2)
theorem getF_iff : ∀ {l : List It} {k : Int} {c : List ST}, getF l k = some c ↔ ∃ j : Nat, k = j ∧ l[j]? = some (c, false)
  | [], k, c => by simp [getF]
  | x :: t, k, c => by
    rw [getF]
    split
    · rename_i h
      subst h
      constructor
      · intro h
        split at h
        · rename_i h1
          simp at h
          exact ⟨0, rfl, by rw [← h, ← h1]; rfl⟩
        · cases h
      · rintro ⟨j, h1, h2⟩
        obtain rfl : j = 0 := by omega
        simp at h2
        rw [h2]; simp
    · rename_i h
      rw [getF_iff (l := t)]
      constructor
      · rintro ⟨j, h1, h2⟩
        exact ⟨j + 1, by push_cast; omega, by simpa using h2⟩
      · rintro ⟨j, h1, h2⟩
        cases j with
        | zero => exact absurd h1 h
        | succ j => exact ⟨j, by push_cast at h1; omega, by simpa using h2⟩
theorem getR_iff {R : RT} {id : Int} {c : List ST} : getR R id = some c ↔ (id = 1 ∧ c = []) ∨ (id ≠ 1 ∧ ∃ j : Nat, id = j + 2 ∧ R.its[j]? = some (c, false)) := by
  unfold getR
  split
  · rename_i h
    subst h
    simp
  · rename_i h
    rw [getF_iff]
    constructor
    · rintro ⟨j, h1, h2⟩; exact .inr ⟨h, j, by omega, h2⟩
    · rintro (⟨h1, _⟩ | ⟨_, j, h1, h2⟩)
      · exact absurd h1 h
      · exact ⟨j, by omega, h2⟩
def usesOf (c : List ST) (l : List ST) : Bool := decide (c.length = 0) || (schains [] l).any (ceq · c)
def uses (R : RT) (c : List ST) : Nat := R.lists.countP (usesOf c)
def ends (R : RT) (c : List ST) : Nat := R.lists.countP (ceq · c)
theorem usesOf_iff {c l : List ST} : usesOf c l = true ↔ c = [] ∨ c ∈ schains [] l := by
  unfold usesOf
  rw [Bool.or_eq_true, decide_eq_true_eq, List.any_eq_true]
  constructor
  · rintro (h | ⟨x, h1, h2⟩)
    · exact .inl (List.eq_nil_of_length_eq_zero h)
    · rw [ceq_iff] at h2; subst h2; exact .inr h1
  · rintro (rfl | h)
    · exact .inl rfl
    · exact .inr ⟨c, h, ceq_self c⟩
def all (R : RT) : List Int := 1 :: numsF (fun _ => true) R.its 2
/-- The chain within that an Ncc's chain ends at. -/
def innerOf (c : List ST) : Option (List ST) := match c.getLast? with
  | some s => if s.h.k = 3 then some (c.dropLast ++ s.subs) else none
  | none => none
def inner (R : RT) (c : List ST) : Int := match innerOf c with
  | some e => find R e
  | none => 0
def isKid (c d : List ST) : Bool := decide (d.length = c.length + 1) && ceq d.dropLast c
theorem isKid_iff {c d : List ST} : isKid c d = true ↔ ∃ s, d = c ++ [s] := by
  unfold isKid
  rw [Bool.and_eq_true, decide_eq_true_eq, ceq_iff]
  constructor
  · rintro ⟨h1, h2⟩
    have hne : d ≠ [] := by intro e; rw [e] at h1; simp at h1
    exact ⟨d.getLast hne, by rw [← h2]; exact (List.dropLast_concat_getLast hne).symm⟩
  · rintro ⟨s, rfl⟩
    simp
def kidsR (R : RT) (c : List ST) : List Int := numsF (isKid c) R.its 2
def isOuter (c d : List ST) : Bool := match innerOf d with
  | some e => ceq e c
  | none => false
theorem isOuter_iff {c d : List ST} : isOuter c d = true ↔ innerOf d = some c := by
  unfold isOuter
  cases h : innerOf d with
  | none => simp
  | some e => simp [ceq_iff]
def outerR (R : RT) (c : List ST) : List Int := numsF (isOuter c) R.its 2
/-! ### nodes -/
structure PN where
  s : ST
  par : Int
  dep : Int
  uses : Int
  ends : Int
  inn : Int
  kids : List Int
  outer : List Int
abbrev sZ : ST := .mk ⟨0, 0, 0, 0, []⟩ []
def ndR (R : RT) (c : List ST) : PN := ⟨c.getLastD sZ, if c.length = 0 then 0 else find R c.dropLast, c.length, uses R c, ends R c, inner R c, kidsR R c, outerR R c⟩
/-- The nodes are just the document's. -/
def Inv (g : Int → Option PN) (R : RT) : Prop := ∀ id, g id = (getR R id).map (ndR R)
/-- Chains that are there: each once; what stands ahead is there, too, and what is within. -/
structure Clo (R : RT) : Prop where
  ne : ∀ x ∈ R.its, x.1 ≠ []
  once : ∀ (i j : Nat) (c : List ST), R.its[i]? = some (c, false) → R.its[j]? = some (c, false) → i = j
  up : ∀ (j : Nat) c, R.its[j]? = some (c, false) → find R c.dropLast ≠ 0 ∧ find R c.dropLast < j + 2
  inn : ∀ (j : Nat) c e, R.its[j]? = some (c, false) → innerOf c = some e → find R e ≠ 0 ∧ find R e < j + 2
theorem find_nil (R : RT) : find R [] = 1 := rfl
theorem find_some {R : RT} {c : List ST} (hne : ∀ x ∈ R.its, x.1 ≠ []) (h : find R c ≠ 0) : getR R (find R c) = some c := by
  unfold find at h ⊢
  split
  · rename_i hc
    rw [List.eq_nil_of_length_eq_zero hc]; rfl
  · rename_i hc
    rw [if_neg hc, findF_nums] at h
    rw [findF_nums]
    cases hn : numsF (ceq · c) R.its 2 with
    | nil => rw [hn] at h; exact absurd rfl h
    | cons k t =>
      have hk : k ∈ numsF (ceq · c) R.its 2 := by rw [hn]; simp
      obtain ⟨j, d, rfl, h1, h2⟩ := numsF_mem.1 hk
      rw [ceq_iff] at h2
      subst h2
      show getR R (2 + (j : Int)) = some d
      rw [getR_iff]
      exact .inr ⟨by omega, j, by omega, h1⟩
theorem find_of {R : RT} (hC : Clo R) {id : Int} {c : List ST} (h : getR R id = some c) : find R c = id := by
  rcases getR_iff.1 h with ⟨rfl, rfl⟩ | ⟨_, j, rfl, h1⟩
  · rfl
  · have hne : c ≠ [] := hC.ne _ (List.mem_of_getElem? h1)
    have hm : ((j : Int) + 2) ∈ numsF (ceq · c) R.its 2 := numsF_mem.2 ⟨j, c, by omega, h1, ceq_self c⟩
    unfold find
    rw [if_neg (fun e => hne (List.eq_nil_of_length_eq_zero e)), findF_nums]
    cases hn : numsF (ceq · c) R.its 2 with
    | nil => rw [hn] at hm; cases hm
    | cons k t =>
      have hk : k ∈ numsF (ceq · c) R.its 2 := by rw [hn]; simp
      obtain ⟨i, d, rfl, h3, h4⟩ := numsF_mem.1 hk
      rw [ceq_iff] at h4
      subst h4
      have := hC.once i j d h3 h1
      subst this
      show (2 : Int) + i = i + 2
      omega
theorem find_ne {R : RT} {c : List ST} (hc : c ≠ []) : find R c ≠ 0 ↔ (c, false) ∈ R.its := by
  unfold find
  rw [if_neg (fun e => hc (List.eq_nil_of_length_eq_zero e)), findF_nums]
  constructor
  · intro h
    cases hn : numsF (ceq · c) R.its 2 with
    | nil => rw [hn] at h; exact absurd rfl h
    | cons k t =>
      have hk : k ∈ numsF (ceq · c) R.its 2 := by rw [hn]; simp
      obtain ⟨j, d, _, h1, h2⟩ := numsF_mem.1 hk
      rw [ceq_iff] at h2; subst h2
      exact List.mem_of_getElem? h1
  · intro h
    obtain ⟨j, hj⟩ := List.getElem?_of_mem h
    have hm : (2 + (j : Int)) ∈ numsF (ceq · c) R.its 2 := numsF_mem.2 ⟨j, c, rfl, hj, ceq_self c⟩
    cases hn : numsF (ceq · c) R.its 2 with
    | nil => rw [hn] at hm; cases hm
    | cons k t =>
      have hk : k ∈ numsF (ceq · c) R.its 2 := by rw [hn]; simp
      have := numsF_ge hk
      show k ≠ 0
      omega
theorem find_nonneg (R : RT) (c : List ST) : 0 ≤ find R c ∧ find R c < 2 + R.its.length := by
  unfold find
  split
  · omega
  · rw [findF_nums]
    cases hn : numsF (ceq · c) R.its 2 with
    | nil => simp; omega
    | cons k t =>
      have hk : k ∈ numsF (ceq · c) R.its 2 := by rw [hn]; simp
      have := numsF_ge hk
      show 0 ≤ k ∧ k < _
      omega
/-! ### the program's way down -/
def belowL (g : Int → Option PN) (s : ST) : List Int → Int
  | [] => 0
  | k :: t => match g k with
    | some x => if seq x.s s = true then k else belowL g s t
    | none => belowL g s t
def below (g : Int → Option PN) (id : Int) (s : ST) : Int := match g id with
  | some x => belowL g s x.kids
  | none => 0
def fromG (g : Int → Option PN) : Int → List ST → Int
  | id, [] => id
  | id, s :: t => if below g id s = 0 then 0 else fromG g (below g id s) t
/-- Kids and steps are the document's. -/
def KInv (g : Int → Option PN) (R : RT) : Prop := ∀ id c, getR R id = some c → ∃ x, g id = some x ∧ x.kids = kidsR R c ∧ x.s = c.getLastD sZ
theorem Inv.k {g : Int → Option PN} {R : RT} (h : Inv g R) : KInv g R := fun id c hc => ⟨ndR R c, by rw [h, hc]; rfl, rfl, rfl⟩
theorem below_find {g : Int → Option PN} {R : RT} (hK : KInv g R) (hC : Clo R) {id : Int} {c : List ST} (s : ST) (h : getR R id = some c) : below g id s = find R (c ++ [s]) := by
  obtain ⟨x, hx, hk, _⟩ := hK id c h
  unfold below find
  rw [hx, if_neg (by simp), findF_nums]
  show belowL g s x.kids = _
  rw [hk]
  unfold kidsR
  have key : ∀ (l : List It) (i : Int), (∀ (j : Nat) d, l[j]? = some (d, false) → d ≠ [] ∧ ∃ x, g (i + j) = some x ∧ x.s = d.getLastD sZ) → belowL g s (numsF (isKid c) l i) = (numsF (ceq · (c ++ [s])) l i).headD 0 := by
    intro l
    induction l with
    | nil => intro i _; rfl
    | cons y t ih =>
      intro i hg
      have hg' : ∀ (j : Nat) d, t[j]? = some (d, false) → d ≠ [] ∧ ∃ x, g (i + 1 + j) = some x ∧ x.s = d.getLastD sZ := fun j d hd => by
        have := hg (j + 1) d (by simpa using hd)
        rw [show i + ((j + 1 : Nat) : Int) = i + 1 + j by push_cast; omega] at this
        exact this
      rw [numsF, numsF]
      cases hy : y.2 with
      | true =>
        rw [if_neg (by simp), if_neg (by simp)]
        exact ih (i + 1) hg'
      | false =>
        obtain ⟨d, o⟩ := y
        simp only at hy; subst hy
        obtain ⟨_, x, h1, h2⟩ := hg 0 d (by simp)
        simp only [Int.natCast_zero, Int.add_zero] at h1
        by_cases hk : isKid c d = true
        · obtain ⟨s', rfl⟩ := isKid_iff.1 hk
          have h3 : x.s = s' := by rw [h2]; simp
          simp only [true_and, hk, if_true]
          rw [belowL, h1]
          show (if seq x.s s = true then i else belowL g s _) = _
          rw [h3]
          by_cases hs : seq s' s = true
          · have hss := (seq_iff s' s).1 hs
            subst hss
            rw [if_pos hs, if_pos (ceq_self _)]; rfl
          · have hss : ¬ ceq (c ++ [s']) (c ++ [s]) = true := fun e => hs (by
              have := (ceq_iff _ _).1 e
              have h4 : s' = s := by simpa using this
              exact (seq_iff s' s).2 h4)
            rw [if_neg hs, if_neg hss]
            exact ih (i + 1) hg'
        · have hce : ¬ ceq d (c ++ [s]) = true := fun e => hk (isKid_iff.2 ⟨s, (ceq_iff _ _).1 e⟩)
          simp only [true_and, hk, hce, if_false]
          exact ih (i + 1) hg'
  refine key R.its 2 (fun j d hd => ?_)
  have hg : getR R (2 + (j : Int)) = some d := getR_iff.2 (.inr ⟨by omega, j, by omega, hd⟩)
  obtain ⟨x, h1, _, h3⟩ := hK _ _ hg
  exact ⟨hC.ne _ (List.mem_of_getElem? hd), x, h1, h3⟩
theorem find_pre {R : RT} (hC : Clo R) {a : List ST} {s : ST} (h : find R (a ++ [s]) ≠ 0) : find R a ≠ 0 := by
  obtain ⟨j, hj⟩ := List.getElem?_of_mem ((find_ne (by simp)).1 h)
  have := (hC.up j _ hj).1
  simpa using this
theorem from_find {g : Int → Option PN} {R : RT} (hK : KInv g R) (hC : Clo R) : ∀ (l : List ST) {id : Int} {c : List ST}, getR R id = some c → fromG g id l = find R (c ++ l)
  | [], id, c, h => by rw [fromG, List.append_nil, find_of hC h]
  | s :: t, id, c, h => by
    rw [fromG, below_find hK hC s h]
    have e : c ++ s :: t = c ++ [s] ++ t := by simp
    rw [e]
    by_cases hz : find R (c ++ [s]) = 0
    · rw [if_pos hz]
      refine Eq.symm (Decidable.byContradiction fun hn => ?_)
      have : ∀ (t : List ST) (a : List ST), find R (a ++ t) ≠ 0 → find R a ≠ 0 := by
        intro t
        induction t with
        | nil => intro a h; simpa using h
        | cons s' t ih =>
          intro a h
          have e : a ++ s' :: t = a ++ [s'] ++ t := by simp
          rw [e] at h
          exact find_pre hC (ih _ h)
      exact this t _ hn hz
    · rw [if_neg hz]
      exact from_find hK hC t (find_some hC.ne hz)
end Go.Gx.T16

/-
  GX: calls that read what is known of the call's own memory and change nothing. Generic in the program.
-/
namespace Go.Gx
open Go.RowKit Go.Maps Go.Sort

section
variable {P : Program} {ops : Array Oper} {Q : Exit → Act → World → Prop} {N : Nat} {X : Nat → Prop} {w0 : World} {G : Ghost} {l : List (Nat × Value)} {L : List Asrt}
variable {rest : List Oper} {d i j : Nat} {ty : TypeId} {pos : String} {after : Array Edge} {gd : Option (Nat × Bool)} {v : Value} {f : FuncId} {xs : List Operand} {vs : List Value} {ats : Array TypeId} {A1 A2 : Asrt}

end

/-- slices.Collect(maps.Keys(m)) at a map without entries. -/
def Coll0 (P : Program) (f g : FuncId) (K : TypeId) : Prop := ∀ (Bm b nn : Nat) (D0 : DataW Unit) (w : World), w.cell? ⟨Bm, 0, none⟩ = some (.map (some b)) → Bm < w.heap.size → w.ownsMap P K R0 b nn D0 → Maps.size D0 = 0 →
  Calls P f #[.func (.func g) #[] #[.pointer (some ⟨Bm, 0, none⟩)]] w fun e w' => e = .returned (.slice none 0 0) ∧ Below w.heap.size w w'

end Go.Gx

/-
  GX: strings in order; rows of one-cell elements that the library sorts by a function; the keys of a map of strings. Generic in the program.
-/
namespace Go.Gx
open Go.RowKit Go.Sort Go.Maps Go.Proofs
/-- Bytes, lexically. -/
def bLt (a b : ByteArray) : Bool := Op.bytesLess a.toList b.toList
section
variable {P : Program} {N : Nat} {X : Nat → Prop} {w0 : World} {G : Ghost} {l : List (Nat × Value)} {L : List Asrt}
variable {d : Nat} {ty : TypeId} {pos : String} {after : Array Edge} {gd : Option (Nat × Bool)} {x y : Operand} {T U : TypeId} {a b : ByteArray}
end
/-! ### a row of the call's own, sorted -/
abbrev cS (s : ByteArray) : List Value := [.string s]
section
variable {α : Type} [Inhabited α] {enc : α → Value}
omit [Inhabited α] in
theorem cells_one (zs : List α) : zs.flatMap (fun a => [enc a]) = zs.map enc := by
  induction zs with
  | nil => rfl
  | cons a t ih => simp [ih]
/-- What a call of the library that sorts comes to. -/
def Sort1C (P : Program) (f g : FuncId) (enc : α → Value) (srt : List α → List α) : Prop := ∀ (blk cap : Nat) (zs : List α) (w : World), Holds enc w blk 0 zs.toArray → blk < w.heap.size → zs.length < 4611686018427387904 →
  Calls P f #[.slice (some ⟨blk, 0, none⟩) zs.length cap, .func (.func g) #[] #[]] w fun e w' => e = .returned (.tuple #[]) ∧ ∃ n os, w' = grow (putRow enc (Sort.ahead w n) blk 0 (srt zs).toArray) os
def Sort1N (P : Program) (f g : FuncId) : Prop := ∀ (p : Option Addr) (cap : Nat) (w : World), Calls P f #[.slice p 0 cap, .func (.func g) #[] #[]] w fun e w' => e = .returned (.tuple #[]) ∧ w' = w
variable {P : Program} {ops : Array Oper} {Q : Exit → Act → World → Prop} {N : Nat} {X : Nat → Prop} {w0 : World} {G : Ghost} {l : List (Nat × Value)} {L : List Asrt}
variable {rest : List Oper} {d k n : Nat} {ty : TypeId} {pos : String} {after : Array Edge} {gd : Option (Nat × Bool)} {v : Value} {E : TypeId} {zs : List α} {f g : FuncId} {xs : List Operand} {ats : Array TypeId}
theorem own_holds1 {w : World} {g cap : Nat} {cur : Array Value} (hg : w.heap[g]? = some (.cells cur E (0, 0))) (hc : cur.size = cap) (hn : zs.length ≤ cap) (ht : cur.toList.take zs.length = zs.map enc) : Holds enc w g 0 zs.toArray := by
  intro j hj
  have hj' : j < zs.length := by simpa using hj
  constructor
  · rw [cell_of_row w g (0 + j) cur E (0, 0) hg, Nat.zero_add]
    have h1 := congrArg (fun l => l[j]?) ht
    simp [List.getElem?_take, hj'] at h1
    simp [h1, hj']
  · simp [World.frozen?, hg]
theorem own_after1 {w : World} {g cap q : Nat} {cur : Array Value} {os : Array Obj} {zs' : List α} (hg : w.heap[g]? = some (.cells cur E (0, 0))) (hc : cur.size = cap) (hcm : cap ≤ maxLen) (hz : zs'.length ≤ cap) :
    (rowA (.slice (some ⟨g, 0, none⟩) zs'.length cap) E 1 zs'.length (zs'.flatMap fun a => [enc a])).holds (grow (putRow enc (Sort.ahead w q) g 0 zs'.toArray) os) (fun b => b = g) := by
  have hg' : (Sort.ahead w q).heap[g]? = some (.cells cur E (0, 0)) := hg
  have h1 := putRow_heap (enc := enc) (n := 0) (d := zs'.toArray) hg'
  have hlt : g < (putRow enc (Sort.ahead w q) g 0 zs'.toArray).heap.size := lt_of_heap h1
  refine ⟨⟨?_, .inr ⟨g, cap, putCells enc 0 zs'.toArray cur, rfl, Nat.zero_le _, ?_, by omega, hcm, ?_, ?_⟩⟩, fun b => ⟨fun h => by subst h; rfl, fun h => by simp [Value.ownBlock] at h; exact h.symm⟩, by omega⟩
  · rw [cells_one]; simp
  · show ((putRow enc (Sort.ahead w q) g 0 zs'.toArray).heap ++ os)[g]? = _
    rw [Array.getElem?_append_left hlt]; exact h1
  · simp [putCells, hc]
  · rw [Nat.mul_one, putCells_take (by simp) (by simp; omega), cells_one]
    congr 1
    exact List.take_length
theorem since_sort1 {w : World} {g q : Nat} {os : Array Obj} {zs' : List α} {F : Nat → Prop} (hF : F g) : Since F w (grow (putRow enc (Sort.ahead w q) g 0 zs'.toArray) os) := by
  refine ⟨rfl, rfl, rfl, ?_, fun b hb hx => ?_⟩
  · show w.heap.size ≤ (((putRow enc (Sort.ahead w q) g 0 zs'.toArray).heap ++ os)).size
    have : (putRow enc (Sort.ahead w q) g 0 zs'.toArray).heap.size = w.heap.size := by
      show (w.heap.modify g _).size = _
      simp
    rw [Array.size_append]; omega
  · have hne : b ≠ g := fun e => hx (e ▸ hF)
    show ((putRow enc (Sort.ahead w q) g 0 zs'.toArray).heap ++ os)[b]? = _
    have hsz : (putRow enc (Sort.ahead w q) g 0 zs'.toArray).heap.size = w.heap.size := by
      show (w.heap.modify g _).size = _
      simp
    rw [Array.getElem?_append_left (by omega), putRow_other hne]
    rfl
end
/-! ### the keys of a map of strings -/
section
variable {ν : Type} {P : Program} {K : TypeId}
end
/-- slices.Collect(maps.Keys(m)): the second call, of what the first one made. -/
def CollC (P : Program) (f g : FuncId) (K : TypeId) : Prop := ∀ (Bm b nn : Nat) (D0 : DataW Unit) (w : World), w.cell? ⟨Bm, 0, none⟩ = some (.map (some b)) → Bm < w.heap.size → w.ownsMap P K R0 b nn D0 → Maps.size D0 ≤ maxLen → Maps.size D0 * 16 ≤ 140737488355328 →
  Calls P f #[.func (.func g) #[] #[.pointer (some ⟨Bm, 0, none⟩)]] w fun e w' => ∃ (v : Value) (ss : List (List UInt8)), e = .returned v ∧ ss.Perm (strKeys D0) ∧ w'.ownsRow w.heap.size K 1 v ss.length (ss.map fun l => Value.string ⟨l.toArray⟩) ∧ Below w.heap.size w w'
section
variable {P : Program} {ops : Array Oper} {Q : Exit → Act → World → Prop} {N : Nat} {X : Nat → Prop} {w0 : World} {G : Ghost} {l : List (Nat × Value)} {L : List Asrt}
variable {rest : List Oper} {d i j k n sz : Nat} {ty : TypeId} {pos : String} {after : Array Edge} {gd : Option (Nat × Bool)} {f : FuncId} {xs : List Operand} {vs : List Value} {ats : Array TypeId} {A1 A2 : Asrt} {E E' : TypeId} {r0 : Value} {zs : List Value}
variable {τ : Type} {S : τ → Prop} {R : Value → τ → Asrt}
end
/-! ### strings sorted by bytes -/
def cmpB (a b : ByteArray) : Int := if bLt a b = true then -1 else if bLt b a = true then 1 else 0
def sortB (zs : List ByteArray) : List ByteArray := zs.mergeSort fun x y => !(ltOf cmpB) y x
end Go.Gx

/-
  GX: objects that a map leads to: the map's list bears what each object is, and one assertion holds them all; one of them is taken out and put back. Generic in the program.
-/
namespace Go.Gx
open Go.RowKit
/-- Two assertions say the same. -/
def Asrt.Eqv (A B : Asrt) : Prop := ∀ w F, A.holds w F ↔ B.holds w F
theorem Asrt.Eqv.rfl {A : Asrt} : A.Eqv A := fun _ _ => Iff.rfl
theorem Asrt.Eqv.symm {A B : Asrt} (h : A.Eqv B) : B.Eqv A := fun w F => (h w F).symm
theorem Asrt.Eqv.trans {A B C : Asrt} (h : A.Eqv B) (k : B.Eqv C) : A.Eqv C := fun w F => (h w F).trans (k w F)
theorem star_congr {A A' B B' : Asrt} (h : A.Eqv A') (k : B.Eqv B') : (star A B).Eqv (star A' B') := fun w _ =>
  ⟨fun ⟨F1, F2, h1, h2, h3, h4⟩ => ⟨F1, F2, (h w F1).1 h1, (k w F2).1 h2, h3, h4⟩, fun ⟨F1, F2, h1, h2, h3, h4⟩ => ⟨F1, F2, (h w F1).2 h1, (k w F2).2 h2, h3, h4⟩⟩
theorem star_comm (A B : Asrt) : (star A B).Eqv (star B A) := by
  have key : ∀ (A B : Asrt) w F, (star A B).holds w F → (star B A).holds w F := fun A B w F ⟨F1, F2, h1, h2, h3, h4⟩ =>
    ⟨F2, F1, h2, h1, fun b hb ha => h3 b ha hb, fun b => (h4 b).trans Or.comm⟩
  exact fun w F => ⟨key A B w F, key B A w F⟩
theorem star_assoc (A B C : Asrt) : (star A (star B C)).Eqv (star (star A B) C) := fun w F => by
  constructor
  · rintro ⟨F1, F2, h1, ⟨F3, F4, h5, h6, h7, h8⟩, h3, h4⟩
    refine ⟨fun b => F1 b ∨ F3 b, F4, ⟨F1, F3, h1, h5, fun b ha hb => h3 b ha ((h8 b).2 (.inl hb)), fun _ => Iff.rfl⟩, h6, ?_, fun b => ?_⟩
    · rintro b (hb | hb) hc
      · exact h3 b hb ((h8 b).2 (.inr hc))
      · exact h7 b hb hc
    · rw [h4 b, h8 b, or_assoc]
  · rintro ⟨F1, F2, ⟨F3, F4, h5, h6, h7, h8⟩, h2, h3, h4⟩
    refine ⟨F3, fun b => F4 b ∨ F2 b, h5, ⟨F4, F2, h6, h2, fun b ha hb => h3 b ((h8 b).2 (.inr ha)) hb, fun _ => Iff.rfl⟩, ?_, fun b => ?_⟩
    · rintro b hb (hc | hc)
      · exact h7 b hb hc
      · exact h3 b ((h8 b).2 (.inl hb)) hc
    · rw [h4 b, h8 b, or_assoc]
theorem star_swap (A B C : Asrt) : (star A (star B C)).Eqv (star B (star A C)) :=
  (star_assoc A B C).trans ((star_congr (star_comm A B) .rfl).trans (star_assoc B A C).symm)
theorem Sep.one {w : World} {A B : Asrt} {L : List Asrt} {U : Nat → Prop} (h : ∀ F, A.holds w F → B.holds w F) : Sep w (A :: L) U → Sep w (B :: L) U :=
  fun ⟨F, h1, h2, h3⟩ => ⟨F, h F h1, h2, h3⟩
theorem Sep.unstar {w : World} {A B : Asrt} {L : List Asrt} {U : Nat → Prop} : Sep w (star A B :: L) U → Sep w (A :: B :: L) U := by
  rintro ⟨F, ⟨F1, F2, h1, h2, h3, h4⟩, h5, h6⟩
  refine ⟨F1, h1, fun b hb => h5 b ((h4 b).2 (.inl hb)), F2, h2, fun b hb => ⟨h5 b ((h4 b).2 (.inr hb)), fun ha => h3 b ha hb⟩, Sep.mono h6 (fun b _ hu => ⟨⟨hu.1, fun ha => hu.2 ((h4 b).2 (.inl ha))⟩, fun hb => hu.2 ((h4 b).2 (.inr hb))⟩)⟩
theorem Sep.restar {w : World} {A B : Asrt} {L : List Asrt} {U : Nat → Prop} : Sep w (A :: B :: L) U → Sep w (star A B :: L) U := by
  rintro ⟨F1, h1, h2, F2, h3, h4, h5⟩
  refine ⟨fun b => F1 b ∨ F2 b, ⟨F1, F2, h1, h3, fun b ha hb => (h4 b hb).2 ha, fun _ => Iff.rfl⟩, ?_, Sep.mono h5 (fun b _ hu => ⟨hu.1.1, ?_⟩)⟩
  · rintro b (hb | hb)
    · exact h2 b hb
    · exact (h4 b hb).1
  · rintro (hb | hb)
    · exact hu.1.2 hb
    · exact hu.2 hb
section
variable {κ ν : Type} [DecidableEq κ]
/-- All objects of a list. -/
def hoard (F : κ × ν → Asrt) (l : List (κ × ν)) : Asrt := starL (l.map F)
theorem hoard_pick (F : κ × ν → Asrt) : ∀ {l : List (κ × ν)} {k : κ} {v : ν}, lkp l k = some v → (hoard F l).Eqv (star (F (k, v)) (hoard F (mdel l k)))
  | [], _, _, h => by simp [lkp] at h
  | p :: t, k, v, h => by
    obtain ⟨pk, pv⟩ := p
    rw [lkp] at h
    rw [mdel]
    by_cases e : pk = k
    · simp only [e, if_true, Option.some.injEq] at h ⊢
      rw [h]; exact .rfl
    · simp only [e, if_false] at h ⊢
      exact (star_congr (Asrt.Eqv.rfl (A := F (pk, pv))) (hoard_pick F h)).trans (star_swap _ _ _)
theorem hoard_put (F : κ × ν → Asrt) : ∀ {l : List (κ × ν)} {k : κ} {u : ν} (v : ν), lkp l k = some u → (star (F (k, v)) (hoard F (mdel l k))).Eqv (hoard F (mput l k v))
  | [], _, _, _, h => by simp [lkp] at h
  | p :: t, k, u, v, h => by
    obtain ⟨pk, pv⟩ := p
    rw [lkp] at h
    rw [mdel, mput]
    by_cases e : pk = k
    · simp only [e, if_true]; exact .rfl
    · simp only [e, if_false] at h ⊢
      exact (star_swap _ _ _).trans (star_congr (Asrt.Eqv.rfl (A := F (pk, pv))) (hoard_put F v h))
theorem hoard_new (F : κ × ν → Asrt) : ∀ {l : List (κ × ν)} {k : κ} (v : ν), lkp l k = none → (star (F (k, v)) (hoard F l)).Eqv (hoard F (mput l k v))
  | [], _, _, _ => .rfl
  | p :: t, k, v, h => by
    obtain ⟨pk, pv⟩ := p
    rw [lkp] at h
    rw [mput]
    by_cases e : pk = k
    · rw [if_pos e] at h; cases h
    · simp only [e, if_false] at h ⊢
      exact (star_swap _ _ _).trans (star_congr (Asrt.Eqv.rfl (A := F (pk, pv))) (hoard_new F v h))
section
variable {X : Nat → Prop} {w0 w : World} {G : Ghost} {L : List Asrt} {F : κ × ν → Asrt} {l : List (κ × ν)} {k : κ} {u v : ν}
theorem Mem.focus (hk : lkp l k = some v) (h : Mem X w0 G w (hoard F l :: L)) : Mem X w0 G w (F (k, v) :: hoard F (mdel l k) :: L) :=
  ⟨h.since, h.has, (h.sep.one (fun f => (hoard_pick F hk w f).1)).unstar⟩
theorem Mem.unfocus (hk : lkp l k = some u) (h : Mem X w0 G w (F (k, v) :: hoard F (mdel l k) :: L)) : Mem X w0 G w (hoard F (mput l k v) :: L) :=
  ⟨h.since, h.has, h.sep.restar.one (fun f => (hoard_put F v hk w f).1)⟩
theorem Mem.fnew (hk : lkp l k = none) (h : Mem X w0 G w (F (k, v) :: hoard F l :: L)) : Mem X w0 G w (hoard F (mput l k v) :: L) :=
  ⟨h.since, h.has, h.sep.restar.one (fun f => (hoard_new F v hk w f).1)⟩
variable {P : Program} {ops : Array Oper} {Q : Exit → Act → World → Prop} {N : Nat} {fr : List (Nat × Value)} {rest : List Oper} {c : Code} {e : Exit}
end
/-! ### what a map's list says besides -/
omit [DecidableEq κ] in
theorem mapA_recast {m : Nat} {ke : κ → Value} {ve : ν → Value} {l l' : List (κ × ν)} (h : l.map (enc ke ve) = l'.map (enc ke ve)) {w : World} {F : Nat → Prop} (hb : (mapA m ke ve l).holds w F) : (mapA m ke ve l').holds w F := by
  obtain ⟨⟨es, c, hM⟩, hF⟩ := hb
  exact ⟨⟨es, c, ⟨hM.heap, hM.st, hM.eq.trans h⟩⟩, hF⟩
theorem mput_enc {ke : κ → Value} {ve : ν → Value} {l : List (κ × ν)} {k : κ} {u v : ν} (hk : lkp l k = some u) (hv : ve u = ve v) : l.map (enc ke ve) = (mput l k v).map (enc ke ve) := by
  induction l with
  | nil => simp [lkp] at hk
  | cons p t ih =>
    rw [lkp] at hk
    rw [mput]
    by_cases e : p.1 = k
    · rw [if_pos e] at hk ⊢
      simp only [Option.some.injEq] at hk
      simp [enc, hk, hv, e]
    · rw [if_neg e] at hk ⊢
      simp [ih hk]
/-- The same map, what one of its values leads to told anew. -/
theorem mapA_retell {m : Nat} {ke : κ → Value} {ve : ν → Value} {l : List (κ × ν)} {k : κ} {u v : ν} (hk : lkp l k = some u) (hv : ve u = ve v) {w : World} {F : Nat → Prop} (hb : (mapA m ke ve l).holds w F) : (mapA m ke ve (mput l k v)).holds w F :=
  mapA_recast (mput_enc hk hv) hb
end
section
variable {κ : Type} {P : Program} {N : Nat} {X : Nat → Prop} {w0 : World} {G : Ghost} {l : List (Nat × Value)} {L : List Asrt}
variable {d i : Nat} {ty : TypeId} {pos : String} {after : Array Edge} {gd : Option (Nat × Bool)} {x y : Operand} {T K E U : TypeId}
end
section
variable {P : Program} {ops : Array Oper} {Q : Exit → Act → World → Prop} {N : Nat} {X : Nat → Prop} {w0 : World} {G : Ghost} {l : List (Nat × Value)} {L : List Asrt}
variable {rest : List Oper} {d i : Nat} {ty : TypeId} {pos : String} {after : Array Edge} {gd : Option (Nat × Bool)} {x y : Operand} {T K E : TypeId}
end
end Go.Gx

/-
  GX: a function value that was handed in is called; an object of no blocks. Generic in the program.
-/
namespace Go.Gx
open Go.RowKit
/-- Nothing. -/
def empA : Asrt where
  holds _ F := ∀ b, ¬ F b
  frame := fun h _ => h
  dom := fun h hb => (h _ hb).elim
theorem evs_app {l : List (Nat × Value)} {cs : List Value} : ∀ {xs : List Operand} {us : List Value}, evs l xs = some us → evs l (xs ++ cs.map Operand.const) = some (us ++ cs)
  | [], us, h => by
    simp only [evs, Option.some.injEq] at h
    subst h
    rw [List.nil_append, List.nil_append]
    induction cs with
    | nil => rfl
    | cons c t ih => simp [evs, ih, ev]
  | x :: xs, us, h => by
    simp only [List.cons_append]
    unfold evs at h ⊢
    cases hx : ev l x with
    | none => simp [hx] at h
    | some u =>
      cases hr : evs l xs with
      | none => simp [hx, hr] at h
      | some r =>
        simp [hx, hr] at h
        subst h
        simp [evs_app hr]
section
variable {P : Program} {ops : Array Oper} {Q : Exit → Act → World → Prop} {N : Nat} {X : Nat → Prop} {w0 : World} {G : Ghost} {l : List (Nat × Value)} {L : List Asrt}
variable {rest : List Oper} {d : Nat} {ty : TypeId} {pos : String} {after : Array Edge} {gd : Option (Nat × Bool)}
end
section
variable {P : Program} {ops : Array Oper} {Q : Exit → Act → World → Prop} {N : Nat} {X : Nat → Prop} {w0 : World} {G : Ghost} {l l0 : List (Nat × Value)} {L : List Asrt}
variable {brk : Nat → Bool} {G0 : Ghost} {L0 : List Asrt} {n : Nat} {listed : Array Bool} {o o' o2 : Oper}
end
section
variable {P : Program} {ops : Array Oper} {brk : Nat → Bool} {G0 : Ghost} {L0 : List Asrt} {Q : Exit → Act → World → Prop} {N : Nat} {X : Nat → Prop} {w0 : World} {G : Ghost} {l : List (Nat × Value)} {L : List Asrt}
variable {d n : Nat} {listed : Array Bool} {ty : TypeId} {pos : String} {after : Array Edge} {gd : Option (Nat × Bool)} {v : Value} {T E : TypeId} {m sz : Nat} {q : IntKind} {f : Nat → Nat → Value} {x o : Operand}
end
section
variable {P : Program} {ops : Array Oper} {brk : Nat → Bool} {G0 : Ghost} {L0 : List Asrt} {Q : Exit → Act → World → Prop} {N : Nat} {X : Nat → Prop} {w0 : World} {G : Ghost} {l : List (Nat × Value)} {L : List Asrt} {ph : Bool} {m : Nat} {listed : Array Bool}
end
end Go.Gx
namespace Go.Gx
open Go.RowKit
section
variable {P : Program} {ops : Array Oper} {Q : Exit → Act → World → Prop} {N : Nat} {X : Nat → Prop} {w0 : World} {G : Ghost} {l : List (Nat × Value)} {L : List Asrt}
variable {rest : List Oper} {d : Nat} {ty : TypeId} {pos : String} {after : Array Edge} {gd : Option (Nat × Bool)}
end
/-- What is known of one block. -/
def oneG (b : Nat) (o : Obj) : Ghost := fun x => if x = b then some o else none
/-- A row that is known beside one block and lies elsewhere. -/
theorem RowAt.other {w : World} {G : Ghost} {b p o n : Nat} {ob : Obj} {g : Nat → Value} (hn : GNew w nX (oneG b ob) G) (h : RowAt G p o n g) (hne : p ≠ b) : RowAt (Gx.fr w G) p o n g := by
  refine h.fr ?_
  obtain ⟨c, T, f, h1, _⟩ := h
  have h2 : oneG b ob p = none := by unfold oneG; rw [if_neg hne]
  rcases hn.new p h2 (by rw [h1]; simp) with h3 | h3
  · exact h3
  · exact h3.elim
end Go.Gx

/-
  GX: rows of the call's own that are written in place, cut, cleared, turned; packs of assertions. Generic in the program.
-/
namespace Go.Gx
open Go.RowKit Go.Sort
/-- A list, written anew from place i on. -/
def putL (xs : List Value) (i : Nat) (vs : List Value) : List Value := xs.take i ++ vs ++ xs.drop (i + vs.length)
theorem putL_length {xs : List Value} {i : Nat} {vs : List Value} (h : i + vs.length ≤ xs.length) : (putL xs i vs).length = xs.length := by
  simp [putL]; omega
theorem putL_get {xs : List Value} {i : Nat} {vs : List Value} (h : i + vs.length ≤ xs.length) (k : Nat) : (putL xs i vs)[k]? = if i ≤ k ∧ k < i + vs.length then vs[k - i]? else xs[k]? := by
  unfold putL
  have hi : (xs.take i).length = i := by simp; omega
  by_cases h1 : k < i
  · rw [if_neg (by omega), List.append_assoc, List.getElem?_append_left (by omega), List.getElem?_take, if_pos h1]
  · by_cases h2 : k < i + vs.length
    · rw [if_pos (by omega), List.append_assoc, List.getElem?_append_right (by omega), hi, List.getElem?_append_left (by omega)]
    · rw [if_neg (by omega), List.getElem?_append_right (by simp; omega), List.getElem?_drop]
      congr 1
      simp; omega
theorem putL_flat {α : Type} {cells : α → List Value} {sz : Nat} (hc : ∀ x, (cells x).length = sz) : ∀ (l : List α) (i : Nat) (a : α), i < l.length → putL (l.flatMap cells) (i * sz) (cells a) = (l.set i a).flatMap cells
  | [], _, _, h => by simp at h
  | x :: t, 0, a, _ => by
    simp only [putL, Nat.zero_mul, List.take_zero, List.nil_append, Nat.zero_add, List.set_cons_zero, List.flatMap_cons]
    rw [hc a, ← hc x, List.drop_left]
  | x :: t, i + 1, a, h => by
    have ih := putL_flat hc t i a (by simpa using h)
    simp only [List.set_cons_succ, List.flatMap_cons, ← ih]
    unfold putL
    have e1 : (i + 1) * sz = (cells x).length + i * sz := by rw [hc x, Nat.add_mul]; omega
    rw [e1, List.take_append, List.take_of_length_le (by omega), List.drop_append, List.drop_eq_nil_of_le (by omega), List.nil_append]
    simp only [Nat.add_sub_cancel_left, List.append_assoc]
    congr 4
    omega
section
variable {P : Program} {ops : Array Oper} {Q : Exit → Act → World → Prop} {N : Nat} {X : Nat → Prop} {w0 : World} {G : Ghost} {l : List (Nat × Value)} {L : List Asrt}
variable {rest : List Oper} {d k : Nat} {ty : TypeId} {pos : String} {after : Array Edge} {gd : Option (Nat × Bool)} {x y : Operand} {v u : Value} {T E : TypeId} {n sz i b cap : Nat} {xs vs : List Value} {q : IntKind}
theorem rowA_write {w : World} {F : Nat → Prop} (h : (rowA v E sz n xs).holds w F) (hv : v = .slice (some ⟨b, 0, none⟩) n cap) (hi : i + vs.length ≤ n * sz) (h1 : ∀ z ∈ vs, z.oneCell' = true) :
    ∃ w', (storeCells ⟨b, i, none⟩ vs 0).run P w = .ok () w' ∧ (rowA v E sz n (putL xs i vs)).holds w' F ∧ Since F w w' := by
  obtain ⟨⟨hlen, hown⟩, hF, hmax⟩ := h
  rcases hown with ⟨rfl, _⟩ | ⟨g, cap', cur, rfl, _, hg, hnc, hcm, hcs, htk⟩
  · cases hv
  cases hv
  have hle : n * sz ≤ cap * sz := Nat.mul_le_mul_right _ hnc
  have hB : BoxAt w b (cap * sz) E (fun k => cur.toList.getD k undef) := ⟨cur, hg, hcs, fun k hk => by
    have : k < cur.size := by omega
    simp [List.getD, this]⟩
  obtain ⟨w', hr, ⟨c, hc1, hc2⟩, hs⟩ := run_storeCells_box (P := P) vs i 0 w b (cap * sz) E _ hB (by omega) h1
  refine ⟨w', hr, ⟨⟨by rw [putL_length (by omega)]; exact hlen, .inr ⟨b, cap, c, rfl, Nat.zero_le _, hc1, hnc, hcm, hc2.size, ?_⟩⟩, hF, hmax⟩, ⟨hs.os, hs.tape, hs.output, hs.size, fun k hk hx => hs.block k hk (fun e => hx ((hF k).2 (by subst e; rfl)))⟩⟩
  apply List.ext_getElem?
  intro k
  rw [putL_get (by omega)]
  by_cases hk : k < n * sz
  · have h2 := hc2.get k (by omega)
    rw [List.getElem?_take, if_pos hk, Array.getElem?_toList, h2, updR_eq]
    by_cases h3 : i ≤ k ∧ k < i + vs.length
    · rw [if_pos (by omega), if_pos h3, Nat.add_zero]
      exact (at_get vs (k - i) (by omega)).symm
    · rw [if_neg (by omega), if_neg h3]
      have h4 := congrArg (fun z : List Value => z[k]?) htk
      simp only [List.getElem?_take, if_pos hk] at h4
      rw [← h4]
      have : k < cur.size := by omega
      simp [List.getD, this]
  · rw [List.getElem?_take, if_neg hk, if_neg (by omega), List.getElem?_eq_none (by omega)]
/-- A store into a row of the call's own. -/
theorem r_sto (hw : Wt ops l gd) (hs : SzIs P T vs.length) (hx : ev l x = some (.pointer (some ⟨b, i, none⟩))) (hy : ev l y = some u) (hu : u.cells = vs.toArray) (h1 : ∀ z ∈ vs, z.oneCell' = true) (hL : L[k]? = some (rowA v E sz n xs)) (hv : v = .slice (some ⟨b, 0, none⟩) n cap) (hi : i + vs.length ≤ n * sz)
    (h : Runs P ops Q N X w0 G rest l (L.set k (rowA v E sz n (putL xs i vs)))) : Runs P ops Q N X w0 G (⟨none, .store T x y, ty, pos, after, gd⟩ :: rest) l L := by
  refine Runs.step hw (fun a w hS => ?_)
  show Oper.upon P _ a _ Q _
  obtain ⟨F, hA, _, hput⟩ := hS.mem.take hL
  obtain ⟨w', hr, hB, hs'⟩ := rowA_write (P := P) hA hv hi h1
  have hr : (execOp a.eval ⟨none, .store T x y, ty, pos, after, gd⟩).run P w = .ok .skip w' := by
    simp only [execOp, hS.fr.eval hx, hS.fr.eval hy]
    simp [Instr.storeAt, Instr.sureAddr, storeVar, hs.run, hu, hr]
  rw [hr, Oper.upon_skip]
  exact h _ _ ⟨hS.fr, hput _ _ F hs' hB (fun b hb => .inl hb)⟩
/-- A store of an element. -/
theorem r_stoe {α : Type} {cells : α → List Value} {zs : List α} (a : α) (hc : ∀ x, (cells x).length = sz) (hw : Wt ops l gd) (hs : SzIs P T sz) (hx : ev l x = some (.pointer (some ⟨b, i * sz, none⟩))) (hy : ev l y = some u) (hu : u.cells = (cells a).toArray) (h1 : ∀ z ∈ cells a, z.oneCell' = true) (hL : L[k]? = some (rowA v E sz zs.length (zs.flatMap cells))) (hv : v = .slice (some ⟨b, 0, none⟩) zs.length cap) (hi : i < zs.length)
    (h : Runs P ops Q N X w0 G rest l (L.set k (rowA v E sz (zs.set i a).length ((zs.set i a).flatMap cells)))) : Runs P ops Q N X w0 G (⟨none, .store T x y, ty, pos, after, gd⟩ :: rest) l L := by
  have hm : i * sz + sz ≤ zs.length * sz := by rw [← Nat.succ_mul]; exact Nat.mul_le_mul_right _ hi
  refine r_sto (vs := cells a) hw (by rw [hc]; exact hs) hx hy hu h1 hL hv (by rw [hc]; exact hm) ?_
  rw [putL_flat hc zs i a hi]
  rw [List.length_set] at h
  exact h
/-- s[a:b] of a row of the call's own, as a value. -/
theorem p_slice_o {a m : Nat} {q' : IntKind} (hT : P.underlying T = some (.slice E)) (hE : SzIs P E sz) (hx : ev l x = some v) (hv : v = .slice (some ⟨b, 0, none⟩) n cap) (hn : n ≤ cap) (lo hi : Option Operand)
    (hlo : match lo with | none => a = 0 | some o => ev l o = some (.int q (a : Nat))) (hhi : match hi with | none => m = n | some o => ev l o = some (.int q' (m : Nat))) (ham : a ≤ m) (hmn : m ≤ n) :
    PV P N X w0 G l L ⟨some d, .slice T x lo hi none, ty, pos, after, gd⟩ (.slice (if cap = a then some ⟨b, 0, none⟩ else some ⟨b, a * sz, none⟩) (m - a) (cap - a)) := by
  intro ac w hS
  subst hv
  have hbc : (0 : Int) ≤ (m : Int) ∧ (m : Int) ≤ (cap : Int) := by omega
  have hab' : (0 : Int) ≤ (a : Int) ∧ (a : Int) ≤ (m : Int) := by omega
  have hp : ∀ (o : Option Addr), (o = some ⟨b, 0, none⟩) → (if cap = a then o else o.map (·.add (a * sz))) = (if cap = a then some ⟨b, 0, none⟩ else some ⟨b, a * sz, none⟩) := by rintro _ rfl; simp [addr_add]
  have hrun : (Instr.sliceAt T (.slice (some ⟨b, 0, none⟩) n cap) (lo.map ac.eval) (hi.map ac.eval) none).run P w = .ok (.slice (if cap = a then some ⟨b, 0, none⟩ else some ⟨b, a * sz, none⟩) (m - a) (cap - a)) w := by
    cases lo with
    | none =>
      simp only at hlo
      subst hlo
      cases hi with
      | none =>
        simp only at hhi
        subst hhi
        simp [Instr.sliceAt, Instr.slice, run_underlying hT, Instr.sliceBounds, hE.run, addr_add]
      | some o =>
        simp only at hhi
        simp [Instr.sliceAt, Instr.slice, run_underlying hT, Instr.sliceBounds, Instr.sliceBound, asIntOf, hS.fr.eval hhi, hE.run, show m ≤ cap by omega, addr_add]
    | some o2 =>
      simp only at hlo
      cases hi with
      | none =>
        simp only at hhi
        subst hhi
        simp [Instr.sliceAt, Instr.slice, run_underlying hT, Instr.sliceBounds, Instr.sliceBound, asIntOf, hS.fr.eval hlo, hE.run, ham, addr_add]
      | some o =>
        simp only at hhi
        simp [Instr.sliceAt, Instr.slice, run_underlying hT, Instr.sliceBounds, Instr.sliceBound, asIntOf, hS.fr.eval hlo, hS.fr.eval hhi, hE.run, ham, show m ≤ cap by omega, addr_add]
  simp only [execOp, hS.fr.eval hx]
  simp [hrun]
theorem rowA_cap {w : World} {F : Nat → Prop} (h : (rowA v E sz n xs).holds w F) (hv : v = .slice (some ⟨b, 0, none⟩) n cap) : n ≤ cap := by
  obtain ⟨⟨_, hown⟩, _⟩ := h
  rcases hown with ⟨rfl, _⟩ | ⟨g, cap', cur, rfl, _, hg, hnc, _⟩
  · cases hv
  · cases hv; exact hnc
/-- A row with elements has a block. -/
theorem r_rowblk (hL : L[k]? = some (rowA v E sz n xs)) (hn : 0 < n) (h : ∀ b cap, v = .slice (some ⟨b, 0, none⟩) n cap → n ≤ cap → Runs P ops Q N X w0 G rest l L) : Runs P ops Q N X w0 G rest l L := by
  intro a w hS
  obtain ⟨F, hA, _, _⟩ := hS.mem.take hL
  obtain ⟨b, cap, hv⟩ := rowA_slice hA hn
  exact h b cap hv (rowA_cap hA hv) a w hS
/-- The beginning of a row takes the row's place. -/
theorem rowA_cut {w : World} {F : Nat → Prop} {m : Nat} (h : (rowA v E sz n xs).holds w F) (hv : v = .slice (some ⟨b, 0, none⟩) n cap) (hm : m ≤ n) : (rowA (.slice (some ⟨b, 0, none⟩) m cap) E sz m (xs.take (m * sz))).holds w F := by
  obtain ⟨⟨hlen, hown⟩, hF, hmax⟩ := h
  have hle : m * sz ≤ n * sz := Nat.mul_le_mul_right _ hm
  rcases hown with ⟨rfl, _⟩ | ⟨g, cap', cur, rfl, _, hg, hnc, hcm, hcs, htk⟩
  · cases hv
  · cases hv
    refine ⟨⟨by rw [List.length_take]; omega, .inr ⟨b, cap, cur, rfl, Nat.zero_le _, hg, by omega, hcm, hcs, ?_⟩⟩, hF, by omega⟩
    rw [← htk, List.take_take, Nat.min_eq_left hle]
theorem r_cut {m : Nat} (hL : L[k]? = some (rowA v E sz n xs)) (hv : v = .slice (some ⟨b, 0, none⟩) n cap) (hm : m ≤ n)
    (h : Runs P ops Q N X w0 G rest l (L.set k (rowA (.slice (some ⟨b, 0, none⟩) m cap) E sz m (xs.take (m * sz))))) : Runs P ops Q N X w0 G rest l L := by
  intro a w hS
  obtain ⟨F, hA, _, hput⟩ := hS.mem.take hL
  exact h a w ⟨hS.fr, hput w _ F (Since.refl _ _) (rowA_cut hA hv hm) (fun b hb => .inl hb)⟩
/-- clear(s[a:]) of a row of the call's own: what stands ahead stays. -/
theorem r_clear {a c' bytes : Nat} {zv : Value} {p : Option Addr} (hw : Wt ops l gd) (hT : P.underlying T = some (.slice E)) (hE : ElemIs P E sz bytes zv) (hz : zv.cells.size = sz) (h1 : ∀ z ∈ zv.cells.toList, z.oneCell' = true) (hpos : 0 < sz)
    (hx : ev l x = some (.slice p (n - a) c')) (hp : a < n → p = some ⟨b, a * sz, none⟩) (ha : a ≤ n) (hL : L[k]? = some (rowA v E sz n xs)) (hv : v = .slice (some ⟨b, 0, none⟩) n cap)
    (h : ∀ ys, ys.take (a * sz) = xs.take (a * sz) → Runs P ops Q N X w0 G rest l (L.set k (rowA v E sz n ys))) : Runs P ops Q N X w0 G (⟨none, .call ⟨.builtin .clear, #[x], #[T]⟩, ty, pos, after, gd⟩ :: rest) l L := by
  refine Runs.step hw (fun ac w hS => ?_)
  show Oper.upon P _ ac _ Q _
  obtain ⟨F, hA, _, hput⟩ := hS.mem.take hL
  obtain ⟨inf, hi1, hi2, hi3, hi4⟩ := hE.info
  have hzr : (zeroValue E).run P w = .ok zv w := ZeroIs.run (by unfold ZeroIs; rw [hi1]; exact hi2) w
  rcases Nat.lt_or_ge a n with han | han
  · have hpp := hp han
    subst hpp
    have hlen := hA.1.1
    have hm : a * sz + (n - a) * sz = n * sz := by rw [← Nat.add_mul]; congr 1; omega
    let vs := (Builtin.zeroCells zv.cells (n - a)).toList
    have hvl : vs.length = (n - a) * sz := by simp [vs, Builtin.zeroCells, hz]
    have hones : ∀ z ∈ vs, z.oneCell' = true := by
      intro z hz'
      simp only [vs, Builtin.zeroCells, Array.toList_map, List.mem_map, Array.mem_toList_iff, Array.mem_range] at hz'
      obtain ⟨j, _, rfl⟩ := hz'
      have hlt : j % zv.cells.size < zv.cells.size := Nat.mod_lt _ (by omega)
      rw [getElem!_pos zv.cells _ hlt]
      exact h1 _ (by simp)
    obtain ⟨w', hr, hB, hs'⟩ := rowA_write (P := P) (i := a * sz) (vs := vs) hA hv (by rw [hvl]; omega) hones
    have hr2 : (execOp ac.eval ⟨none, .call ⟨.builtin .clear, #[x], #[T]⟩, ty, pos, after, gd⟩).run P w = .ok (.value (.tuple #[])) w' := by
      obtain ⟨m, hm⟩ : ∃ m, n - a = m + 1 := ⟨n - a - 1, by omega⟩
      have hr' : (storeCells ⟨b, a * sz, none⟩ (Builtin.zeroCells zv.cells (m + 1)).toList).run P w = .ok () w' := by rw [← hm]; exact hr
      have hr3 : (Builtin.clear_ #[T] ty #[.slice (some ⟨b, a * sz, none⟩) (n - a) c']).run P w = .ok (.tuple #[]) w' := by
        rw [hm]
        simp [Builtin.clear_, run_underlying hT, hzr, hr']
      simp [execOp, resolve, invoke, builtin, hS.fr.eval hx, hr3]
    rw [hr2, Oper.upon_value]
    refine h (putL xs (a * sz) vs) ?_ _ _ ⟨hS.fr, hput _ _ F hs' hB (fun b hb => .inl hb)⟩
    unfold putL
    rw [List.append_assoc, List.take_append_of_le_length (by simp; omega), List.take_take, Nat.min_self]
  · have e : n - a = 0 := by omega
    rw [e] at hx
    have hr2 : (execOp ac.eval ⟨none, .call ⟨.builtin .clear, #[x], #[T]⟩, ty, pos, after, gd⟩).run P w = .ok (.value (.tuple #[])) w := by
      cases p <;> simp [execOp, resolve, invoke, builtin, Builtin.clear_, hS.fr.eval hx, run_underlying hT]
    rw [hr2, Oper.upon_value]
    have e2 : L.set k (rowA v E sz n xs) = L := set_self hL
    have h' := h xs rfl
    rw [e2] at h'
    exact h' _ _ ⟨hS.fr, hS.mem⟩
/-- s[:m] of a row of the call's own, as a value. -/
theorem p_slice_o0 {m : Nat} {q' : IntKind} {o : Operand} (hT : P.underlying T = some (.slice E)) (hE : SzIs P E sz) (hx : ev l x = some v) (hv : v = .slice (some ⟨b, 0, none⟩) n cap) (hn : n ≤ cap) (hhi : ev l o = some (.int q' (m : Nat))) (hmn : m ≤ n) :
    PV P N X w0 G l L ⟨some d, .slice T x none (some o) none, ty, pos, after, gd⟩ (.slice (some ⟨b, 0, none⟩) m cap) := by
  have h := p_slice_o (P := P) (N := N) (X := X) (w0 := w0) (G := G) (L := L) (d := d) (ty := ty) (pos := pos) (after := after) (gd := gd) (q := .i64) (q' := q') (a := 0) (m := m) hT hE hx hv hn none (some o) rfl hhi (Nat.zero_le _) hmn
  simpa using h
/-- A function value that was handed in is called: it changes one object. -/
theorem r_yieldo {f : FuncId} {xs : List Operand} {us cs : List Value} {ats : Array TypeId} {A B : Asrt} {z : Operand} {r : Value} (hw : Wt ops l gd) (hd : Nat.blt d N = true) (hy : ev l z = some (.func (.func f) #[] cs.toArray)) (hx : evs l xs = some us) (hf : Callable P f) (hL : L[k]? = some A)
    (hc : ∀ w F, Has G w → A.holds w F → (∀ b, F b → G b = none) → Calls P f (us ++ cs).toArray w (Ret fun r' w' => r' = r ∧ Kept B F w w'))
    (h : Runs P ops Q N X w0 G rest ((d, r) :: l) (L.set k B)) : Runs P ops Q N X w0 G (⟨some d, .call ⟨.value z, xs.toArray, ats⟩, ty, pos, after, gd⟩ :: rest) l L :=
  r_fun hw hy (r_callo (vs := us ++ cs) hw hd hf (evs_app hx) hL hc h)
/-! ### packs -/
theorem r_pack (Ls : List Asrt) (h : Runs P ops Q N X w0 G rest l (starL Ls :: L)) : Runs P ops Q N X w0 G rest l (Ls ++ L) :=
  fun a w hS => h a w ⟨hS.fr, hS.mem.pack⟩
theorem r_unpack {Ls : List Asrt} (h : Runs P ops Q N X w0 G rest l (Ls ++ L)) : Runs P ops Q N X w0 G rest l (starL Ls :: L) :=
  fun a w hS => h a w ⟨hS.fr, hS.mem.unpack⟩
theorem r_unex {α : Type} {A : α → Asrt} (h : ∀ x, Runs P ops Q N X w0 G rest l (A x :: L)) : Runs P ops Q N X w0 G rest l (exA A :: L) := by
  intro a w hS
  obtain ⟨x, hm⟩ := hS.mem.unex
  exact h x a w ⟨hS.fr, hm⟩
theorem r_unand {p : Prop} {A : Asrt} (h : p → Runs P ops Q N X w0 G rest l (A :: L)) : Runs P ops Q N X w0 G rest l (andA p A :: L) := by
  intro a w hS
  obtain ⟨hp, hm⟩ := hS.mem.unand
  exact h hp a w ⟨hS.fr, hm⟩
end
/-! ### what a function takes out of a list, one by one -/
section
variable {α σ : Type}
def dels (p : α → σ → Bool × σ) : List α → σ → List α × σ
  | [], s => ([], s)
  | x :: t, s => (if (p x s).1 = true then (dels p t (p x s).2).1 else x :: (dels p t (p x s).2).1, (dels p t (p x s).2).2)
theorem dels_append (p : α → σ → Bool × σ) : ∀ (a b : List α) (s : σ), dels p (a ++ b) s = ((dels p a s).1 ++ (dels p b (dels p a s).2).1, (dels p b (dels p a s).2).2)
  | [], b, s => by simp [dels]
  | x :: t, b, s => by
    simp only [List.cons_append, dels, dels_append p t b]
    split <;> simp
theorem dels_next (p : α → σ → Bool × σ) (e : α) {l : List α} {j : Nat} (hj : j < l.length) (s : σ) : dels p (l.take (j + 1)) s = ((dels p (l.take j) s).1 ++ (if (p (l.getD j e) (dels p (l.take j) s).2).1 = true then [] else [l.getD j e]), (p (l.getD j e) (dels p (l.take j) s).2).2) := by
  have h : l.take (j + 1) = l.take j ++ [l.getD j e] := by rw [List.take_succ_eq_append_getElem hj]; simp [List.getD, hj]
  rw [h, dels_append]
  simp only [dels]
/-- The first thing that is taken out. -/
def ixD (p : α → σ → Bool × σ) : List α → Nat → σ → Int × σ
  | [], _, s => (-1, s)
  | x :: t, j, s => if (p x s).1 = true then ((j : Int), (p x s).2) else ixD p t (j + 1) (p x s).2
theorem ixD_none (p : α → σ → Bool × σ) : ∀ (l : List α) (j : Nat) (s : σ), (ixD p l j s).1 = -1 → dels p l s = (l, (ixD p l j s).2)
  | [], _, _, _ => rfl
  | x :: t, j, s, h => by
    rw [ixD] at h ⊢
    split at h
    · omega
    · rename_i h1
      rw [if_neg h1, dels, if_neg h1, ixD_none p t (j + 1) _ h]
theorem ixD_some (p : α → σ → Bool × σ) : ∀ (l : List α) (j : Nat) (s : σ), ¬ (ixD p l j s).1 = -1 → ∃ i, (ixD p l j s).1 = ((j + i : Nat) : Int) ∧ i < l.length ∧ dels p (l.take (i + 1)) s = (l.take i, (ixD p l j s).2)
  | [], _, _, h => absurd rfl h
  | x :: t, j, s, h => by
    rw [ixD] at h ⊢
    split at h
    · rename_i h1
      exact ⟨0, by rw [if_pos h1]; simp, by simp, by rw [if_pos h1]; simp [dels, h1]⟩
    · rename_i h1
      obtain ⟨i, h2, h3, h4⟩ := ixD_some p t (j + 1) _ h
      refine ⟨i + 1, by rw [if_neg h1, h2]; congr 1; omega, by simp; omega, ?_⟩
      rw [if_neg h1, List.take_succ_cons, dels, if_neg h1, h4]; rfl
theorem ixD_some0 (p : α → σ → Bool × σ) (l : List α) (s : σ) (h : ¬ (ixD p l 0 s).1 = -1) : ∃ i : Nat, (ixD p l 0 s).1 = (i : Int) ∧ i < l.length ∧ dels p (l.take (i + 1)) s = (l.take i, (ixD p l 0 s).2) := by
  obtain ⟨i, h1, h2, h3⟩ := ixD_some p l 0 s h
  exact ⟨i, by rw [h1, Nat.zero_add], h2, h3⟩
theorem flatMap_take {cells : α → List Value} {sz : Nat} (hc : ∀ x, (cells x).length = sz) : ∀ (l : List α) (i : Nat), (l.flatMap cells).take (i * sz) = (l.take i).flatMap cells
  | [], i => by simp
  | x :: t, 0 => by simp
  | x :: t, i + 1 => by
    have e1 : (i + 1) * sz = (cells x).length + i * sz := by rw [hc x, Nat.add_mul]; omega
    rw [List.take_succ_cons, List.flatMap_cons, List.flatMap_cons, e1, List.take_append, List.take_of_length_le (by omega), Nat.add_sub_cancel_left, flatMap_take hc t i]
theorem ixD_no {p : α → σ → Bool × σ} {l : List α} {j : Nat} {s : σ} (e : α) (hj : j < l.length) (h : ¬ (p (l.getD j e) s).1 = true) : ixD p (l.drop j) j s = ixD p (l.drop (j + 1)) (j + 1) (p (l.getD j e) s).2 := by
  have e1 : l.getD j e = l[j] := by simp [List.getD, hj]
  rw [List.drop_eq_getElem_cons hj, ixD, ← e1, if_neg h]
theorem ixD_yes {p : α → σ → Bool × σ} {l : List α} {j : Nat} {s : σ} (e : α) (hj : j < l.length) (h : (p (l.getD j e) s).1 = true) : ixD p (l.drop j) j s = ((j : Int), (p (l.getD j e) s).2) := by
  have e1 : l.getD j e = l[j] := by simp [List.getD, hj]
  rw [List.drop_eq_getElem_cons hj, ixD, ← e1, if_pos h]
theorem set_take {l : List α} {i : Nat} {a : α} (hi : i < l.length) : (l.set i a).take (i + 1) = l.take i ++ [a] := by
  rw [List.take_succ_eq_append_getElem (by simpa using hi)]
  rw [List.take_set_of_le (Nat.le_refl _)]
  simp
theorem set_drop {l : List α} {i j : Nat} {a : α} (h : i < j) : (l.set i a).drop j = l.drop j := by
  rw [List.drop_set, if_pos h]
theorem drop_getD {l m : List α} {j : Nat} (e : α) (h : l.drop j = m.drop j) : l.getD j e = m.getD j e := by
  have h1 := congrArg (fun z : List α => z[0]?) h
  simp only [List.getElem?_drop, Nat.add_zero] at h1
  simp [List.getD, h1]
theorem drop_next {l m : List α} {j : Nat} (h : l.drop j = m.drop j) : l.drop (j + 1) = m.drop (j + 1) := by
  have h1 := congrArg (List.drop 1) h
  simpa [List.drop_drop, Nat.add_comm] using h1
/-- What a function that was handed in comes to: it changes one object. -/
def HCL (P : Program) (g : FuncId) (cs : List Value) (val : α → Value) (A : σ → Asrt) (p : α → σ → Bool × σ) (G : Ghost) : Prop := ∀ x s w F, Has G w → (A s).holds w F → (∀ b, F b → G b = none) → Calls P g ([val x] ++ cs).toArray w (Ret fun r w' => r = .bool (p x s).1 ∧ Kept (A (p x s).2) F w w')
theorem HCL.mono {P : Program} {g : FuncId} {cs : List Value} {val : α → Value} {A : σ → Asrt} {p : α → σ → Bool × σ} {G G' : Ghost} (h : HCL P g cs val A p G) (hle : GLe G G') : HCL P g cs val A p G' :=
  fun x s w F hG hA hF => h x s w F (fun b o e => hG b o (hle b o e)) hA (fun b hb => by
    cases e : G b with
    | none => rfl
    | some o => have := hle b o e; rw [hF b hb] at this; cases this)
/-- A function that asks nothing of a state: a filter. -/
theorem dels_pure (p : α → Bool) : ∀ (l : List α), (dels (fun x (_ : Unit) => (p x, ())) l ()).1 = l.filter (fun x => !p x)
  | [] => rfl
  | x :: t => by
    have ih := dels_pure p t
    simp only [dels, List.filter_cons]
    cases h : p x <;> simp [ih]
end
end Go.Gx

/-
  GX: maps of maps and of objects: what a look-up comes to where the key is there, and where it isn't; inner maps taken out and put back; sorted keys of a nil map. Generic in the program.
-/
namespace Go.Gx
open Go.RowKit Go.Sort Go.Maps
section
variable {κ ν : Type} [DecidableEq κ]
theorem lkp_map {μ : Type} (f : ν → μ) (l : List (κ × ν)) (k : κ) : lkp (l.map fun p => (p.1, f p.2)) k = (lkp l k).map f := by
  induction l with
  | nil => rfl
  | cons p t ih =>
    simp only [List.map_cons, lkp]
    split
    · rfl
    · exact ih
theorem mput_map {μ : Type} (f : ν → μ) (l : List (κ × ν)) (k : κ) (v : ν) : (mput l k v).map (fun p => (p.1, f p.2)) = mput (l.map fun p => (p.1, f p.2)) k (f v) := by
  induction l with
  | nil => rfl
  | cons p t ih =>
    simp only [List.map_cons, mput]
    split
    · rfl
    · simp [ih]
theorem mdel_map {μ : Type} (f : ν → μ) (l : List (κ × ν)) (k : κ) : (mdel l k).map (fun p => (p.1, f p.2)) = mdel (l.map fun p => (p.1, f p.2)) k := by
  induction l with
  | nil => rfl
  | cons p t ih =>
    simp only [List.map_cons, mdel]
    split
    · rfl
    · simp [ih]
/-- The zero value besides. -/
def veO (ve : ν → Value) (zv : Value) : Option ν → Value
  | none => zv
  | some v => ve v
omit [DecidableEq κ] in
theorem MapIs.opt {w : World} {m : Nat} {ke : κ → Value} {ve : ν → Value} {l : List (κ × ν)} {es : Array MapEntry} {clock : Nat} (zv : Value) (h : MapIs w m ke ve l es clock) : MapIs w m ke (veO ve zv) (l.map fun p => (p.1, some p.2)) es clock :=
  ⟨h.heap, h.st, by rw [h.eq, List.map_map]; rfl⟩
variable {P : Program} {K : TypeId} {ke : κ → Value} {ve : ν → Value} {N : Nat} {X : Nat → Prop} {w0 : World} {G : Ghost} {l : List (Nat × Value)} {L : List Asrt}
variable {d i m : Nat} {ty : TypeId} {pos : String} {after : Array Edge} {gd : Option (Nat × Bool)} {x y : Operand} {T E : TypeId} {mv : List (κ × ν)} {k : κ} {a : ν} {zv : Value}
theorem p_lookup_yes (hT : P.underlying T = some (.map K E)) (hk : KeyT P K ke) (hz : ZeroIs P E zv) (hx : ev l x = some (.map (some m))) (hL : L[i]? = some (mapA m ke ve mv)) (hy : ev l y = some (ke k)) (ha : lkp mv k = some a) :
    PV P N X w0 G l L ⟨some d, .lookup T x y false, ty, pos, after, gd⟩ (ve a) := by
  intro ac w hS
  obtain ⟨F, ⟨⟨es, clock, hM⟩, _⟩, _, _⟩ := hS.mem.take hL
  have h := run_lookup hT hk (ve := veO ve zv) none hz (hM.opt zv) (k := k) false
  rw [lkp_map, ha] at h
  simp only [execOp, hS.fr.eval hx, hS.fr.eval hy]
  simp [veO] at h
  simp [h]
end
/-! ### maps of maps of numbers -/
abbrev NM := Nat × List (Int × Int)
def veN (v : NM) : Value := .map (some v.1)
def FN {κ : Type} (p : κ × NM) : Asrt := mapA p.2.1 kI kI p.2.2
/-- What a map of maps holds. -/
def eraN {κ : Type} (l : List (κ × NM)) : List (κ × List (Int × Int)) := l.map fun p => (p.1, p.2.2)
section
variable {κ : Type} [DecidableEq κ]
variable {P : Program} {ops : Array Oper} {Q : Exit → Act → World → Prop} {N : Nat} {X : Nat → Prop} {w0 : World} {G : Ghost} {fr : List (Nat × Value)} {L : List Asrt} {rest : List Oper} {c : Code} {e : Exit}
variable {l : List (κ × NM)} {k : κ} {m : Nat} {h h' : List (Int × Int)} {u : NM}
omit [DecidableEq κ] in
theorem Mem.hnil {μ : Type} (F : κ × μ → Asrt) {w : World} (H : Mem X w0 G w L) : Mem X w0 G w (hoard F [] :: L) := ⟨H.since, H.has, (fun _ => False), ⟨trivial, fun _ hb => hb⟩, fun _ hb => hb.elim, H.sep.mono (fun _ _ hb => ⟨hb, id⟩)⟩
omit [DecidableEq κ] in
theorem e_hnil {μ : Type} (F : κ × μ → Asrt) (H : ERuns Q e N X w0 G fr (hoard F [] :: L)) : ERuns Q e N X w0 G fr L := fun a w hS => H a w ⟨hS.fr, hS.mem.hnil F⟩
omit [DecidableEq κ] in
theorem r_hnil {μ : Type} (F : κ × μ → Asrt) (H : Runs P ops Q N X w0 G rest fr (hoard F [] :: L)) : Runs P ops Q N X w0 G rest fr L := fun a w hS => H a w ⟨hS.fr, hS.mem.hnil F⟩
end
/-! ### sorted keys of a nil map -/
def KeysNil (P : Program) (f g : FuncId) (K : TypeId) : Prop := ∀ (Bm : Nat) (w : World), w.cell? ⟨Bm, 0, none⟩ = some (.map none) → Bm < w.heap.size →
  Calls P f #[.func (.func g) #[] #[.pointer (some ⟨Bm, 0, none⟩)]] w fun e w' => ∃ v, e = .returned v ∧ w'.ownsRow w.heap.size K 1 v 0 [] ∧ Below w.heap.size w w'
section
variable {P : Program} {ops : Array Oper} {Q : Exit → Act → World → Prop} {N : Nat} {X : Nat → Prop} {w0 : World} {G : Ghost} {l : List (Nat × Value)} {L : List Asrt}
variable {rest : List Oper} {d j Bm : Nat} {ty : TypeId} {pos : String} {after : Array Edge} {gd : Option (Nat × Bool)} {K T : TypeId} {f g : FuncId} {x : Operand} {ats : Array TypeId}
end
end Go.Gx

/-
  GX: make([]T, n) of a few elements; shifts and masks of small numbers; a call that hands back a row beside an object. Generic in the program.
-/
namespace Go.Gx
open Go.RowKit
section
variable {P : Program} {ops : Array Oper} {Q : Exit → Act → World → Prop} {N : Nat} {X : Nat → Prop} {w0 : World} {G : Ghost} {l : List (Nat × Value)} {L : List Asrt}
variable {rest : List Oper} {d k : Nat} {ty : TypeId} {pos : String} {after : Array Edge} {gd : Option (Nat × Bool)} {x y : Operand} {T U E : TypeId} {sz bytes : Nat}
/-- A call that changes one object, told by what it hands back. -/
theorem r_callor {f : FuncId} {xs : List Operand} {vs : List Value} {ats : Array TypeId} {A : Asrt} {B : Value → Asrt} (hw : Wt ops l gd) (hd : Nat.blt d N = true) (hf : Callable P f) (hv : evs l xs = some vs) (hL : L[k]? = some A)
    (hc : ∀ w F, Has G w → A.holds w F → (∀ b, F b → G b = none) → Calls P f vs.toArray w (Ret fun r w' => Kept (B r) F w w'))
    (h : ∀ r, Runs P ops Q N X w0 G rest ((d, r) :: l) (L.set k (B r))) : Runs P ops Q N X w0 G (⟨some d, .call ⟨.value (.func f), xs.toArray, ats⟩, ty, pos, after, gd⟩ :: rest) l L := by
  refine Runs.step hw (fun a w hS => ?_)
  show Oper.upon P _ a _ Q _
  rw [run_call hS.fr hv hf, Oper.upon_enter]
  obtain ⟨F, hA, hG, hput⟩ := hS.mem.take hL
  refine (hc w F hS.mem.has hA hG).mono (fun e w' hR => ?_)
  cases e with
  | returned r =>
    obtain ⟨hs, F', hB, hF'⟩ := hR
    exact h r _ _ ⟨hS.fr.put (by simpa using hd) _, hput w' _ F' hs hB hF'⟩
  | panicked c => exact hR.elim
  | outgrown => exact hR.elim
end
end Go.Gx
namespace Go.Gx
open Go.RowKit
section
variable {P : Program} {ops : Array Oper} {brk : Nat → Bool} {G0 : Ghost} {L0 : List Asrt} {Q : Exit → Act → World → Prop} {N : Nat} {X : Nat → Prop} {w0 : World} {G : Ghost} {l l' : List (Nat × Value)} {L L' : List Asrt} {n : Nat} {listed : Array Bool}
variable {d d' : Nat} {ty ty' : TypeId} {pos pos' : String} {after after' : Array Edge} {gd gd' : Option (Nat × Bool)} {T T' : TypeId} {v v' : Value} {m m' : Nat} {f f' : Nat → Value}
end
end Go.Gx

/- A call that changes an object, while a row of the caller's own is seen by it. -/
namespace Go.Gx
open Go.RowKit
theorem with_row {P : Program} {f : FuncId} {vs : Array Value} {v : Value} {E : TypeId} {sz n : Nat} {xs : List Value} {A : Asrt} {B : Value → Asrt} {R : Value → Prop} {G : Ghost} {w : World} {F : Nat → Prop}
    (hc : ∀ (G' : Ghost) (F' : Nat → Prop), GLe G G' → SlG G' v n sz (fun i j => xs.getD (i * sz + j) undef) → Has G' w → A.holds w F' → (∀ b, F' b → G' b = none) → Calls P f vs w (Ret fun r w' => R r ∧ Kept (B r) F' w w'))
    (hG : Has G w) (hA : (starL [rowA v E sz n xs, A]).holds w F) (hF : ∀ b, F b → G b = none) : Calls P f vs w (Ret fun r w' => R r ∧ Kept (starL [rowA v E sz n xs, B r]) F w w') := by
  obtain ⟨F1, F2, hrow, ⟨FA, F0, hAA, hnil, _, h2⟩, hdis, h1⟩ := hA
  have hM : Mem F1 w G w [rowA v E sz n xs] := ⟨Since.refl _ _, hG, F1, hrow, fun b hb => ⟨.inr hb, hF b ((h1 b).2 (.inl hb))⟩, trivial⟩
  obtain ⟨G', hn, hs, hM2⟩ := hM.freeze (k := 0) rfl
  have hFA : ∀ b, FA b → F2 b := fun b hb => (h2 b).2 (.inl hb)
  have hnone : ∀ b, FA b → G' b = none := fun b hb => by
    cases e : G' b with
    | none => rfl
    | some o =>
      rcases hn.new b (hF b ((h1 b).2 (.inr (hFA b hb)))) (by rw [e]; simp) with h | h
      · have := A.dom hAA hb; omega
      · exact absurd (hFA b hb) (hdis b h)
  refine (hc G' FA hn.le hs hM2.has hAA hnone).mono (fun e w' hR => ?_)
  cases e with
  | returned r =>
    obtain ⟨hr, hsn, F', hB, hF'⟩ := hR
    refine ⟨hr, ⟨hsn.os, hsn.tape, hsn.output, hsn.size, fun k hk hn2 => hsn.block k hk (fun hfa => hn2 ((h1 k).2 (.inr (hFA k hfa))))⟩, fun b => F1 b ∨ F' b, ⟨F1, F', ?_, ⟨F', fun _ => False, hB, ⟨trivial, fun _ h => h⟩, fun _ _ h => h, fun b => ⟨.inl, fun h => h.elim id False.elim⟩⟩, fun b hb hb2 => ?_, fun b => Iff.rfl⟩, fun b hb => ?_⟩
    · exact Asrt.frame _ hrow (fun b hb => hsn.block b (Asrt.dom _ hrow hb) (fun hfa => hdis b hb (hFA b hfa)))
    · rcases hF' b hb2 with h | h
      · exact hdis b hb (hFA b h)
      · have := Asrt.dom _ hrow hb; omega
    · rcases hb with hb | hb
      · exact .inl ((h1 b).2 (.inl hb))
      · rcases hF' b hb with h | h
        · exact .inl ((h1 b).2 (.inr (hFA b h)))
        · exact .inr h
  | panicked c => exact hR.elim
  | outgrown => exact hR.elim
end Go.Gx

/- Trees of tokens in memory: a map that leads to tokens, and two maps of maps. Generic in the program and in what a place is. -/
namespace Go.Gx
open Go.RowKit
/-! ### what is seen by a call while it is another's own -/
theorem with_seen {P : Program} {f : FuncId} {vs : Array Value} {H A : Asrt} {B : Value → Asrt} {R : Value → Prop} {S : Ghost → Prop} {G : Ghost} {w : World} {F : Nat → Prop}
    (hfr : ∀ F1, Mem F1 w G w [H] → ∃ G', GNew w F1 G G' ∧ S G' ∧ Has G' w)
    (hc : ∀ (G' : Ghost) (F' : Nat → Prop), GLe G G' → S G' → Has G' w → A.holds w F' → (∀ b, F' b → G' b = none) → Calls P f vs w (Ret fun r w' => R r ∧ Kept (B r) F' w w'))
    (hG : Has G w) (hA : (starL [H, A]).holds w F) (hF : ∀ b, F b → G b = none) : Calls P f vs w (Ret fun r w' => R r ∧ Kept (starL [H, B r]) F w w') := by
  obtain ⟨F1, F2, hrow, ⟨FA, F0, hAA, hnil, _, h2⟩, hdis, h1⟩ := hA
  have hM : Mem F1 w G w [H] := ⟨Since.refl _ _, hG, F1, hrow, fun b hb => ⟨.inr hb, hF b ((h1 b).2 (.inl hb))⟩, trivial⟩
  obtain ⟨G', hn, hs, hM2⟩ := hfr F1 hM
  have hFA : ∀ b, FA b → F2 b := fun b hb => (h2 b).2 (.inl hb)
  have hnone : ∀ b, FA b → G' b = none := fun b hb => by
    cases e : G' b with
    | none => rfl
    | some o =>
      rcases hn.new b (hF b ((h1 b).2 (.inr (hFA b hb)))) (by rw [e]; simp) with h | h
      · have := A.dom hAA hb; omega
      · exact absurd (hFA b hb) (hdis b h)
  refine (hc G' FA hn.le hs hM2 hAA hnone).mono (fun e w' hR => ?_)
  cases e with
  | returned r =>
    obtain ⟨hr, hsn, F', hB, hF'⟩ := hR
    refine ⟨hr, ⟨hsn.os, hsn.tape, hsn.output, hsn.size, fun k hk hn2 => hsn.block k hk (fun hfa => hn2 ((h1 k).2 (.inr (hFA k hfa))))⟩, fun b => F1 b ∨ F' b, ⟨F1, F', ?_, ⟨F', fun _ => False, hB, ⟨trivial, fun _ h => h⟩, fun _ _ h => h, fun b => ⟨.inl, fun h => h.elim id False.elim⟩⟩, fun b hb hb2 => ?_, fun b => Iff.rfl⟩, fun b hb => ?_⟩
    · exact Asrt.frame _ hrow (fun b hb => hsn.block b (Asrt.dom _ hrow hb) (fun hfa => hdis b hb (hFA b hfa)))
    · rcases hF' b hb2 with h | h
      · exact hdis b hb (hFA b h)
      · have := Asrt.dom _ hrow hb; omega
    · rcases hb with hb | hb
      · exact .inl ((h1 b).2 (.inl hb))
      · rcases hF' b hb with h | h
        · exact .inl ((h1 b).2 (.inr (hFA b h)))
        · exact .inr h
  | panicked c => exact hR.elim
  | outgrown => exact hR.elim
theorem star_tt (A : Asrt) : (star A (pureA True)).Eqv A := fun w F => by
  constructor
  · rintro ⟨F1, F2, h1, ⟨_, h2⟩, h3, h4⟩
    have e : F = F1 := by funext b; exact propext ⟨fun h => ((h4 b).1 h).elim id (fun h => (h2 b h).elim), fun h => (h4 b).2 (.inl h)⟩
    rw [e]; exact h1
  · intro h
    exact ⟨F, fun _ => False, h, ⟨trivial, fun _ h => h⟩, fun _ _ h => h, fun b => ⟨.inl, fun h => h.elim id False.elim⟩⟩
theorem starL_oneE {A : Asrt} : (starL [A]).Eqv A := star_tt A
theorem starL_two {A B : Asrt} : (starL [A, B]).Eqv (star A B) := star_congr .rfl (star_tt B)
theorem Kept.imp {A B : Asrt} {F : Nat → Prop} {w w' : World} (h : Kept A F w w') (hi : ∀ w F, A.holds w F → B.holds w F) : Kept B F w w' :=
  ⟨h.1, by obtain ⟨F', h1, h2⟩ := h.2; exact ⟨F', hi _ _ h1, h2⟩⟩
theorem star_flip {A B : Asrt} : (starL [A, B]).Eqv (starL [B, A]) := starL_two.trans ((star_comm A B).trans starL_two.symm)
/-! ### tokens -/
structure Tk (α : Type) where
  pla : α
  par : Int
  fac : Int
  kids : List Int
abbrev TB (α : Type) := Nat × Value × Tk α
def veB {α : Type} (v : TB α) : Value := .pointer (some ⟨v.1, 0, none⟩)
def tkC {α : Type} (ke : α → Value) (v : TB α) : List Value := [ke v.2.2.pla, .int .i64 v.2.2.par, .int .i64 v.2.2.fac, v.2.1]
def tkA {α : Type} (T E : TypeId) (ke : α → Value) (v : TB α) : Asrt := starL [box v.1 4 T (at_ (tkC ke v)), rowA v.2.1 E 1 v.2.2.kids.length (v.2.2.kids.flatMap cI)]
def FT {α : Type} (T E : TypeId) (ke : α → Value) (p : Int × TB α) : Asrt := tkA T E ke p.2
def TokAt {α : Type} (G : Ghost) (ke : α → Value) (v : TB α) : Prop := RowAt G v.1 0 4 (at_ (tkC ke v)) ∧ SlL G v.2.1 1 cI (0 : Int) v.2.2.kids
theorem TokAt.mono {α : Type} {G G' : Ghost} {ke : α → Value} {v : TB α} (h : TokAt G ke v) (hle : GLe G G') : TokAt G' ke v := ⟨h.1.mono hle, h.2.mono hle⟩
section
variable {P : Program} {ops : Array Oper} {Q : Exit → Act → World → Prop} {N : Nat} {X : Nat → Prop} {w0 w : World} {G : Ghost} {fr : List (Nat × Value)} {L : List Asrt} {rest : List Oper} {c : Code} {e : Exit}
theorem Mem.freezeX {k n b E : Nat} {f : Nat → Value} (hm : Mem X w0 G w L) (hL : L[k]? = some (box b n E f)) : ∃ G', GNew w0 X G G' ∧ RowAt G' b 0 n f ∧ Mem X w0 G' w (L.eraseIdx k) := by
  obtain ⟨G', h1, h2, h3⟩ := hm.freezeB (m := 1) (sz := n) hL (by omega) (by omega)
  obtain ⟨_, _, e, _, h4⟩ := h2
  obtain ⟨b', o, e2, h5⟩ := h4 (by omega)
  simp only [Value.slice.injEq] at e
  obtain ⟨rfl, _⟩ := e
  simp only [Option.some.injEq, Addr.mk.injEq] at e2
  obtain ⟨rfl, rfl, _⟩ := e2
  have h6 := h5 0 (by omega)
  simp only [Nat.zero_mul, Nat.add_zero, Nat.zero_add] at h6
  exact ⟨G', h1, h6, h3⟩
variable {α : Type} {T E : TypeId} {ke : α → Value}
def mdels {κ ν : Type} [DecidableEq κ] (l : List (κ × ν)) (ks : List κ) : List (κ × ν) := ks.foldl mdel l
theorem lkp_mdel_ne {κ ν : Type} [DecidableEq κ] {l : List (κ × ν)} {k k' : κ} (h : ¬ k = k') : lkp (mdel l k) k' = lkp l k' := by
  induction l with
  | nil => rfl
  | cons p t ih =>
    simp only [mdel]
    split
    · rename_i e; simp [lkp, e, h]
    · simp only [lkp, ih]
end
/-! ### maps of maps -/
def nestA {κ : Type} (ke : κ → Value) (m : Nat) (c : List (κ × List (Int × Int))) : Asrt := exA fun l : List (κ × NM) => andA (c = eraN l) (starL [mapA m ke veN l, hoard FN l])
def nput {κ : Type} [DecidableEq κ] (c : List (κ × List (Int × Int))) (k : κ) (id : Int) : List (κ × List (Int × Int)) := mput c k (mput ((lkp c k).getD []) id 1)
def ndrop {κ : Type} [DecidableEq κ] (c : List (κ × List (Int × Int))) (k : κ) (id : Int) : List (κ × List (Int × Int)) :=
  if (mdel ((lkp c k).getD []) id).length = 0 then mdel c k else mput c k (mdel ((lkp c k).getD []) id)
/-! ### the tree -/
structure TS (τ α : Type) where
  toks : List (Int × τ)
  pl : List (α × List (Int × Int))
  fc : List (Int × List (Int × Int))
  last : Int
def eraT {α : Type} (l : List (Int × TB α)) : List (Int × Tk α) := l.map fun p => (p.1, p.2.2.2)
section
variable {α : Type} (T TT E : TypeId) (ke : α → Value) (p : Nat)
def treeC {τ : Type} (s : TS τ α) (z : Nat × Nat × Nat) : List Value := [.map (some z.1), .map (some z.2.1), .map (some z.2.2), .int .i64 s.last]
def treeL (s : TS (TB α) α) (z : Nat × Nat × Nat) : List Asrt := [box p 4 T (at_ (treeC s z)), mapA z.1 kI veB s.toks, nestA ke z.2.1 s.pl, nestA kI z.2.2 s.fc]
/-- All but the tokens. -/
def treeR (s : TS (TB α) α) : Asrt := exA fun z : Nat × Nat × Nat => starL (treeL T ke p s z)
def treeE (s : TS (Tk α) α) : Asrt := exA fun l : List (Int × TB α) => andA (s.toks = eraT l) (starL [treeR T ke p ⟨l, s.pl, s.fc, s.last⟩, hoard (FT TT E ke) l])
end
section
variable {α : Type} {T TT E : TypeId} {ke : α → Value} {p : Nat}
variable {P : Program} {ops : Array Oper} {Q : Exit → Act → World → Prop} {N : Nat} {X : Nat → Prop} {w0 w : World} {G : Ghost} {fr : List (Nat × Value)} {L : List Asrt} {rest : List Oper} {c : Code} {e : Exit}
end
end Go.Gx

/- Trees of tokens in memory: looking one up, a row turned about, maps of maps opened and shut. Generic in the program. -/
namespace Go.Gx
open Go.RowKit Go.Sort Go.Lib
section
variable {κ ν : Type} [DecidableEq κ] {P : Program} {K : TypeId} {ke : κ → Value} {ve : ν → Value} {N : Nat} {X : Nat → Prop} {w0 : World} {G : Ghost} {l : List (Nat × Value)} {L : List Asrt}
variable {d i m : Nat} {ty : TypeId} {pos : String} {after : Array Edge} {gd : Option (Nat × Bool)} {x y : Operand} {T E : TypeId} {mv : List (κ × ν)} {k : κ} {zv : Value}
end
section
variable {κ : Type} {ke : κ → Value} {m : Nat} {c0 : List (κ × List (Int × Int))} {l : List (κ × NM)}
variable {P : Program} {ops : Array Oper} {Q : Exit → Act → World → Prop} {N : Nat} {X : Nat → Prop} {w0 w : World} {G : Ghost} {fr : List (Nat × Value)} {L : List Asrt} {rest : List Oper} {c : Code} {e : Exit}
end
section
variable {P : Program} {ops : Array Oper} {Q : Exit → Act → World → Prop} {N : Nat} {X : Nat → Prop} {w0 : World} {G : Ghost} {l : List (Nat × Value)} {L : List Asrt} {rest : List Oper} {d k : Nat} {ty : TypeId} {pos : String} {after : Array Edge} {gd : Option (Nat × Bool)}
end
/-! ### a row of the call's own, turned about -/
def Rev1C (P : Program) {α : Type} [Inhabited α] (f : FuncId) (enc : α → Value) : Prop := ∀ (blk cap : Nat) (zs : List α) (w : World), Holds enc w blk 0 zs.toArray → zs.length ≤ 9223372036854775807 →
  Calls P f #[.slice (some ⟨blk, 0, none⟩) zs.length cap] w fun e w' => e = .returned (.tuple #[]) ∧ ∃ n, w' = putRow enc (Sort.ahead w n) blk 0 zs.reverse.toArray
def Rev1N (P : Program) (f : FuncId) : Prop := ∀ (p : Option Addr) (cap : Nat) (w : World), Calls P f #[.slice p 0 cap] w fun e w' => e = .returned (.tuple #[]) ∧ w' = w
section
variable {α : Type} [Inhabited α] {enc : α → Value}
variable {P : Program} {ops : Array Oper} {Q : Exit → Act → World → Prop} {N : Nat} {X : Nat → Prop} {w0 : World} {G : Ghost} {l : List (Nat × Value)} {L : List Asrt}
variable {rest : List Oper} {d k n : Nat} {ty : TypeId} {pos : String} {after : Array Edge} {gd : Option (Nat × Bool)} {v : Value} {E : TypeId} {zs : List α} {f g : FuncId} {xs : List Operand} {ats : Array TypeId}
omit [Inhabited α] in
theorem grow_none (w : World) : grow w #[] = w := by
  show ({ w with heap := w.heap ++ #[] } : World) = w
  rw [Array.append_empty]
theorem r_rev1 (hw : Wt ops l gd) (hd : Nat.blt d N = true) (hf : Callable P f) (hv : evs l xs = some [v]) (hL : L[k]? = some (rowA v E 1 zs.length (zs.flatMap fun a => [enc a]))) (hs : Rev1C P f enc) (hn : Rev1N P f) (hlen : zs.length < 4611686018427387904)
    (h : Runs P ops Q N X w0 G rest ((d, .tuple #[]) :: l) (L.set k (rowA v E 1 zs.reverse.length (zs.reverse.flatMap fun a => [enc a])))) : Runs P ops Q N X w0 G (⟨some d, .call ⟨.value (.func f), xs.toArray, ats⟩, ty, pos, after, gd⟩ :: rest) l L := by
  refine Runs.step hw (fun a w hS => ?_)
  show Oper.upon P _ a _ Q _
  rw [run_call hS.fr hv hf, Oper.upon_enter]
  obtain ⟨F, ⟨⟨hlen1, hown⟩, hF, hmax⟩, _, hput⟩ := hS.mem.take hL
  by_cases hz : zs.length = 0
  · have hz' : zs = [] := List.eq_nil_of_length_eq_zero hz
    subst hz'
    rw [List.reverse_nil, set_same hL] at h
    have hv2 : ∃ p c, v = .slice p 0 c := by
      rcases hown with ⟨rfl, _⟩ | ⟨g, cap, cur, rfl, _⟩
      · exact ⟨_, _, rfl⟩
      · exact ⟨_, _, rfl⟩
    obtain ⟨p, c, rfl⟩ := hv2
    refine (hn p c w).mono (fun e w' hR => ?_)
    obtain ⟨rfl, rfl⟩ := hR
    exact h _ _ ⟨hS.fr.put (by simpa using hd) _, hS.mem⟩
  · rcases hown with ⟨_, h0⟩ | ⟨g, cap, cur, rfl, _, hg, hnc, hcm, hcs, htk⟩
    · exact absurd h0 hz
    · have hcs' : cur.size = cap := by simpa using hcs
      have htk' : cur.toList.take zs.length = zs.map enc := by rw [← cells_one]; simpa using htk
      refine (hs g cap zs w (own_holds1 hg hcs' hnc htk') (by omega)).mono (fun e w' hR => ?_)
      obtain ⟨rfl, q, rfl⟩ := hR
      have hFg : F g := (hF g).2 rfl
      rw [← grow_none (putRow enc (Sort.ahead w q) g 0 zs.reverse.toArray)]
      refine h _ _ ⟨hS.fr.put (by simpa using hd) _, hput _ _ (fun b => b = g) (since_sort1 hFg) ?_ (fun b hb => .inl (hb ▸ hFg))⟩
      have h2 := own_after1 (enc := enc) (q := q) (os := #[]) (zs' := zs.reverse) hg hcs' hcm (by simpa using hnc)
      rw [List.length_reverse] at h2 ⊢
      exact h2
end
section
variable {α : Type}
end
section
variable {α : Type} {T TT E : TypeId} {ke : α → Value} {p : Nat}
variable {P : Program} {ops : Array Oper} {Q : Exit → Act → World → Prop} {N : Nat} {X : Nat → Prop} {w0 w : World} {G : Ghost} {fr : List (Nat × Value)} {L : List Asrt} {rest : List Oper} {c : Code} {e : Exit}
variable {l : List (Int × TB α)} {k : Int} {u v : TB α}
end
end Go.Gx

/- Nodes in memory: a map that leads to boxes with two rows of numbers each; what a call sees of them, and one taken out and put back. Generic in the program and in what else a node has. -/
namespace Go.Gx
open Go.RowKit
/-- A node's cells: those ahead of its rows, between them, behind them. -/
structure NK (σ : Type) where
  T : TypeId
  E : TypeId
  n : Nat
  cells : σ → Value → Value → List Value
  kids : σ → List Int
  outer : σ → List Int
abbrev NB (σ : Type) := Nat × Value × Value × σ
def veN2 {σ : Type} (v : NB σ) : Value := .pointer (some ⟨v.1, 0, none⟩)
def ndL {σ : Type} (K : NK σ) (v : NB σ) : List Asrt := [box v.1 K.n K.T (at_ (K.cells v.2.2.2 v.2.1 v.2.2.1)), rowA v.2.1 K.E 1 (K.kids v.2.2.2).length ((K.kids v.2.2.2).flatMap cI), rowA v.2.2.1 K.E 1 (K.outer v.2.2.2).length ((K.outer v.2.2.2).flatMap cI)]
def ndA {σ : Type} (K : NK σ) (v : NB σ) : Asrt := starL (ndL K v)
def FK {σ : Type} (K : NK σ) (p : Int × NB σ) : Asrt := ndA K p.2
def NodeAt {σ : Type} (K : NK σ) (G : Ghost) (v : NB σ) : Prop := RowAt G v.1 0 K.n (at_ (K.cells v.2.2.2 v.2.1 v.2.2.1)) ∧ SlL G v.2.1 1 cI (0 : Int) (K.kids v.2.2.2) ∧ SlL G v.2.2.1 1 cI (0 : Int) (K.outer v.2.2.2)
theorem NodeAt.mono {σ : Type} {K : NK σ} {G G' : Ghost} {v : NB σ} (h : NodeAt K G v) (hle : GLe G G') : NodeAt K G' v := ⟨h.1.mono hle, h.2.1.mono hle, h.2.2.mono hle⟩
/-- What is known of nodes, but for where they lie. -/
def eraK {σ : Type} (l : List (Int × NB σ)) : List (Int × σ) := l.map fun p => (p.1, p.2.2.2.2)
theorem eraK_lkp {σ : Type} (l : List (Int × NB σ)) (k : Int) : lkp (eraK l) k = (lkp l k).map (·.2.2.2) := lkp_map (fun v : NB σ => v.2.2.2) l k
theorem eraK_len {σ : Type} (l : List (Int × NB σ)) : (eraK l).length = l.length := by simp [eraK]
theorem eraK_mput {σ : Type} (l : List (Int × NB σ)) (k : Int) (v : NB σ) : eraK (mput l k v) = mput (eraK l) k v.2.2.2 := mput_map (fun v : NB σ => v.2.2.2) l k v
theorem eraK_mdel {σ : Type} (l : List (Int × NB σ)) (k : Int) : eraK (mdel l k) = mdel (eraK l) k := mdel_map (fun v : NB σ => v.2.2.2) l k
theorem eraK_some {σ : Type} {l : List (Int × NB σ)} {k : Int} {x : σ} (h : lkp (eraK l) k = some x) : ∃ b kv ov, lkp l k = some (b, kv, ov, x) := by
  rw [eraK_lkp] at h
  obtain ⟨⟨b, kv, ov, y⟩, h1, h2⟩ := Option.map_eq_some_iff.1 h
  exact ⟨b, kv, ov, by rw [h1]; simp only at h2; rw [h2]⟩
section
variable {σ : Type} {K : NK σ}
variable {P : Program} {ops : Array Oper} {Q : Exit → Act → World → Prop} {N : Nat} {X : Nat → Prop} {w0 w : World} {G : Ghost} {fr : List (Nat × Value)} {L : List Asrt} {rest : List Oper} {c : Code} {e : Exit}
theorem Mem.freezeN2 {v : NB σ} (hm : Mem X w0 G w (ndA K v :: L)) : ∃ G', GNew w0 X G G' ∧ NodeAt K G' v ∧ Mem X w0 G' w L := by
  have h0 := hm.unpack
  obtain ⟨G1, n1, r1, h1⟩ := h0.freezeX (k := 0) rfl
  obtain ⟨G2, n2, r2, h2⟩ := h1.freeze (k := 0) rfl
  obtain ⟨G3, n3, r3, h3⟩ := h2.freeze (k := 0) rfl
  exact ⟨G3, (n1.trans n2).trans n3, ⟨r1.mono (GLe.trans n2.le n3.le), (SlL.of (cells := cI) (0 : Int) (fun _ => rfl) rfl r2).mono n3.le, SlL.of (cells := cI) (0 : Int) (fun _ => rfl) rfl r3⟩, h3⟩
theorem Mem.freezeHK : ∀ {l : List (Int × NB σ)} {G : Ghost}, Mem X w0 G w (hoard (FK K) l :: L) → ∃ G', GNew w0 X G G' ∧ (∀ q ∈ l, NodeAt K G' q.2) ∧ Mem X w0 G' w L
  | [], G, hm => ⟨G, GNew.refl _ _ _, by simp, hm.imp (.drop (Imp.refl _))⟩
  | q :: t, G, hm => by
    have h0 : Mem X w0 G w (ndA K q.2 :: hoard (FK K) t :: L) := ⟨hm.since, hm.has, Sep.unstar hm.sep⟩
    obtain ⟨G1, n1, r1, h1⟩ := h0.freezeN2
    obtain ⟨G2, n2, r2, h2⟩ := Mem.freezeHK h1
    refine ⟨G2, n1.trans n2, fun x hx => ?_, h2⟩
    rcases List.mem_cons.1 hx with rfl | hx
    · exact r1.mono n2.le
    · exact r2 x hx
end
/-! ### the trie -/
structure KS (τ : Type) where
  nodes : List (Int × τ)
  last : Int
section
variable {σ : Type} (K : NK σ) (T : TypeId) (p : Nat)
def trC {τ : Type} (s : KS τ) (z : Nat) : List Value := [.map (some z), .int .i64 s.last]
def trL (s : KS (NB σ)) (z : Nat) : List Asrt := [box p 2 T (at_ (trC s z)), mapA z kI veN2 s.nodes]
/-- All but the nodes. -/
def trR (s : KS (NB σ)) : Asrt := exA fun z : Nat => starL (trL T p s z)
def trE (s : KS σ) : Asrt := exA fun l : List (Int × NB σ) => andA (s.nodes = eraK l) (starL [trR T p ⟨l, s.last⟩, hoard (FK K) l])
end
section
variable {σ : Type} {K : NK σ} {T : TypeId} {p : Nat}
variable {P : Program} {ops : Array Oper} {Q : Exit → Act → World → Prop} {N : Nat} {X : Nat → Prop} {w0 w : World} {G : Ghost} {fr : List (Nat × Value)} {L : List Asrt} {rest : List Oper} {c : Code} {e : Exit}
theorem Mem.shutK {s : KS (NB σ)} (z : Nat) (h : Mem X w0 G w (trL T p s z ++ L)) : Mem X w0 G w (trR T p s :: L) := by
  obtain ⟨F, h1, h2, h3⟩ := Sep.packL (trL T p s z) h.sep
  exact ⟨h.since, h.has, F, ⟨z, h1⟩, h2, h3⟩
theorem Mem.openK {s : KS (NB σ)} (h : Mem X w0 G w (trR T p s :: L)) : ∃ z, Mem X w0 G w (trL T p s z ++ L) := by
  obtain ⟨z, hz⟩ := h.unex
  exact ⟨z, hz.unpack⟩
theorem r_openK {s : KS (NB σ)} (H : ∀ z : Nat, Runs P ops Q N X w0 G rest fr (box p 2 T (at_ (trC s z)) :: mapA z kI veN2 s.nodes :: L)) : Runs P ops Q N X w0 G rest fr (trR T p s :: L) := fun a w hS => by
  obtain ⟨z, hz⟩ := hS.mem.openK
  exact H z a w ⟨hS.fr, hz⟩
theorem c_openK {s : KS (NB σ)} (H : ∀ z : Nat, CRuns P c Q N X w0 G fr (box p 2 T (at_ (trC s z)) :: mapA z kI veN2 s.nodes :: L)) : CRuns P c Q N X w0 G fr (trR T p s :: L) := fun a w hS => by
  obtain ⟨z, hz⟩ := hS.mem.openK
  exact H z a w ⟨hS.fr, hz⟩
theorem r_shutK {s : KS (NB σ)} (z : Nat) (H : Runs P ops Q N X w0 G rest fr (trR T p s :: L)) : Runs P ops Q N X w0 G rest fr (box p 2 T (at_ (trC s z)) :: mapA z kI veN2 s.nodes :: L) := fun a w hS => H a w ⟨hS.fr, hS.mem.shutK z⟩
theorem trie_see0 {f : FuncId} {vs : Array Value} {R : Value → Prop} {F : Nat → Prop} {s : KS σ}
    (hc : ∀ (l : List (Int × NB σ)) (G' : Ghost) (F' : Nat → Prop), s.nodes = eraK l → GLe G G' → (∀ q ∈ l, NodeAt K G' q.2) → Has G' w → (trR T p ⟨l, s.last⟩).holds w F' → (∀ b, F' b → G' b = none) →
      Calls P f vs w (Ret fun r w' => R r ∧ Kept (trR T p ⟨l, s.last⟩) F' w w'))
    (hG : Has G w) (hA : (trE K T p s).holds w F) (hF : ∀ b, F b → G b = none) : Calls P f vs w (Ret fun r w' => R r ∧ Kept (trE K T p s) F w w') := by
  obtain ⟨l, hl, hA⟩ := hA
  refine (with_seen (H := hoard (FK K) l) (S := fun G' => ∀ q ∈ l, NodeAt K G' q.2) (R := R) (B := fun r => trR T p ⟨l, s.last⟩) (fun F1 hM => ?_) (fun G' F' hle hs hG' hA' hF' => hc l G' F' hl hle hs hG' hA' hF') hG ((star_flip w F).1 hA) hF).mono (fun e w' hR => ?_)
  · obtain ⟨G', h1, h2, h3⟩ := hM.freezeHK
    exact ⟨G', h1, h2, h3.has⟩
  · cases e with
    | returned r => exact ⟨hR.1, hR.2.imp (fun w F h => ⟨l, hl, (star_flip w F).1 h⟩)⟩
    | panicked c => exact hR.elim
    | outgrown => exact hR.elim
variable {l : List (Int × NB σ)} {k : Int} {u v : NB σ}
theorem r_fnode (hk : lkp l k = some v) (H : Runs P ops Q N X w0 G rest fr (box v.1 K.n K.T (at_ (K.cells v.2.2.2 v.2.1 v.2.2.1)) :: rowA v.2.1 K.E 1 (K.kids v.2.2.2).length ((K.kids v.2.2.2).flatMap cI) :: rowA v.2.2.1 K.E 1 (K.outer v.2.2.2).length ((K.outer v.2.2.2).flatMap cI) :: hoard (FK K) (mdel l k) :: L)) : Runs P ops Q N X w0 G rest fr (hoard (FK K) l :: L) := fun a w hS =>
  H a w ⟨hS.fr, (hS.mem.focus hk).unpack⟩
theorem Mem.nodeIn (h : Mem X w0 G w (box v.1 K.n K.T (at_ (K.cells v.2.2.2 v.2.1 v.2.2.1)) :: rowA v.2.1 K.E 1 (K.kids v.2.2.2).length ((K.kids v.2.2.2).flatMap cI) :: rowA v.2.2.1 K.E 1 (K.outer v.2.2.2).length ((K.outer v.2.2.2).flatMap cI) :: L)) : Mem X w0 G w (FK K (k, v) :: L) := by
  obtain ⟨F, h1, h2, h3⟩ := Sep.packL (ndL K v) h.sep
  exact ⟨h.since, h.has, F, h1, h2, h3⟩
theorem Mem.nodeBack (hk : lkp l k = some u) (h : Mem X w0 G w (box v.1 K.n K.T (at_ (K.cells v.2.2.2 v.2.1 v.2.2.1)) :: rowA v.2.1 K.E 1 (K.kids v.2.2.2).length ((K.kids v.2.2.2).flatMap cI) :: rowA v.2.2.1 K.E 1 (K.outer v.2.2.2).length ((K.outer v.2.2.2).flatMap cI) :: hoard (FK K) (mdel l k) :: L)) : Mem X w0 G w (hoard (FK K) (mput l k v) :: L) :=
  (Mem.nodeIn (k := k) h).unfocus hk
theorem r_nodeBack (hk : lkp l k = some u) (H : Runs P ops Q N X w0 G rest fr (hoard (FK K) (mput l k v) :: L)) : Runs P ops Q N X w0 G rest fr (box v.1 K.n K.T (at_ (K.cells v.2.2.2 v.2.1 v.2.2.1)) :: rowA v.2.1 K.E 1 (K.kids v.2.2.2).length ((K.kids v.2.2.2).flatMap cI) :: rowA v.2.2.1 K.E 1 (K.outer v.2.2.2).length ((K.outer v.2.2.2).flatMap cI) :: hoard (FK K) (mdel l k) :: L) := fun a w hS => H a w ⟨hS.fr, hS.mem.nodeBack hk⟩
end
end Go.Gx

/- Plain laws of tries: nodes that are made, used and taken away; no program in sight. -/
namespace Go.Gx.T16
open Go.Gx Go.Gx.T3 Go.Gx.T4 Go.Gx.T6 Go.Gx.T8

/-- A node, with its step's values. -/
structure Nd where
  st : SVal
  par : Int
  dep : Int
  uses : Int
  ends : Int
  inn : Int
  kids : List Int
  outer : List Int
def Nd.pn (x : Nd) : PN := ⟨x.st.1, x.par, x.dep, x.uses, x.ends, x.inn, x.kids, x.outer⟩
def gP (l : List (Int × Nd)) (id : Int) : Option PN := (lkp l id).map Nd.pn
theorem gP_some {l : List (Int × Nd)} {id : Int} {x : Nd} (h : lkp l id = some x) : gP l id = some x.pn := by unfold gP; rw [h]; rfl
theorem gP_inv {l : List (Int × Nd)} {id : Int} {y : PN} (h : gP l id = some y) : ∃ x, lkp l id = some x ∧ x.pn = y := by
  unfold gP at h
  obtain ⟨x, h1, h2⟩ := Option.map_eq_some_iff.1 h
  exact ⟨x, h1, h2⟩
theorem gP_none {l : List (Int × Nd)} {id : Int} : gP l id = none ↔ lkp l id = none := by unfold gP; simp
theorem gP_mput (l : List (Int × Nd)) (k id : Int) (x : Nd) : gP (mput l k x) id = if k = id then some x.pn else gP l id := by
  unfold gP
  rw [lkp_mput]
  split <;> rfl
/-! ### one chain more -/
def push (R : RT) (c : List ST) : RT := ⟨R.lists, R.its ++ [(c, false)]⟩
theorem getR_push (R : RT) (c : List ST) (id : Int) : getR (push R c) id = if id = R.its.length + 2 then some c else getR R id := by
  split
  · rename_i h
    subst h
    exact getR_iff.2 (.inr ⟨by omega, R.its.length, rfl, by simp [push]⟩)
  · rename_i h
    cases hg : getR R id with
    | some d =>
      rcases getR_iff.1 hg with ⟨rfl, rfl⟩ | ⟨h1, j, rfl, h2⟩
      · rfl
      · refine getR_iff.2 (.inr ⟨h1, j, rfl, ?_⟩)
        obtain ⟨hj, _⟩ := List.getElem?_eq_some_iff.1 h2
        simp only [push]
        rw [List.getElem?_append_left hj]; exact h2
    | none =>
      cases hp : getR (push R c) id with
      | none => rfl
      | some d =>
        exfalso
        rcases getR_iff.1 hp with ⟨rfl, rfl⟩ | ⟨h1, j, rfl, h2⟩
        · cases hg
        · simp only [push] at h2
          by_cases hj : j < R.its.length
          · rw [List.getElem?_append_left hj] at h2
            rw [getR_iff.2 (.inr ⟨h1, j, rfl, h2⟩)] at hg; cases hg
          · by_cases hj2 : j = R.its.length
            · subst hj2; exact h rfl
            · rw [List.getElem?_eq_none (by simp; omega)] at h2; cases h2
theorem find_push {R : RT} {c : List ST} (hc : c ≠ []) (d : List ST) : find (push R c) d = if find R d ≠ 0 then find R d else if ceq c d = true then (R.its.length : Int) + 2 else 0 := by
  by_cases hd : d = []
  · subst hd; simp [find_nil]
  · have h0 : ¬ d.length = 0 := fun e => hd (List.eq_nil_of_length_eq_zero e)
    unfold find
    rw [if_neg h0, if_neg h0, findF_nums, findF_nums]
    show (numsF _ (R.its ++ [(c, false)]) 2).headD 0 = _
    rw [numsF_append]
    cases hn : numsF (ceq · d) R.its 2 with
    | cons k t =>
      have hk : k ∈ numsF (ceq · d) R.its 2 := by rw [hn]; simp
      have := numsF_ge hk
      have hk0 : ¬ k = 0 := by omega
      simp [hk0]
    | nil =>
      simp only [List.nil_append, numsF, List.headD_nil, ne_eq, not_true_eq_false, if_false, true_and]
      by_cases he : c = d
      · subst he
        rw [if_pos (ceq_self c), if_pos (ceq_self c)]
        show (2 : Int) + R.its.length = _
        omega
      · rw [if_neg (by rw [ceq_iff]; exact he), if_neg (by rw [ceq_iff]; exact he)]; rfl
theorem find_push_old {R : RT} {c d : List ST} (hc : c ≠ []) (h : find R d ≠ 0) : find (push R c) d = find R d := by rw [find_push hc, if_pos h]
theorem find_push_new {R : RT} {c : List ST} (hc : c ≠ []) (h : find R c = 0) : find (push R c) c = (R.its.length : Int) + 2 := by
  rw [find_push hc, if_neg (fun e => e h), if_pos (ceq_self c)]
/-- What a chain must meet, so that it may come. -/
structure Fit (R : RT) (c : List ST) : Prop where
  ne : c ≠ []
  no : find R c = 0
  up : find R c.dropLast ≠ 0
  inn : ∀ e, innerOf c = some e → find R e ≠ 0
theorem push_at {R : RT} {c d : List ST} {j : Nat} (h : (push R c).its[j]? = some (d, false)) : R.its[j]? = some (d, false) ∨ j = R.its.length ∧ d = c := by
  simp only [push] at h
  by_cases hj : j < R.its.length
  · rw [List.getElem?_append_left hj] at h; exact .inl h
  · by_cases hj2 : j = R.its.length
    · subst hj2; simp at h; exact .inr ⟨rfl, h.symm⟩
    · rw [List.getElem?_eq_none (by simp; omega)] at h; cases h
theorem push_clo {R : RT} {c : List ST} (hC : Clo R) (hF : Fit R c) : Clo (push R c) := by
  have hlt : ∀ d, find R d ≠ 0 → find R d < (R.its.length : Int) + 2 := fun d _ => by have := (find_nonneg R d).2; omega
  refine ⟨fun x hx => ?_, fun i j d h1 h2 => ?_, fun j d h => ?_, fun j d e h he => ?_⟩
  · rcases List.mem_append.1 hx with hx | hx
    · exact hC.ne x hx
    · rw [List.mem_singleton.1 hx]; exact hF.ne
  · rcases push_at h1 with k1 | ⟨e1, f1⟩
    · rcases push_at h2 with k2 | ⟨_, f2⟩
      · exact hC.once i j d k1 k2
      · subst f2; exact absurd hF.no ((find_ne hF.ne).2 (List.mem_of_getElem? k1))
    · rcases push_at h2 with k2 | ⟨e2, _⟩
      · subst f1; exact absurd hF.no ((find_ne hF.ne).2 (List.mem_of_getElem? k2))
      · omega
  · rcases push_at h with h | ⟨rfl, rfl⟩
    · have := hC.up j d h
      rw [find_push_old hF.ne this.1]; exact this
    · rw [find_push_old hF.ne hF.up]; exact ⟨hF.up, hlt _ hF.up⟩
  · rcases push_at h with h | ⟨rfl, rfl⟩
    · have := hC.inn j d e h he
      rw [find_push_old hF.ne this.1]; exact this
    · rw [find_push_old hF.ne (hF.inn e he)]; exact ⟨hF.inn e he, hlt _ (hF.inn e he)⟩
theorem kids_push (R : RT) (c d : List ST) : kidsR (push R c) d = kidsR R d ++ if isKid d c = true then [(R.its.length : Int) + 2] else [] := by
  unfold kidsR push
  rw [numsF_append]
  congr 1
  simp only [numsF, true_and]
  split
  · simp; omega
  · rfl
theorem outer_push (R : RT) (c d : List ST) : outerR (push R c) d = outerR R d ++ if isOuter d c = true then [(R.its.length : Int) + 2] else [] := by
  unfold outerR push
  rw [numsF_append]
  congr 1
  simp only [numsF, true_and]
  split
  · simp; omega
  · rfl
/-- An old node when there is one chain more. -/
theorem ndR_push_old {R : RT} {c : List ST} (hC : Clo R) (hF : Fit R c) {id : Int} {d : List ST} (h : getR R id = some d) :
    ndR (push R c) d = { ndR R d with kids := kidsR R d ++ (if isKid d c = true then [(R.its.length : Int) + 2] else []), outer := outerR R d ++ (if isOuter d c = true then [(R.its.length : Int) + 2] else []) } := by
  have hp : (if d.length = 0 then (0 : Int) else find (push R c) d.dropLast) = if d.length = 0 then 0 else find R d.dropLast := by
    split
    · rfl
    · rename_i hd
      rcases getR_iff.1 h with ⟨_, rfl⟩ | ⟨_, j, _, h2⟩
      · exact absurd rfl hd
      · exact find_push_old hF.ne (hC.up j d h2).1
  have hi : inner (push R c) d = inner R d := by
    unfold inner
    cases he : innerOf d with
    | none => rfl
    | some e =>
      rcases getR_iff.1 h with ⟨_, rfl⟩ | ⟨_, j, _, h2⟩
      · simp [innerOf] at he
      · exact find_push_old hF.ne (hC.inn j d e h2 he).1
  unfold ndR
  rw [hp, hi, kids_push, outer_push]
  rfl
theorem kids_none {R : RT} {c : List ST} (hC : Clo R) (h : find R c = 0) : kidsR R c = [] := by
  refine numsF_none fun x hx ho => ?_
  obtain ⟨d, o⟩ := x
  simp only at ho; subst ho
  cases hk : isKid c d with
  | false => rfl
  | true =>
    obtain ⟨s, rfl⟩ := isKid_iff.1 hk
    obtain ⟨j, hj⟩ := List.getElem?_of_mem hx
    have := (hC.up j _ hj).1
    rw [List.dropLast_concat] at this
    exact absurd h this
theorem outer_none {R : RT} {c : List ST} (hC : Clo R) (h : find R c = 0) : outerR R c = [] := by
  refine numsF_none fun x hx ho => ?_
  obtain ⟨d, o⟩ := x
  simp only at ho; subst ho
  cases hk : isOuter c d with
  | false => rfl
  | true =>
    obtain ⟨j, hj⟩ := List.getElem?_of_mem hx
    exact absurd h (hC.inn j _ _ hj (isOuter_iff.1 hk)).1
theorem not_kid_self (c : List ST) : isKid c c = false := by
  cases h : isKid c c with
  | false => rfl
  | true => obtain ⟨s, hs⟩ := isKid_iff.1 h; have := congrArg List.length hs; simp at this
/-- The new node, but for how many lists have it. -/
theorem ndR_push_new {R : RT} {c : List ST} (hC : Clo R) (hF : Fit R c) (hno : isOuter c c = false) (hu : ∀ l ∈ R.lists, c ∉ schains [] l) (he : ∀ l ∈ R.lists, l ≠ c) :
    ndR (push R c) c = ⟨c.getLastD sZ, find R c.dropLast, c.length, 0, 0, inner R c, [], []⟩ := by
  have h0 : ¬ c.length = 0 := fun e => hF.ne (List.eq_nil_of_length_eq_zero e)
  have hi : inner (push R c) c = inner R c := by
    unfold inner
    cases h : innerOf c with
    | none => rfl
    | some e => exact find_push_old hF.ne (hF.inn e h)
  have hus : uses (push R c) c = 0 := List.countP_eq_zero.2 fun l hl => by
    show ¬ usesOf c l = true
    rw [usesOf_iff]
    rintro (h | h)
    · exact hF.ne h
    · exact hu l hl h
  have hes : ends (push R c) c = 0 := List.countP_eq_zero.2 fun l hl => by
    show ¬ ceq l c = true
    rw [ceq_iff]; exact he l hl
  unfold ndR
  rw [if_neg h0, find_push_old hF.ne hF.up, hi, hus, hes, kids_push, outer_push, kids_none hC hF.no, outer_none hC hF.no, not_kid_self, hno]
  rfl
end Go.Gx.T16

/- Plain laws of tries: a node that is made; no program in sight. -/
namespace Go.Gx.T16
open Go.Gx Go.Gx.T3 Go.Gx.T4 Go.Gx.T6 Go.Gx.T8

/-- The chains of all lists are there. -/
def Lst (R : RT) : Prop := ∀ l ∈ R.lists, ∀ c ∈ schains [] l, find R c ≠ 0
/-- A trie's nodes are the document's. -/
structure TI (s : KS Nd) (R : RT) : Prop where
  inv : Inv (gP s.nodes) R
  clo : Clo R
  last : s.last = (R.its.length : Int) + 1
  lst : Lst R
  nod : (s.nodes.map (·.1)).Nodup
theorem TI.at {s : KS Nd} {R : RT} (h : TI s R) {id : Int} {c : List ST} (hg : getR R id = some c) : ∃ x, lkp s.nodes id = some x ∧ x.pn = ndR R c :=
  gP_inv (by rw [h.inv id, hg]; rfl)
theorem last_chain {l : List ST} (hl : l ≠ []) : l ∈ schains [] l := by
  have e : l = l.dropLast ++ [l.getLast hl] := (List.dropLast_concat_getLast hl).symm
  rw [e, schains_append]
  refine List.mem_append_right _ ?_
  rw [schains, schains, List.append_nil]
  cases hc : l.getLast hl with
  | mk h u => rw [schain1]; simp
theorem innerOf_snoc (a : List ST) (s : ST) : innerOf (a ++ [s]) = if s.h.k = 3 then some (a ++ s.subs) else none := by simp [innerOf]
theorem isKid_snoc {a d : List ST} {s : ST} : isKid d (a ++ [s]) = true ↔ d = a := by
  rw [isKid_iff]
  constructor
  · rintro ⟨s', h⟩; exact (List.append_inj_left' h rfl).symm
  · rintro rfl; exact ⟨s, rfl⟩
theorem mput_nodup {α : Type} : ∀ {l : List (Int × α)} (k : Int) (v : α), (l.map (·.1)).Nodup → ((mput l k v).map (·.1)).Nodup := by
  intro l k v h
  have hm : ∀ {l : List (Int × α)} {x : Int}, x ∈ (mput l k v).map (·.1) → x = k ∨ x ∈ l.map (·.1) := by
    intro l
    induction l with
    | nil => intro x hx; simp [mput] at hx; exact .inl hx
    | cons p t ih =>
      intro x hx
      rw [mput] at hx
      split at hx
      · rcases List.mem_cons.1 hx with rfl | hx
        · exact .inl rfl
        · exact .inr (List.mem_cons_of_mem _ hx)
      · rcases List.mem_cons.1 hx with rfl | hx
        · exact .inr (by simp)
        · rcases ih hx with h | h
          · exact .inl h
          · exact .inr (List.mem_cons_of_mem _ h)
  induction l with
  | nil => simp [mput]
  | cons p t ih =>
    rw [List.map_cons, List.nodup_cons] at h
    rw [mput]
    split
    · rename_i e
      rw [List.map_cons, List.nodup_cons]
      exact ⟨by rw [← e]; exact h.1, h.2⟩
    · rename_i e
      rw [List.map_cons, List.nodup_cons]
      refine ⟨fun hx => ?_, ih h.2⟩
      rcases hm hx with h1 | h1
      · exact e h1
      · exact h.1 h1
/-- A new node below one, as it is first. -/
def mkN (s : KS Nd) (id : Int) (x : Nd) (st : SVal) (i : Int) : Nd := ⟨st, id, x.dep + 1, 0, 0, i, [], []⟩
def mkX (s : KS Nd) (x : Nd) : Nd := { x with kids := x.kids ++ [s.last + 1] }
def mkL (s : KS Nd) (id : Int) (x : Nd) (st : SVal) : List (Int × Nd) := mput (mput s.nodes (s.last + 1) (mkN s id x st 0)) id (mkX s x)
section
variable {s : KS Nd} {R : RT} {id : Int} {a : List ST} {x : Nd} {st : SVal}
theorem get_lt {R : RT} {id : Int} {c : List ST} (h : getR R id = some c) : 1 ≤ id ∧ id < (R.its.length : Int) + 2 := by
  rcases getR_iff.1 h with ⟨rfl, _⟩ | ⟨_, j, rfl, h2⟩
  · omega
  · obtain ⟨hj, _⟩ := List.getElem?_eq_some_iff.1 h2
    omega
theorem mkL_at (hT : TI s R) (ha : getR R id = some a) (k : Int) : gP (mkL s id x st) k = if k = (R.its.length : Int) + 2 then some (mkN s id x st 0).pn else if k = id then some (mkX s x).pn else gP s.nodes k := by
  have h1 := get_lt ha
  have h2 := hT.last
  unfold mkL
  rw [gP_mput, gP_mput]
  by_cases e1 : k = (R.its.length : Int) + 2
  · rw [if_pos e1, if_neg (by omega), if_pos (by omega)]
  · rw [if_neg e1]
    by_cases e2 : k = id
    · rw [if_pos e2.symm, if_pos e2]
    · rw [if_neg (fun e => e2 e.symm), if_neg e2, if_neg (by omega)]
theorem mk_pn (hT : TI s R) (ha : getR R id = some a) (hx : lkp s.nodes id = some x) : x.pn = ndR R a := by
  obtain ⟨y, h1, h2⟩ := hT.at ha
  rw [hx] at h1
  simp only [Option.some.injEq] at h1
  subst h1; exact h2
theorem kid_here (hT : TI s R) (ha : getR R id = some a) {k : Int} {d : List ST} (hd : getR R k = some d) (st : ST) : (isKid d (a ++ [st]) = true) ↔ k = id := by
  rw [isKid_snoc]
  constructor
  · rintro rfl; rw [← find_of hT.clo hd, ← find_of hT.clo ha]
  · rintro rfl; rw [ha] at hd; simpa using hd.symm
theorem last_of {c : List ST} {s : ST} : (c ++ [s]).getLastD sZ = s := by simp
theorem mkL_k (hT : TI s R) (ha : getR R id = some a) (hx : lkp s.nodes id = some x) (hF : Fit R (a ++ [st.1])) : KInv (gP (mkL s id x st)) (push R (a ++ [st.1])) := by
  intro k d hd
  rw [getR_push] at hd
  have hp := mk_pn hT ha hx
  by_cases e1 : k = (R.its.length : Int) + 2
  · rw [if_pos e1] at hd
    simp only [Option.some.injEq] at hd
    refine ⟨(mkN s id x st 0).pn, by rw [mkL_at hT ha, if_pos e1], ?_, ?_⟩
    · rw [← hd, kids_push, kids_none hT.clo hF.no, not_kid_self]; rfl
    · rw [← hd, last_of]; rfl
  · rw [if_neg e1] at hd
    by_cases e2 : k = id
    · subst e2
      obtain rfl : a = d := by rw [ha] at hd; simpa using hd
      refine ⟨(mkX s x).pn, by rw [mkL_at hT ha, if_neg e1, if_pos rfl], ?_, ?_⟩
      · rw [kids_push, if_pos ((kid_here hT ha hd _).2 rfl)]
        show x.kids ++ [s.last + 1] = _
        rw [show x.kids = kidsR R a from congrArg PN.kids hp, hT.last]
        congr 2
      · exact congrArg PN.s hp
    · refine ⟨ndR R d, by rw [mkL_at hT ha, if_neg e1, if_neg e2, hT.inv k, hd]; rfl, ?_, rfl⟩
      rw [kids_push, if_neg (fun h => e2 ((kid_here hT ha hd _).1 h)), List.append_nil]; rfl
theorem push_lst (hT : TI s R) {c : List ST} (hF : Fit R c) : Lst (push R c) := fun l hl d hd => by
  rw [find_push_old hF.ne (hT.lst l hl d hd)]; exact hT.lst l hl d hd
theorem new_nd (hT : TI s R) {c : List ST} (hF : Fit R c) : ndR (push R c) c = ⟨c.getLastD sZ, find R c.dropLast, c.length, 0, 0, inner R c, [], []⟩ := by
  refine ndR_push_new hT.clo hF ?_ (fun l hl h => hT.lst l hl _ h hF.no) (fun l hl h => ?_)
  · cases e : isOuter c c with
    | false => rfl
    | true => exact absurd hF.no (hF.inn c (isOuter_iff.1 e))
  · exact hT.lst l hl c (by rw [← h]; exact last_chain (by rw [h]; exact hF.ne)) hF.no
/-- No Ncc: that is all. -/
theorem mk_other (hT : TI s R) (ha : getR R id = some a) (hx : lkp s.nodes id = some x) (hF : Fit R (a ++ [st.1])) (hk : ¬ st.1.h.k = 3) : TI ⟨mkL s id x st, s.last + 1⟩ (push R (a ++ [st.1])) := by
  have hp := mk_pn hT ha hx
  refine ⟨fun k => ?_, push_clo hT.clo hF, by simp only [push, List.length_append]; have := hT.last; simp; omega, push_lst hT hF, mput_nodup _ _ (mput_nodup _ _ hT.nod)⟩
  have hno : ∀ d, isOuter d (a ++ [st.1]) = false := fun d => by
    cases e : isOuter d (a ++ [st.1]) with
    | false => rfl
    | true => rw [isOuter_iff, innerOf_snoc, if_neg hk] at e; cases e
  show gP (mkL s id x st) k = _
  rw [mkL_at hT ha, getR_push]
  by_cases e1 : k = (R.its.length : Int) + 2
  · rw [if_pos e1, if_pos e1, Option.map_some, new_nd hT hF, last_of, List.dropLast_concat, find_of hT.clo ha]
    show some (PN.mk st.1 id (x.dep + 1) 0 0 0 [] []) = _
    rw [show x.dep = (a.length : Int) from congrArg PN.dep hp, show inner R (a ++ [st.1]) = 0 by unfold inner; rw [innerOf_snoc, if_neg hk]]
    simp
  · rw [if_neg e1, if_neg e1]
    by_cases e2 : k = id
    · subst e2
      rw [if_pos rfl, ha, Option.map_some, ndR_push_old hT.clo hF ha, if_pos ((kid_here hT ha ha _).2 rfl), hno, ← hp]
      show some (mkX s x).pn = some { x.pn with kids := kidsR R a ++ [(R.its.length : Int) + 2], outer := outerR R a ++ [] }
      rw [← show x.kids = kidsR R a from congrArg PN.kids hp, ← show x.outer = outerR R a from congrArg PN.outer hp, List.append_nil, show (R.its.length : Int) + 2 = s.last + 1 by have := hT.last; omega]
      rfl
    · rw [if_neg e2, hT.inv k]
      cases hd : getR R k with
      | none => rfl
      | some d =>
        rw [Option.map_some, Option.map_some, ndR_push_old hT.clo hF hd, if_neg (fun h => e2 ((kid_here hT ha hd _).1 h)), hno]
        simp only [Bool.false_eq_true, if_false, List.append_nil]
        rfl
/-- Where an Ncc's inner chain ends. -/
theorem mk_inner (hT : TI s R) (ha : getR R id = some a) (hx : lkp s.nodes id = some x) (hF : Fit R (a ++ [st.1])) (hk : st.1.h.k = 3) :
    fromG (gP (mkL s id x st)) id st.1.subs = find R (a ++ st.1.subs) ∧ find R (a ++ st.1.subs) ≠ 0 := by
  have hi := hF.inn _ (by rw [innerOf_snoc, if_pos hk])
  have h1 := get_lt ha
  have hg : getR (push R (a ++ [st.1])) id = some a := by rw [getR_push, if_neg (by omega)]; exact ha
  exact ⟨by rw [from_find (mkL_k hT ha hx hF) (push_clo hT.clo hF) _ hg, find_push_old hF.ne hi], hi⟩
def mkL3 (s : KS Nd) (id : Int) (x : Nd) (st : SVal) (i : Int) (z : Nd) : List (Int × Nd) := mput (mput (mkL s id x st) (s.last + 1) (mkN s id x st i)) i { z with outer := z.outer ++ [s.last + 1] }
theorem mk_ncc (hT : TI s R) (ha : getR R id = some a) (hx : lkp s.nodes id = some x) (hF : Fit R (a ++ [st.1])) (hk : st.1.h.k = 3) {z : Nd}
    (hz : lkp (mput (mkL s id x st) (s.last + 1) (mkN s id x st (find R (a ++ st.1.subs)))) (find R (a ++ st.1.subs)) = some z) :
    TI ⟨mkL3 s id x st (find R (a ++ st.1.subs)) z, s.last + 1⟩ (push R (a ++ [st.1])) := by
  have hp := mk_pn hT ha hx
  have hi := (mk_inner hT ha hx hF hk).2
  have hgi := find_some hT.clo.ne hi
  have hlt := get_lt hgi
  have hla := hT.last
  refine ⟨fun k => ?_, push_clo hT.clo hF, by simp only [push, List.length_append]; simp; omega, push_lst hT hF, mput_nodup _ _ (mput_nodup _ _ (mput_nodup _ _ (mput_nodup _ _ hT.nod)))⟩
  have hou : ∀ {k d}, getR R k = some d → (isOuter d (a ++ [st.1]) = true ↔ k = find R (a ++ st.1.subs)) := fun {k d} hd => by
    rw [isOuter_iff, innerOf_snoc, if_pos hk, Option.some.injEq]
    constructor
    · intro e; rw [e]; exact (find_of hT.clo hd).symm
    · rintro rfl; rw [hgi] at hd; simpa using hd
  have hold : ∀ {k d}, getR R k = some d → gP (mkL s id x st) k = some { ndR R d with kids := kidsR R d ++ if isKid d (a ++ [st.1]) = true then [(R.its.length : Int) + 2] else [] } := fun {k d} hd => by
    have := get_lt hd
    rw [mkL_at hT ha, if_neg (by omega)]
    by_cases e2 : k = id
    · subst e2
      obtain rfl : a = d := by rw [ha] at hd; simpa using hd
      rw [if_pos rfl, if_pos ((kid_here hT ha ha _).2 rfl), ← hp]
      show some (mkX s x).pn = some { x.pn with kids := kidsR R a ++ [(R.its.length : Int) + 2] }
      rw [← show x.kids = kidsR R a from congrArg PN.kids hp, show (R.its.length : Int) + 2 = s.last + 1 by omega]
      rfl
    · rw [if_neg e2, hT.inv k, hd, if_neg (fun h => e2 ((kid_here hT ha hd _).1 h)), List.append_nil]; rfl
  show gP (mkL3 s id x st _ z) k = _
  unfold mkL3
  rw [gP_mput, gP_mput, getR_push]
  by_cases e1 : k = (R.its.length : Int) + 2
  · rw [if_neg (by omega), if_pos (by omega), if_pos e1, Option.map_some, new_nd hT hF, last_of, List.dropLast_concat, find_of hT.clo ha]
    show some (PN.mk st.1 id (x.dep + 1) 0 0 _ [] []) = _
    rw [show x.dep = (a.length : Int) from congrArg PN.dep hp, show inner R (a ++ [st.1]) = find R (a ++ st.1.subs) by unfold inner; rw [innerOf_snoc, if_pos hk]]
    simp
    rfl
  · rw [if_neg e1]
    by_cases e2 : k = find R (a ++ st.1.subs)
    · subst e2
      rw [if_pos rfl, hgi, Option.map_some, ndR_push_old hT.clo hF hgi, if_pos ((hou hgi).2 rfl)]
      have hz2 : z.pn = { ndR R (a ++ st.1.subs) with kids := kidsR R (a ++ st.1.subs) ++ if isKid (a ++ st.1.subs) (a ++ [st.1]) = true then [(R.its.length : Int) + 2] else [] } := by
        have h1 := hold hgi
        have h2 := gP_some hz
        rw [gP_mput, if_neg (by omega), h1] at h2
        simp only [Option.some.injEq] at h2
        exact h2.symm
      show some { z.pn with outer := z.pn.outer ++ [s.last + 1] } = _
      rw [hz2, show (s.last + 1) = (R.its.length : Int) + 2 by omega]
      rfl
    · rw [if_neg (fun e => e2 e.symm), if_neg (by omega)]
      cases hd : getR R k with
      | none =>
        rw [mkL_at hT ha, if_neg e1, if_neg (fun e => by rw [e, ha] at hd; cases hd), hT.inv k, hd]; rfl
      | some d =>
        rw [hold hd, Option.map_some, ndR_push_old hT.clo hF hd, if_neg (fun h => e2 ((hou hd).1 h)), List.append_nil]
        rfl
end
end Go.Gx.T16

/- Plain laws of rising lists without a twin: what sorting and making runs one leaves; no program in sight. -/
namespace Go.Gx.Set
open Go.Lib

theorem cu (d : Array Int) (hs : ∀ i j, i ≤ j → j < d.size → d[i]! ≤ d[j]!) : ∀ m, m ≤ d.size → (compactUpTo d m).Pairwise (· < ·) ∧ ∀ x, x ∈ compactUpTo d m ↔ ∃ j, j < m ∧ d[j]! = x
  | 0, _ => ⟨by simp [compactUpTo], fun x => by simp [compactUpTo]⟩
  | m + 1, hm => by
    obtain ⟨h1, h2⟩ := cu d hs m (by omega)
    rw [compactUpTo_succ]
    by_cases hk : keeps d m = true
    · rw [if_pos hk]
      refine ⟨List.pairwise_append.2 ⟨h1, by simp, fun x hx y hy => ?_⟩, fun x => ?_⟩
      · obtain ⟨j, hj, rfl⟩ := (h2 x).1 hx
        obtain rfl : y = d[m]! := by simpa using hy
        have e1 := hs j (m - 1) (by omega) (by omega)
        have e2 := hs (m - 1) m (by omega) (by omega)
        have e3 : d[m]! ≠ d[m - 1]! := by
          have : decide (m = 0 ∨ d[m]! ≠ d[m - 1]!) = true := hk
          rcases of_decide_eq_true this with h | h
          · omega
          · exact h
        omega
      · rw [List.mem_append, h2]
        constructor
        · rintro (⟨j, hj, e⟩ | h)
          · exact ⟨j, by omega, e⟩
          · exact ⟨m, by omega, by simpa using (List.mem_singleton.1 h).symm⟩
        · rintro ⟨j, hj, e⟩
          by_cases hjm : j = m
          · subst hjm; exact .inr (by simp [e])
          · exact .inl ⟨j, by omega, e⟩
    · rw [if_neg hk, List.append_nil]
      refine ⟨h1, fun x => ?_⟩
      rw [h2]
      have e3 : 0 < m ∧ d[m]! = d[m - 1]! := by
        have : ¬ (m = 0 ∨ d[m]! ≠ d[m - 1]!) := fun h => hk (decide_eq_true h)
        exact ⟨by omega, by
          apply Classical.byContradiction
          intro h; exact this (.inr h)⟩
      constructor
      · rintro ⟨j, hj, e⟩; exact ⟨j, by omega, e⟩
      · rintro ⟨j, hj, e⟩
        by_cases hjm : j = m
        · subst hjm; exact ⟨j - 1, by omega, by rw [← e3.2, e]⟩
        · exact ⟨j, by omega, e⟩

/-- The list, rising, each element once. -/
def once (l : List Int) : List Int := compact (l.mergeSort fun x y => decide (x ≤ y))

theorem once_both (l : List Int) : (once l).Pairwise (· < ·) ∧ ∀ x, x ∈ once l ↔ x ∈ l := by
  have hp := List.mergeSort_perm l fun x y => decide (x ≤ y)
  have hs : (l.mergeSort fun x y => decide (x ≤ y)).Pairwise fun x y => x ≤ y :=
    (List.pairwise_mergeSort (le := fun x y : Int => decide (x ≤ y)) (by intro a b c; simp; omega) (by intro a b; simp; omega) l).imp (by simp)
  have hm : ∀ x, x ∈ (l.mergeSort fun x y => decide (x ≤ y)) ↔ x ∈ l := fun x => hp.mem_iff
  unfold once compact
  generalize (l.mergeSort fun x y => decide (x ≤ y)) = s at hs hm
  have hg : ∀ i j, i ≤ j → j < s.toArray.size → s.toArray[i]! ≤ s.toArray[j]! := by
    intro i j hij hj
    have hj' : j < s.length := by simpa using hj
    rw [getElem!_pos s.toArray i (by simp; omega), getElem!_pos s.toArray j hj]
    by_cases e : i = j
    · subst e; exact Int.le_refl _
    · simpa using List.pairwise_iff_getElem.1 hs i j (by omega) hj' (by omega)
  obtain ⟨h1, h2⟩ := cu s.toArray hg s.length (by simp)
  refine ⟨h1, fun x => ?_⟩
  rw [h2, ← hm]
  constructor
  · rintro ⟨j, hj, rfl⟩
    rw [getElem!_pos s.toArray j (by simpa using hj)]
    simp
  · intro hx
    obtain ⟨j, hj, rfl⟩ := List.mem_iff_getElem.1 hx
    exact ⟨j, hj, by rw [getElem!_pos s.toArray j (by simpa using hj)]; simp⟩

theorem once_rises (l : List Int) : (once l).Pairwise (· < ·) := (once_both l).1
theorem mem_once {l : List Int} {x : Int} : x ∈ once l ↔ x ∈ l := (once_both l).2 x

/-- How many of a list lie below a bound. -/
def below (U : List Int) (n : Int) : Nat := U.countP fun x => decide (x < n)
end Go.Gx.Set

/- Plain laws of tries: lists that come; no program in sight. -/
namespace Go.Gx.T16
open Go.Gx Go.Gx.T3 Go.Gx.T4 Go.Gx.T6 Go.Gx.T8

def step (R : RT) (c : List ST) : RT := if find R c = 0 then push R c else R
def pushes (R : RT) : List (List ST) → RT
  | [] => R
  | c :: t => pushes (step R c) t
theorem pushes_append (a b : List (List ST)) : ∀ R, pushes R (a ++ b) = pushes (pushes R a) b := by
  induction a with
  | nil => intro R; rfl
  | cons c t ih => intro R; exact ih _
/-- One after the other may come. -/
def Good : RT → List (List ST) → Prop
  | _, [] => True
  | R, c :: t => (c ≠ [] ∧ find R c.dropLast ≠ 0 ∧ ∀ e, innerOf c = some e → find R e ≠ 0) ∧ Good (step R c) t
theorem good_append (a b : List (List ST)) : ∀ R, Good R (a ++ b) ↔ Good R a ∧ Good (pushes R a) b := by
  induction a with
  | nil => intro R; simp [Good, pushes]
  | cons c t ih => intro R; rw [List.cons_append, Good, Good, ih, pushes]; simp only [and_assoc]
theorem find_step {R : RT} {c : List ST} (hc : c ≠ []) : find (step R c) c ≠ 0 := by
  unfold step
  split
  · rename_i h; rw [find_push_new hc h]; omega
  · rename_i h; exact h
theorem find_step_old {R : RT} {c d : List ST} (hc : c ≠ []) (h : find R d ≠ 0) : find (step R c) d = find R d := by
  unfold step
  split
  · exact find_push_old hc h
  · rfl
theorem find_pushes_old : ∀ {cs : List (List ST)} {R : RT} {d : List ST}, (∀ c ∈ cs, c ≠ []) → find R d ≠ 0 → find (pushes R cs) d = find R d
  | [], _, _, _, _ => rfl
  | c :: t, R, d, hc, h => by
    have h1 := find_step_old (c := c) (hc c (by simp)) h
    rw [pushes, find_pushes_old (fun x hx => hc x (List.mem_cons_of_mem _ hx)) (by rw [h1]; exact h), h1]
theorem find_pushes : ∀ {cs : List (List ST)} {R : RT}, (∀ c ∈ cs, c ≠ []) → ∀ c ∈ cs, find (pushes R cs) c ≠ 0
  | [], _, _, c, h => by cases h
  | x :: t, R, hc, c, h => by
    have ht : ∀ c ∈ t, c ≠ [] := fun y hy => hc y (List.mem_cons_of_mem _ hy)
    rcases List.mem_cons.1 h with rfl | h
    · have h1 := find_step (R := R) (hc c (by simp))
      rw [pushes, find_pushes_old ht h1]; exact h1
    · rw [pushes]; exact find_pushes ht c h
theorem good_ne : ∀ {cs : List (List ST)} {R : RT}, Good R cs → ∀ c ∈ cs, c ≠ []
  | [], _, _, _, h => by cases h
  | x :: t, R, hg, c, h => by
    rw [Good] at hg
    rcases List.mem_cons.1 h with rfl | h
    · exact hg.1.1
    · exact good_ne hg.2 c h
theorem mem_schains_last {ah l : List ST} (hl : l ≠ []) : ah ++ l ∈ schains ah l := by
  have e : l = l.dropLast ++ [l.getLast hl] := (List.dropLast_concat_getLast hl).symm
  rw [e, schains_append]
  refine List.mem_append_right _ ?_
  rw [schains, schains, List.append_nil]
  cases hc : l.getLast hl with
  | mk h u => rw [schain1]; simp
mutual
theorem schain1_good : ∀ (s : ST) (ah : List ST) (R : RT), find R ah ≠ 0 → Good R (schain1 ah s)
  | .mk h l, ah, R, ha => by
    by_cases hk : h.k = 3
    · rw [schain1, if_pos hk, good_append]
      have h1 := schains_good l ah R ha
      refine ⟨h1, ?_⟩
      have h2 : find (pushes R (schains ah l)) ah ≠ 0 := by rw [find_pushes_old (good_ne h1) ha]; exact ha
      refine ⟨⟨by simp, by rw [List.dropLast_concat]; exact h2, fun e he => ?_⟩, trivial⟩
      rw [innerOf_snoc] at he
      split at he
      · simp only [Option.some.injEq] at he
        subst he
        show find _ (ah ++ l) ≠ 0
        cases l with
        | nil => rw [List.append_nil]; exact h2
        | cons x t => exact find_pushes (good_ne h1) _ (mem_schains_last (by simp))
      · cases he
    · rw [schain1, if_neg hk, List.nil_append]
      refine ⟨⟨by simp, by rw [List.dropLast_concat]; exact ha, fun e he => ?_⟩, trivial⟩
      rw [innerOf_snoc, if_neg (show ¬ (ST.mk h l).h.k = 3 from hk)] at he; cases he
theorem schains_good : ∀ (l : List ST) (ah : List ST) (R : RT), find R ah ≠ 0 → Good R (schains ah l)
  | [], _, _, _ => trivial
  | s :: t, ah, R, ha => by
    rw [schains, good_append]
    have h1 := schain1_good s ah R ha
    refine ⟨h1, schains_good t (ah ++ [s]) _ (find_pushes (good_ne h1) _ ?_)⟩
    cases s with
    | mk h u => rw [schain1]; simp
end
theorem schains_good0 (l : List ST) (R : RT) : Good R (schains [] l) := schains_good l [] R (by rw [find_nil]; omega)
theorem good_at {R : RT} {cs : List (List ST)} {k : Nat} {c : List ST} (hg : Good R cs) (hk : cs[k]? = some c) :
    c ≠ [] ∧ find (pushes R (cs.take k)) c.dropLast ≠ 0 ∧ ∀ e, innerOf c = some e → find (pushes R (cs.take k)) e ≠ 0 := by
  obtain ⟨hlt, h2⟩ := List.getElem?_eq_some_iff.1 hk
  have e : cs = cs.take k ++ (c :: cs.drop (k + 1)) := by
    rw [← h2, ← List.drop_eq_getElem_cons hlt, List.take_append_drop]
  rw [e, good_append] at hg
  exact hg.2.1
theorem pushes_take {R : RT} {cs : List (List ST)} {k : Nat} {c : List ST} (hk : cs[k]? = some c) : pushes R (cs.take (k + 1)) = step (pushes R (cs.take k)) c := by
  obtain ⟨hlt, h2⟩ := List.getElem?_eq_some_iff.1 hk
  rw [List.take_succ_eq_append_getElem hlt, pushes_append, h2]; rfl
theorem pushes_lists : ∀ (cs : List (List ST)) (R : RT), (pushes R cs).lists = R.lists
  | [], _ => rfl
  | c :: t, R => by
    rw [pushes, pushes_lists t]
    unfold step push
    split <;> rfl
theorem pushes_len : ∀ (cs : List (List ST)) (R : RT), R.its.length ≤ (pushes R cs).its.length ∧ (pushes R cs).its.length ≤ R.its.length + cs.length
  | [], _ => by simp [pushes]
  | c :: t, R => by
    have := pushes_len t (step R c)
    have h2 : R.its.length ≤ (step R c).its.length ∧ (step R c).its.length ≤ R.its.length + 1 := by
      unfold step push
      split <;> simp
    rw [pushes, List.length_cons]; omega
/-! ### which chains a chain's list has -/
mutual
theorem schain1_up : ∀ (s : ST) (ah : List ST), ∀ d ∈ schain1 ah s, d ≠ [] ∧ (d.dropLast = ah ∨ d.dropLast ∈ schain1 ah s) ∧ ∀ e, innerOf d = some e → e = d.dropLast ∨ e ∈ schain1 ah s
  | .mk h l, ah, d, hd => by
    rw [schain1] at hd ⊢
    rcases List.mem_append.1 hd with hd | hd
    · split at hd
      · rename_i hk
        obtain ⟨h1, h2, h3⟩ := schains_up l ah d hd
        simp only [if_pos hk]
        exact ⟨h1, h2.imp id (List.mem_append_left _), fun e he => (h3 e he).imp id (List.mem_append_left _)⟩
      · cases hd
    · rw [List.mem_singleton] at hd
      subst hd
      refine ⟨by simp, .inl (by simp), fun e he => ?_⟩
      rw [innerOf_snoc] at he
      split at he
      · rename_i hk
        simp only [Option.some.injEq] at he
        subst he
        cases l with
        | nil => left; simp [ST.subs]
        | cons x t =>
          right
          have hk' : h.k = 3 := hk
          rw [if_pos hk']
          exact List.mem_append_left _ (mem_schains_last (by simp))
      · cases he
theorem schains_up : ∀ (l : List ST) (ah : List ST), ∀ d ∈ schains ah l, d ≠ [] ∧ (d.dropLast = ah ∨ d.dropLast ∈ schains ah l) ∧ ∀ e, innerOf d = some e → e = d.dropLast ∨ e ∈ schains ah l
  | [], _, d, hd => by cases hd
  | s :: t, ah, d, hd => by
    rw [schains] at hd ⊢
    rcases List.mem_append.1 hd with hd | hd
    · obtain ⟨h1, h2, h3⟩ := schain1_up s ah d hd
      exact ⟨h1, h2.imp id (List.mem_append_left _), fun e he => (h3 e he).imp id (List.mem_append_left _)⟩
    · obtain ⟨h1, h2, h3⟩ := schains_up t (ah ++ [s]) d hd
      refine ⟨h1, .inr ?_, fun e he => (h3 e he).imp id (List.mem_append_right _)⟩
      rcases h2 with h2 | h2
      · refine List.mem_append_left _ ?_
        rw [h2]
        cases s with
        | mk h u => rw [schain1]; simp
      · exact List.mem_append_right _ h2
end
theorem uses_up {l d c : List ST} (hd : d ≠ []) (h : usesOf d l = true) (hc : d.dropLast = c ∨ innerOf d = some c) : usesOf c l = true := by
  rw [usesOf_iff] at h ⊢
  rcases h with h | h
  · exact absurd h hd
  · obtain ⟨_, h2, h3⟩ := schains_up l [] d h
    rcases hc with hc | hc
    · rcases h2 with h2 | h2
      · left; rw [← hc, h2]
      · right; rw [← hc]; exact h2
    · rcases h3 c hc with h3 | h3
      · rcases h2 with h2 | h2
        · left; rw [h3, h2]
        · right; rw [h3]; exact h2
      · exact .inr h3
theorem uses_le {R : RT} {d c : List ST} (hd : d ≠ []) (hc : d.dropLast = c ∨ innerOf d = some c) : uses R d ≤ uses R c :=
  List.countP_mono_left fun _ _ h => uses_up hd h hc
/-! ### use -/
def useL (y : Int) : List Int → List (Int × Nd) → List (Int × Nd)
  | [], l => l
  | k :: t, l => match lkp l k with
    | some x => useL y t (mput l k { x with uses := x.uses + y })
    | none => useL y t l
theorem useL_at (y : Int) : ∀ {ks : List Int} {l : List (Int × Nd)} (_ : ks.Nodup) (k : Int), lkp (useL y ks l) k = (lkp l k).map fun x => if k ∈ ks then { x with uses := x.uses + y } else x
  | [], l, _, k => by simp [useL]
  | i :: t, l, hn, k => by
    rw [List.nodup_cons] at hn
    rw [useL]
    cases hi : lkp l i with
    | none =>
      show lkp (useL y t l) k = _
      rw [useL_at y hn.2]
      cases hk : lkp l k with
      | none => rfl
      | some x =>
        have : k ≠ i := fun e => by rw [e, hi] at hk; cases hk
        simp [this]
    | some x =>
      show lkp (useL y t _) k = _
      rw [useL_at y hn.2, lkp_mput]
      by_cases e : i = k
      · subst e
        rw [if_pos rfl, hi]
        simp [hn.1]
      · rw [if_neg e]
        cases hk : lkp l k with
        | none => rfl
        | some z => simp [show k ≠ i from fun h => e h.symm]
theorem useL_nodup (y : Int) : ∀ {ks : List Int} {l : List (Int × Nd)}, (l.map (·.1)).Nodup → ((useL y ks l).map (·.1)).Nodup
  | [], _, h => h
  | i :: t, l, h => by
    rw [useL]
    cases hi : lkp l i with
    | none => exact useL_nodup y h
    | some x => exact useL_nodup y (mput_nodup _ _ h)
/-! ### a list more -/
theorem ndR_lists (R : RT) (ls : List (List ST)) (c : List ST) : ndR ⟨ls, R.its⟩ c = { ndR R c with uses := ls.countP (usesOf c), ends := ls.countP (ceq · c) } := rfl
theorem getR_lists (R : RT) (ls : List (List ST)) (id : Int) : getR ⟨ls, R.its⟩ id = getR R id := rfl
theorem find_lists (R : RT) (ls : List (List ST)) (c : List ST) : find ⟨ls, R.its⟩ c = find R c := rfl
theorem clo_lists {R : RT} (ls : List (List ST)) (h : Clo R) : Clo ⟨ls, R.its⟩ := ⟨h.ne, h.once, h.up, h.inn⟩
/-- Lists told anew: uses and ends are told anew. -/
theorem TI.retell {s : KS Nd} {R : RT} (h : TI s R) {ls : List (List ST)} {l' : List (Int × Nd)} (hl : Lst ⟨ls, R.its⟩) (hn : (l'.map (·.1)).Nodup)
    (hk : ∀ k c, getR R k = some c → ∀ x, lkp s.nodes k = some x → ∃ y, lkp l' k = some y ∧ y.pn = { x.pn with uses := ls.countP (usesOf c), ends := ls.countP (ceq · c) }) (h0 : ∀ k, lkp s.nodes k = none → lkp l' k = none) : TI ⟨l', s.last⟩ ⟨ls, R.its⟩ := by
  refine ⟨fun k => ?_, clo_lists ls h.clo, h.last, hl, hn⟩
  rw [getR_lists]
  cases hg : getR R k with
  | none =>
    have := h.inv k
    rw [hg] at this
    exact gP_none.2 (h0 k (gP_none.1 this))
  | some c =>
    obtain ⟨x, h1, h2⟩ := h.at hg
    obtain ⟨y, h3, h4⟩ := hk k c hg x h1
    rw [Option.map_some, ndR_lists, ← h2, ← h4]
    exact gP_some h3
end Go.Gx.T16

/- Tries: what the walks of the functions that read one go by; no program in sight. -/
namespace Go.Gx.T16
open Go.Gx Go.Gx.T3 Go.Gx.T4 Go.Gx.T6 Go.Gx.T8

/-- The cells of a step's values. -/
def ndC (x : Nd) (kv ov : Value) : List Value := [.int .i64 x.st.1.h.k, .int .i64 x.st.1.h.k0, .int .i64 x.st.1.h.k1, .int .i64 x.st.1.h.k2, x.st.2.1, x.st.2.2, .int .i64 x.par, kv, .int .i64 x.dep, .int .i64 x.uses, .int .i64 x.ends, .int .i64 x.inn, ov]
def nkD (T E : TypeId) : NK Nd := ⟨T, E, 13, ndC, Nd.kids, Nd.outer⟩
/-- A step's tests and what stands below it. -/
def StAt (G : Ghost) (st : SVal) : Prop := SlL G st.2.1 3 tC t0 st.1.h.ts ∧ Ss G st.2.2 st.1.subs ∧ ssz st.1 ≤ 1000
theorem StAt.mono {G G' : Ghost} {st : SVal} (h : StAt G st) (hle : GLe G G') : StAt G' st := ⟨h.1.mono hle, h.2.1.mono hle, h.2.2⟩
abbrev NL := List (Int × NB Nd)
/-- All that is known of nodes that are seen. -/
structure Seen (T E : TypeId) (G : Ghost) (l : NL) (R : RT) : Prop where
  at' : ∀ q ∈ l, NodeAt (nkD T E) G q.2
  st : ∀ q ∈ l, StAt G q.2.2.2.2.st
  k : KInv (gP (eraK l)) R
  clo : Clo R
theorem Seen.mono {T E : TypeId} {G G' : Ghost} {l : NL} {R : RT} (h : Seen T E G l R) (hle : GLe G G') : Seen T E G' l R := ⟨fun q hq => (h.at' q hq).mono hle, fun q hq => (h.st q hq).mono hle, h.k, h.clo⟩
theorem gP_era {l : NL} {k : Int} {b : Nat} {kv ov : Value} {x : Nd} (h : lkp l k = some (b, kv, ov, x)) : gP (eraK l) k = some x.pn := gP_some (by rw [eraK_lkp, h]; rfl)
/-- What a node is that isn't there. -/
abbrev pn0 : PN := ⟨sZ, 0, 0, 0, 0, 0, [], []⟩
section
variable {T E : TypeId} {G : Ghost} {l : NL} {R : RT} {id : Int} {c : List ST}
theorem Seen.node (h : Seen T E G l R) (hc : getR R id = some c) : ∃ bx kv ov x, lkp l id = some (bx, kv, ov, x) ∧ x.kids = kidsR R c ∧ x.st.1 = c.getLastD sZ := by
  obtain ⟨y, h1, h2, h3⟩ := h.k id c hc
  obtain ⟨x, h4, rfl⟩ := gP_inv h1
  obtain ⟨b, kv, ov, h5⟩ := eraK_some h4
  exact ⟨b, kv, ov, x, h5, h2, h3⟩
theorem Seen.row (h : Seen T E G l R) {bx : Nat} {kv ov : Value} {x : Nd} (hl : lkp l id = some (bx, kv, ov, x)) : RowAt G bx 0 13 (at_ (ndC x kv ov)) ∧ SlL G kv 1 cI (0 : Int) x.kids ∧ SlL G ov 1 cI (0 : Int) x.outer ∧ SlL G x.st.2.1 3 tC t0 x.st.1.h.ts ∧ Ss G x.st.2.2 x.st.1.subs ∧ ssz x.st.1 ≤ 1000 :=
  ⟨(h.at' _ (lkp_some hl)).1, (h.at' _ (lkp_some hl)).2.1, (h.at' _ (lkp_some hl)).2.2, (h.st _ (lkp_some hl)).1, (h.st _ (lkp_some hl)).2⟩
theorem kid_get {k : Int} (h : k ∈ kidsR R c) : ∃ s, getR R k = some (c ++ [s]) := by
  obtain ⟨j, d, rfl, h1, h2⟩ := numsF_mem.1 h
  obtain ⟨s, rfl⟩ := isKid_iff.1 h2
  exact ⟨s, getR_iff.2 (.inr ⟨by omega, j, by omega, h1⟩)⟩
theorem below_kids {g : Int → Option PN} {x : PN} {s : ST} (hK : KInv g R) (hC : Clo R) (hc : getR R id = some c) (hx : x.kids = kidsR R c) : belowL g s x.kids = find R (c ++ [s]) := by
  obtain ⟨y, h1, h2, _⟩ := hK id c hc
  rw [← below_find hK hC s hc, hx, ← h2]
  unfold below
  rw [h1]
theorem kids_drop {ks : List Int} {j : Nat} (hj : j < ks.length) : ks.drop j = ks.getD j 0 :: ks.drop (j + 1) := by
  rw [List.drop_eq_getElem_cons hj]; simp [List.getD, List.getElem?_eq_getElem hj]
theorem below_go {g : Int → Option PN} {s : ST} {ks : List Int} {j : Nat} {v : Int} {y : PN} (h : belowL g s (ks.drop j) = v) (hj : j < ks.length) (hy : g (ks.getD j 0) = some y) (hs : seq y.s s = false) : belowL g s (ks.drop (j + 1)) = v := by
  rw [kids_drop hj, belowL, hy] at h
  simp only [hs, Bool.false_eq_true, if_false] at h
  exact h
theorem below_hit {g : Int → Option PN} {s : ST} {ks : List Int} {j : Nat} {v : Int} {y : PN} (h : belowL g s (ks.drop j) = v) (hj : j < ks.length) (hy : g (ks.getD j 0) = some y) (hs : seq y.s s = true) : ks.getD j 0 = v := by
  rw [kids_drop hj, belowL, hy] at h
  simp only [hs, if_true] at h
  exact h
theorem below_end {g : Int → Option PN} {s : ST} {ks : List Int} {j : Nat} {v : Int} (h : belowL g s (ks.drop j) = v) (hj : ks.length ≤ j) : (0 : Int) = v := by
  rw [List.drop_eq_nil_of_le hj, belowL] at h
  exact h
theorem find_longer (hC : Clo R) : ∀ (t : List ST) (a : List ST), find R a = 0 → find R (a ++ t) = 0
  | [], a, h => by rw [List.append_nil]; exact h
  | s :: t, a, h => by
    have e : a ++ s :: t = a ++ [s] ++ t := by simp
    rw [e]
    refine find_longer hC t _ (Decidable.byContradiction fun hn => find_pre hC hn h)
theorem chain_take {rs : List SVal} {k : Nat} (hk : k < rs.length) : (rs.map Prod.fst).take (k + 1) = (rs.map Prod.fst).take k ++ [(rs.getD k s0).1] := sv_take hk
theorem find_no {rs : List SVal} {k : Nat} (hC : Clo R) (h : find R (c ++ ((rs.map Prod.fst).take k)) = 0) : find R (c ++ rs.map Prod.fst) = 0 := by
  have := find_longer hC ((rs.map Prod.fst).drop k) _ h
  rw [List.append_assoc, List.take_append_drop] at this
  exact this
end
/-- A call that keeps all but the nodes just where it is. -/
theorem see_z {P : Program} {f : FuncId} {vs : Array Value} {TT : TypeId} {p : Nat} {s : KS (NB Nd)} {R : Value → Prop} {w : World} {F : Nat → Prop}
    (hc : ∀ z, (starL (trL TT p s z)).holds w F → Calls P f vs w (Ret fun r w' => R r ∧ Kept (starL (trL TT p s z)) F w w')) (hA : (trR TT p s).holds w F) : Calls P f vs w (Ret fun r w' => R r ∧ Kept (trR TT p s) F w w') := by
  obtain ⟨z, hz⟩ := hA
  refine (hc z hz).mono (fun e w' hR => ?_)
  cases e with
  | returned r => exact ⟨hR.1, hR.2.imp (fun w F h => ⟨z, h⟩)⟩
  | panicked c => exact hR.elim
  | outgrown => exact hR.elim
end Go.Gx.T16

/-
  DERIVED: THE SHELF's CONTRACTS AT THIS DUMP, IN PLAIN WORDS (tools/lay-plain.mjs out of 'TryShelf7.lean', which tools/lay-shelf.mjs wrote): THE SAME DECLARATIONS UNDER THE SAME NAMES: 'import', 'namespace', 'open', 'def', 'theorem' AND NOTHING ELSE: no command of the shelf's: FOR A HAND-IN. Each laying: the table of numbers ('.._ren') and one theorem, a field a fact of the dump's own or the kernel's comparison; each contract: ONE APPLICATION.
-/
namespace Go.Proofs
open Go.Shelf
def Try.lays128_ren : Go.Shelf.Ren := ⟨fun | 128 => 86 | n => n, fun | 51 => 147 | 3 => 3 | 4 => 4 | 46 => 130 | 5 => 5 | 9 => 9 | n => n, fun | n => n⟩
def Try.lays125_ren : Go.Shelf.Ren := ⟨fun | 125 => 68 | 128 => 86 | 129 => 87 | n => n, fun | 46 => 130 | 3 => 3 | 51 => 147 | 53 => 149 | 4 => 4 | 5 => 5 | 9 => 9 | n => n, fun | n => n⟩
def Try.lays215_ren : Go.Shelf.Ren := ⟨fun | 215 => 94 | n => n, fun | 3 => 3 | 4 => 4 | n => n, fun | n => n⟩
def Try.lays129_ren : Go.Shelf.Ren := ⟨fun | 129 => 87 | n => n, fun | 53 => 149 | 3 => 3 | 4 => 4 | 46 => 130 | 5 => 5 | 9 => 9 | n => n, fun | n => n⟩
def Try.lays189_ren : Go.Shelf.Ren := ⟨fun | 189 => 42 | 125 => 68 | 257 => 67 | 128 => 86 | 129 => 87 | 294 => 77 | 295 => 78 | 296 => 79 | 297 => 80 | 298 => 81 | 299 => 82 | 216 => 83 | 300 => 84 | 301 => 85 | 328 => 89 | 329 => 90 | 330 => 91 | 331 => 92 | 332 => 93 | 215 => 94 | 343 => 95 | n => n, fun | 28 => 33 | 3 => 3 | 46 => 130 | 0 => 0 | 51 => 147 | 53 => 149 | 4 => 4 | 183 => 139 | 182 => 138 | 131 => 144 | 5 => 5 | 9 => 9 | 218 => 151 | 222 => 116 | 228 => 156 | 229 => 157 | n => n, fun | n => n⟩
theorem Try.lays189 : Go.Proofs.Lays.n189 Try.prog Try.lays189_ren := {
  mixed := by kernel_rfl
  f125 := Try.func68.trans (congrArg some (by kernel_rfl))
  f128 := Try.func86.trans (congrArg some (by kernel_rfl))
  f129 := Try.func87.trans (congrArg some (by kernel_rfl))
  f189 := Try.func42.trans (congrArg some (by kernel_rfl))
  f215 := Try.func94.trans (congrArg some (by kernel_rfl))
  f216 := Try.func83.trans (congrArg some (by kernel_rfl))
  f257 := Try.func67.trans (congrArg some (by kernel_rfl))
  f294 := Try.func77.trans (congrArg some (by kernel_rfl))
  f295 := Try.func78.trans (congrArg some (by kernel_rfl))
  f296 := Try.func79.trans (congrArg some (by kernel_rfl))
  f297 := Try.func80.trans (congrArg some (by kernel_rfl))
  f298 := Try.func81.trans (congrArg some (by kernel_rfl))
  f299 := Try.func82.trans (congrArg some (by kernel_rfl))
  f300 := Try.func84.trans (congrArg some (by kernel_rfl))
  f301 := Try.func85.trans (congrArg some (by kernel_rfl))
  f328 := Try.func89.trans (congrArg some (by kernel_rfl))
  f329 := Try.func90.trans (congrArg some (by kernel_rfl))
  f330 := Try.func91.trans (congrArg some (by kernel_rfl))
  f331 := Try.func92.trans (congrArg some (by kernel_rfl))
  f332 := Try.func93.trans (congrArg some (by kernel_rfl))
  f343 := Try.func95.trans (congrArg some (by kernel_rfl))
  t0 := Try.underlying0
  a0 := Try.isAgg0
  z0 := Try.sizeOf0
  v0 := Try.zeroValue0
  t3 := Try.underlying3
  a3 := Try.isAgg3
  z3 := Try.sizeOf3
  v3 := Try.zeroValue3
  t4 := Try.underlying4
  a4 := Try.isAgg4
  z4 := Try.sizeOf4
  v4 := Try.zeroValue4
  t5 := Try.underlying5
  a5 := Try.isAgg5
  z5 := Try.sizeOf5
  v5 := Try.zeroValue5
  t9 := Try.underlying9
  a9 := Try.isAgg9
  z9 := Try.sizeOf9
  v9 := Try.zeroValue9
  t28 := Try.underlying33
  a28 := Try.isAgg33
  z28 := Try.sizeOf33
  v28 := Try.zeroValue33
  t46 := Try.underlying130
  a46 := Try.isAgg130
  z46 := Try.sizeOf130
  v46 := Try.zeroValue130
  t51 := Try.underlying147
  a51 := Try.isAgg147
  z51 := Try.sizeOf147
  v51 := Try.zeroValue147
  t53 := Try.underlying149
  a53 := Try.isAgg149
  z53 := Try.sizeOf149
  v53 := Try.zeroValue149
  t131 := Try.underlying144
  a131 := Try.isAgg144
  z131 := Try.sizeOf144
  v131 := Try.zeroValue144
  t182 := Try.underlying138
  a182 := Try.isAgg138
  z182 := Try.sizeOf138
  v182 := Try.zeroValue138
  t183 := Try.underlying139
  a183 := Try.isAgg139
  z183 := Try.sizeOf139
  v183 := Try.zeroValue139
  t218 := Try.underlying151
  a218 := Try.isAgg151
  z218 := Try.sizeOf151
  v218 := Try.zeroValue151
  t222 := Try.underlying116
  a222 := Try.isAgg116
  z222 := Try.sizeOf116
  v222 := Try.zeroValue116
  t228 := Try.underlying156
  a228 := Try.isAgg156
  z228 := Try.sizeOf156
  v228 := Try.zeroValue156
  t229 := Try.underlying157
  a229 := Try.isAgg157
  z229 := Try.sizeOf157
  v229 := Try.zeroValue157 }
open Go.Sort Go.RowKit in
theorem Try.slices_Sort_int (blk off cap : Nat) (zs : List Int) (w : World) (hH : Holds (Value.int .i64) w blk off zs.toArray) (hblk : blk < w.heap.size) (hsz : zs.length < 4611686018427387904) :
    Calls Try.prog 42 #[.slice (some ⟨blk, off, none⟩) zs.length cap] w fun e w' =>
      e = .returned (.tuple #[]) ∧ ∃ n os, w' = grow (putRow (Value.int .i64) (Sort.ahead w n) blk off (zs.mergeSort fun x y => decide (x ≤ y)).toArray) os := Any.slices_Sort_int Try.lays189 blk off cap zs w hH hblk hsz
def Try.lays112_ren : Go.Shelf.Ren := ⟨fun | 112 => 44 | n => n, fun | 28 => 33 | 3 => 3 | 4 => 4 | 0 => 0 | n => n, fun | n => n⟩
theorem Try.lays112 : Go.Proofs.Lays.n112 Try.prog Try.lays112_ren := {
  mixed := by kernel_rfl
  f112 := Try.func44.trans (congrArg some (by kernel_rfl))
  t0 := Try.underlying0
  a0 := Try.isAgg0
  z0 := Try.sizeOf0
  v0 := Try.zeroValue0
  t3 := Try.underlying3
  a3 := Try.isAgg3
  z3 := Try.sizeOf3
  v3 := Try.zeroValue3
  t4 := Try.underlying4
  a4 := Try.isAgg4
  z4 := Try.sizeOf4
  v4 := Try.zeroValue4
  t28 := Try.underlying33
  a28 := Try.isAgg33
  z28 := Try.sizeOf33
  v28 := Try.zeroValue33 }
open Go.RowKit Go.Lib Go.Sort in
/-- slices.Reverse at []int: "Reverse reverses the elements of the slice in place.": THE SLICE's CELLS HOLD 'zs.reverse' BEHIND THE CALL; all else is as it was, but for the count of draws (the exchange 's[i], s[j] = s[j], s[i]' draws its order, once a round). IN THE WORDS OF slices.Sort's CONTRACT: 'Holds': the cells hold zs and none is frozen; 'putRow': the world with those cells holding another array. A slice of length 0 that is not nil is among them ('zs = []'); nil: '.._nil'. (LAID: no walk: one application.) -/
theorem Try.slices_Reverse_int (blk off cap : Nat) (zs : List Int) (w : World) (hH : Holds (Value.int .i64) w blk off zs.toArray) (hsz : zs.length ≤ 9223372036854775807) :
    Calls Try.prog 44 #[.slice (some ⟨blk, off, none⟩) zs.length cap] w fun e w' => e = .returned (.tuple #[]) ∧ ∃ n, w' = putRow (Value.int .i64) (Sort.ahead w n) blk off zs.reverse.toArray := Any.slices_Reverse_int Try.lays112 blk off cap zs w hH hsz
open Go.RowKit Go.Lib Go.Sort in
/-- The same at a slice of length 0, a nil one too: nothing is read, nothing written, nothing drawn. (LAID: no walk: one application.) -/
theorem Try.slices_Reverse_int_empty (a : Option Addr) (cap : Nat) (w : World) :
    Calls Try.prog 44 #[.slice a 0 cap] w fun e w' => e = .returned (.tuple #[]) ∧ w' = w := Any.slices_Reverse_int_empty Try.lays112 a cap w
def Try.laysNm215_ren : Go.Shelf.Ren := ⟨fun | 15 => 64 | n => n, fun | 22 => 33 | 3 => 3 | 4 => 4 | n => n, fun | n => n⟩
def Try.laysNm220_ren : Go.Shelf.Ren := ⟨fun | 20 => 43 | n => n, fun | 22 => 33 | 3 => 3 | 4 => 4 | 0 => 0 | n => n, fun | n => n⟩
theorem Try.laysNm220 : Go.Proofs.Lays2.n20 Try.prog Try.laysNm220_ren := {
  mixed := by kernel_rfl
  f20 := Try.func43.trans (congrArg some (by kernel_rfl))
  t0 := Try.underlying0
  a0 := Try.isAgg0
  z0 := Try.sizeOf0
  v0 := Try.zeroValue0
  t3 := Try.underlying3
  a3 := Try.isAgg3
  z3 := Try.sizeOf3
  v3 := Try.zeroValue3
  t4 := Try.underlying4
  a4 := Try.isAgg4
  z4 := Try.sizeOf4
  v4 := Try.zeroValue4
  t22 := Try.underlying33
  a22 := Try.isAgg33
  z22 := Try.sizeOf33
  v22 := Try.zeroValue33
  i3 := by kernel_rfl }
open Go.RowKit Go.Lib Go.Sort in
/-- slices.Compact at []int: "Compact replaces consecutive runs of equal elements with a single copy. This is like the uniq command found on Unix. Compact modifies the contents of the slice s and returns the modified slice, which may have a smaller length. Compact zeroes the elements between the new length and the original length. The result preserves the nilness of s.": IT RETURNS THE SLICE CUT TO 'Lib.compact zs'; ITS CELLS HOLD 'Lib.compact zs', THEN ZERO VALUES up to the old length; all else is as it was, but for the count of draws. IN THE WORDS OF slices.Sort's CONTRACT ('Holds', 'putRow'): so the everyday 'slices.Sort(xs); xs = slices.Compact(xs)' goes from the one contract to the other. It asks 'zs.length ≤ cap' (every slice's: the reslicing 's[:k]' looks at it). Length 0, nil: '.._empty'. (LAID: no walk: one application.) -/
theorem Try.slices_Compact_int (blk off cap : Nat) (zs : List Int) (w : World) (hH : Holds (Value.int .i64) w blk off zs.toArray) (hsz : zs.length ≤ 9223372036854775807) (hcap : zs.length ≤ cap) :
    Calls Try.prog 43 #[.slice (some ⟨blk, off, none⟩) zs.length cap] w fun e w' => e = .returned (.slice (some ⟨blk, off, none⟩) (Lib.compact zs).length cap) ∧ ∃ q, w' = putRow (Value.int .i64) (Sort.ahead w q) blk off (Lib.compact zs ++ List.replicate (zs.length - (Lib.compact zs).length) 0).toArray := Any.slices_Compact_int Try.laysNm220 blk off cap zs w hH hsz hcap
open Go.RowKit Go.Lib Go.Sort in
/-- The same at a slice of length 0, a nil one too: it comes back as it is. (LAID: no walk: one application.) -/
theorem Try.slices_Compact_int_empty (a : Option Addr) (cap : Nat) (w : World) :
    Calls Try.prog 43 #[.slice a 0 cap] w fun e w' => e = .returned (.slice a 0 cap) ∧ w' = w := Any.slices_Compact_int_empty Try.laysNm220 a cap w
def Try.laysNm237_ren : Go.Shelf.Ren := ⟨fun | 37 => 94 | n => n, fun | 3 => 3 | 4 => 4 | n => n, fun | n => n⟩
def Try.laysNm231_ren : Go.Shelf.Ren := ⟨fun | 31 => 83 | 37 => 94 | n => n, fun | 3 => 3 | 4 => 4 | n => n, fun | n => n⟩
open Go.RowKit Go.Sort in
/-- .. and plain. (LAID: no walk: one application.) -/
theorem Try.slices_Sort_int_none (p : Option Addr) (cap : Nat) (w : World) :
    Calls Try.prog 42 #[.slice p 0 cap] w fun e w' => e = .returned (.tuple #[]) ∧ w' = w := Any.slices_Sort_int_none Try.lays189 p cap w
def Try.laysSlE041_f64_ren : Go.Shelf.Ren := ⟨fun | 41 => 64 | n => n, fun | 22 => 33 | 23 => 3 | 4 => 4 | n => n, fun | n => n⟩
def Try.keysI_ren : Go.Shelf.Ren := ⟨fun | 7 => 41 | 10 => 66 | n => n, fun | 23 => 72 | 26 => 3 | 3 => 69 | 28 => 103 | 0 => 0 | 27 => 102 | 33 => 127 | 4 => 4 | n => n, fun | n => n⟩
def Try.sortedI_ren : Go.Shelf.Ren := ⟨fun | 6 => 40 | 8 => 65 | 9 => 42 | 11 => 76 | 13 => 68 | 12 => 67 | 23 => 86 | 24 => 87 | 14 => 77 | 15 => 78 | 16 => 79 | 17 => 80 | 18 => 81 | 19 => 82 | 20 => 83 | 21 => 84 | 22 => 85 | 25 => 89 | 26 => 90 | 27 => 91 | 28 => 92 | 29 => 93 | 30 => 94 | 31 => 95 | n => n, fun | 26 => 3 | 28 => 103 | 24 => 33 | 0 => 0 | 3 => 3 | 37 => 130 | 48 => 147 | 50 => 149 | 4 => 4 | 40 => 139 | 39 => 138 | 45 => 144 | 5 => 5 | 9 => 9 | 51 => 151 | 55 => 116 | 57 => 156 | 58 => 157 | 33 => 127 | n => n, fun | n => n⟩
end Go.Proofs

/- Walks: what Go functions of this chapter come to, each as a function on plain data; no condition but those that each theorem names. Printed by a program of this work (gen.py). -/
namespace Go.Proofs.Ytdkfdncbldngdaa
open Go.Gx Go.Gx.T16 Go.Gx.T8 Go.Gx.T6 Go.Gx.T4 Go.Gx.T3 Go.Gx.T8 Go.Gx.T4 Go.Gx.T3 Go.Gx.T8 Go.Gx.T6 Go.Gx.T4 Go.Gx.T3
theorem sz33 : SzIs Try.prog 33 1 := by
 unfold SzIs
 kernel_rfl
theorem sz72 : SzIs Try.prog 72 1 := by
 unfold SzIs
 kernel_rfl
theorem zr69 : ZeroIs Try.prog 69 (Value.pointer none) := by
 unfold ZeroIs
 kernel_rfl
theorem c_zbelow {F : Nat → Prop} {G : Ghost} (p : Nat) (id : Int) (c : List ST) (c2 : ST) (ta sb : Value) (l : NL) (ls : Int) (R : RT) (z : Nat) (hV : Seen 71 3 G l R) (hc : getR R id = some c) (ht : SlL G ta 3 tC t0 c2.h.ts) (hs : Ss G sb c2.subs) (w : World) (hG : Has G w) (hA : (starL (trL 74 p (KS.mk l ls) z)).holds w F) (hFG : ∀ b, F b → G b = none) :
  Calls Try.prog 33 #[Value.pointer (some ⟨p, 0, none⟩), Value.int .i64 id, Value.agg #[Value.int .i64 c2.h.k, Value.int .i64 c2.h.k0, Value.int .i64 c2.h.k1, Value.int .i64 c2.h.k2, ta, sb]] w (Ret fun r w' => r = Value.int .i64 (find R (c ++ [c2])) ∧ Kept (starL (trL 74 p (KS.mk l ls) z)) F w w') := by
 refine enterO (args := [_, _, _]) (G := G) (A := starL (trL 74 p (KS.mk l ls) z)) (l := [(0, Value.pointer (some ⟨p, 0, none⟩)), (1, Value.int .i64 id), (2, Value.agg #[Value.int .i64 c2.h.k, Value.int .i64 c2.h.k0, Value.int .i64 c2.h.k1, Value.int .i64 c2.h.k2, ta, sb])]) Try.func33 rfl Try.ntmps33 hG hA hFG ⟨rfl, rfl, rfl, trivial⟩ (Nat.le_of_ble_eq_true rfl) ?_
 refine c_unpack ?_
 dsimp only [trL, trC, List.cons_append, List.nil_append]
 obtain ⟨bx, kv, ov, x, hN, hxk, hxs⟩ := hV.node hc
 obtain ⟨hR, hK, hO, hst, hss, hsz⟩ := hV.row hN
 replace hR : RowAt G bx 0 13 (at_ [.int .i64 x.st.1.h.k, .int .i64 x.st.1.h.k0, .int .i64 x.st.1.h.k1, .int .i64 x.st.1.h.k2, x.st.2.1, x.st.2.2, .int .i64 x.par, kv, .int .i64 x.dep, .int .i64 x.uses, .int .i64 x.ends, .int .i64 x.inn, ov]) := hR
 have hkb := below_kids (s := c2) (x := x.pn) hV.k hV.clo hc hxk
 have hbk := hK.bound
 refine c_seq ?_
 refine c_region ?_
 refine r_box .none rfl rfl (IsRow.lit _) (fun b_1 => ?_)
 refine r_val .none rfl (p_assign rfl) ?_
 refine r_nil ?_
 refine e_next ?_
 refine c_seq ?_
 refine c_seq ?_
 refine c_region ?_
 refine r_val .none rfl (p_move rfl) ?_
 refine r_val .none rfl (p_nilcheck rfl) ?_
 refine r_val .none rfl (p_field Try.underlying74 rfl sz72 rfl) ?_
 refine r_val .none rfl (p_ld (k := 1) Try.underlying72 rfl rfl rfl (by first | exact of_decide_eq_true rfl | omega) (rfl : _ = Value.map _)) ?_
 refine r_val .none rfl (p_move rfl) ?_
 refine r_val .none rfl (p_lookup_yes (i := 2) Try.underlying72 (KeyT.int Try.underlying3) zr69 rfl rfl rfl hN) ?_
 refine r_val .none rfl (p_nilcheck rfl) ?_
 refine r_val .none rfl (p_field Try.underlying71 rfl sz33 rfl) ?_
 refine r_val .none rfl (p_ldg (j := 7) Try.underlying33 rfl rfl hR (by first | exact of_decide_eq_true rfl | omega) rfl) ?_
 refine r_val .none rfl (p_leng Try.underlying33 rfl hK) ?_
 have bd_1 := (hK).bound
 refine r_val .none rfl (p_move rfl) ?_
 refine r_nil ?_
 refine e_next ?_
 refine c_block ?_
 refine c_name (d := 0) rfl (fun u_2 hu_2 => ?_)
 refine c_name (d := 5) rfl (fun u_3 hu_3 => ?_)
 refine c_name (d := 17) rfl (fun u_4 hu_4 => ?_)
 refine c_name (d := 18) rfl (fun u_5 hu_5 => ?_)
 refine c_nameL (k := 0) rfl (fun A_6 hA_6 => ?_)
 refine c_nameL (k := 1) rfl (fun A_7 hA_7 => ?_)
 refine c_nameL (k := 2) rfl (fun A_8 hA_8 => ?_)
 refine c_loop (σ := Nat) (fun j => [(19, Value.int .i64 (j : Nat)), (0, u_2), (5, u_3), (17, u_4), (18, u_5)]) (fun j => [A_6, A_7, A_8]) (fun _ => _) (fun j => j ≤ x.kids.length ∧ belowL (gP (eraK l)) c2 (x.kids.drop j) = find R (c ++ [c2])) (fun j => x.kids.length - j) (0) ⟨Nat.zero_le _, hkb⟩ rfl ⟨rfl, rfl, rfl, rfl, rfl, trivial⟩ (.keep (fun _ _ h => h) (.keep (fun _ _ h => h) (.keep (fun _ _ h => h) (.nil)))) (fun j hphi => ?_)
 subst hu_2
 subst hu_3
 subst hu_4
 subst hu_5
 subst hA_6
 subst hA_7
 subst hA_8
 refine c_seq ?_
 refine c_region ?_
 refine r_val .none rfl (p_lt rfl rfl) ?_
 refine r_nil ?_
 refine e_next ?_
 refine c_seq ?_
 refine c_splitd (d := 20) rfl (fun h_9 => ?_) (fun h_9 => ?_)
 ·
  have hj := h_9
  obtain ⟨s2, hg2⟩ := kid_get (c := c) (R := R) (k := x.kids.getD j 0) (by rw [← hxk]; exact getD_mem (by omega))
  obtain ⟨bx2, kv2, ov2, x2, hN2, hxk2, hxs2⟩ := hV.node hg2
  first
   | (exfalso; omega)
   | (
    refine c_cond_t rfl ?_
    refine c_skip ?_
    refine e_next ?_
    refine c_seq ?_
    refine c_block ?_
    refine c_seq ?_
    refine c_region ?_
    refine r_iaddr_g .none rfl Try.underlying33 sz3 rfl hK rfl (by first | exact of_decide_eq_true rfl | omega) (fun p_11 o_12 R_10 => ?_)
    refine r_val .none rfl (p_ldg0 Try.underlying3 rfl rfl R_10 (by first | exact of_decide_eq_true rfl | omega) (rfl : _ = Value.int _ _)) ?_
    refine r_val .none rfl (p_assign rfl) ?_
    refine r_nil ?_
    refine e_next ?_
    refine c_seq ?_
    obtain ⟨hR2, hK2, hO2, hst2, hss2, hsz2⟩ := hV.row hN2
    replace hR2 : RowAt G bx2 0 13 (at_ [.int .i64 x2.st.1.h.k, .int .i64 x2.st.1.h.k0, .int .i64 x2.st.1.h.k1, .int .i64 x2.st.1.h.k2, x2.st.2.1, x2.st.2.2, .int .i64 x2.par, kv2, .int .i64 x2.dep, .int .i64 x2.uses, .int .i64 x2.ends, .int .i64 x2.inn, ov2]) := hR2
    refine c_region_q mixed (by kernel_rfl) ?_
    refine q_val .none rfl (p_move rfl) ?_
    refine q_val .none rfl (p_nilcheck rfl) ?_
    refine q_val .none rfl (p_field Try.underlying74 rfl sz72 rfl) ?_
    refine q_val .none rfl (p_ld (k := 1) Try.underlying72 rfl rfl rfl (by first | exact of_decide_eq_true rfl | omega) (rfl : _ = Value.map _)) ?_
    refine q_val .none rfl (p_move rfl) ?_
    refine q_val .none rfl (p_lookup_yes (i := 2) Try.underlying72 (KeyT.int Try.underlying3) zr69 rfl rfl rfl hN2) ?_
    refine q_val .none rfl (p_nilcheck rfl) ?_
    refine q_val .none rfl (p_field Try.underlying71 rfl sz50 rfl) ?_
    refine q_val .none rfl (p_ldga0 Try.underlying50 rfl sz50 rfl hR2 (by first | exact of_decide_eq_true rfl | omega) (rfl : _ = Value.agg #[_, _, _, _, _, _])) ?_
    refine q_val .none rfl (p_ldw (k := 0) Try.underlying50 rfl sz50 rfl rfl (rfl : _ = Value.agg #[_, _, _, _, _, _])) ?_
    refine q_call (vs := [_, _]) .none rfl cl62 rfl (fun w hw => c_csame x2.st.1 c2 _ _ _ _ hst2 hss2 ht hs w hw) ?_
    refine q_nil ?_
    refine e_next ?_
    refine c_split (d := 33) rfl (fun h_13 => ?_) (fun h_13 => ?_)
    ·
     have hE := h_13
     first
      | (exfalso; omega)
      | (
       refine c_cond_t rfl ?_
       refine c_seq ?_
       refine c_region ?_
       refine r_val .none rfl (p_move rfl) ?_
       refine r_val .none rfl (p_assign rfl) ?_
       refine r_nil ?_
       refine e_next ?_
       refine c_ret ?_
       refine e_ret_block ?_
       refine e_ret_then ?_
       refine e_ret_then ?_
       refine e_ret_block ?_
       refine e_ret_then ?_
       refine e_ret1 Try.results33 (.tmp rfl .nil) (fun w hm => ⟨?_, hm.kept [box p 2 74 (at_ (trC (KS.mk l ls) z)), mapA z kI veN2 l] (.drop (.keep (fun _ _ h => h) (.keep (fun _ _ h => h) (.nil)))) (starL (trL 74 p (KS.mk l ls) z)) (fun F' h => h)⟩)
       first
       | exact congrArg (Value.int .i64) (below_hit hphi.2 (by omega) (gP_era hN2) hE)
       | exact congrArg (Value.int .i64) (below_end hphi.2 (by omega))
       )
    ·
     have hE := h_13
     first
      | (exfalso; omega)
      | (
       refine c_cond_f rfl ?_
       refine c_skip ?_
       refine e_norm_block ?_
       refine e_next ?_
       refine c_region ?_
       refine r_val .none rfl (p_add rfl rfl (by omega)) ?_
       refine r_val .none rfl (p_move rfl) ?_
       refine r_nil ?_
       refine e_round (j + 1) ⟨⟨by omega, below_go hphi.2 (by omega) (gP_era hN2) hE⟩, by omega⟩ rfl ⟨rfl, rfl, rfl, rfl, rfl, trivial⟩ (.keep (fun _ _ h => h) (.keep (fun _ _ h => h) (.keep (fun _ _ h => h) (.nil))))
       )
    )
 ·
  first
   | (exfalso; omega)
   | (
    refine c_cond_f rfl ?_
    refine c_exit ?_
    refine e_exit_then ?_
    refine e_exit_then ?_
    refine e_exit_block ?_
    refine e_next ?_
    refine c_seq ?_
    refine c_region ?_
    refine r_val .none rfl (p_assign rfl) ?_
    refine r_nil ?_
    refine e_next ?_
    refine c_ret ?_
    refine e_ret1 Try.results33 (.tmp rfl .nil) (fun w hm => ⟨?_, hm.kept [box p 2 74 (at_ (trC (KS.mk l ls) z)), mapA z kI veN2 l] (.drop (.keep (fun _ _ h => h) (.keep (fun _ _ h => h) (.nil)))) (starL (trL 74 p (KS.mk l ls) z)) (fun F' h => h)⟩)
    first
    | exact congrArg (Value.int .i64) (below_hit hphi.2 (by omega) (gP_era hN2) hE)
    | exact congrArg (Value.int .i64) (below_end hphi.2 (by omega))
    )
theorem c_kbelow {F : Nat → Prop} {G : Ghost} (p : Nat) (id : Int) (c : List ST) (c2 : ST) (ta sb : Value) (l : NL) (ls : Int) (R : RT) (hV : Seen 71 3 G l R) (hc : getR R id = some c) (ht : SlL G ta 3 tC t0 c2.h.ts) (hs : Ss G sb c2.subs) (w : World) (hG : Has G w) (hA : (trR 74 p (KS.mk l ls)).holds w F) (hFG : ∀ b, F b → G b = none) : Calls Try.prog 33 #[Value.pointer (some ⟨p, 0, none⟩), Value.int .i64 id, Value.agg #[Value.int .i64 c2.h.k, Value.int .i64 c2.h.k0, Value.int .i64 c2.h.k1, Value.int .i64 c2.h.k2, ta, sb]] w (Ret fun r w' => r = Value.int .i64 (find R (c ++ [c2])) ∧ Kept (trR 74 p (KS.mk l ls)) F w w') :=
 see_z (R := fun r => r = Value.int .i64 (find R (c ++ [c2]))) (fun z hA => c_zbelow p id c c2 ta sb l ls R z hV hc ht hs w hG hA hFG) hA
end Go.Proofs.Ytdkfdncbldngdaa

/- Walks: what Go functions of this chapter come to, each as a function on plain data; no condition but those that each theorem names. Printed by a program of this work (gen.py). -/
namespace Go.Proofs.Ytdkfdncbldngdaa
open Go.Gx Go.Gx.T16 Go.Gx.T8 Go.Gx.T6 Go.Gx.T4 Go.Gx.T3 Go.Gx.T8 Go.Gx.T4 Go.Gx.T3 Go.Gx.T8 Go.Gx.T6 Go.Gx.T4 Go.Gx.T3
theorem cl33 : Callable Try.prog 33 := callable Try.func33 (by kernel_rfl) rfl
theorem cl38 : Callable Try.prog 38 := callable Try.func38 (by kernel_rfl) rfl
theorem bl71_  : Program.built Try.prog 71 [] = some #[Value.int .i64 0, Value.int .i64 0, Value.int .i64 0, Value.int .i64 0, Value.slice none 0 0, Value.slice none 0 0, Value.int .i64 0, Value.slice none 0 0, Value.int .i64 0, Value.int .i64 0, Value.int .i64 0, Value.int .i64 0, Value.slice none 0 0] := by
 kernel_rfl
theorem c_zfrom {F : Nat → Prop} {G : Ghost} (p : Nat) (id : Int) (c : List ST) (v : Value) (cl : List ST) (l : NL) (ls : Int) (R : RT) (z : Nat) (hV : Seen 71 3 G l R) (hc : getR R id = some c) (hs : Ss G v cl) (w : World) (hG : Has G w) (hA : (starL (trL 74 p (KS.mk l ls) z)).holds w F) (hFG : ∀ b, F b → G b = none) :
  Calls Try.prog 38 #[Value.pointer (some ⟨p, 0, none⟩), Value.int .i64 id, v] w (Ret fun r w' => r = Value.int .i64 (find R (c ++ cl)) ∧ Kept (starL (trL 74 p (KS.mk l ls) z)) F w w') := by
 refine enterO (args := [_, _, _]) (G := G) (A := starL (trL 74 p (KS.mk l ls) z)) (l := [(0, Value.pointer (some ⟨p, 0, none⟩)), (1, Value.int .i64 id), (2, v)]) Try.func38 rfl Try.ntmps38 hG hA hFG ⟨rfl, rfl, rfl, trivial⟩ (Nat.le_of_ble_eq_true rfl) ?_
 obtain ⟨rs, hr, hrt, hrs, hl⟩ := hs.inv
 have hbd := hr.bound
 refine c_seq ?_
 refine c_region ?_
 refine r_val .none rfl (p_assign rfl) ?_
 refine r_nil ?_
 refine e_next ?_
 refine c_seq ?_
 refine c_seq ?_
 refine c_region ?_
 refine r_val .none rfl (p_move rfl) ?_
 refine r_val .none rfl (p_leng Try.underlying35 rfl hr) ?_
 have bd_1 := (hr).bound
 refine r_val .none rfl (p_move rfl) ?_
 refine r_nil ?_
 refine e_next ?_
 refine c_block ?_
 refine c_name (d := 0) rfl (fun u_2 hu_2 => ?_)
 refine c_name (d := 9) rfl (fun u_3 hu_3 => ?_)
 refine c_name (d := 10) rfl (fun u_4 hu_4 => ?_)
 refine c_nameL (k := 0) rfl (fun A_5 hA_5 => ?_)
 refine c_loop (σ := Nat) (fun k => [(11, Value.int .i64 (k : Nat)), (1, Value.int .i64 (find R (c ++ (rs.map Prod.fst).take k))), (0, u_2), (9, u_3), (10, u_4)]) (fun k => [A_5]) (fun _ => _) (fun k => k ≤ rs.length ∧ find R (c ++ (rs.map Prod.fst).take k) ≠ 0) (fun k => rs.length - k) (0) ⟨Nat.zero_le _, by rw [List.take_zero, List.append_nil, find_of hV.clo hc]; have := get_lt hc; omega⟩ rfl ⟨rfl, (congrArg (fun z => some (Value.int .i64 z)) (by rw [List.take_zero, List.append_nil]; exact (find_of hV.clo hc).symm)), rfl, rfl, rfl, trivial⟩ (.keep (fun _ _ h => h) (.nil)) (fun k hphi => ?_)
 subst hu_2
 subst hu_3
 subst hu_4
 subst hA_5
 have hcg := find_some hV.clo.ne hphi.2
 refine c_seq ?_
 refine c_region ?_
 refine r_val .none rfl (p_lt rfl rfl) ?_
 refine r_nil ?_
 refine e_next ?_
 refine c_seq ?_
 refine c_splitd (d := 12) rfl (fun h_6 => ?_) (fun h_6 => ?_)
 ·
  first
   | (exfalso; omega)
   | (
    refine c_cond_t rfl ?_
    refine c_skip ?_
    refine e_next ?_
    refine c_seq ?_
    refine c_block ?_
    refine c_seq ?_
    refine c_region ?_
    refine r_iaddr_g .none rfl Try.underlying35 sz50 rfl hr rfl (by first | exact of_decide_eq_true rfl | omega) (fun p_8 o_9 R_7 => ?_)
    have ht_10 := hrt _ (getD_mem (i := k) (d := s0) (by omega))
    have hc_11 := hrs _ (getD_mem (i := k) (d := s0) (by omega))
    refine r_val .none rfl (p_ldga0 Try.underlying50 rfl sz50 rfl R_7 (by first | exact of_decide_eq_true rfl | omega) (rfl : _ = Value.agg #[_, _, _, _, _, _])) ?_
    refine r_alloc .none rfl zr50 (IsRow.lit _) (fun b_1 => ?_)
    refine r_stw (k := 0) .none sz50 rfl rfl (IsRow.lit _) (one_lit rfl (all_cons rfl (all_cons rfl (all_cons rfl (all_cons rfl (all_cons (ht_10).one (all_cons (hc_11).one rfl))))))) rfl ?_
    refine r_nil ?_
    refine e_next ?_
    refine c_seq ?_
    refine c_region ?_
    refine r_val .none rfl (p_move rfl) ?_
    refine r_val .none rfl (p_move rfl) ?_
    refine r_val .none rfl (p_ldw (k := 0) Try.underlying50 rfl sz50 rfl rfl (rfl : _ = Value.agg #[_, _, _, _, _, _])) ?_
    refine r_callo (k := 1) (vs := [_, _, _]) .none rfl cl33 rfl rfl (fun w F hw hA hFG => c_zbelow _ _ _ (rs.getD k s0).1 _ _ _ _ _ z hV hcg ht_10 hc_11 w hw hA hFG) ?_
    refine r_val .none rfl (p_assign rfl) ?_
    refine r_nil ?_
    refine e_next ?_
    refine c_seq ?_
    refine c_region ?_
    refine r_val .none rfl (p_move rfl) ?_
    refine r_val .none rfl (p_eq rfl rfl) ?_
    refine r_nil ?_
    refine e_next ?_
    refine c_splitd (d := 20) rfl (fun h_12 => ?_) (fun h_12 => ?_)
    ·
     have hE := h_12
     first
      | (exfalso; omega)
      | (
       refine c_cond_t rfl ?_
       refine c_seq ?_
       refine c_region ?_
       refine r_val .none rfl (p_assign rfl) ?_
       refine r_nil ?_
       refine e_next ?_
       refine c_ret ?_
       refine e_ret_block ?_
       refine e_ret_then ?_
       refine e_ret_then ?_
       refine e_ret_block ?_
       refine e_ret_then ?_
       refine e_ret1 Try.results38 (.tmp rfl .nil) (fun w hm => ⟨?_, hm.kept [starL (trL 74 p (KS.mk l ls) z)] (.drop (.keep (fun _ _ h => h) (.nil))) (starL (trL 74 p (KS.mk l ls) z)) (fun F' h => (starL_oneE _ _).1 h)⟩)
       first
       | (exact congrArg (Value.int .i64) (by rw [hl, find_no (k := k + 1) hV.clo (by rw [chain_take (by omega), ← List.append_assoc]; exact hE)]))
       | (exact congrArg (Value.int .i64) (by rw [hl, List.take_of_length_le (by simp; omega)]))
       )
    ·
     have hE := h_12
     first
      | (exfalso; omega)
      | (
       refine c_cond_f rfl ?_
       refine c_skip ?_
       refine e_norm_block ?_
       refine e_next ?_
       refine c_region ?_
       refine r_val .none rfl (p_add rfl rfl (by omega)) ?_
       refine r_val .none rfl (p_move rfl) ?_
       refine r_nil ?_
       refine e_round (k + 1) ⟨⟨by omega, by rw [chain_take (by omega), ← List.append_assoc]; exact hE⟩, by omega⟩ rfl ⟨rfl, (congrArg (fun z => some (Value.int .i64 z)) (by rw [chain_take (by omega), List.append_assoc])), rfl, rfl, rfl, trivial⟩ (.drop (.keep (fun _ _ h => h) (.nil)))
       )
    )
 ·
  first
   | (exfalso; omega)
   | (
    refine c_cond_f rfl ?_
    refine c_exit ?_
    refine e_exit_then ?_
    refine e_exit_then ?_
    refine e_exit_block ?_
    refine e_next ?_
    refine c_seq ?_
    refine c_region ?_
    refine r_val .none rfl (p_move rfl) ?_
    refine r_val .none rfl (p_assign rfl) ?_
    refine r_nil ?_
    refine e_next ?_
    refine c_ret ?_
    refine e_ret1 Try.results38 (.tmp rfl .nil) (fun w hm => ⟨?_, hm.kept [starL (trL 74 p (KS.mk l ls) z)] (.keep (fun _ _ h => h) (.nil)) (starL (trL 74 p (KS.mk l ls) z)) (fun F' h => (starL_oneE _ _).1 h)⟩)
    first
    | (exact congrArg (Value.int .i64) (by rw [hl, find_no (k := k + 1) hV.clo (by rw [chain_take (by omega), ← List.append_assoc]; exact hE)]))
    | (exact congrArg (Value.int .i64) (by rw [hl, List.take_of_length_le (by simp; omega)]))
    )
theorem c_zfind {F : Nat → Prop} {G : Ghost} (p : Nat) (v : Value) (cl : List ST) (l : NL) (ls : Int) (R : RT) (z : Nat) (hV : Seen 71 3 G l R) (hs : Ss G v cl) (w : World) (hG : Has G w) (hA : (starL (trL 74 p (KS.mk l ls) z)).holds w F) (hFG : ∀ b, F b → G b = none) :
  Calls Try.prog 18 #[Value.pointer (some ⟨p, 0, none⟩), v] w (Ret fun r w' => r = Value.int .i64 (find R cl) ∧ Kept (starL (trL 74 p (KS.mk l ls) z)) F w w') := by
 refine enterO (args := [_, _]) (G := G) (A := starL (trL 74 p (KS.mk l ls) z)) (l := [(0, Value.pointer (some ⟨p, 0, none⟩)), (1, v)]) Try.func18 rfl Try.ntmps18 hG hA hFG ⟨rfl, rfl, trivial⟩ (Nat.le_of_ble_eq_true rfl) ?_
 refine c_seq ?_
 refine c_region ?_
 refine r_val .none rfl (p_assign rfl) ?_
 refine r_nil ?_
 refine e_next ?_
 refine c_seq ?_
 refine c_region ?_
 refine r_val .none rfl (p_move rfl) ?_
 refine r_val .none rfl (p_move rfl) ?_
 refine r_callo (k := 0) (vs := [_, _, _]) .none rfl cl38 rfl rfl (fun w F hw hA hFG => c_zfrom _ 1 [] _ _ _ _ _ z hV (getR_iff.2 (.inl ⟨rfl, rfl⟩)) hs w hw hA hFG) ?_
 refine r_val .none rfl (p_assign rfl) ?_
 refine r_nil ?_
 refine e_next ?_
 refine c_ret ?_
 refine e_ret1 Try.results18 (.tmp rfl .nil) (fun w hm => ⟨?_, hm.kept [starL (trL 74 p (KS.mk l ls) z)] (.keep (fun _ _ h => h) (.nil)) (starL (trL 74 p (KS.mk l ls) z)) (fun F' h => (starL_oneE _ _).1 h)⟩)
 rfl
theorem c_kfrom {F : Nat → Prop} {G : Ghost} (p : Nat) (id : Int) (c : List ST) (v : Value) (cl : List ST) (l : NL) (ls : Int) (R : RT) (hV : Seen 71 3 G l R) (hc : getR R id = some c) (hs : Ss G v cl) (w : World) (hG : Has G w) (hA : (trR 74 p (KS.mk l ls)).holds w F) (hFG : ∀ b, F b → G b = none) : Calls Try.prog 38 #[Value.pointer (some ⟨p, 0, none⟩), Value.int .i64 id, v] w (Ret fun r w' => r = Value.int .i64 (find R (c ++ cl)) ∧ Kept (trR 74 p (KS.mk l ls)) F w w') :=
 see_z (R := fun r => r = Value.int .i64 (find R (c ++ cl))) (fun z hA => c_zfrom p id c v cl l ls R z hV hc hs w hG hA hFG) hA
theorem c_kfind {F : Nat → Prop} {G : Ghost} (p : Nat) (v : Value) (cl : List ST) (l : NL) (ls : Int) (R : RT) (hV : Seen 71 3 G l R) (hs : Ss G v cl) (w : World) (hG : Has G w) (hA : (trR 74 p (KS.mk l ls)).holds w F) (hFG : ∀ b, F b → G b = none) : Calls Try.prog 18 #[Value.pointer (some ⟨p, 0, none⟩), v] w (Ret fun r w' => r = Value.int .i64 (find R cl) ∧ Kept (trR 74 p (KS.mk l ls)) F w w') :=
 see_z (R := fun r => r = Value.int .i64 (find R cl)) (fun z hA => c_zfind p v cl l ls R z hV hs w hG hA hFG) hA
theorem c_klen {F : Nat → Prop} {G : Ghost} (p : Nat)  (l : NL) (ls : Int) (R : RT) (hV : Seen 71 3 G l R)  (w : World) (hG : Has G w) (hA : (trR 74 p (KS.mk l ls)).holds w F) (hFG : ∀ b, F b → G b = none) :
  Calls Try.prog 15 #[Value.pointer (some ⟨p, 0, none⟩)] w (Ret fun r w' => r = Value.int .i64 (l.length : Nat) ∧ Kept (trR 74 p (KS.mk l ls)) F w w') := by
 refine enterO (args := [_]) (G := G) (A := trR 74 p (KS.mk l ls)) (l := [(0, Value.pointer (some ⟨p, 0, none⟩))]) Try.func15 rfl Try.ntmps15 hG hA hFG ⟨rfl, trivial⟩ (Nat.le_of_ble_eq_true rfl) ?_
 refine c_openK (fun z => ?_)
 dsimp only [trC]
 refine c_seq ?_
 refine c_region ?_
 refine r_val .none rfl (p_assign rfl) ?_
 refine r_nil ?_
 refine e_next ?_
 refine c_seq ?_
 refine c_region ?_
 refine r_val .none rfl (p_move rfl) ?_
 refine r_val .none rfl (p_nilcheck rfl) ?_
 refine r_val .none rfl (p_field Try.underlying74 rfl sz72 rfl) ?_
 refine r_val .none rfl (p_ld (k := 0) Try.underlying72 rfl rfl rfl (by first | exact of_decide_eq_true rfl | omega) (rfl : _ = Value.map _)) ?_
 refine r_val .none rfl (p_len_map (i := 1) Try.underlying72 rfl rfl) ?_
 refine r_val .none rfl (p_assign rfl) ?_
 refine r_nil ?_
 refine e_next ?_
 refine c_ret ?_
 refine e_ret1 Try.results15 (.tmp rfl .nil) (fun w hm => ⟨?_, hm.kept [box p 2 74 (at_ (trC (KS.mk (l) ls) z)), mapA z kI veN2 (l)] (.keep (fun _ _ h => h) (.keep (fun _ _ h => h) (.nil))) (trR 74 p (KS.mk (l) ls)) (fun F' h => ⟨z, h⟩)⟩)
 rfl
end Go.Proofs.Ytdkfdncbldngdaa

/- Walks: what Go functions of this chapter come to, each as a function on plain data; no condition but those that each theorem names. Printed by a program of this work (gen.py). -/
namespace Go.Proofs.Ytdkfdncbldngdaa
open Go.Gx Go.Gx.T16 Go.Gx.T8 Go.Gx.T6 Go.Gx.T4 Go.Gx.T3 Go.Gx.T8 Go.Gx.T4 Go.Gx.T3 Go.Gx.T8 Go.Gx.T6 Go.Gx.T4 Go.Gx.T3
theorem cl63 : Callable Try.prog 63 := callable Try.func63 (by kernel_rfl) rfl
theorem cl75 : Callable Try.prog 75 := callable Try.func75 (by kernel_rfl) rfl
theorem bl50_0i1_1a3_2s3 (x0 : Int) (x1 : Value) (x2 : Value) (x3 : Value) (x4 : Option Addr) (x5 : Nat) (x6 : Nat) : Program.built Try.prog 50 [(0, Value.int .i64 x0), (1, Value.agg #[x1, x2, x3]), (2, Value.slice x4 x5 x6)] = some #[Value.int .i64 x0, x1, x2, x3, Value.slice x4 x5 x6, Value.slice none 0 0] := by
 kernel_rfl
theorem el3 : ElemIs Try.prog 3 1 8 (Value.int .i64 0) := by
 unfold ElemIs
 kernel_rfl
def CloneIs (n : Nat) : Prop := ∀ (c : ST) (ta sb : Value) (G : Ghost) (w : World), SizeOf.sizeOf c ≤ n → ssz c ≤ 1000 → SlL G ta 3 tC t0 c.h.ts → Ss G sb c.subs → Has G w → Calls Try.prog 63 #[Value.agg #[Value.int .i64 c.h.k, Value.int .i64 c.h.k0, Value.int .i64 c.h.k1, Value.int .i64 c.h.k2, ta, sb]] w (Ret fun r w' => ∃ G', GNew w nX G G' ∧ Has G' w' ∧ (∃ ua ub, r = Value.agg #[Value.int .i64 (c).h.k, Value.int .i64 (c).h.k0, Value.int .i64 (c).h.k1, Value.int .i64 (c).h.k2, ua, ub] ∧ SlL G' ua 3 tC t0 (c).h.ts ∧ Ss G' ub (c).subs) ∧ Since nX w w')
theorem c_cloneT_a (a : Option Addr) (cap : Nat) (rs : List (TD)) {G : Ghost} (hr : SlL G (Value.slice a rs.length cap) 3 tC t0 rs) (hlen : rs.length ≤ 1000) (w : World) (hG : Has G w) :
  Calls Try.prog 75 #[Value.slice a rs.length cap] w (Ret fun r w' => Since nX w w' ∧ ∃ F', (rowA r 52 3 (rs).length ((rs).flatMap tC)).holds w' F' ∧ ∀ b, F' b → w.heap.size ≤ b) := by
 refine enter (args := [_]) (X := nX) (G := G) (l := [(0, Value.slice a rs.length cap)]) Try.func75 rfl Try.ntmps75 hG ⟨rfl, trivial⟩ (Nat.le_of_ble_eq_true rfl) ?_
 refine c_seq ?_
 refine c_region ?_
 refine r_val .none rfl (p_assign rfl) ?_
 refine r_nil ?_
 refine e_next ?_
 refine c_seq ?_
 refine c_seq ?_
 refine c_region ?_
 refine r_val .none rfl (p_move rfl) ?_
 refine r_val .none rfl (p_eqnil Try.underlying48 rfl rfl) ?_
 refine r_nil ?_
 refine e_next ?_
 refine c_split (d := 4) rfl (fun h_1 => ?_) (fun h_1 => ?_)
 ·
  have hrs : rs = [] := by cases a with | none => exact nil_rs hr | some x => cases h_1
  refine c_cond_t rfl ?_
  refine c_seq ?_
  refine c_region ?_
  refine r_val .none rfl (p_assign rfl) ?_
  refine r_nilrow 52 3 ?_
  refine r_nil ?_
  refine e_next ?_
  refine c_ret ?_
  refine e_ret_then ?_
  refine e_ret1 Try.results75 (.tmp rfl .nil) (fun w hm => hm.made [rowA (.slice none 0 0) 52 3 (rs).length ((rs).flatMap tC)] (.keep (fun _ _ h => rowA_congr (by rw [hrs]; rfl) (by rw [hrs]; rfl) _ _ h) (.nil)) _ (fun F' h => starL_one h))
 ·
  refine c_cond_f rfl ?_
  refine c_skip ?_
  refine e_next ?_
  refine c_seq ?_
  refine c_region ?_
  refine r_bslice0 .none rfl Try.underlying48 el52 (fun v_2 => ?_)
  refine r_val .none rfl (p_move rfl) ?_
  refine r_append_g (k := 0) .none rfl Try.underlying48 el52 rfl (by decide) rfl rfl rfl hr (fun _ _ _ hj => by rename_i j; match j, hj with | 0, _ => rfl | 1, _ => rfl | 2, _ => rfl) (by simp only [maxLen]; omega) (by omega) (fun v_3 => ?_)
  refine r_row1 (k := 0) rfl (fun o_4 => ?_)
  refine r_val .none rfl (p_assign rfl) ?_
  refine r_nil ?_
  refine e_next ?_
  refine c_ret ?_
  refine e_ret1 Try.results75 (.tmp rfl .nil) (fun w hm => hm.made [rowA v_3 52 3 (rs).length ((rs).flatMap tC)] (.keep (fun _ _ h => rowA_congr (by omega) (by rw [flat_all (cells := tC) (fun _ => rfl)]; rfl) _ _ h) (.nil)) _ (fun F' h => starL_one h))
theorem c_cloneT (v : Value) (rs : List (TD)) {G : Ghost} (hr : SlL G v 3 tC t0 rs) (hlen : rs.length ≤ 1000) (w : World) (hG : Has G w) : Calls Try.prog 75 #[v] w (Ret fun r w' => Since nX w w' ∧ ∃ F', (rowA r 52 3 (rs).length ((rs).flatMap tC)).holds w' F' ∧ ∀ b, F' b → w.heap.size ≤ b) := by
 obtain ⟨a, cap, rfl⟩ := SlG.len hr
 exact c_cloneT_a a cap rs hr hlen w hG
theorem c_cloneTM (v : Value) (rs : List (TD)) {G : Ghost} (hr : SlL G v 3 tC t0 rs) (hlen : rs.length ≤ 1000) (w : World) (hG : Has G w) : Calls Try.prog 75 #[v] w (Ret fun r w' => ∃ G2, GNew w nX G G2 ∧ Has G2 w' ∧ SlL G2 r 3 tC t0 rs ∧ Since nX w w') := by
 refine (c_cloneT v rs hr hlen w hG).mono (fun e w' hR => ?_)
 cases e with
 | returned r =>
  obtain ⟨G2, h1, h2, h3, h4⟩ := row_mem hG hR
  exact ⟨G2, h1, h2, SlL.of t0 (fun _ => rfl) rfl h3, h4⟩
 | panicked c => exact hR.elim
 | outgrown => exact hR.elim
theorem c_cloneI_a (a : Option Addr) (cap : Nat) (rs : List (Int)) {G : Ghost} (hr : SlL G (Value.slice a rs.length cap) 1 cI (0 : Int) rs) (hlen : rs.length ≤ 1000) (w : World) (hG : Has G w) :
  Calls Try.prog 64 #[Value.slice a rs.length cap] w (Ret fun r w' => Since nX w w' ∧ ∃ F', (rowA r 3 1 (rs).length ((rs).flatMap cI)).holds w' F' ∧ ∀ b, F' b → w.heap.size ≤ b) := by
 refine enter (args := [_]) (X := nX) (G := G) (l := [(0, Value.slice a rs.length cap)]) Try.func64 rfl Try.ntmps64 hG ⟨rfl, trivial⟩ (Nat.le_of_ble_eq_true rfl) ?_
 refine c_seq ?_
 refine c_region ?_
 refine r_val .none rfl (p_assign rfl) ?_
 refine r_nil ?_
 refine e_next ?_
 refine c_seq ?_
 refine c_seq ?_
 refine c_region ?_
 refine r_val .none rfl (p_move rfl) ?_
 refine r_val .none rfl (p_eqnil Try.underlying33 rfl rfl) ?_
 refine r_nil ?_
 refine e_next ?_
 refine c_split (d := 4) rfl (fun h_1 => ?_) (fun h_1 => ?_)
 ·
  have hrs : rs = [] := by cases a with | none => exact nil_rs hr | some x => cases h_1
  refine c_cond_t rfl ?_
  refine c_seq ?_
  refine c_region ?_
  refine r_val .none rfl (p_assign rfl) ?_
  refine r_nilrow 3 1 ?_
  refine r_nil ?_
  refine e_next ?_
  refine c_ret ?_
  refine e_ret_then ?_
  refine e_ret1 Try.results64 (.tmp rfl .nil) (fun w hm => hm.made [rowA (.slice none 0 0) 3 1 (rs).length ((rs).flatMap cI)] (.keep (fun _ _ h => rowA_congr (by rw [hrs]; rfl) (by rw [hrs]; rfl) _ _ h) (.nil)) _ (fun F' h => starL_one h))
 ·
  refine c_cond_f rfl ?_
  refine c_skip ?_
  refine e_next ?_
  refine c_seq ?_
  refine c_region ?_
  refine r_bslice0 .none rfl Try.underlying33 el3 (fun v_2 => ?_)
  refine r_val .none rfl (p_move rfl) ?_
  refine r_append_g (k := 0) .none rfl Try.underlying33 el3 rfl (by decide) rfl rfl rfl hr (fun _ _ _ hj => one_lit rfl rfl _ hj) (by simp only [maxLen]; omega) (by omega) (fun v_3 => ?_)
  refine r_row1 (k := 0) rfl (fun o_4 => ?_)
  refine r_val .none rfl (p_assign rfl) ?_
  refine r_nil ?_
  refine e_next ?_
  refine c_ret ?_
  refine e_ret1 Try.results64 (.tmp rfl .nil) (fun w hm => hm.made [rowA v_3 3 1 (rs).length ((rs).flatMap cI)] (.keep (fun _ _ h => rowA_congr (by omega) (by rw [flat_all (cells := cI) (fun _ => rfl)]; rfl) _ _ h) (.nil)) _ (fun F' h => starL_one h))
theorem c_cloneI (v : Value) (rs : List (Int)) {G : Ghost} (hr : SlL G v 1 cI (0 : Int) rs) (hlen : rs.length ≤ 1000) (w : World) (hG : Has G w) : Calls Try.prog 64 #[v] w (Ret fun r w' => Since nX w w' ∧ ∃ F', (rowA r 3 1 (rs).length ((rs).flatMap cI)).holds w' F' ∧ ∀ b, F' b → w.heap.size ≤ b) := by
 obtain ⟨a, cap, rfl⟩ := SlG.len hr
 exact c_cloneI_a a cap rs hr hlen w hG
theorem c_tclone_s (n : Nat) (ih : CloneIs n) (c : ST) (ta sb : Value) {G : Ghost} (hz : SizeOf.sizeOf c ≤ n + 1) (hsz : ssz c ≤ 1000) (ht : SlL G ta 3 tC t0 c.h.ts) (hs : Ss G sb c.subs) (w : World) (hG : Has G w) :
  Calls Try.prog 63 #[Value.agg #[Value.int .i64 c.h.k, Value.int .i64 c.h.k0, Value.int .i64 c.h.k1, Value.int .i64 c.h.k2, ta, sb]] w (Ret fun r w' => ∃ G', GNew w nX G G' ∧ Has G' w' ∧ (∃ ua ub, r = Value.agg #[Value.int .i64 (c).h.k, Value.int .i64 (c).h.k0, Value.int .i64 (c).h.k1, Value.int .i64 (c).h.k2, ua, ub] ∧ SlL G' ua 3 tC t0 (c).h.ts ∧ Ss G' ub (c).subs) ∧ Since nX w w') := by
 refine enter (args := [_]) (X := nX) (G := G) (l := [(0, Value.agg #[Value.int .i64 c.h.k, Value.int .i64 c.h.k0, Value.int .i64 c.h.k1, Value.int .i64 c.h.k2, ta, sb])]) Try.func63 rfl Try.ntmps63 hG ⟨rfl, trivial⟩ (Nat.le_of_ble_eq_true rfl) ?_
 obtain ⟨rs, hr, hrt, hrs, hl⟩ := hs.inv
 have hbd := hr.bound
 have hbd2 := ht.bound
 have hsq := ssz_eq c
 have hll := sszL_len c.subs
 have hlr : c.subs.length = rs.length := by rw [hl]; simp
 refine c_seq ?_
 refine c_region ?_
 refine r_box .none rfl rfl (IsRow.lit _) (fun b_1 => ?_)
 refine r_alloc .none rfl zr50 (IsRow.lit _) (fun b_2 => ?_)
 refine r_nil ?_
 refine e_next ?_
 refine c_seq ?_
 refine c_region_d (fun j => [9].contains j) _ mixed (.keep (fun _ _ h => h) (.keep (fun _ _ h => h) (.nil))) ?_
 refine d_val1 0 rfl rfl (by kernel_rfl) (fun j hj => by have h : 9 < j := (Nat.lt_of_lt_of_le (by decide : 9 < 10) hj); simp; omega) .none rfl (p_field Try.underlying50 rfl sz3 rfl) ?_
 refine d_val1 1 rfl rfl (by kernel_rfl) (fun j hj => by have h : 9 < j := (Nat.lt_of_lt_of_le (by decide : 9 < 10) hj); simp; omega) .none rfl (p_ld (k := 1) Try.underlying3 rfl rfl rfl (by first | exact of_decide_eq_true rfl | omega) (rfl : _ = Value.int _ _)) ?_
 refine d_val1 2 rfl rfl (by kernel_rfl) (fun j hj => by have h : 9 < j := (Nat.lt_of_lt_of_le (by decide : 9 < 10) hj); simp; omega) .none rfl (p_field Try.underlying50 rfl sz47 rfl) ?_
 refine d_val1 3 rfl rfl (by kernel_rfl) (fun j hj => by have h : 9 < j := (Nat.lt_of_lt_of_le (by decide : 9 < 10) hj); simp; omega) .none rfl (p_lda (k := 1) Try.underlying47 rfl sz47 rfl rfl (by first | exact of_decide_eq_true rfl | omega) (rfl : _ = Value.agg #[_, _, _])) ?_
 refine d_val1 4 rfl rfl (by kernel_rfl) (fun j hj => by have h : 9 < j := (Nat.lt_of_lt_of_le (by decide : 9 < 10) hj); simp; omega) .none rfl (p_field Try.underlying50 rfl sz48 rfl) ?_
 refine d_val1 5 rfl rfl (by kernel_rfl) (fun j hj => by have h : 9 < j := (Nat.lt_of_lt_of_le (by decide : 9 < 10) hj); simp; omega) .none rfl (p_ld (k := 1) Try.underlying48 rfl rfl rfl (by first | exact of_decide_eq_true rfl | omega) rfl) ?_
 refine d_eff2 6 8 rfl rfl (by kernel_rfl) (fun K_1 hKK_1 hcK_1 => ?_) (fun K_1 hKK_1 hcK_1 => ?_)
 ·
  refine r_callm (vs := [_]) .none rfl cl75 rfl (fun w hw => c_cloneTM _ _ ht (by omega) w hw) (fun G_2 v_5 hn_3 hr_4 => ?_)
  replace ht := ht.mono hn_3.le
  replace hr := hr.mono hn_3.le
  replace hrt := fun p hm0 => (hrt p hm0).mono hn_3.le
  replace hrs := fun p hm0 => (hrs p hm0).mono hn_3.le
  have hts := hr_4
  refine r_nil (e_d (i := 6) (brk := (fun j => [9].contains j)) (ph' := true) hKK_1 hcK_1 rfl (fun _ => hn_3.le) (fun _ => .keep (fun _ _ h => h) (.keep (fun _ _ h => h) (.nil))) ?_)
  clear hKK_1 hcK_1 K_1
  obtain ⟨a_7, c_8, rfl⟩ := SlG.len hts
  refine d_val1 7 rfl rfl (by kernel_rfl) (fun j hj => by have h : 9 < j := (Nat.lt_of_lt_of_le (by decide : 9 < 10) hj); simp; omega) .none rfl (p_build (vs := [(0, Value.int _ _), (1, Value.agg #[_, _, _]), (2, Value.slice _ _ _)]) rfl (bl50_0i1_1a3_2s3 _ _ _ _ _ _ _)) ?_
  refine d_eff 8 rfl (by kernel_rfl) (fun K_9 hKK_9 hcK_9 => ?_)
  refine r_alloc .none rfl zr50 (IsRow.lit _) (fun b_3 => ?_)
  refine r_nil (e_d (i := 8) (brk := (fun j => [9].contains j)) (ph' := true) hKK_9 hcK_9 rfl (fun _ => hn_3.le) (fun _ => .drop (.keep (fun _ _ h => h) (.keep (fun _ _ h => h) (.nil)))) ?_)
  clear hKK_9 hcK_9 K_9
  refine d_eff 9 rfl (by kernel_rfl) (fun K_10 hKK_10 hcK_10 => ?_)
  refine r_stw (k := 0) .none sz50 rfl rfl (IsRow.lit _) (one_lit rfl (all_cons rfl (all_cons rfl (all_cons rfl (all_cons rfl (all_cons (hts).one (all_cons rfl rfl))))))) rfl ?_
  refine r_nil (e_d (i := 9) (brk := (fun j => [9].contains j)) (ph' := false) hKK_10 hcK_10 rfl (fun h => by cases h) (fun h => by cases h) ?_)
  clear hKK_10 hcK_10 K_10
  refine d_nil (by kernel_rfl) ?_
  refine e_next ?_
  refine c_seq ?_
  refine c_seq ?_
  refine c_region ?_
  refine r_val .none rfl (p_field Try.underlying50 rfl sz35 rfl) ?_
  refine r_val .none rfl (p_ld (k := 2) Try.underlying35 rfl rfl rfl (by first | exact of_decide_eq_true rfl | omega) rfl) ?_
  refine r_val .none rfl (p_leng Try.underlying35 rfl hr) ?_
  have bd_11 := (hr).bound
  refine r_val .none rfl (p_move rfl) ?_
  refine r_nil ?_
  refine e_next ?_
  refine c_block ?_
  refine c_nilrow 50 6 ?_
  refine c_name (d := 2) rfl (fun u_12 hu_12 => ?_)
  refine c_name (d := 3) rfl (fun u_13 hu_13 => ?_)
  refine c_name (d := 15) rfl (fun u_14 hu_14 => ?_)
  refine c_name (d := 16) rfl (fun u_15 hu_15 => ?_)
  refine c_nameL (k := 2) rfl (fun A_16 hA_16 => ?_)
  refine c_nameL (k := 3) rfl (fun A_17 hA_17 => ?_)
  refine c_loop (σ := Nat × Value × List SVal × Ghost) (fun s => [(17, Value.int .i64 (s.1 : Nat)), (2, u_12), (3, u_13), (15, u_14), (16, u_15)]) (fun s => [rowA (s.2.1) 50 6 (s.2.2.1).length ((s.2.2.1).flatMap sC), box b_3 6 50 (at_ [.int .i64 c.h.k, .int .i64 c.h.k0, .int .i64 c.h.k1, .int .i64 c.h.k2, .slice a_7 c.h.ts.length c_8, s.2.1]), A_16, A_17]) (fun s => s.2.2.2) (fun s => s.1 ≤ rs.length ∧ s.2.2.1.map Prod.fst = (rs.map Prod.fst).take s.1 ∧ (∀ p ∈ s.2.2.1, SlL s.2.2.2 p.2.1 3 tC t0 p.1.h.ts) ∧ (∀ p ∈ s.2.2.1, Ss s.2.2.2 p.2.2 p.1.subs) ∧ GNew w nX G_2 s.2.2.2) (fun s => rs.length - s.1) ((0, _, [], _)) ⟨Nat.zero_le _, rfl, by simp, by simp, GNew.refl _ _ _⟩ rfl ⟨rfl, rfl, rfl, rfl, rfl, trivial⟩ (.keep (fun _ _ h => rowA_nil rfl _ _ h) (.keep (fun _ _ h => box_congr (fun i hi => by match i, hi with | 0, _ => rfl | 1, _ => rfl | 2, _ => rfl | 3, _ => rfl | 4, _ => rfl | 5, _ => rfl) _ _ h) (.keep (fun _ _ h => h) (.keep (fun _ _ h => h) (.nil))))) (fun s hphi => ?_)
  subst hu_12
  subst hu_13
  subst hu_14
  subst hu_15
  subst hA_16
  subst hA_17
  obtain ⟨k, v, qs, H⟩ := s
  obtain ⟨hk, hq, hqt, hqs, hgn⟩ := hphi
  dsimp only at hk hq hqt hqs hgn ⊢
  have hql : qs.length ≤ k := (by have := congrArg List.length hq; simp at this; omega)
  refine c_row1 (k := 0) rfl (fun ov => ?_)
  refine c_rowlen (k := 0) rfl (fun l63 => ?_)
  replace ht := ht.mono hgn.le
  replace hr := hr.mono hgn.le
  replace hrt := fun p hm0 => (hrt p hm0).mono hgn.le
  replace hrs := fun p hm0 => (hrs p hm0).mono hgn.le
  replace hts := hts.mono hgn.le
  refine c_seq ?_
  refine c_region ?_
  refine r_val .none rfl (p_lt rfl rfl) ?_
  refine r_nil ?_
  refine e_next ?_
  refine c_seq ?_
  refine c_splitd (d := 18) rfl (fun h_18 => ?_) (fun h_18 => ?_)
  ·
   first
    | (exfalso; omega)
    | (
     refine c_cond_t rfl ?_
     refine c_skip ?_
     refine e_next ?_
     refine c_seq ?_
     refine c_block ?_
     refine c_seq ?_
     refine c_region ?_
     refine r_iaddr_g .none rfl Try.underlying35 sz50 rfl hr rfl (by first | exact of_decide_eq_true rfl | omega) (fun p_20 o_21 R_19 => ?_)
     have ht_22 := hrt _ (getD_mem (i := k) (d := s0) (by omega))
     have hc_23 := hrs _ (getD_mem (i := k) (d := s0) (by omega))
     have hz8 : ssz (rs.getD k s0).1 ≤ 1000 := Nat.le_trans (sszL_mem (l := c.subs) (by rw [hl]; exact sv_mem (k := k) (by omega))) (by omega)
     refine r_val .none rfl (p_ldga0 Try.underlying50 rfl sz50 rfl R_19 (by first | exact of_decide_eq_true rfl | omega) (rfl : _ = Value.agg #[_, _, _, _, _, _])) ?_
     refine r_alloc .none rfl zr50 (IsRow.lit _) (fun b_4 => ?_)
     refine r_stw (k := 0) .none sz50 rfl rfl (IsRow.lit _) (one_lit rfl (all_cons rfl (all_cons rfl (all_cons rfl (all_cons rfl (all_cons (ht_22).one (all_cons (hc_23).one rfl))))))) rfl ?_
     refine r_nil ?_
     refine e_next ?_
     refine c_region_d (fun j => [5, 6, 7].contains j) _ mixed (.keep (fun _ _ h => h) (.keep (fun _ _ h => h) (.keep (fun _ _ h => h) (.keep (fun _ _ h => h) (.keep (fun _ _ h => h) (.nil)))))) ?_
     refine d_val1 0 rfl rfl (by kernel_rfl) (fun j hj => by have h : 7 < j := (Nat.lt_of_lt_of_le (by decide : 7 < 8) hj); simp; omega) .none rfl (p_field Try.underlying50 rfl sz35 rfl) ?_
     refine d_val1 1 rfl rfl (by kernel_rfl) (fun j hj => by have h : 7 < j := (Nat.lt_of_lt_of_le (by decide : 7 < 8) hj); simp; omega) .none rfl (p_ld (k := 2) Try.underlying35 rfl rfl rfl (by first | exact of_decide_eq_true rfl | omega) rfl) ?_
     refine d_val1 2 rfl rfl (by kernel_rfl) (fun j hj => by have h : 7 < j := (Nat.lt_of_lt_of_le (by decide : 7 < 8) hj); simp; omega) .none rfl (p_ldw (k := 0) Try.underlying50 rfl sz50 rfl rfl (rfl : _ = Value.agg #[_, _, _, _, _, _])) ?_
     refine d_eff 3 rfl (by kernel_rfl) (fun K_24 hKK_24 hcK_24 => ?_)
     refine r_callm (vs := [_]) .none rfl cl63 rfl (fun w hw => ih (rs.getD k s0).1 _ _ _ w (ssz_at hl (by omega) hz) hz8 ht_22 hc_23 hw) (fun G_25 v_28 hn_26 hr_27 => ?_)
     replace ht := ht.mono hn_26.le
     replace hr := hr.mono hn_26.le
     replace hrt := fun p hm0 => (hrt p hm0).mono hn_26.le
     replace hrs := fun p hm0 => (hrs p hm0).mono hn_26.le
     replace hts := hts.mono hn_26.le
     replace hqt := fun p hm0 => (hqt p hm0).mono hn_26.le
     replace hqs := fun p hm0 => (hqs p hm0).mono hn_26.le
     replace R_19 := R_19.mono hn_26.le
     replace ht_22 := ht_22.mono hn_26.le
     replace hc_23 := hc_23.mono hn_26.le
     obtain ⟨u_29a, u_29b, rfl, u_29s, u_29t⟩ := hr_27
     refine r_nil (e_d (i := 3) (brk := (fun j => [5, 6, 7].contains j)) (ph' := true) hKK_24 hcK_24 rfl (fun _ => hn_26.le) (fun _ => .keep (fun _ _ h => h) (.keep (fun _ _ h => h) (.keep (fun _ _ h => h) (.keep (fun _ _ h => h) (.keep (fun _ _ h => h) (.nil)))))) ?_)
     clear hKK_24 hcK_24 K_24
     refine d_eff 4 rfl (by kernel_rfl) (fun K_30 hKK_30 hcK_30 => ?_)
     refine r_bslice (vs := [(0, Value.agg #[_, _, _, _, _, _])]) (c := #[_, _, _, _, _, _]) .none rfl Try.underlying35 el50 rfl rfl rfl (bs50_10a6 _ _ _ _ _ _) (IsRow.lit _) (fun b_5 => ?_)
     refine r_nil (e_d (i := 4) (brk := (fun j => [5, 6, 7].contains j)) (ph' := true) hKK_30 hcK_30 rfl (fun _ => hn_26.le) (fun _ => .drop (.keep (fun _ _ h => h) (.keep (fun _ _ h => h) (.keep (fun _ _ h => h) (.keep (fun _ _ h => h) (.keep (fun _ _ h => h) (.nil))))))) ?_)
     clear hKK_30 hcK_30 K_30
     refine d_eff 5 rfl (by kernel_rfl) (fun K_31 hKK_31 hcK_31 => ?_)
     refine r_append (k := 2) (k2 := 0) .none rfl Try.underlying35 el50 rfl (by decide) rfl rfl rfl rfl rfl (one_lit rfl (all_cons rfl (all_cons rfl (all_cons rfl (all_cons rfl (all_cons (u_29s).one (all_cons (u_29t).one rfl))))))) (by simp only [maxLen]; omega) (by omega) (fun v_32 => ?_)
     refine r_row1 (k := 2) rfl (fun o_33 => ?_)
     refine r_nil (e_d (i := 5) (brk := (fun j => [5, 6, 7].contains j)) (ph' := false) hKK_31 hcK_31 rfl (fun h => by cases h) (fun h => by cases h) ?_)
     clear hKK_31 hcK_31 K_31
     refine d_val2 6 rfl rfl (by kernel_rfl) .none rfl (fun _ => p_field Try.underlying50 rfl sz35 rfl) ?_
     refine d_eff 7 rfl (by kernel_rfl) (fun K_34 hKK_34 hcK_34 => ?_)
     refine r_st (k := 3) .none sz35 rfl rfl o_33 rfl (by first | exact of_decide_eq_true rfl | omega) ?_
     refine r_nil (e_d (i := 7) (brk := (fun j => [5, 6, 7].contains j)) (ph' := false) hKK_34 hcK_34 rfl (fun h => by cases h) (fun h => by cases h) ?_)
     clear hKK_34 hcK_34 K_34
     refine d_nil (by kernel_rfl) ?_
     refine e_norm_block ?_
     refine e_next ?_
     refine c_region ?_
     refine r_val .none rfl (p_add rfl rfl (by omega)) ?_
     refine r_val .none rfl (p_move rfl) ?_
     refine r_nil ?_
     refine e_round ((k + 1, _, qs ++ [((rs.getD k s0).1, u_29a, u_29b)], _)) ⟨⟨by dsimp only; omega, by rw [sv_take (by omega), List.map_append, hq]; rfl, (fun p hp' => by rcases List.mem_append.1 hp' with h | h; exact hqt p h; rw [List.mem_singleton.1 h]; exact u_29s), (fun p hp' => by rcases List.mem_append.1 hp' with h | h; exact hqs p h; rw [List.mem_singleton.1 h]; exact u_29t), (hgn.trans hn_26)⟩, by dsimp only; omega⟩ rfl ⟨rfl, rfl, rfl, rfl, rfl, trivial⟩ (.drop (.drop (.keep (fun _ _ h => rowA_snoc (l := qs) (x := ((rs.getD k s0).1, u_29a, u_29b)) rfl rfl rfl rfl _ _ h) (.keep (fun _ _ h => box_congr (fun i hi => by match i, hi with | 0, _ => rfl | 1, _ => rfl | 2, _ => rfl | 3, _ => rfl | 4, _ => rfl | 5, _ => rfl) _ _ h) (.keep (fun _ _ h => h) (.keep (fun _ _ h => h) (.nil)))))))
     )
  ·
   first
    | (exfalso; omega)
    | (
     refine c_cond_f rfl ?_
     refine c_exit ?_
     refine e_exit_then ?_
     refine e_exit_then ?_
     refine e_exit_block ?_
     refine e_next ?_
     refine c_seq ?_
     refine c_region ?_
     refine r_val .none rfl (p_ldw (k := 1) Try.underlying50 rfl sz50 rfl rfl (rfl : _ = Value.agg #[_, _, _, _, _, _])) ?_
     refine r_stw (k := 2) .none sz50 rfl rfl (IsRow.lit _) (one_lit rfl (all_cons rfl (all_cons rfl (all_cons rfl (all_cons rfl (all_cons (hts).one (all_cons ov rfl))))))) rfl ?_
     refine r_nil ?_
     refine e_next ?_
     refine c_ret ?_
     refine e_freeze (k := 0) rfl (fun G_35 hn_36 hs_37 => ?_)
     replace ht := ht.mono hn_36.le
     replace hr := hr.mono hn_36.le
     replace hrt := fun p hm0 => (hrt p hm0).mono hn_36.le
     replace hrs := fun p hm0 => (hrs p hm0).mono hn_36.le
     replace hts := hts.mono hn_36.le
     replace hqt := fun p hm0 => (hqt p hm0).mono hn_36.le
     replace hqs := fun p hm0 => (hqs p hm0).mono hn_36.le
     refine e_ret1 Try.results63 (.cell (k := 1) rfl Try.underlying50 rfl sz50 rfl (rfl : _ = Value.agg #[_, _, _, _, _, _]) .nil) (fun w hm => ⟨_, ((hn_3.trans hgn).trans hn_36), hm.has, ?_, hm.since⟩)
     exact ⟨_, _, rfl, hts, by rw [show c.subs = qs.map Prod.fst by rw [hq, hl, List.take_of_length_le (by simp; omega)]]; exact Ss.mk qs (SlL.of s0 (fun _ => rfl) rfl hs_37) hqt hqs⟩
     )
 ·
  refine r_alloc .none rfl zr50 (IsRow.lit _) (fun b_6 => ?_)
  refine r_nil (e_d (i := 8) (brk := (fun j => [9].contains j)) (ph' := true) hKK_1 hcK_1 rfl (fun _ => GLe.refl _) (fun _ => .drop (.keep (fun _ _ h => h) (.keep (fun _ _ h => h) (.nil)))) ?_)
  clear hKK_1 hcK_1 K_1
  refine d_eff 6 rfl (by kernel_rfl) (fun K_38 hKK_38 hcK_38 => ?_)
  refine r_callm (vs := [_]) .none rfl cl75 rfl (fun w hw => c_cloneTM _ _ ht (by omega) w hw) (fun G_39 v_42 hn_40 hr_41 => ?_)
  replace ht := ht.mono hn_40.le
  replace hr := hr.mono hn_40.le
  replace hrt := fun p hm0 => (hrt p hm0).mono hn_40.le
  replace hrs := fun p hm0 => (hrs p hm0).mono hn_40.le
  have hts := hr_41
  refine r_nil (e_d (i := 6) (brk := (fun j => [9].contains j)) (ph' := true) hKK_38 hcK_38 rfl (fun _ => hn_40.le) (fun _ => .drop (.keep (fun _ _ h => h) (.keep (fun _ _ h => h) (.nil)))) ?_)
  clear hKK_38 hcK_38 K_38
  obtain ⟨a_44, c_45, rfl⟩ := SlG.len hts
  refine d_val1 7 rfl rfl (by kernel_rfl) (fun j hj => by have h : 9 < j := (Nat.lt_of_lt_of_le (by decide : 9 < 10) hj); simp; omega) .none rfl (p_build (vs := [(0, Value.int _ _), (1, Value.agg #[_, _, _]), (2, Value.slice _ _ _)]) rfl (bl50_0i1_1a3_2s3 _ _ _ _ _ _ _)) ?_
  refine d_eff 9 rfl (by kernel_rfl) (fun K_46 hKK_46 hcK_46 => ?_)
  refine r_stw (k := 0) .none sz50 rfl rfl (IsRow.lit _) (one_lit rfl (all_cons rfl (all_cons rfl (all_cons rfl (all_cons rfl (all_cons (hts).one (all_cons rfl rfl))))))) rfl ?_
  refine r_nil (e_d (i := 9) (brk := (fun j => [9].contains j)) (ph' := false) hKK_46 hcK_46 rfl (fun h => by cases h) (fun h => by cases h) ?_)
  clear hKK_46 hcK_46 K_46
  refine d_nil (by kernel_rfl) ?_
  refine e_next ?_
  refine c_seq ?_
  refine c_seq ?_
  refine c_region ?_
  refine r_val .none rfl (p_field Try.underlying50 rfl sz35 rfl) ?_
  refine r_val .none rfl (p_ld (k := 2) Try.underlying35 rfl rfl rfl (by first | exact of_decide_eq_true rfl | omega) rfl) ?_
  refine r_val .none rfl (p_leng Try.underlying35 rfl hr) ?_
  have bd_47 := (hr).bound
  refine r_val .none rfl (p_move rfl) ?_
  refine r_nil ?_
  refine e_next ?_
  refine c_block ?_
  refine c_nilrow 50 6 ?_
  refine c_name (d := 2) rfl (fun u_48 hu_48 => ?_)
  refine c_name (d := 3) rfl (fun u_49 hu_49 => ?_)
  refine c_name (d := 15) rfl (fun u_50 hu_50 => ?_)
  refine c_name (d := 16) rfl (fun u_51 hu_51 => ?_)
  refine c_nameL (k := 2) rfl (fun A_52 hA_52 => ?_)
  refine c_nameL (k := 3) rfl (fun A_53 hA_53 => ?_)
  refine c_loop (σ := Nat × Value × List SVal × Ghost) (fun s => [(17, Value.int .i64 (s.1 : Nat)), (2, u_48), (3, u_49), (15, u_50), (16, u_51)]) (fun s => [rowA (s.2.1) 50 6 (s.2.2.1).length ((s.2.2.1).flatMap sC), box b_6 6 50 (at_ [.int .i64 c.h.k, .int .i64 c.h.k0, .int .i64 c.h.k1, .int .i64 c.h.k2, .slice a_44 c.h.ts.length c_45, s.2.1]), A_52, A_53]) (fun s => s.2.2.2) (fun s => s.1 ≤ rs.length ∧ s.2.2.1.map Prod.fst = (rs.map Prod.fst).take s.1 ∧ (∀ p ∈ s.2.2.1, SlL s.2.2.2 p.2.1 3 tC t0 p.1.h.ts) ∧ (∀ p ∈ s.2.2.1, Ss s.2.2.2 p.2.2 p.1.subs) ∧ GNew w nX G_39 s.2.2.2) (fun s => rs.length - s.1) ((0, _, [], _)) ⟨Nat.zero_le _, rfl, by simp, by simp, GNew.refl _ _ _⟩ rfl ⟨rfl, rfl, rfl, rfl, rfl, trivial⟩ (.keep (fun _ _ h => rowA_nil rfl _ _ h) (.keep (fun _ _ h => box_congr (fun i hi => by match i, hi with | 0, _ => rfl | 1, _ => rfl | 2, _ => rfl | 3, _ => rfl | 4, _ => rfl | 5, _ => rfl) _ _ h) (.keep (fun _ _ h => h) (.keep (fun _ _ h => h) (.nil))))) (fun s hphi => ?_)
  subst hu_48
  subst hu_49
  subst hu_50
  subst hu_51
  subst hA_52
  subst hA_53
  obtain ⟨k, v, qs, H⟩ := s
  obtain ⟨hk, hq, hqt, hqs, hgn⟩ := hphi
  dsimp only at hk hq hqt hqs hgn ⊢
  have hql : qs.length ≤ k := (by have := congrArg List.length hq; simp at this; omega)
  refine c_row1 (k := 0) rfl (fun ov => ?_)
  refine c_rowlen (k := 0) rfl (fun l63 => ?_)
  replace ht := ht.mono hgn.le
  replace hr := hr.mono hgn.le
  replace hrt := fun p hm0 => (hrt p hm0).mono hgn.le
  replace hrs := fun p hm0 => (hrs p hm0).mono hgn.le
  replace hts := hts.mono hgn.le
  refine c_seq ?_
  refine c_region ?_
  refine r_val .none rfl (p_lt rfl rfl) ?_
  refine r_nil ?_
  refine e_next ?_
  refine c_seq ?_
  refine c_splitd (d := 18) rfl (fun h_54 => ?_) (fun h_54 => ?_)
  ·
   first
    | (exfalso; omega)
    | (
     refine c_cond_t rfl ?_
     refine c_skip ?_
     refine e_next ?_
     refine c_seq ?_
     refine c_block ?_
     refine c_seq ?_
     refine c_region ?_
     refine r_iaddr_g .none rfl Try.underlying35 sz50 rfl hr rfl (by first | exact of_decide_eq_true rfl | omega) (fun p_56 o_57 R_55 => ?_)
     have ht_58 := hrt _ (getD_mem (i := k) (d := s0) (by omega))
     have hc_59 := hrs _ (getD_mem (i := k) (d := s0) (by omega))
     have hz8 : ssz (rs.getD k s0).1 ≤ 1000 := Nat.le_trans (sszL_mem (l := c.subs) (by rw [hl]; exact sv_mem (k := k) (by omega))) (by omega)
     refine r_val .none rfl (p_ldga0 Try.underlying50 rfl sz50 rfl R_55 (by first | exact of_decide_eq_true rfl | omega) (rfl : _ = Value.agg #[_, _, _, _, _, _])) ?_
     refine r_alloc .none rfl zr50 (IsRow.lit _) (fun b_7 => ?_)
     refine r_stw (k := 0) .none sz50 rfl rfl (IsRow.lit _) (one_lit rfl (all_cons rfl (all_cons rfl (all_cons rfl (all_cons rfl (all_cons (ht_58).one (all_cons (hc_59).one rfl))))))) rfl ?_
     refine r_nil ?_
     refine e_next ?_
     refine c_region_d (fun j => [5, 6, 7].contains j) _ mixed (.keep (fun _ _ h => h) (.keep (fun _ _ h => h) (.keep (fun _ _ h => h) (.keep (fun _ _ h => h) (.keep (fun _ _ h => h) (.nil)))))) ?_
     refine d_val1 0 rfl rfl (by kernel_rfl) (fun j hj => by have h : 7 < j := (Nat.lt_of_lt_of_le (by decide : 7 < 8) hj); simp; omega) .none rfl (p_field Try.underlying50 rfl sz35 rfl) ?_
     refine d_val1 1 rfl rfl (by kernel_rfl) (fun j hj => by have h : 7 < j := (Nat.lt_of_lt_of_le (by decide : 7 < 8) hj); simp; omega) .none rfl (p_ld (k := 2) Try.underlying35 rfl rfl rfl (by first | exact of_decide_eq_true rfl | omega) rfl) ?_
     refine d_val1 2 rfl rfl (by kernel_rfl) (fun j hj => by have h : 7 < j := (Nat.lt_of_lt_of_le (by decide : 7 < 8) hj); simp; omega) .none rfl (p_ldw (k := 0) Try.underlying50 rfl sz50 rfl rfl (rfl : _ = Value.agg #[_, _, _, _, _, _])) ?_
     refine d_eff 3 rfl (by kernel_rfl) (fun K_60 hKK_60 hcK_60 => ?_)
     refine r_callm (vs := [_]) .none rfl cl63 rfl (fun w hw => ih (rs.getD k s0).1 _ _ _ w (ssz_at hl (by omega) hz) hz8 ht_58 hc_59 hw) (fun G_61 v_64 hn_62 hr_63 => ?_)
     replace ht := ht.mono hn_62.le
     replace hr := hr.mono hn_62.le
     replace hrt := fun p hm0 => (hrt p hm0).mono hn_62.le
     replace hrs := fun p hm0 => (hrs p hm0).mono hn_62.le
     replace hts := hts.mono hn_62.le
     replace hqt := fun p hm0 => (hqt p hm0).mono hn_62.le
     replace hqs := fun p hm0 => (hqs p hm0).mono hn_62.le
     replace R_55 := R_55.mono hn_62.le
     replace ht_58 := ht_58.mono hn_62.le
     replace hc_59 := hc_59.mono hn_62.le
     obtain ⟨u_65a, u_65b, rfl, u_65s, u_65t⟩ := hr_63
     refine r_nil (e_d (i := 3) (brk := (fun j => [5, 6, 7].contains j)) (ph' := true) hKK_60 hcK_60 rfl (fun _ => hn_62.le) (fun _ => .keep (fun _ _ h => h) (.keep (fun _ _ h => h) (.keep (fun _ _ h => h) (.keep (fun _ _ h => h) (.keep (fun _ _ h => h) (.nil)))))) ?_)
     clear hKK_60 hcK_60 K_60
     refine d_eff 4 rfl (by kernel_rfl) (fun K_66 hKK_66 hcK_66 => ?_)
     refine r_bslice (vs := [(0, Value.agg #[_, _, _, _, _, _])]) (c := #[_, _, _, _, _, _]) .none rfl Try.underlying35 el50 rfl rfl rfl (bs50_10a6 _ _ _ _ _ _) (IsRow.lit _) (fun b_8 => ?_)
     refine r_nil (e_d (i := 4) (brk := (fun j => [5, 6, 7].contains j)) (ph' := true) hKK_66 hcK_66 rfl (fun _ => hn_62.le) (fun _ => .drop (.keep (fun _ _ h => h) (.keep (fun _ _ h => h) (.keep (fun _ _ h => h) (.keep (fun _ _ h => h) (.keep (fun _ _ h => h) (.nil))))))) ?_)
     clear hKK_66 hcK_66 K_66
     refine d_eff 5 rfl (by kernel_rfl) (fun K_67 hKK_67 hcK_67 => ?_)
     refine r_append (k := 2) (k2 := 0) .none rfl Try.underlying35 el50 rfl (by decide) rfl rfl rfl rfl rfl (one_lit rfl (all_cons rfl (all_cons rfl (all_cons rfl (all_cons rfl (all_cons (u_65s).one (all_cons (u_65t).one rfl))))))) (by simp only [maxLen]; omega) (by omega) (fun v_68 => ?_)
     refine r_row1 (k := 2) rfl (fun o_69 => ?_)
     refine r_nil (e_d (i := 5) (brk := (fun j => [5, 6, 7].contains j)) (ph' := false) hKK_67 hcK_67 rfl (fun h => by cases h) (fun h => by cases h) ?_)
     clear hKK_67 hcK_67 K_67
     refine d_val2 6 rfl rfl (by kernel_rfl) .none rfl (fun _ => p_field Try.underlying50 rfl sz35 rfl) ?_
     refine d_eff 7 rfl (by kernel_rfl) (fun K_70 hKK_70 hcK_70 => ?_)
     refine r_st (k := 3) .none sz35 rfl rfl o_69 rfl (by first | exact of_decide_eq_true rfl | omega) ?_
     refine r_nil (e_d (i := 7) (brk := (fun j => [5, 6, 7].contains j)) (ph' := false) hKK_70 hcK_70 rfl (fun h => by cases h) (fun h => by cases h) ?_)
     clear hKK_70 hcK_70 K_70
     refine d_nil (by kernel_rfl) ?_
     refine e_norm_block ?_
     refine e_next ?_
     refine c_region ?_
     refine r_val .none rfl (p_add rfl rfl (by omega)) ?_
     refine r_val .none rfl (p_move rfl) ?_
     refine r_nil ?_
     refine e_round ((k + 1, _, qs ++ [((rs.getD k s0).1, u_65a, u_65b)], _)) ⟨⟨by dsimp only; omega, by rw [sv_take (by omega), List.map_append, hq]; rfl, (fun p hp' => by rcases List.mem_append.1 hp' with h | h; exact hqt p h; rw [List.mem_singleton.1 h]; exact u_65s), (fun p hp' => by rcases List.mem_append.1 hp' with h | h; exact hqs p h; rw [List.mem_singleton.1 h]; exact u_65t), (hgn.trans hn_62)⟩, by dsimp only; omega⟩ rfl ⟨rfl, rfl, rfl, rfl, rfl, trivial⟩ (.drop (.drop (.keep (fun _ _ h => rowA_snoc (l := qs) (x := ((rs.getD k s0).1, u_65a, u_65b)) rfl rfl rfl rfl _ _ h) (.keep (fun _ _ h => box_congr (fun i hi => by match i, hi with | 0, _ => rfl | 1, _ => rfl | 2, _ => rfl | 3, _ => rfl | 4, _ => rfl | 5, _ => rfl) _ _ h) (.keep (fun _ _ h => h) (.keep (fun _ _ h => h) (.nil)))))))
     )
  ·
   first
    | (exfalso; omega)
    | (
     refine c_cond_f rfl ?_
     refine c_exit ?_
     refine e_exit_then ?_
     refine e_exit_then ?_
     refine e_exit_block ?_
     refine e_next ?_
     refine c_seq ?_
     refine c_region ?_
     refine r_val .none rfl (p_ldw (k := 1) Try.underlying50 rfl sz50 rfl rfl (rfl : _ = Value.agg #[_, _, _, _, _, _])) ?_
     refine r_stw (k := 2) .none sz50 rfl rfl (IsRow.lit _) (one_lit rfl (all_cons rfl (all_cons rfl (all_cons rfl (all_cons rfl (all_cons (hts).one (all_cons ov rfl))))))) rfl ?_
     refine r_nil ?_
     refine e_next ?_
     refine c_ret ?_
     refine e_freeze (k := 0) rfl (fun G_71 hn_72 hs_73 => ?_)
     replace ht := ht.mono hn_72.le
     replace hr := hr.mono hn_72.le
     replace hrt := fun p hm0 => (hrt p hm0).mono hn_72.le
     replace hrs := fun p hm0 => (hrs p hm0).mono hn_72.le
     replace hts := hts.mono hn_72.le
     replace hqt := fun p hm0 => (hqt p hm0).mono hn_72.le
     replace hqs := fun p hm0 => (hqs p hm0).mono hn_72.le
     refine e_ret1 Try.results63 (.cell (k := 1) rfl Try.underlying50 rfl sz50 rfl (rfl : _ = Value.agg #[_, _, _, _, _, _]) .nil) (fun w hm => ⟨_, ((hn_40.trans hgn).trans hn_72), hm.has, ?_, hm.since⟩)
     exact ⟨_, _, rfl, hts, by rw [show c.subs = qs.map Prod.fst by rw [hq, hl, List.take_of_length_le (by simp; omega)]]; exact Ss.mk qs (SlL.of s0 (fun _ => rfl) rfl hs_73) hqt hqs⟩
     )
theorem c_tclone_n : ∀ n, CloneIs n
 | 0 => fun c ta sb G w hz _ _ _ _ => absurd hz (by have := s_pos c; omega)
 | n + 1 => fun c ta sb G w hz hsz ht hs hG => c_tclone_s n (c_tclone_n n) c ta sb hz hsz ht hs w hG
theorem c_tclone (c : ST) (ta sb : Value) {G : Ghost} (hsz : ssz c ≤ 1000) (ht : SlL G ta 3 tC t0 c.h.ts) (hs : Ss G sb c.subs) (w : World) (hG : Has G w) : Calls Try.prog 63 #[Value.agg #[Value.int .i64 c.h.k, Value.int .i64 c.h.k0, Value.int .i64 c.h.k1, Value.int .i64 c.h.k2, ta, sb]] w (Ret fun r w' => ∃ G', GNew w nX G G' ∧ Has G' w' ∧ (∃ ua ub, r = Value.agg #[Value.int .i64 (c).h.k, Value.int .i64 (c).h.k0, Value.int .i64 (c).h.k1, Value.int .i64 (c).h.k2, ua, ub] ∧ SlL G' ua 3 tC t0 (c).h.ts ∧ Ss G' ub (c).subs) ∧ Since nX w w') := c_tclone_n _ c ta sb G w (Nat.le_refl _) hsz ht hs hG
end Go.Proofs.Ytdkfdncbldngdaa

/- Walks: what Go functions of this chapter come to, each as a function on plain data; no condition but those that each theorem names. Printed by a program of this work (gen.py). -/
namespace Go.Proofs.Ytdkfdncbldngdaa
open Go.Gx Go.Gx.T16 Go.Gx.T8 Go.Gx.T6 Go.Gx.T4 Go.Gx.T3 Go.Gx.T8 Go.Gx.T4 Go.Gx.T3 Go.Gx.T8 Go.Gx.T6 Go.Gx.T4 Go.Gx.T3
theorem cl64 : Callable Try.prog 64 := callable Try.func64 (by kernel_rfl) rfl
end Go.Proofs.Ytdkfdncbldngdaa

/- Walks: what Go functions of this chapter come to, each as a function on plain data; no condition but those that each theorem names. Printed by a program of this work (gen.py). -/
namespace Go.Proofs.Ytdkfdncbldngdaa
open Go.Gx Go.Gx.T16 Go.Gx.T8 Go.Gx.T6 Go.Gx.T4 Go.Gx.T3 Go.Gx.T8 Go.Gx.T4 Go.Gx.T3 Go.Gx.T8 Go.Gx.T6 Go.Gx.T4 Go.Gx.T3
end Go.Proofs.Ytdkfdncbldngdaa

/- Tries: a node taken out and put back; what is known of a trie between calls; no program in sight. -/
namespace Go.Gx.T16
open Go.Gx Go.Gx.T3 Go.Gx.T4 Go.Gx.T6 Go.Gx.T8
section
variable {T TT E : TypeId} {p : Nat}
variable {P : Program} {ops : Array Oper} {Q : Exit → Act → World → Prop} {N : Nat} {X : Nat → Prop} {w0 w : World} {G : Ghost} {fr : List (Nat × Value)} {L : List Asrt} {rest : List Oper} {c : Code} {e : Exit}
variable {l : NL} {k : Int} {u : NB Nd} {bx : Nat} {kv ov kv' ov' : Value} {x x' : Nd}
theorem r_fnd (hk : lkp l k = some (bx, kv, ov, x)) (H : Runs P ops Q N X w0 G rest fr (box bx 13 T (at_ [.int .i64 x.st.1.h.k, .int .i64 x.st.1.h.k0, .int .i64 x.st.1.h.k1, .int .i64 x.st.1.h.k2, x.st.2.1, x.st.2.2, .int .i64 x.par, kv, .int .i64 x.dep, .int .i64 x.uses, .int .i64 x.ends, .int .i64 x.inn, ov]) :: rowA kv E 1 x.kids.length (x.kids.flatMap cI) :: rowA ov E 1 x.outer.length (x.outer.flatMap cI) :: hoard (FK (nkD T E)) (mdel l k) :: L)) :
    Runs P ops Q N X w0 G rest fr (hoard (FK (nkD T E)) l :: L) := r_fnode hk H
theorem r_ndBack (hk : lkp l k = some u) (H : Runs P ops Q N X w0 G rest fr (hoard (FK (nkD T E)) (mput l k (bx, kv, ov, x)) :: L)) :
    Runs P ops Q N X w0 G rest fr (box bx 13 T (at_ (ndC x kv ov)) :: rowA kv E 1 x.kids.length (x.kids.flatMap cI) :: rowA ov E 1 x.outer.length (x.outer.flatMap cI) :: hoard (FK (nkD T E)) (mdel l k) :: L) := r_nodeBack (v := (bx, kv, ov, x)) hk H
theorem e_ndBack (hk : lkp l k = some u) (H : ERuns Q e N X w0 G fr (hoard (FK (nkD T E)) (mput l k (bx, kv, ov, x)) :: L)) :
    ERuns Q e N X w0 G fr (box bx 13 T (at_ (ndC x kv ov)) :: rowA kv E 1 x.kids.length (x.kids.flatMap cI) :: rowA ov E 1 x.outer.length (x.outer.flatMap cI) :: hoard (FK (nkD T E)) (mdel l k) :: L) := fun a w hS => H a w ⟨hS.fr, Mem.nodeBack (v := (bx, kv, ov, x)) hk hS.mem⟩
theorem c_fnd (hk : lkp l k = some (bx, kv, ov, x)) (H : CRuns P c Q N X w0 G fr (box bx 13 T (at_ [.int .i64 x.st.1.h.k, .int .i64 x.st.1.h.k0, .int .i64 x.st.1.h.k1, .int .i64 x.st.1.h.k2, x.st.2.1, x.st.2.2, .int .i64 x.par, kv, .int .i64 x.dep, .int .i64 x.uses, .int .i64 x.ends, .int .i64 x.inn, ov]) :: rowA kv E 1 x.kids.length (x.kids.flatMap cI) :: rowA ov E 1 x.outer.length (x.outer.flatMap cI) :: hoard (FK (nkD T E)) (mdel l k) :: L)) :
    CRuns P c Q N X w0 G fr (hoard (FK (nkD T E)) l :: L) := fun a w hS => H a w ⟨hS.fr, (hS.mem.focus hk).unpack⟩
theorem c_ndBack (hk : lkp l k = some u) (H : CRuns P c Q N X w0 G fr (hoard (FK (nkD T E)) (mput l k (bx, kv, ov, x)) :: L)) :
    CRuns P c Q N X w0 G fr (box bx 13 T (at_ (ndC x kv ov)) :: rowA kv E 1 x.kids.length (x.kids.flatMap cI) :: rowA ov E 1 x.outer.length (x.outer.flatMap cI) :: hoard (FK (nkD T E)) (mdel l k) :: L) := fun a w hS => H a w ⟨hS.fr, Mem.nodeBack (v := (bx, kv, ov, x)) hk hS.mem⟩
theorem c_ndNew (hk : lkp l k = none) (H : CRuns P c Q N X w0 G fr (hoard (FK (nkD T E)) (mput l k (bx, kv, ov, x)) :: L)) :
    CRuns P c Q N X w0 G fr (box bx 13 T (at_ (ndC x kv ov)) :: rowA kv E 1 x.kids.length (x.kids.flatMap cI) :: rowA ov E 1 x.outer.length (x.outer.flatMap cI) :: hoard (FK (nkD T E)) l :: L) := fun a w hS => by
  have h1 : Mem X w0 G w (FK (nkD T E) (k, (bx, kv, ov, x)) :: hoard (FK (nkD T E)) l :: L) := Mem.nodeIn (v := (bx, kv, ov, x)) (k := k) hS.mem
  exact H a w ⟨hS.fr, h1.fnew hk⟩
theorem e_ndNew (hk : lkp l k = none) (H : ERuns Q e N X w0 G fr (hoard (FK (nkD T E)) (mput l k (bx, kv, ov, x)) :: L)) :
    ERuns Q e N X w0 G fr (box bx 13 T (at_ (ndC x kv ov)) :: rowA kv E 1 x.kids.length (x.kids.flatMap cI) :: rowA ov E 1 x.outer.length (x.outer.flatMap cI) :: hoard (FK (nkD T E)) l :: L) := fun a w hS => by
  have h1 : Mem X w0 G w (FK (nkD T E) (k, (bx, kv, ov, x)) :: hoard (FK (nkD T E)) l :: L) := Mem.nodeIn (v := (bx, kv, ov, x)) (k := k) hS.mem
  exact H a w ⟨hS.fr, h1.fnew hk⟩
theorem e_conv {k : Nat} {A B : Asrt} (hL : L[k]? = some A) (hI : ∀ w F, A.holds w F → B.holds w F) (h : ERuns Q e N X w0 G fr (L.set k B)) : ERuns Q e N X w0 G fr L := fun a w hS => by
  obtain ⟨F, hA, _, hput⟩ := hS.mem.take hL
  exact h a w ⟨hS.fr, hput w B F (Since.refl _ _) (hI w F hA) (fun b hb => .inl hb)⟩
theorem c_convk {k : Nat} {A B : Asrt} (hL : L[k]? = some A) (hI : ∀ w F, A.holds w F → B.holds w F) (h : CRuns P c Q N X w0 G fr (L.set k B)) : CRuns P c Q N X w0 G fr L := fun a w hS => by
  obtain ⟨F, hA, _, hput⟩ := hS.mem.take hL
  exact h a w ⟨hS.fr, hput w B F (Since.refl _ _) (hI w F hA) (fun b hb => .inl hb)⟩
theorem trE_mk3 {l : NL} {n : List (Int × Nd)} {ls : Int} (z : Nat) (hl : n = eraK l) {w : World} {F : Nat → Prop} (h : (starL [box p 2 TT (at_ (trC (KS.mk l ls) z)), mapA z kI veN2 l, hoard (FK (nkD T E)) l]).holds w F) : (trE (nkD T E) TT p (KS.mk n ls)).holds w F := by
  obtain ⟨F1, F2, h1, h2, h3⟩ := (star_assoc _ _ _ w F).1 h
  exact ⟨l, hl, F1, F2, ⟨z, (star_congr .rfl (star_tt _) w F1).2 h1⟩, h2, h3⟩
theorem Mem.shutE {l : NL} {n : List (Int × Nd)} {ls : Int} (z : Nat) (hl : n = eraK l) (h : Mem X w0 G w (box p 2 TT (at_ (trC (KS.mk l ls) z)) :: mapA z kI veN2 l :: hoard (FK (nkD T E)) l :: L)) : Mem X w0 G w (trE (nkD T E) TT p (KS.mk n ls) :: L) := by
  obtain ⟨F, h1, h2, h3⟩ := Sep.packL [box p 2 TT (at_ (trC (KS.mk l ls) z)), mapA z kI veN2 l, hoard (FK (nkD T E)) l] h.sep
  exact ⟨h.since, h.has, F, trE_mk3 z hl h1, h2, h3⟩
theorem r_shutE {l : NL} {n : List (Int × Nd)} {ls : Int} (z : Nat) (hl : n = eraK l) (H : Runs P ops Q N X w0 G rest fr (trE (nkD T E) TT p (KS.mk n ls) :: L)) : Runs P ops Q N X w0 G rest fr (box p 2 TT (at_ (trC (KS.mk l ls) z)) :: mapA z kI veN2 l :: hoard (FK (nkD T E)) l :: L) := fun a w hS => H a w ⟨hS.fr, Mem.shutE z hl hS.mem⟩
theorem e_shutE {l : NL} {n : List (Int × Nd)} {ls : Int} (z : Nat) (hl : n = eraK l) (H : ERuns Q e N X w0 G fr (trE (nkD T E) TT p (KS.mk n ls) :: L)) : ERuns Q e N X w0 G fr (box p 2 TT (at_ (trC (KS.mk l ls) z)) :: mapA z kI veN2 l :: hoard (FK (nkD T E)) l :: L) := fun a w hS => H a w ⟨hS.fr, Mem.shutE z hl hS.mem⟩
theorem mdel_mput {α : Type} : ∀ {l : List (Int × α)} {a k : Int} {v : α}, a ≠ k → mdel (mput l a v) k = mput (mdel l k) a v
  | [], a, k, v, h => by simp [mput, mdel, h]
  | q :: t, a, k, v, h => by
    rw [mput, mdel]
    by_cases e1 : q.1 = a
    · have e2 : ¬ q.1 = k := fun e => h (e1 ▸ e)
      rw [if_pos e1, if_neg e2, mdel, if_neg h, mput, if_pos e1]
    · rw [if_neg e1, mdel]
      by_cases e2 : q.1 = k
      · rw [if_pos e2, if_pos e2]
      · rw [if_neg e2, if_neg e2, mput, if_neg e1, mdel_mput h]
end
/-- The steps' values of all nodes. -/
def StS (G : Ghost) (s : KS Nd) : Prop := ∀ q ∈ s.nodes, StAt G q.2.st
theorem StS.mono {G G' : Ghost} {s : KS Nd} (h : StS G s) (hle : GLe G G') : StS G' s := fun q hq => (h q hq).mono hle
theorem StS.get {G : Ghost} {s : KS Nd} (h : StS G s) {k : Int} {x : Nd} (hk : lkp s.nodes k = some x) : StAt G x.st := h _ (lkp_some hk)
theorem seen_of {T E : TypeId} {G G' : Ghost} {s : KS Nd} {R : RT} {l : NL} (hT : KInv (gP s.nodes) R ∧ Clo R) (hS : StS G s) (hl : s.nodes = eraK l) (hn : ∀ q ∈ l, NodeAt (nkD T E) G' q.2) (hle : GLe G G') : Seen T E G' l R :=
  ⟨hn, fun q hq => (hS (q.1, q.2.2.2.2) (by rw [hl]; exact List.mem_map.2 ⟨q, hq, rfl⟩)).mono hle, by rw [← hl]; exact hT.1, hT.2⟩
/-- What a number's node has; what one has that isn't there. -/
def nR (R : RT) (id : Int) : PN := ((getR R id).map (ndR R)).getD pn0
theorem TI.kc {s : KS Nd} {R : RT} (h : TI s R) : KInv (gP s.nodes) R ∧ Clo R := ⟨h.inv.k, h.clo⟩
theorem mput_mem {α : Type} : ∀ {l : List (Int × α)} {k : Int} {v : α} {q : Int × α}, q ∈ mput l k v → q = (k, v) ∨ q ∈ l
  | [], k, v, q, h => by simp [mput] at h; exact .inl h
  | p :: t, k, v, q, h => by
    rw [mput] at h
    split at h
    · rcases List.mem_cons.1 h with h | h
      · exact .inl h
      · exact .inr (List.mem_cons_of_mem _ h)
    · rcases List.mem_cons.1 h with h | h
      · exact .inr (by rw [h]; simp)
      · rcases mput_mem h with h | h
        · exact .inl h
        · exact .inr (List.mem_cons_of_mem _ h)
theorem StS.put {G : Ghost} {l : List (Int × Nd)} {ls ls' k : Int} {x : Nd} (h : StS G ⟨l, ls⟩) (hx : StAt G x.st) : StS G ⟨mput l k x, ls'⟩ := fun q hq => by
  rcases mput_mem hq with rfl | hq
  · exact hx
  · exact h q hq
theorem StS.use {G : Ghost} (y : Int) : ∀ {ks : List Int} {l : List (Int × Nd)} {ls : Int}, StS G ⟨l, ls⟩ → StS G ⟨useL y ks l, ls⟩
  | [], _, _, h => h
  | k :: t, l, ls, h => by
    rw [useL]
    cases hk : lkp l k with
    | none => exact StS.use y h
    | some x => exact StS.use y (h.put (x := { x with uses := x.uses + y }) (show StAt G x.st from h.get (s := ⟨l, ls⟩) hk))
/-- One number's use more. -/
def use1 (y : Int) (k : Int) (l : List (Int × Nd)) : List (Int × Nd) := match lkp l k with
  | some x => mput l k { x with uses := x.uses + y }
  | none => l
theorem useL_cons (y k : Int) (t : List Int) (l : List (Int × Nd)) : useL y (k :: t) l = useL y t (use1 y k l) := by
  rw [useL, use1]; split <;> rename_i h <;> simp only [h]
theorem useL_append (y : Int) : ∀ (a b : List Int) (l : List (Int × Nd)), useL y (a ++ b) l = useL y b (useL y a l)
  | [], _, _ => rfl
  | k :: t, b, l => by rw [List.cons_append, useL_cons, useL_cons, useL_append y t b]
theorem useL_take (y : Int) {ks : List Int} {j : Nat} (hj : j < ks.length) (l : List (Int × Nd)) : useL y (ks.take (j + 1)) l = use1 y (ks.getD j 0) (useL y (ks.take j) l) := by
  rw [List.take_succ_eq_append_getElem hj, useL_append, useL_cons]
  simp [useL, List.getD, List.getElem?_eq_getElem hj]
theorem take_not {ks : List Int} {j : Nat} (hn : ks.Nodup) (hj : j < ks.length) : ¬ ks.getD j 0 ∈ ks.take j := by
  intro h
  obtain ⟨i, hi⟩ := List.getElem?_of_mem h
  rw [List.getElem?_take] at hi
  split at hi
  · rename_i hij
    have e : ks[i]? = ks[j]? := by rw [hi]; simp [List.getD, List.getElem?_eq_getElem hj]
    have h1 : i < ks.length := by omega
    rw [List.getElem?_eq_getElem h1, List.getElem?_eq_getElem hj] at e
    have := (List.getElem_inj hn).1 (Option.some.inj e)
    omega
  · cases hi
/-- The node that is next. -/
theorem use_next {y : Int} {ks : List Int} {j : Nat} {s : KS Nd} {l : NL} (hn : ks.Nodup) (hj : j < ks.length) (hl : eraK l = useL y (ks.take j) s.nodes) (hin : ∀ k ∈ ks, lkp s.nodes k ≠ none) :
    ∃ bx kv ov x, lkp l (ks.getD j 0) = some (bx, kv, ov, x) ∧ lkp s.nodes (ks.getD j 0) = some x := by
  have hm : ks.getD j 0 ∈ ks := getD_mem hj
  cases hx : lkp s.nodes (ks.getD j 0) with
  | none => exact absurd hx (hin _ hm)
  | some x =>
    have h1 := useL_at y (hn.sublist (List.take_sublist j ks)) (l := s.nodes) (ks.getD j 0)
    rw [← hl, hx, Option.map_some, if_neg (take_not hn hj)] at h1
    obtain ⟨b, kv, ov, h2⟩ := eraK_some h1
    exact ⟨b, kv, ov, x, h2, rfl⟩
theorem use_step {y : Int} {ks : List Int} {j : Nat} {s : KS Nd} {l : NL} {bx : Nat} {kv ov : Value} {x : Nd} (hj : j < ks.length) (hl : eraK l = useL y (ks.take j) s.nodes) (hx : lkp l (ks.getD j 0) = some (bx, kv, ov, x)) :
    eraK (mput l (ks.getD j 0) (bx, kv, ov, { x with uses := x.uses + y })) = useL y (ks.take (j + 1)) s.nodes := by
  rw [useL_take y hj, ← hl, eraK_mput, use1, eraK_lkp, hx]; rfl
theorem TI.fresh {s : KS Nd} {R : RT} {l : NL} (h : TI s R) (hl : s.nodes = eraK l) : lkp l (s.last + 1) = none := by
  have h1 := h.inv (s.last + 1)
  have h2 : getR R (s.last + 1) = none := by
    cases e : getR R (s.last + 1) with
    | none => rfl
    | some d => have h3 := get_lt e; have h4 := h.last; omega
  rw [h2, hl] at h1
  have h5 := gP_none.1 h1
  rw [eraK_lkp] at h5
  cases e : lkp l (s.last + 1) with
  | none => rfl
  | some v => rw [e] at h5; cases h5
theorem TI.node {s : KS Nd} {R : RT} {l : NL} {id : Int} {c : List ST} (h : TI s R) (hl : s.nodes = eraK l) (hg : getR R id = some c) : ∃ bx kv ov x, lkp l id = some (bx, kv, ov, x) ∧ lkp s.nodes id = some x ∧ x.pn = ndR R c := by
  obtain ⟨x, h1, h2⟩ := h.at hg
  have h3 := h1
  rw [hl] at h3
  obtain ⟨b, kv, ov, h4⟩ := eraK_some h3
  exact ⟨b, kv, ov, x, h4, h1, h2⟩
theorem numsF_len (p : List ST → Bool) : ∀ (l : List It) (i : Int), (numsF p l i).length ≤ l.length
  | [], _ => Nat.le_refl _
  | x :: t, i => by
    have := numsF_len p t (i + 1)
    rw [numsF]
    split <;> simp <;> omega
theorem mkL_outer {s : KS Nd} {R : RT} {id : Int} {a : List ST} {x : Nd} {st : SVal} (hT : TI s R) (ha : getR R id = some a) (hx : lkp s.nodes id = some x) {k : Int} {d : List ST} (hd : getR R k = some d) {z : Nd} (hz : lkp (mkL s id x st) k = some z) : z.outer.length ≤ R.its.length := by
  have h1 := gP_some hz
  rw [mkL_at hT ha, if_neg (by have := get_lt hd; omega)] at h1
  by_cases e : k = id
  · rw [if_pos e] at h1
    have h2 : x.outer = z.outer := congrArg PN.outer (Option.some.inj h1)
    rw [← h2, show x.outer = outerR R a from congrArg PN.outer (mk_pn hT ha hx)]
    exact numsF_len _ _ _
  · rw [if_neg e, hT.inv k, hd] at h1
    have h2 : outerR R d = z.outer := congrArg PN.outer (Option.some.inj h1)
    rw [← h2]
    exact numsF_len _ _ _
theorem chain_len {R : RT} (hC : Clo R) : ∀ (n : Nat) {id : Int} {c : List ST}, c.length ≤ n → getR R id = some c → (c.length : Int) + 1 ≤ id
  | 0, id, c, hn, h => by have := get_lt h; omega
  | n + 1, id, c, hn, h => by
    rcases getR_iff.1 h with ⟨rfl, rfl⟩ | ⟨_, j, rfl, h2⟩
    · simp
    · have h3 := hC.up j c h2
      have hne := hC.ne _ (List.mem_of_getElem? h2)
      have h4 : 0 < c.length := List.length_pos_iff.2 hne
      have h5 := chain_len hC n (c := c.dropLast) (by rw [List.length_dropLast]; omega) (find_some hC.ne h3.1)
      rw [List.length_dropLast] at h5
      omega
section
variable {T TT E : TypeId} {p : Nat} {P : Program} {f : FuncId} {vs : Array Value}
theorem hd_see {K : NK Nd} {l : NL} {ls : Int} {R : Value → Prop} {G : Ghost} {w : World} {F : Nat → Prop}
    (hc : ∀ (G' : Ghost) (F' : Nat → Prop), GLe G G' → (∀ q ∈ l, NodeAt K G' q.2) → Has G' w → (trR TT p ⟨l, ls⟩).holds w F' → (∀ b, F' b → G' b = none) → Calls P f vs w (Ret fun r w' => R r ∧ Kept (trR TT p ⟨l, ls⟩) F' w w'))
    (hG : Has G w) (hA : (starL [hoard (FK K) l, trR TT p ⟨l, ls⟩]).holds w F) (hF : ∀ b, F b → G b = none) : Calls P f vs w (Ret fun r w' => R r ∧ Kept (starL [hoard (FK K) l, trR TT p ⟨l, ls⟩]) F w w') :=
  with_seen (H := hoard (FK K) l) (A := trR TT p ⟨l, ls⟩) (B := fun _ => trR TT p ⟨l, ls⟩) (R := R) (S := fun G' => ∀ q ∈ l, NodeAt K G' q.2)
    (fun F1 hM => by obtain ⟨G', h1, h2, h3⟩ := hM.freezeHK; exact ⟨G', h1, h2, h3.has⟩) (fun G' F' hle hs hG' hA' hF' => hc G' F' hle hs hG' hA' hF') hG hA hF
end
end Go.Gx.T16

/- Walks: what Go functions of this chapter come to, each as a function on plain data; no condition but those that each theorem names. Printed by a program of this work (gen.py). -/
namespace Go.Proofs.Ytdkfdncbldngdaa
open Go.Gx Go.Gx.T16 Go.Gx.T8 Go.Gx.T6 Go.Gx.T4 Go.Gx.T3 Go.Gx.T8 Go.Gx.T4 Go.Gx.T3 Go.Gx.T8 Go.Gx.T6 Go.Gx.T4 Go.Gx.T3
theorem cl42 : Callable Try.prog 42 := callable Try.func42 (by kernel_rfl) rfl
theorem cl43 : Callable Try.prog 43 := callable Try.func43 (by kernel_rfl) rfl
theorem sortC : SortC Try.prog 42 := fun b o c zs w h1 h2 h3 => Try.slices_Sort_int b o c zs w h1 h2 h3
theorem sortN : SortN Try.prog 42 := fun p c w => Try.slices_Sort_int_none p c w
theorem compC : CompC Try.prog 43 := fun b o c zs w h1 h2 h3 => Try.slices_Compact_int b o c zs w h1 h2 h3
theorem compN : CompN Try.prog 43 := fun a c w => Try.slices_Compact_int_empty a c w
theorem c_kuse {F : Nat → Prop} {G : Ghost} (p : Nat) (v : Value) (ids : List Int) (y : Int) (s : KS Nd) (hs : SlL G v 1 cI (0 : Int) ids) (hin : ∀ k ∈ ids, lkp s.nodes k ≠ none) (hyb : -1 ≤ y ∧ y ≤ 1) (hub : ∀ k x, lkp s.nodes k = some x → -5000 ≤ x.uses ∧ x.uses ≤ 5000) (hlen : ids.length ≤ 1000) (w : World) (hG : Has G w) (hA : (trE (nkD 71 3) 74 p (s)).holds w F) (hFG : ∀ b, F b → G b = none) :
  Calls Try.prog 35 #[Value.pointer (some ⟨p, 0, none⟩), v, Value.int .i64 y] w (Ret fun r w' => r = Value.tuple #[] ∧ Kept (trE (nkD 71 3) 74 p (KS.mk (useL y (Go.Gx.Set.once ids) s.nodes) s.last)) F w w') := by
 refine enterO (args := [_, _, _]) (G := G) (A := trE (nkD 71 3) 74 p (s)) (l := [(0, Value.pointer (some ⟨p, 0, none⟩)), (1, v), (2, Value.int .i64 y)]) Try.func35 rfl Try.ntmps35 hG hA hFG ⟨rfl, rfl, rfl, trivial⟩ (Nat.le_of_ble_eq_true rfl) ?_
 refine c_unex (fun l => ?_)
 refine c_unand (fun hl => ?_)
 refine c_unpack ?_
 refine c_openK (fun z => ?_)
 dsimp only [trC]
 have hnd : (Go.Gx.Set.once ids).Nodup := (Go.Gx.Set.once_rises ids).imp (fun h => Int.ne_of_lt h)
 have hol : (Go.Gx.Set.once ids).length ≤ ids.length := Nat.le_trans (compact_le _) (by rw [List.length_mergeSort]; exact Nat.le_refl _)
 have hink : ∀ k ∈ Go.Gx.Set.once ids, lkp s.nodes k ≠ none := fun k hk => hin k (Go.Gx.Set.mem_once.1 hk)
 refine c_seq ?_
 refine c_region ?_
 refine r_val .none rfl (p_move rfl) ?_
 refine r_callrow (vs := [_]) .none rfl cl64 rfl (fun w hw => c_cloneI _ _ hs hlen w hw) (fun v_1 => ?_)
 refine r_val .none rfl (p_assign rfl) ?_
 refine r_nil ?_
 refine e_next ?_
 refine c_seq ?_
 refine c_region ?_
 refine r_val .none rfl (p_move rfl) ?_
 refine r_sort (k := 0) (zs := _) .none rfl cl42 rfl rfl sortC sortN (by omega) ?_
 refine r_nil ?_
 refine e_next ?_
 refine c_seq ?_
 refine c_region ?_
 refine r_val .none rfl (p_move rfl) ?_
 refine r_compact (k := 0) .none rfl cl43 rfl rfl compC compN (compact_le _) (fun v_2 => ?_)
 refine r_conv (B := rowA v_2 3 1 (Go.Gx.Set.once ids).length ((Go.Gx.Set.once ids).flatMap cI)) (k := 0) rfl (fun _ _ h => h) ?_
 dsimp only [List.set_cons_zero, List.set_cons_succ]
 refine r_val .none rfl (p_leno (k := 0) Try.underlying33 rfl rfl) ?_
 refine r_val .none rfl (p_move rfl) ?_
 refine r_nil ?_
 refine e_next ?_
 refine c_block ?_
 refine c_name (d := 0) rfl (fun u_3 hu_3 => ?_)
 refine c_name (d := 2) rfl (fun u_4 hu_4 => ?_)
 refine c_name (d := 13) rfl (fun u_5 hu_5 => ?_)
 refine c_name (d := 14) rfl (fun u_6 hu_6 => ?_)
 refine c_nameL (k := 0) rfl (fun A_7 hA_7 => ?_)
 refine c_nameL (k := 1) rfl (fun A_8 hA_8 => ?_)
 refine c_loop (σ := Nat × NL) (fun s' => [(15, Value.int .i64 (s'.1 : Nat)), (0, u_3), (2, u_4), (13, u_5), (14, u_6)]) (fun s' => [A_7, A_8, mapA z kI veN2 s'.2, hoard (FK (nkD 71 3)) (s'.2)]) (fun _ => _) (fun s' => s'.1 ≤ (Go.Gx.Set.once ids).length ∧ eraK s'.2 = useL y ((Go.Gx.Set.once ids).take s'.1) s.nodes) (fun s' => (Go.Gx.Set.once ids).length - s'.1) ((0, l)) ⟨Nat.zero_le _, by rw [List.take_zero]; exact hl.symm⟩ rfl ⟨rfl, rfl, rfl, rfl, rfl, trivial⟩ (.keep (fun _ _ h => h) (.keep (fun _ _ h => h) (.keep (fun _ _ h => h) (.keep (fun _ _ h => h) (.nil))))) (fun s' hphi => ?_)
 subst hu_3
 subst hu_4
 subst hu_5
 subst hu_6
 subst hA_7
 subst hA_8
 obtain ⟨j, l2⟩ := s'
 obtain ⟨hj, hl2⟩ := hphi
 dsimp only at hj hl2 ⊢
 refine c_seq ?_
 refine c_region ?_
 refine r_val .none rfl (p_lt rfl rfl) ?_
 refine r_nil ?_
 refine e_next ?_
 refine c_seq ?_
 refine c_splitd (d := 16) rfl (fun h_9 => ?_) (fun h_9 => ?_)
 ·
  have hjl := h_9
  obtain ⟨bx, kv, ov, x, hN, hNs⟩ := use_next hnd (by omega) hl2 hink
  first
   | (exfalso; omega)
   | (
    refine c_cond_t rfl ?_
    refine c_skip ?_
    refine e_next ?_
    refine c_seq ?_
    refine c_block ?_
    refine c_seq ?_
    refine c_region ?_
    refine r_iaddr_o (k := 0) .none rfl Try.underlying33 sz3 rfl rfl rfl (by first | exact of_decide_eq_true rfl | omega) (fun p_10 c_11 hv_12 => ?_)
    refine r_val .none rfl (p_ldo0 (k := 0) Try.underlying3 rfl rfl hv_12 rfl (by first | exact of_decide_eq_true rfl | omega) (by first | exact of_decide_eq_true rfl | omega) ((flatMap_get (cells := cI) (fun _ => rfl) (0 : Int) _ _ _ (by first | exact of_decide_eq_true rfl | omega) (by first | exact of_decide_eq_true rfl | omega)).trans (rfl : _ = Value.int _ _))) ?_
    refine r_val .none rfl (p_assign rfl) ?_
    refine r_nil ?_
    refine e_next ?_
    refine c_region ?_
    refine r_val .none rfl (p_move rfl) ?_
    refine r_val .none rfl (p_nilcheck rfl) ?_
    refine r_val .none rfl (p_field Try.underlying74 rfl sz72 rfl) ?_
    refine r_val .none rfl (p_ld (k := 1) Try.underlying72 rfl rfl rfl (by first | exact of_decide_eq_true rfl | omega) (rfl : _ = Value.map _)) ?_
    refine r_val .none rfl (p_move rfl) ?_
    refine r_val .none rfl (p_lookup_yes (i := 2) Try.underlying72 (KeyT.int Try.underlying3) zr69 rfl rfl rfl hN) ?_
    refine r_front (k := 3) rfl ?_
    refine r_fnd hN ?_
    refine r_val .none rfl (p_nilcheck rfl) ?_
    refine r_val .none rfl (p_field Try.underlying71 rfl sz3 rfl) ?_
    refine r_val .none rfl (p_ld (k := 0) Try.underlying3 rfl rfl rfl (by first | exact of_decide_eq_true rfl | omega) (rfl : _ = Value.int _ _)) ?_
    refine r_val .none rfl (p_move rfl) ?_
    refine r_val .none rfl (p_add rfl rfl (by have h9 := hub _ _ hNs; omega)) ?_
    refine r_val .none rfl (p_nilcheck rfl) ?_
    refine r_val .none rfl (p_field Try.underlying71 rfl sz3 rfl) ?_
    refine r_st (k := 0) .none sz3 rfl rfl rfl rfl (by first | exact of_decide_eq_true rfl | omega) ?_
    refine r_front (k := 3) rfl ?_
    refine r_front (k := 3) rfl ?_
    refine r_front (k := 3) rfl ?_
    refine r_front (k := 3) rfl ?_
    refine r_conv (B := box bx 13 71 (at_ (ndC { x with uses := x.uses + y } kv ov))) (k := 0) rfl (fun _ _ h => box_congr (fun i hi => by match i, hi with | 0, _ => rfl | 1, _ => rfl | 2, _ => rfl | 3, _ => rfl | 4, _ => rfl | 5, _ => rfl | 6, _ => rfl | 7, _ => rfl | 8, _ => rfl | 9, _ => rfl | 10, _ => rfl | 11, _ => rfl | 12, _ => rfl) _ _ h) ?_
    dsimp only [List.set_cons_zero]
    refine r_ndBack (x := { x with uses := x.uses + y }) hN ?_
    refine r_nil ?_
    refine e_norm_block ?_
    refine e_next ?_
    refine c_region ?_
    refine r_val .none rfl (p_add rfl rfl (by omega)) ?_
    refine r_val .none rfl (p_move rfl) ?_
    refine r_nil ?_
    refine e_front (k := 3) rfl ?_
    refine e_front (k := 3) rfl ?_
    refine e_front (k := 3) rfl ?_
    refine e_round ((j + 1, mput l2 ((Go.Gx.Set.once ids).getD j 0) (bx, kv, ov, { x with uses := x.uses + y }))) ⟨⟨by dsimp only; omega, use_step (by omega) hl2 hN⟩, by dsimp only; omega⟩ rfl ⟨rfl, rfl, rfl, rfl, rfl, trivial⟩ (.keep (fun _ _ h => h) (.keep (fun _ _ h => h) (.keep (fun _ _ h => mapA_retell (v := (bx, kv, ov, { x with uses := x.uses + y })) hN rfl h) (.keep (fun _ _ h => h) (.nil)))))
    )
 ·
  first
   | (exfalso; omega)
   | (
    refine c_cond_f rfl ?_
    refine c_exit ?_
    refine e_exit_then ?_
    refine e_exit_then ?_
    refine e_exit_block ?_
    refine e_front (k := 3) rfl ?_
    refine e_front (k := 3) rfl ?_
    refine e_front (k := 3) rfl ?_
    refine e_end0 Try.results35 (fun w hm => ⟨rfl, hm.kept [box p 2 74 (at_ (trC (KS.mk (l2) s.last) z)), mapA z kI veN2 (l2), hoard (FK (nkD 71 3)) (l2)] (.keep (fun _ _ h => h) (.keep (fun _ _ h => h) (.keep (fun _ _ h => h) (.drop (.nil))))) (trE (nkD 71 3) 74 p (KS.mk (useL y (Go.Gx.Set.once ids) s.nodes) s.last)) (fun F' h => trE_mk3 z (by rw [hl2, List.take_of_length_le (by omega)]) h)⟩)
    )
end Go.Proofs.Ytdkfdncbldngdaa

/- Walks: what Go functions of this chapter come to, each as a function on plain data; no condition but those that each theorem names. Printed by a program of this work (gen.py). -/
namespace Go.Proofs.Ytdkfdncbldngdaa
open Go.Gx Go.Gx.T16 Go.Gx.T8 Go.Gx.T6 Go.Gx.T4 Go.Gx.T3 Go.Gx.T8 Go.Gx.T4 Go.Gx.T3 Go.Gx.T8 Go.Gx.T6 Go.Gx.T4 Go.Gx.T3
theorem bl71_0a6_1i1_3i1 (x0 : Value) (x1 : Value) (x2 : Value) (x3 : Value) (x4 : Value) (x5 : Value) (x6 : Int) (x7 : Int) : Program.built Try.prog 71 [(0, Value.agg #[x0, x1, x2, x3, x4, x5]), (1, Value.int .i64 x6), (3, Value.int .i64 x7)] = some #[x0, x1, x2, x3, x4, x5, Value.int .i64 x6, Value.slice none 0 0, Value.int .i64 x7, Value.int .i64 0, Value.int .i64 0, Value.int .i64 0, Value.slice none 0 0] := by
 kernel_rfl
theorem bs3_10i2 (a0 : IntKind) (a1 : Int) : Instr.fill (fun i => some (i * 1, 1)) ((Array.range (1 * 1)).map ((Value.int .i64 0).cells[· % (Value.int .i64 0).cells.size]!)) [(0, Value.int a0 a1)] = some #[Value.int a0 a1] := by
 kernel_rfl
set_option maxHeartbeats 2000000 in
theorem c_kmake {F : Nat → Prop} {G : Ghost} (p : Nat) (id : Int) (a : List ST) (c2 : ST) (ta sb : Value) (R : RT) (s : KS Nd) (hT : TI s R) (hS : StS G s) (ha : getR R id = some a) (hF : Fit R (a ++ [c2])) (ht : SlL G ta 3 tC t0 c2.h.ts) (hs : Ss G sb c2.subs) (hsz : ssz c2 ≤ 1000) (hln : R.its.length ≤ 4000) (w : World) (hG : Has G w) (hA : (trE (nkD 71 3) 74 p (s)).holds w F) (hFG : ∀ b, F b → G b = none) :
  Calls Try.prog 34 #[Value.pointer (some ⟨p, 0, none⟩), Value.int .i64 id, Value.agg #[Value.int .i64 c2.h.k, Value.int .i64 c2.h.k0, Value.int .i64 c2.h.k1, Value.int .i64 c2.h.k2, ta, sb]] w (Ret fun r w' => ∃ G' s', GNew w F G G' ∧ Has G' w' ∧ (r = Value.int .i64 (s.last + 1) ∧ TI s' (push R (a ++ [c2])) ∧ StS G' s') ∧ KeptG (trE (nkD 71 3) 74 p (s')) F G' w w') := by
 refine enterO (args := [_, _, _]) (G := G) (A := trE (nkD 71 3) 74 p (s)) (l := [(0, Value.pointer (some ⟨p, 0, none⟩)), (1, Value.int .i64 id), (2, Value.agg #[Value.int .i64 c2.h.k, Value.int .i64 c2.h.k0, Value.int .i64 c2.h.k1, Value.int .i64 c2.h.k2, ta, sb])]) Try.func34 rfl Try.ntmps34 hG hA hFG ⟨rfl, rfl, rfl, trivial⟩ (Nat.le_of_ble_eq_true rfl) ?_
 refine c_unex (fun l => ?_)
 refine c_unand (fun hl => ?_)
 refine c_unpack ?_
 refine c_openK (fun z => ?_)
 dsimp only [trC]
 obtain ⟨bx, kv, ov, x, hN, hNs, hpn⟩ := hT.node hl ha
 have hno := hT.fresh hl
 have hid := get_lt ha
 have hla := hT.last
 have hdep : x.dep = (a.length : Int) := congrArg PN.dep hpn
 have hal := chain_len hT.clo a.length (Nat.le_refl _) ha
 have hkl : x.kids.length ≤ R.its.length := by rw [show x.kids = kidsR R a from congrArg PN.kids hpn]; exact numsF_len _ _ _
 refine c_seq ?_
 refine c_region ?_
 refine r_box .none rfl rfl (IsRow.lit _) (fun b_1 => ?_)
 refine r_val .none rfl (p_assign rfl) ?_
 refine r_nil ?_
 refine e_next ?_
 refine c_seq ?_
 refine c_region ?_
 refine r_val .none rfl (p_move rfl) ?_
 refine r_val .none rfl (p_nilcheck rfl) ?_
 refine r_val .none rfl (p_field Try.underlying74 rfl sz3 rfl) ?_
 refine r_val .none rfl (p_ld (k := 1) Try.underlying3 rfl rfl rfl (by first | exact of_decide_eq_true rfl | omega) (rfl : _ = Value.int _ _)) ?_
 refine r_val .none rfl (p_add rfl rfl (by omega)) ?_
 refine r_val .none rfl (p_nilcheck rfl) ?_
 refine r_val .none rfl (p_field Try.underlying74 rfl sz3 rfl) ?_
 refine r_st (k := 1) .none sz3 rfl rfl rfl rfl (by first | exact of_decide_eq_true rfl | omega) ?_
 refine r_nil ?_
 refine e_next ?_
 refine c_seq ?_
 refine c_front (k := 3) rfl ?_
 refine c_fnd hN ?_
 refine c_region_d (fun _ => false) _ mixed (.keep (fun _ _ h => h) (.keep (fun _ _ h => h) (.keep (fun _ _ h => h) (.keep (fun _ _ h => h) (.keep (fun _ _ h => h) (.keep (fun _ _ h => h) (.keep (fun _ _ h => h) (.nil)))))))) ?_
 refine d_val1 0 rfl rfl (by kernel_rfl) (fun _ _ => rfl) .none rfl (p_ldw (k := 4) Try.underlying50 rfl sz50 rfl rfl (rfl : _ = Value.agg #[_, _, _, _, _, _])) ?_
 refine d_val1 2 rfl rfl (by kernel_rfl) (fun _ _ => rfl) .none rfl (p_move rfl) ?_
 refine d_val1 3 rfl rfl (by kernel_rfl) (fun _ _ => rfl) .none rfl (p_move rfl) ?_
 refine d_val1 4 rfl rfl (by kernel_rfl) (fun _ _ => rfl) .none rfl (p_nilcheck rfl) ?_
 refine d_val1 5 rfl rfl (by kernel_rfl) (fun _ _ => rfl) .none rfl (p_field Try.underlying74 rfl sz72 rfl) ?_
 refine d_val1 6 rfl rfl (by kernel_rfl) (fun _ _ => rfl) .none rfl (p_ld (k := 5) Try.underlying72 rfl rfl rfl (by first | exact of_decide_eq_true rfl | omega) (rfl : _ = Value.map _)) ?_
 refine d_val1 7 rfl rfl (by kernel_rfl) (fun _ _ => rfl) .none rfl (p_move rfl) ?_
 refine d_val1 8 rfl rfl (by kernel_rfl) (fun _ _ => rfl) .none rfl (p_lookup_yes (i := 6) Try.underlying72 (KeyT.int Try.underlying3) zr69 rfl rfl rfl hN) ?_
 refine d_val1 9 rfl rfl (by kernel_rfl) (fun _ _ => rfl) .none rfl (p_nilcheck rfl) ?_
 refine d_val1 10 rfl rfl (by kernel_rfl) (fun _ _ => rfl) .none rfl (p_field Try.underlying71 rfl sz3 rfl) ?_
 refine d_val1 11 rfl rfl (by kernel_rfl) (fun _ _ => rfl) .none rfl (p_ld (k := 0) Try.underlying3 rfl rfl rfl (by first | exact of_decide_eq_true rfl | omega) (rfl : _ = Value.int _ _)) ?_
 refine d_val1 12 rfl rfl (by kernel_rfl) (fun _ _ => rfl) .none rfl (p_add rfl rfl (by omega)) ?_
 refine d_eff 1 rfl (by kernel_rfl) (fun K_1 hKK_1 hcK_1 => ?_)
 refine r_callm (vs := [_]) .none rfl cl63 rfl (fun w hw => c_tclone _ _ _ hsz ht hs w hw) (fun G_2 v_5 hn_3 hr_4 => ?_)
 replace hS := hS.mono hn_3.le
 replace ht := ht.mono hn_3.le
 replace hs := hs.mono hn_3.le
 obtain ⟨u_6a, u_6b, rfl, u_6s, u_6t⟩ := hr_4
 refine r_nil (e_d (i := 1) (brk := (fun _ => false)) (ph' := true) hKK_1 hcK_1 rfl (fun _ => hn_3.le) (fun _ => .keep (fun _ _ h => h) (.keep (fun _ _ h => h) (.keep (fun _ _ h => h) (.keep (fun _ _ h => h) (.keep (fun _ _ h => h) (.keep (fun _ _ h => h) (.keep (fun _ _ h => h) (.nil)))))))) ?_)
 clear hKK_1 hcK_1 K_1
 refine d_val1 13 rfl rfl (by kernel_rfl) (fun _ _ => rfl) .none rfl (p_build (vs := [(0, Value.agg #[_, _, _, _, _, _]), (1, Value.int _ _), (3, Value.int _ _)]) rfl (bl71_0a6_1i1_3i1 _ _ _ _ _ _ _ _)) ?_
 refine d_eff 14 rfl (by kernel_rfl) (fun K_7 hKK_7 hcK_7 => ?_)
 refine r_box .none rfl rfl (IsRow.lit _) (fun b_2 => ?_)
 refine r_nil (e_d (i := 14) (brk := (fun _ => false)) (ph' := true) hKK_7 hcK_7 rfl (fun _ => hn_3.le) (fun _ => .drop (.keep (fun _ _ h => h) (.keep (fun _ _ h => h) (.keep (fun _ _ h => h) (.keep (fun _ _ h => h) (.keep (fun _ _ h => h) (.keep (fun _ _ h => h) (.keep (fun _ _ h => h) (.nil))))))))) ?_)
 clear hKK_7 hcK_7 K_7
 refine d_val1 15 rfl rfl (by kernel_rfl) (fun _ _ => rfl) .none rfl (p_assign rfl) ?_
 refine d_nil (by kernel_rfl) ?_
 refine e_next ?_
 refine c_seq ?_
 refine c_front (k := 4) rfl ?_
 refine c_front (k := 4) rfl ?_
 refine c_front (k := 4) rfl ?_
 refine c_front (k := 4) rfl ?_
 refine c_convk (B := box bx 13 71 (at_ (ndC x kv ov))) (k := 0) rfl (fun _ _ h => box_congr (fun i hi => by match i, hi with | 0, _ => rfl | 1, _ => rfl | 2, _ => rfl | 3, _ => rfl | 4, _ => rfl | 5, _ => rfl | 6, _ => rfl | 7, _ => rfl | 8, _ => rfl | 9, _ => rfl | 10, _ => rfl | 11, _ => rfl | 12, _ => rfl) _ _ h) ?_
 dsimp only [List.set_cons_zero]
 refine c_ndBack (x := x) hN ?_
 rw [mput_same hN]
 refine c_nilrow 3 1 ?_
 refine c_nilrow 3 1 ?_
 refine c_front (k := 2) rfl ?_
 refine c_front (k := 2) rfl ?_
 refine c_front (k := 2) rfl ?_
 refine c_front (k := 3) rfl ?_
 refine c_convk (B := box b_2 13 71 (at_ (ndC (mkN s id x (c2, u_6a, u_6b) 0) (.slice none 0 0) (.slice none 0 0)))) (k := 0) rfl (fun _ _ h => box_congr (fun i hi => by match i, hi with | 0, _ => rfl | 1, _ => rfl | 2, _ => rfl | 3, _ => rfl | 4, _ => rfl | 5, _ => rfl | 6, _ => rfl | 7, _ => rfl | 8, _ => rfl | 9, _ => rfl | 10, _ => rfl | 11, _ => rfl | 12, _ => rfl) _ _ h) ?_
 dsimp only [List.set_cons_zero]
 refine c_ndNew (x := (mkN s id x (c2, u_6a, u_6b) 0)) hno ?_
 have hN4 : lkp (mput l (s.last + 1) (b_2, Value.slice none 0 0, Value.slice none 0 0, (mkN s id x (c2, u_6a, u_6b) 0))) id = some (bx, kv, ov, x) := by rw [lkp_mput, if_neg (by omega)]; exact hN
 refine c_region_d (fun _ => false) _ mixed (.keep (fun _ _ h => h) (.keep (fun _ _ h => h) (.keep (fun _ _ h => h) (.drop (.nil))))) ?_
 refine d_val1 0 rfl rfl (by kernel_rfl) (fun _ _ => rfl) .none rfl (p_move rfl) ?_
 refine d_val1 1 rfl rfl (by kernel_rfl) (fun _ _ => rfl) .none rfl (p_nilcheck rfl) ?_
 refine d_val1 2 rfl rfl (by kernel_rfl) (fun _ _ => rfl) .none rfl (p_field Try.underlying74 rfl sz72 rfl) ?_
 refine d_val1 3 rfl rfl (by kernel_rfl) (fun _ _ => rfl) .none rfl (p_ld (k := 2) Try.underlying72 rfl rfl rfl (by first | exact of_decide_eq_true rfl | omega) (rfl : _ = Value.map _)) ?_
 refine d_val1 4 rfl rfl (by kernel_rfl) (fun _ _ => rfl) .none rfl (p_move rfl) ?_
 refine d_val1 5 rfl rfl (by kernel_rfl) (fun _ _ => rfl) .none rfl (p_nilcheck rfl) ?_
 refine d_val1 6 rfl rfl (by kernel_rfl) (fun _ _ => rfl) .none rfl (p_field Try.underlying74 rfl sz3 rfl) ?_
 refine d_val1 7 rfl rfl (by kernel_rfl) (fun _ _ => rfl) .none rfl (p_ld (k := 2) Try.underlying3 rfl rfl rfl (by first | exact of_decide_eq_true rfl | omega) (rfl : _ = Value.int _ _)) ?_
 refine d_val1 8 rfl rfl (by kernel_rfl) (fun _ _ => rfl) .none rfl (p_move rfl) ?_
 refine d_eff 9 rfl (by kernel_rfl) (fun K_8 hKK_8 hcK_8 => ?_)
 refine r_mapup (i := 3) (k := s.last + 1) (a := (b_2, Value.slice none 0 0, Value.slice none 0 0, (mkN s id x (c2, u_6a, u_6b) 0))) .none Try.underlying72 (KeyT.int Try.underlying3) rfl rfl rfl rfl ?_
 refine r_nil (e_d (i := 9) (brk := (fun _ => false)) (ph' := true) hKK_8 hcK_8 rfl (fun _ => GLe.refl _) (fun _ => .keep (fun _ _ h => h) (.keep (fun _ _ h => h) (.keep (fun _ _ h => h) (.drop (.nil))))) ?_)
 clear hKK_8 hcK_8 K_8
 refine d_nil (by kernel_rfl) ?_
 refine e_next ?_
 refine c_seq ?_
 refine c_fnd hN4 ?_
 refine c_row1 (k := 1) rfl (fun okv => ?_)
 refine c_row1 (k := 2) rfl (fun oov => ?_)
 refine c_region_d (fun j => [23].contains j) _ mixed (.keep (fun _ _ h => h) (.drop (.keep (fun _ _ h => h) (.keep (fun _ _ h => h) (.keep (fun _ _ h => h) (.keep (fun _ _ h => h) (.keep (fun _ _ h => h) (.nil)))))))) ?_
 refine d_val1 0 rfl rfl (by kernel_rfl) (fun j hj => by have h : 23 < j := (Nat.lt_of_lt_of_le (by decide : 23 < 24) hj); simp; omega) .none rfl (p_move rfl) ?_
 refine d_val1 1 rfl rfl (by kernel_rfl) (fun j hj => by have h : 23 < j := (Nat.lt_of_lt_of_le (by decide : 23 < 24) hj); simp; omega) .none rfl (p_nilcheck rfl) ?_
 refine d_val1 2 rfl rfl (by kernel_rfl) (fun j hj => by have h : 23 < j := (Nat.lt_of_lt_of_le (by decide : 23 < 24) hj); simp; omega) .none rfl (p_field Try.underlying74 rfl sz72 rfl) ?_
 refine d_val1 3 rfl rfl (by kernel_rfl) (fun j hj => by have h : 23 < j := (Nat.lt_of_lt_of_le (by decide : 23 < 24) hj); simp; omega) .none rfl (p_ld (k := 4) Try.underlying72 rfl rfl rfl (by first | exact of_decide_eq_true rfl | omega) (rfl : _ = Value.map _)) ?_
 refine d_val1 4 rfl rfl (by kernel_rfl) (fun j hj => by have h : 23 < j := (Nat.lt_of_lt_of_le (by decide : 23 < 24) hj); simp; omega) .none rfl (p_move rfl) ?_
 refine d_val1 5 rfl rfl (by kernel_rfl) (fun j hj => by have h : 23 < j := (Nat.lt_of_lt_of_le (by decide : 23 < 24) hj); simp; omega) .none rfl (p_lookup_yes (i := 5) Try.underlying72 (KeyT.int Try.underlying3) zr69 rfl rfl rfl hN4) ?_
 refine d_val1 6 rfl rfl (by kernel_rfl) (fun j hj => by have h : 23 < j := (Nat.lt_of_lt_of_le (by decide : 23 < 24) hj); simp; omega) .none rfl (p_move rfl) ?_
 refine d_val1 7 rfl rfl (by kernel_rfl) (fun j hj => by have h : 23 < j := (Nat.lt_of_lt_of_le (by decide : 23 < 24) hj); simp; omega) .none rfl (p_nilcheck rfl) ?_
 refine d_val1 8 rfl rfl (by kernel_rfl) (fun j hj => by have h : 23 < j := (Nat.lt_of_lt_of_le (by decide : 23 < 24) hj); simp; omega) .none rfl (p_field Try.underlying74 rfl sz72 rfl) ?_
 refine d_val1 9 rfl rfl (by kernel_rfl) (fun j hj => by have h : 23 < j := (Nat.lt_of_lt_of_le (by decide : 23 < 24) hj); simp; omega) .none rfl (p_ld (k := 4) Try.underlying72 rfl rfl rfl (by first | exact of_decide_eq_true rfl | omega) (rfl : _ = Value.map _)) ?_
 refine d_val1 10 rfl rfl (by kernel_rfl) (fun j hj => by have h : 23 < j := (Nat.lt_of_lt_of_le (by decide : 23 < 24) hj); simp; omega) .none rfl (p_move rfl) ?_
 refine d_val1 11 rfl rfl (by kernel_rfl) (fun j hj => by have h : 23 < j := (Nat.lt_of_lt_of_le (by decide : 23 < 24) hj); simp; omega) .none rfl (p_lookup_yes (i := 5) Try.underlying72 (KeyT.int Try.underlying3) zr69 rfl rfl rfl hN4) ?_
 refine d_val1 12 rfl rfl (by kernel_rfl) (fun j hj => by have h : 23 < j := (Nat.lt_of_lt_of_le (by decide : 23 < 24) hj); simp; omega) .none rfl (p_nilcheck rfl) ?_
 refine d_val1 13 rfl rfl (by kernel_rfl) (fun j hj => by have h : 23 < j := (Nat.lt_of_lt_of_le (by decide : 23 < 24) hj); simp; omega) .none rfl (p_field Try.underlying71 rfl sz33 rfl) ?_
 refine d_val1 14 rfl rfl (by kernel_rfl) (fun j hj => by have h : 23 < j := (Nat.lt_of_lt_of_le (by decide : 23 < 24) hj); simp; omega) .none rfl (p_ld (k := 0) Try.underlying33 rfl rfl rfl (by first | exact of_decide_eq_true rfl | omega) rfl) ?_
 refine d_val1 15 rfl rfl (by kernel_rfl) (fun j hj => by have h : 23 < j := (Nat.lt_of_lt_of_le (by decide : 23 < 24) hj); simp; omega) .none rfl (p_move rfl) ?_
 refine d_val1 16 rfl rfl (by kernel_rfl) (fun j hj => by have h : 23 < j := (Nat.lt_of_lt_of_le (by decide : 23 < 24) hj); simp; omega) .none rfl (p_nilcheck rfl) ?_
 refine d_val1 17 rfl rfl (by kernel_rfl) (fun j hj => by have h : 23 < j := (Nat.lt_of_lt_of_le (by decide : 23 < 24) hj); simp; omega) .none rfl (p_field Try.underlying74 rfl sz3 rfl) ?_
 refine d_val1 18 rfl rfl (by kernel_rfl) (fun j hj => by have h : 23 < j := (Nat.lt_of_lt_of_le (by decide : 23 < 24) hj); simp; omega) .none rfl (p_ld (k := 4) Try.underlying3 rfl rfl rfl (by first | exact of_decide_eq_true rfl | omega) (rfl : _ = Value.int _ _)) ?_
 refine d_eff 19 rfl (by kernel_rfl) (fun K_9 hKK_9 hcK_9 => ?_)
 refine r_bslice (vs := [(0, Value.int _ _)]) (c := #[_]) .none rfl Try.underlying33 el3 rfl rfl rfl (bs3_10i2 _ _) (IsRow.lit _) (fun b_3 => ?_)
 refine r_nil (e_d (i := 19) (brk := (fun j => [23].contains j)) (ph' := true) hKK_9 hcK_9 rfl (fun _ => GLe.refl _) (fun _ => .drop (.keep (fun _ _ h => h) (.drop (.keep (fun _ _ h => h) (.keep (fun _ _ h => h) (.keep (fun _ _ h => h) (.keep (fun _ _ h => h) (.keep (fun _ _ h => h) (.nil))))))))) ?_)
 clear hKK_9 hcK_9 K_9
 refine d_eff 20 rfl (by kernel_rfl) (fun K_10 hKK_10 hcK_10 => ?_)
 refine r_append (k := 2) (k2 := 0) .none rfl Try.underlying33 el3 rfl (by decide) rfl rfl rfl rfl rfl (one_lit rfl rfl) (by simp only [maxLen]; omega) (by omega) (fun v_11 => ?_)
 refine r_row1 (k := 2) rfl (fun o_12 => ?_)
 refine r_nil (e_d (i := 20) (brk := (fun j => [23].contains j)) (ph' := true) hKK_10 hcK_10 rfl (fun _ => GLe.refl _) (fun _ => .drop (.keep (fun _ _ h => h) (.drop (.keep (fun _ _ h => h) (.keep (fun _ _ h => h) (.keep (fun _ _ h => h) (.keep (fun _ _ h => h) (.keep (fun _ _ h => h) (.nil))))))))) ?_)
 clear hKK_10 hcK_10 K_10
 refine d_val1 21 rfl rfl (by kernel_rfl) (fun j hj => by have h : 23 < j := (Nat.lt_of_lt_of_le (by decide : 23 < 24) hj); simp; omega) .none rfl (p_nilcheck rfl) ?_
 refine d_val1 22 rfl rfl (by kernel_rfl) (fun j hj => by have h : 23 < j := (Nat.lt_of_lt_of_le (by decide : 23 < 24) hj); simp; omega) .none rfl (p_field Try.underlying71 rfl sz33 rfl) ?_
 refine d_eff 23 rfl (by kernel_rfl) (fun K_13 hKK_13 hcK_13 => ?_)
 refine r_st (k := 1) .none sz33 rfl rfl o_12 rfl (by first | exact of_decide_eq_true rfl | omega) ?_
 refine r_nil (e_d (i := 23) (brk := (fun j => [23].contains j)) (ph' := false) hKK_13 hcK_13 rfl (fun h => by cases h) (fun h => by cases h) ?_)
 clear hKK_13 hcK_13 K_13
 refine d_nil (by kernel_rfl) ?_
 refine e_next ?_
 refine c_seq ?_
 refine c_seq ?_
 refine c_region ?_
 refine r_front (k := 4) rfl ?_
 refine r_front (k := 4) rfl ?_
 refine r_front (k := 4) rfl ?_
 refine r_front (k := 4) rfl ?_
 refine r_conv (B := box bx 13 71 (at_ (ndC (mkX s x) v_11 ov))) (k := 0) rfl (fun _ _ h => box_congr (fun i hi => by match i, hi with | 0, _ => rfl | 1, _ => rfl | 2, _ => rfl | 3, _ => rfl | 4, _ => rfl | 5, _ => rfl | 6, _ => rfl | 7, _ => rfl | 8, _ => rfl | 9, _ => rfl | 10, _ => rfl | 11, _ => rfl | 12, _ => rfl) _ _ h) ?_
 refine r_conv (B := rowA v_11 3 1 (mkX s x).kids.length ((mkX s x).kids.flatMap cI)) (k := 1) rfl (fun _ _ h => rowA_snoc rfl rfl rfl rfl _ _ h) ?_
 dsimp only [List.set_cons_zero, List.set_cons_succ]
 refine r_ndBack (x := (mkX s x)) hN4 ?_
 refine r_conv (B := mapA z kI veN2 (mput (mput l (s.last + 1) (b_2, Value.slice none 0 0, Value.slice none 0 0, (mkN s id x (c2, u_6a, u_6b) 0))) id (bx, v_11, ov, (mkX s x)))) (k := 4) rfl (fun _ _ h => mapA_retell (v := (bx, v_11, ov, (mkX s x))) hN4 rfl h) ?_
 dsimp only [List.set_cons_zero, List.set_cons_succ]
 have hl2 : eraK (mput (mput l (s.last + 1) (b_2, Value.slice none 0 0, Value.slice none 0 0, (mkN s id x (c2, u_6a, u_6b) 0))) id (bx, v_11, ov, (mkX s x))) = mkL s id x (c2, u_6a, u_6b) := by rw [eraK_mput, eraK_mput, ← hl]; rfl
 have hst2 : StS G_2 ⟨mkL s id x (c2, u_6a, u_6b), s.last + 1⟩ := StS.put (ls := s.last + 1) (StS.put (ls := s.last + 1) (show StS G_2 ⟨s.nodes, s.last + 1⟩ from hS) (show StAt G_2 (c2, u_6a, u_6b) from ⟨u_6s, u_6t, hsz⟩)) (show StAt G_2 x.st from hS.get hNs)
 refine r_val .none rfl (p_field Try.underlying50 rfl sz3 rfl) ?_
 refine r_val .none rfl (p_ld (k := 2) Try.underlying3 rfl rfl rfl (by first | exact of_decide_eq_true rfl | omega) (rfl : _ = Value.int _ _)) ?_
 refine r_val .none rfl (p_eq rfl rfl) ?_
 refine r_nil ?_
 refine e_next ?_
 refine c_splitd (d := 65) rfl (fun h_14 => ?_) (fun h_14 => ?_)
 ·
  have hk : c2.h.k = 3 := h_14
  first
   | (exfalso; omega)
   | (
    refine c_cond_t rfl ?_
    refine c_seq ?_
    refine c_region ?_
    refine r_val .none rfl (p_move rfl) ?_
    refine r_val .none rfl (p_move rfl) ?_
    refine r_val .none rfl (p_move rfl) ?_
    refine r_val .none rfl (p_field Try.underlying50 rfl sz35 rfl) ?_
    refine r_val .none rfl (p_ld (k := 2) Try.underlying35 rfl rfl rfl (by first | exact of_decide_eq_true rfl | omega) rfl) ?_
    refine r_front (k := 4) rfl ?_
    refine r_front (k := 4) rfl ?_
    refine r_conv (B := box p 2 74 (at_ (trC (KS.mk (mput (mput l (s.last + 1) (b_2, Value.slice none 0 0, Value.slice none 0 0, (mkN s id x (c2, u_6a, u_6b) 0))) id (bx, v_11, ov, (mkX s x))) (s.last + 1)) z))) (k := 0) rfl (fun _ _ h => box_congr (fun i hi => by match i, hi with | 0, _ => rfl | 1, _ => rfl) _ _ h) ?_
    dsimp only [List.set_cons_zero]
    refine r_shutK (s := KS.mk (mput (mput l (s.last + 1) (b_2, Value.slice none 0 0, Value.slice none 0 0, (mkN s id x (c2, u_6a, u_6b) 0))) id (bx, v_11, ov, (mkX s x))) (s.last + 1)) z ?_
    refine r_front (k := 1) rfl ?_
    refine r_pack [_, _] ?_
    have hin : True ∧ find R (a ++ c2.subs) ≠ 0 := ⟨trivial, (mk_inner (st := (c2, u_6a, u_6b)) hT ha hNs hF hk).2⟩
    refine r_callo (k := 0) (vs := [_, _, _]) .none rfl cl38 rfl rfl (fun w F hw hA hFG => hd_see (K := nkD 71 3) (R := fun r => r = Value.int .i64 (find R (a ++ c2.subs))) (fun G' F' hle hnd hG' hA' hF' => by (have h9 := c_kfrom p id a _ c2.subs (mput (mput l (s.last + 1) (b_2, Value.slice none 0 0, Value.slice none 0 0, (mkN s id x (c2, u_6a, u_6b) 0))) id (bx, v_11, ov, (mkX s x))) (s.last + 1) (push R (a ++ [c2])) (seen_of (s := ⟨mkL s id x (c2, u_6a, u_6b), s.last + 1⟩) ⟨mkL_k (st := (c2, u_6a, u_6b)) hT ha hNs hF, push_clo hT.clo hF⟩ hst2 hl2.symm hnd hle) (by rw [getR_push, if_neg (by omega)]; exact ha) (hs.mono hle) w hG' hA' hF'; rw [find_push_old hF.ne hin.2] at h9; exact h9)) hw hA hFG) ?_
    refine r_unpack ?_
    refine r_front (k := 1) rfl ?_
    refine r_openK (fun z2 => ?_)
    dsimp only [trC]
    have hgi := find_some hT.clo.ne hin.2
    obtain ⟨yz, hyz, _, _⟩ := mkL_k (st := (c2, u_6a, u_6b)) hT ha hNs hF _ _ (show getR (push R (a ++ [c2])) (find R (a ++ c2.subs)) = some (a ++ c2.subs) by rw [getR_push, if_neg (by have := get_lt hgi; omega)]; exact hgi)
    obtain ⟨xz, hz1, _⟩ := gP_inv hyz
    have hzo := mkL_outer hT ha hNs hgi hz1
    rw [← hl2] at hz1
    obtain ⟨bxz, kvz, ovz, hNz⟩ := eraK_some hz1
    have hgil := get_lt hgi
    have hNn : lkp (mput (mput l (s.last + 1) (b_2, Value.slice none 0 0, Value.slice none 0 0, (mkN s id x (c2, u_6a, u_6b) 0))) id (bx, v_11, ov, (mkX s x))) (s.last + 1) = some (b_2, Value.slice none 0 0, Value.slice none 0 0, (mkN s id x (c2, u_6a, u_6b) 0)) := by rw [lkp_mput, if_neg (by omega), lkp_mput, if_pos rfl]
    refine r_front (k := 2) rfl ?_
    refine r_fnd hNn ?_
    refine r_val .none rfl (p_nilcheck rfl) ?_
    refine r_val .none rfl (p_field Try.underlying71 rfl sz3 rfl) ?_
    refine r_st (k := 0) .none sz3 rfl rfl rfl rfl (by first | exact of_decide_eq_true rfl | omega) ?_
    refine r_nil ?_
    refine e_next ?_
    refine c_seq ?_
    refine c_region_q mixed (by kernel_rfl) ?_
    refine q_val .none rfl (p_move rfl) ?_
    refine q_val .none rfl (p_nilcheck rfl) ?_
    refine q_val .none rfl (p_field Try.underlying74 rfl sz72 rfl) ?_
    refine q_val .none rfl (p_ld (k := 4) Try.underlying72 rfl rfl rfl (by first | exact of_decide_eq_true rfl | omega) (rfl : _ = Value.map _)) ?_
    refine q_val .none rfl (p_move rfl) ?_
    refine q_val .none rfl (p_nilcheck rfl) ?_
    refine q_val .none rfl (p_field Try.underlying71 rfl sz3 rfl) ?_
    refine q_val .none rfl (p_ld (k := 0) Try.underlying3 rfl rfl rfl (by first | exact of_decide_eq_true rfl | omega) (rfl : _ = Value.int _ _)) ?_
    refine q_val .none rfl (p_lookup_yes (i := 5) Try.underlying72 (KeyT.int Try.underlying3) zr69 rfl rfl rfl hNz) ?_
    refine q_val .none rfl (p_assign rfl) ?_
    refine q_nil ?_
    refine e_next ?_
    refine c_front (k := 3) rfl ?_
    refine c_front (k := 3) rfl ?_
    refine c_front (k := 3) rfl ?_
    refine c_front (k := 3) rfl ?_
    refine c_convk (B := box b_2 13 71 (at_ (ndC (mkN s id x (c2, u_6a, u_6b) (find R (a ++ c2.subs))) (.slice none 0 0) (.slice none 0 0)))) (k := 0) rfl (fun _ _ h => box_congr (fun i hi => by match i, hi with | 0, _ => rfl | 1, _ => rfl | 2, _ => rfl | 3, _ => rfl | 4, _ => rfl | 5, _ => rfl | 6, _ => rfl | 7, _ => rfl | 8, _ => rfl | 9, _ => rfl | 10, _ => rfl | 11, _ => rfl | 12, _ => rfl) _ _ h) ?_
    dsimp only [List.set_cons_zero]
    refine c_ndBack (x := (mkN s id x (c2, u_6a, u_6b) (find R (a ++ c2.subs)))) hNn ?_
    refine c_convk (B := mapA z2 kI veN2 (mput (mput (mput l (s.last + 1) (b_2, Value.slice none 0 0, Value.slice none 0 0, (mkN s id x (c2, u_6a, u_6b) 0))) id (bx, v_11, ov, (mkX s x))) (s.last + 1) (b_2, Value.slice none 0 0, Value.slice none 0 0, (mkN s id x (c2, u_6a, u_6b) (find R (a ++ c2.subs)))))) (k := 2) rfl (fun _ _ h => mapA_retell (v := (b_2, Value.slice none 0 0, Value.slice none 0 0, (mkN s id x (c2, u_6a, u_6b) (find R (a ++ c2.subs))))) hNn rfl h) ?_
    dsimp only [List.set_cons_zero, List.set_cons_succ]
    have hMz : lkp (mput (mput (mput l (s.last + 1) (b_2, Value.slice none 0 0, Value.slice none 0 0, (mkN s id x (c2, u_6a, u_6b) 0))) id (bx, v_11, ov, (mkX s x))) (s.last + 1) (b_2, Value.slice none 0 0, Value.slice none 0 0, (mkN s id x (c2, u_6a, u_6b) (find R (a ++ c2.subs))))) (find R (a ++ c2.subs)) = some (bxz, kvz, ovz, xz) := by rw [lkp_mput, if_neg (by omega)]; exact hNz
    refine c_fnd hMz ?_
    refine c_row1 (k := 1) rfl (fun okvz => ?_)
    refine c_row1 (k := 2) rfl (fun oovz => ?_)
    refine c_region_d (fun j => [13].contains j) _ mixed (.keep (fun _ _ h => h) (.keep (fun _ _ h => h) (.drop (.keep (fun _ _ h => h) (.keep (fun _ _ h => h) (.keep (fun _ _ h => h) (.keep (fun _ _ h => h) (.keep (fun _ _ h => h) (.nil))))))))) ?_
    refine d_val1 0 rfl rfl (by kernel_rfl) (fun j hj => by have h : 13 < j := (Nat.lt_of_lt_of_le (by decide : 13 < 14) hj); simp; omega) .none rfl (p_move rfl) ?_
    refine d_val1 1 rfl rfl (by kernel_rfl) (fun j hj => by have h : 13 < j := (Nat.lt_of_lt_of_le (by decide : 13 < 14) hj); simp; omega) .none rfl (p_move rfl) ?_
    refine d_val1 2 rfl rfl (by kernel_rfl) (fun j hj => by have h : 13 < j := (Nat.lt_of_lt_of_le (by decide : 13 < 14) hj); simp; omega) .none rfl (p_nilcheck rfl) ?_
    refine d_val1 3 rfl rfl (by kernel_rfl) (fun j hj => by have h : 13 < j := (Nat.lt_of_lt_of_le (by decide : 13 < 14) hj); simp; omega) .none rfl (p_field Try.underlying71 rfl sz33 rfl) ?_
    refine d_val1 4 rfl rfl (by kernel_rfl) (fun j hj => by have h : 13 < j := (Nat.lt_of_lt_of_le (by decide : 13 < 14) hj); simp; omega) .none rfl (p_ld (k := 0) Try.underlying33 rfl rfl rfl (by first | exact of_decide_eq_true rfl | omega) rfl) ?_
    refine d_val1 5 rfl rfl (by kernel_rfl) (fun j hj => by have h : 13 < j := (Nat.lt_of_lt_of_le (by decide : 13 < 14) hj); simp; omega) .none rfl (p_move rfl) ?_
    refine d_val1 6 rfl rfl (by kernel_rfl) (fun j hj => by have h : 13 < j := (Nat.lt_of_lt_of_le (by decide : 13 < 14) hj); simp; omega) .none rfl (p_nilcheck rfl) ?_
    refine d_val1 7 rfl rfl (by kernel_rfl) (fun j hj => by have h : 13 < j := (Nat.lt_of_lt_of_le (by decide : 13 < 14) hj); simp; omega) .none rfl (p_field Try.underlying74 rfl sz3 rfl) ?_
    refine d_val1 8 rfl rfl (by kernel_rfl) (fun j hj => by have h : 13 < j := (Nat.lt_of_lt_of_le (by decide : 13 < 14) hj); simp; omega) .none rfl (p_ld (k := 3) Try.underlying3 rfl rfl rfl (by first | exact of_decide_eq_true rfl | omega) (rfl : _ = Value.int _ _)) ?_
    refine d_eff 9 rfl (by kernel_rfl) (fun K_15 hKK_15 hcK_15 => ?_)
    refine r_bslice (vs := [(0, Value.int _ _)]) (c := #[_]) .none rfl Try.underlying33 el3 rfl rfl rfl (bs3_10i2 _ _) (IsRow.lit _) (fun b_4 => ?_)
    refine r_nil (e_d (i := 9) (brk := (fun j => [13].contains j)) (ph' := true) hKK_15 hcK_15 rfl (fun _ => GLe.refl _) (fun _ => .drop (.keep (fun _ _ h => h) (.keep (fun _ _ h => h) (.drop (.keep (fun _ _ h => h) (.keep (fun _ _ h => h) (.keep (fun _ _ h => h) (.keep (fun _ _ h => h) (.keep (fun _ _ h => h) (.nil)))))))))) ?_)
    clear hKK_15 hcK_15 K_15
    refine d_eff 10 rfl (by kernel_rfl) (fun K_16 hKK_16 hcK_16 => ?_)
    refine r_append (k := 3) (k2 := 0) .none rfl Try.underlying33 el3 rfl (by decide) rfl rfl rfl rfl rfl (one_lit rfl rfl) (by simp only [maxLen]; omega) (by omega) (fun v_17 => ?_)
    refine r_row1 (k := 3) rfl (fun o_18 => ?_)
    refine r_nil (e_d (i := 10) (brk := (fun j => [13].contains j)) (ph' := true) hKK_16 hcK_16 rfl (fun _ => GLe.refl _) (fun _ => .drop (.keep (fun _ _ h => h) (.keep (fun _ _ h => h) (.drop (.keep (fun _ _ h => h) (.keep (fun _ _ h => h) (.keep (fun _ _ h => h) (.keep (fun _ _ h => h) (.keep (fun _ _ h => h) (.nil)))))))))) ?_)
    clear hKK_16 hcK_16 K_16
    refine d_val1 11 rfl rfl (by kernel_rfl) (fun j hj => by have h : 13 < j := (Nat.lt_of_lt_of_le (by decide : 13 < 14) hj); simp; omega) .none rfl (p_nilcheck rfl) ?_
    refine d_val1 12 rfl rfl (by kernel_rfl) (fun j hj => by have h : 13 < j := (Nat.lt_of_lt_of_le (by decide : 13 < 14) hj); simp; omega) .none rfl (p_field Try.underlying71 rfl sz33 rfl) ?_
    refine d_eff 13 rfl (by kernel_rfl) (fun K_19 hKK_19 hcK_19 => ?_)
    refine r_st (k := 1) .none sz33 rfl rfl o_18 rfl (by first | exact of_decide_eq_true rfl | omega) ?_
    refine r_nil (e_d (i := 13) (brk := (fun j => [13].contains j)) (ph' := false) hKK_19 hcK_19 rfl (fun h => by cases h) (fun h => by cases h) ?_)
    clear hKK_19 hcK_19 K_19
    refine d_nil (by kernel_rfl) ?_
    refine e_next ?_
    refine c_seq ?_
    refine c_region ?_
    refine r_front (k := 4) rfl ?_
    refine r_front (k := 4) rfl ?_
    refine r_front (k := 4) rfl ?_
    refine r_front (k := 4) rfl ?_
    refine r_conv (B := box bxz 13 71 (at_ (ndC { xz with outer := xz.outer ++ [s.last + 1] } kvz v_17))) (k := 0) rfl (fun _ _ h => box_congr (fun i hi => by match i, hi with | 0, _ => rfl | 1, _ => rfl | 2, _ => rfl | 3, _ => rfl | 4, _ => rfl | 5, _ => rfl | 6, _ => rfl | 7, _ => rfl | 8, _ => rfl | 9, _ => rfl | 10, _ => rfl | 11, _ => rfl | 12, _ => rfl) _ _ h) ?_
    refine r_conv (B := rowA v_17 3 1 (xz.outer ++ [s.last + 1]).length ((xz.outer ++ [s.last + 1]).flatMap cI)) (k := 2) rfl (fun _ _ h => rowA_snoc rfl rfl rfl rfl _ _ h) ?_
    dsimp only [List.set_cons_zero, List.set_cons_succ]
    refine r_ndBack (x := { xz with outer := xz.outer ++ [s.last + 1] }) hMz ?_
    refine r_conv (B := mapA z2 kI veN2 (mput (mput (mput (mput l (s.last + 1) (b_2, Value.slice none 0 0, Value.slice none 0 0, (mkN s id x (c2, u_6a, u_6b) 0))) id (bx, v_11, ov, (mkX s x))) (s.last + 1) (b_2, Value.slice none 0 0, Value.slice none 0 0, (mkN s id x (c2, u_6a, u_6b) (find R (a ++ c2.subs))))) (find R (a ++ c2.subs)) (bxz, kvz, v_17, { xz with outer := xz.outer ++ [s.last + 1] }))) (k := 3) rfl (fun _ _ h => mapA_retell (v := (bxz, kvz, v_17, { xz with outer := xz.outer ++ [s.last + 1] })) hMz rfl h) ?_
    dsimp only [List.set_cons_zero, List.set_cons_succ]
    refine r_val .none rfl (p_move rfl) ?_
    refine r_val .none rfl (p_nilcheck rfl) ?_
    refine r_val .none rfl (p_field Try.underlying74 rfl sz3 rfl) ?_
    refine r_val .none rfl (p_ld (k := 2) Try.underlying3 rfl rfl rfl (by first | exact of_decide_eq_true rfl | omega) (rfl : _ = Value.int _ _)) ?_
    refine r_val .none rfl (p_assign rfl) ?_
    refine r_nil ?_
    refine e_next ?_
    refine c_ret ?_
    refine e_front (k := 3) rfl ?_
    refine e_front (k := 3) rfl ?_
    refine e_ret1 Try.results34 (.tmp rfl .nil) (fun w hm => ⟨_, ⟨(mkL3 s id x (c2, u_6a, u_6b) (find R (a ++ c2.subs)) xz), s.last + 1⟩, hn_3, hm.has, ⟨rfl, (mk_ncc (st := (c2, u_6a, u_6b)) hT ha hNs hF hk (z := xz) (by show lkp (mput _ _ _) (find R (a ++ c2.subs)) = _; rw [← hl2, lkp_mput, if_neg (by omega)]; exact hz1)), (StS.put (ls := s.last + 1) (StS.put (ls := s.last + 1) hst2 (show StAt _ (c2, u_6a, u_6b) from ⟨u_6s, u_6t, hsz⟩)) (show StAt _ xz.st from hst2.get (by rw [← hl2]; exact hz1)))⟩, hm.keptG [box p 2 74 (at_ (trC (KS.mk (mput (mput (mput (mput l (s.last + 1) (b_2, Value.slice none 0 0, Value.slice none 0 0, (mkN s id x (c2, u_6a, u_6b) 0))) id (bx, v_11, ov, (mkX s x))) (s.last + 1) (b_2, Value.slice none 0 0, Value.slice none 0 0, (mkN s id x (c2, u_6a, u_6b) (find R (a ++ c2.subs))))) (find R (a ++ c2.subs)) (bxz, kvz, v_17, { xz with outer := xz.outer ++ [s.last + 1] })) (s.last + 1)) z2)), mapA z2 kI veN2 (mput (mput (mput (mput l (s.last + 1) (b_2, Value.slice none 0 0, Value.slice none 0 0, (mkN s id x (c2, u_6a, u_6b) 0))) id (bx, v_11, ov, (mkX s x))) (s.last + 1) (b_2, Value.slice none 0 0, Value.slice none 0 0, (mkN s id x (c2, u_6a, u_6b) (find R (a ++ c2.subs))))) (find R (a ++ c2.subs)) (bxz, kvz, v_17, { xz with outer := xz.outer ++ [s.last + 1] })), hoard (FK (nkD 71 3)) ((mput (mput (mput (mput l (s.last + 1) (b_2, Value.slice none 0 0, Value.slice none 0 0, (mkN s id x (c2, u_6a, u_6b) 0))) id (bx, v_11, ov, (mkX s x))) (s.last + 1) (b_2, Value.slice none 0 0, Value.slice none 0 0, (mkN s id x (c2, u_6a, u_6b) (find R (a ++ c2.subs))))) (find R (a ++ c2.subs)) (bxz, kvz, v_17, { xz with outer := xz.outer ++ [s.last + 1] })))] (.keep (fun _ _ h => box_congr (fun i hi => by match i, hi with | 0, _ => rfl | 1, _ => rfl) _ _ h) (.keep (fun _ _ h => h) (.keep (fun _ _ h => h) (.drop (.drop (.drop (.nil))))))) (trE (nkD 71 3) 74 p (KS.mk (mkL3 s id x (c2, u_6a, u_6b) (find R (a ++ c2.subs)) xz) (s.last + 1))) (fun F' h => trE_mk3 z2 (show (mkL3 s id x (c2, u_6a, u_6b) (find R (a ++ c2.subs)) xz) = eraK (mput (mput (mput (mput l (s.last + 1) (b_2, Value.slice none 0 0, Value.slice none 0 0, (mkN s id x (c2, u_6a, u_6b) 0))) id (bx, v_11, ov, (mkX s x))) (s.last + 1) (b_2, Value.slice none 0 0, Value.slice none 0 0, (mkN s id x (c2, u_6a, u_6b) (find R (a ++ c2.subs))))) (find R (a ++ c2.subs)) (bxz, kvz, v_17, { xz with outer := xz.outer ++ [s.last + 1] })) by rw [eraK_mput, eraK_mput, hl2]; rfl) h)⟩)
    )
 ·
  have hk : ¬ c2.h.k = 3 := h_14
  first
   | (exfalso; omega)
   | (
    refine c_cond_f rfl ?_
    refine c_skip ?_
    refine e_next ?_
    refine c_seq ?_
    refine c_region ?_
    refine r_val .none rfl (p_move rfl) ?_
    refine r_val .none rfl (p_nilcheck rfl) ?_
    refine r_val .none rfl (p_field Try.underlying74 rfl sz3 rfl) ?_
    refine r_val .none rfl (p_ld (k := 3) Try.underlying3 rfl rfl rfl (by first | exact of_decide_eq_true rfl | omega) (rfl : _ = Value.int _ _)) ?_
    refine r_val .none rfl (p_assign rfl) ?_
    refine r_nil ?_
    refine e_next ?_
    refine c_ret ?_
    refine e_front (k := 4) rfl ?_
    refine e_front (k := 4) rfl ?_
    refine e_ret1 Try.results34 (.tmp rfl .nil) (fun w hm => ⟨_, ⟨(mkL s id x (c2, u_6a, u_6b)), s.last + 1⟩, hn_3, hm.has, ⟨rfl, (mk_other (st := (c2, u_6a, u_6b)) hT ha hNs hF hk), hst2⟩, hm.keptG [box p 2 74 (at_ (trC (KS.mk (mput (mput l (s.last + 1) (b_2, Value.slice none 0 0, Value.slice none 0 0, (mkN s id x (c2, u_6a, u_6b) 0))) id (bx, v_11, ov, (mkX s x))) (s.last + 1)) z)), mapA z kI veN2 (mput (mput l (s.last + 1) (b_2, Value.slice none 0 0, Value.slice none 0 0, (mkN s id x (c2, u_6a, u_6b) 0))) id (bx, v_11, ov, (mkX s x))), hoard (FK (nkD 71 3)) ((mput (mput l (s.last + 1) (b_2, Value.slice none 0 0, Value.slice none 0 0, (mkN s id x (c2, u_6a, u_6b) 0))) id (bx, v_11, ov, (mkX s x))))] (.keep (fun _ _ h => box_congr (fun i hi => by match i, hi with | 0, _ => rfl | 1, _ => rfl) _ _ h) (.keep (fun _ _ h => h) (.keep (fun _ _ h => h) (.drop (.drop (.nil)))))) (trE (nkD 71 3) 74 p (KS.mk (mkL s id x (c2, u_6a, u_6b)) (s.last + 1))) (fun F' h => trE_mk3 z hl2.symm h)⟩)
    )
end Go.Proofs.Ytdkfdncbldngdaa
