/- Texts of this work, laid together: a logic of steps, plain laws, and walks of Go functions, each without a condition but those that its theorems name. -/
import Derived.Test.YtdkfdncbldngdaaKTriePlays5
import Derived.Test.YtdkfdncbldngdaaRows
/- Walks: what Go functions of this chapter come to, each as a function on plain data; no condition but those that each theorem names. Printed by a program of this work (gen.py). -/
namespace Go.Proofs.Ytdkfdncbldngdaa
open Go.Gx Go.Gx.T16 Go.Gx.T8 Go.Gx.T6 Go.Gx.T4 Go.Gx.T3 Go.Gx.T4 Go.Gx.T3 Go.Gx.T6 Go.Gx.T8 Go.Gx.T4 Go.Gx.T3 Go.Gx.T8 Go.Gx.T4 Go.Gx.T3 Go.Gx.T8 Go.Gx.T6 Go.Gx.T4 Go.Gx.T3
theorem cl21 : Callable Try.prog 21 := callable Try.func21 (by kernel_rfl) rfl
theorem cl48 : Callable Try.prog 48 := callable Try.func48 (by kernel_rfl) rfl
theorem cl50 : Callable Try.prog 50 := callable Try.func50 (by kernel_rfl) rfl
theorem cl51 : Callable Try.prog 51 := callable Try.func51 (by kernel_rfl) rfl
theorem cl52 : Callable Try.prog 52 := callable Try.func52 (by kernel_rfl) rfl
theorem cl53 : Callable Try.prog 53 := callable Try.func53 (by kernel_rfl) rfl
theorem cl54 : Callable Try.prog 54 := callable Try.func54 (by kernel_rfl) rfl
theorem cl56 : Callable Try.prog 56 := callable Try.func56 (by kernel_rfl) rfl
set_option maxHeartbeats 4000000 in
set_option maxRecDepth 100000 in
theorem c_same16 {F : Nat → Prop} {G : Ghost} (p b : Nat) (va vb vc : Value) (l : NL) (lt : Int) (ls : List (List ST × Value)) (iv : List IV) (hV : Seen 71 3 G l (RV ls iv)) (hX : RSeen G b va vb vc ls iv) (hLS : StC G ls) (hCS : StC G (iv.map Prod.fst)) (hnl : ls.length ≤ 1000 ∧ iv.length ≤ 4000) (hn9 : iv.length ≤ 900) (hlz : ∀ q ∈ ls, sszL q.1 ≤ 4000) (hcz : ∀ id c, getR (RV ls iv) id = some c → sszL c ≤ 2000) (hnR : ∀ id, ((gP (eraK l) id).getD pn0) = nR (RV ls iv) id) (hlen : l.length = (all (RV ls iv)).length) (hsrt : sortI (l.map Prod.fst) = all (RV ls iv)) (hwf : ∀ q ∈ l, (Lit.int .i64 q.1).wf = true) (w : World) (hG : Has G w) (hA : (trR 74 p (KS.mk l lt)).holds w F) (hFG : ∀ b, F b → G b = none) :
    Calls Try.prog 26 #[Value.pointer (some ⟨p, 0, none⟩), Value.pointer (some ⟨b, 0, none⟩)] w (Ret fun r w' => r = Value.bool true ∧ Kept (trR 74 p (KS.mk l lt)) F w w') := by
 refine enterO (args := [_, _]) (G := G) (A := trR 74 p (KS.mk l lt)) (l := [(0, Value.pointer (some ⟨p, 0, none⟩)), (1, Value.pointer (some ⟨b, 0, none⟩))]) Try.func26 rfl Try.ntmps26 hG hA hFG ⟨rfl, rfl, trivial⟩ (Nat.le_of_ble_eq_true rfl) ?_
 obtain ⟨hR, hL, hC, hO⟩ := hX
 have hvl : (iv.map Prod.fst).length = iv.length := List.length_map _
 have hol : (iv.map Prod.snd).length = iv.length := List.length_map _
 have hil : (RV ls iv).its.length = iv.length := itsV_len iv
 have hal : (all (RV ls iv)).length ≤ iv.length + 1 := by (unfold all; rw [List.length_cons]; have h9 := numsF_len (fun _ => true) (RV ls iv).its 2; omega)
 have hClo := hV.clo
 refine c_seq (c_region (r_val .none rfl (p_assign rfl) (r_nil (e_next ?_))))
 refine c_seq (c_region (r_val .none rfl (p_move rfl) ?_))
 refine r_callrow (vs := [_]) .none rfl cl48 rfl (fun w hw => c_rall16 b va vb vc ls iv ⟨hR, hL, hC, hO⟩ hLS hCS hnl w hw) (fun r_1 => ?_)
 refine r_freeze (k := 0) rfl (fun G_2 hn_3 hs_4 => ?_)
 replace hV := hV.mono hn_3.le
 replace hLS := StC.mono hLS hn_3.le
 replace hCS := StC.mono hCS hn_3.le
 replace hR := hR.mono hn_3.le
 replace hL := hL.mono hn_3.le
 replace hC := hC.mono hn_3.le
 replace hO := hO.mono hn_3.le
 have hall : SlL G_2 r_1 1 cI (0 : Int) (all (RV ls iv)) := SlL.of (cells := cI) (0 : Int) (fun _ => rfl) rfl hs_4
 refine r_val .none rfl (p_assign rfl) (r_nil (e_next (c_seq (c_seq ?_))))
 refine c_region (r_val .none rfl (p_move rfl) ?_)
 refine r_callo (k := 0) (vs := [_]) .none rfl cl15 rfl rfl (fun w F hw hA hFG => c_klen _ _ _ _ hV w hw hA hFG) ?_
 refine r_val .none rfl (p_move rfl) ?_
 refine r_val .none rfl (p_leng Try.underlying33 rfl hall) ?_
 have bd_5 := (hall).bound
 refine r_val .none rfl (p_ne rfl rfl) ?_
 refine r_say (d := 23) (v := Value.bool false) (congrArg (fun z => some (Value.bool z)) (decide_eq_false (fun h9 => h9 (by rw [hlen])))) ?_
 refine r_val .none rfl (p_move rfl) ?_
 refine r_val (.some rfl rfl) rfl (p_move rfl) ?_
 refine r_callor (k := 0) (vs := [_]) (.some rfl rfl) rfl cl21 rfl rfl (fun w F hw hA hFG => (by have h9 := c_kall _ l _ _ hV hwf (by omega) w hw hA hFG; rw [hsrt] at h9; exact h9)) (fun r_6 => ?_)
 refine r_unpack ?_
 refine r_freeze (k := 0) rfl (fun G_7 hn_8 hs_9 => ?_)
 replace hV := hV.mono hn_8.le
 replace hLS := StC.mono hLS hn_8.le
 replace hCS := StC.mono hCS hn_8.le
 replace hR := hR.mono hn_8.le
 replace hL := hL.mono hn_8.le
 replace hC := hC.mono hn_8.le
 replace hO := hO.mono hn_8.le
 replace hall := hall.mono hn_8.le
 have hal1 : SlL G_7 r_6 1 cI (0 : Int) (all (RV ls iv)) := SlL.of (cells := cI) (0 : Int) (fun _ => rfl) rfl hs_9
 refine r_val (.some rfl rfl) rfl (p_move rfl) ?_
 refine r_call (vs := [_, _]) (.some rfl rfl) rfl cl23 rfl (fun w hw => c_ints15 _ _ _ _ hal1 hall w hw) ?_
 refine r_say (d := 28) (v := Value.bool true) (congrArg (fun z => some (Value.bool z)) (decide_eq_true rfl)) ?_
 refine r_val (.some rfl rfl) rfl (p_not rfl) ?_
 refine r_say (d := 29) (v := Value.bool false) rfl ?_
 refine r_val .none rfl (p_pick_f rfl rfl) ?_
 refine r_nil (e_next (c_cond_f rfl (c_skip (e_next ?_))))
 refine c_seq (c_seq (c_region (r_val .none rfl (p_assign rfl) (r_nil ?_))))
 refine e_next (c_block ?_)
 refine c_name (d := 0) rfl (fun u_10 hu_10 => ?_)
 refine c_name (d := 1) rfl (fun u_11 hu_11 => ?_)
 refine c_name (d := 5) rfl (fun u_12 hu_12 => ?_)
 refine c_nameL (k := 0) rfl (fun A_13 hA_13 => ?_)
 refine c_loop (σ := Nat × Ghost) (fun s' => [(6, Value.int .i64 (s'.1 : Nat)), (0, u_10), (1, u_11), (5, u_12)]) (fun s' => [A_13]) (fun s' => s'.2) (fun s' => s'.1 ≤ iv.length + 3 ∧ GNew w F G_7 s'.2) (fun s' => iv.length + 3 - s'.1) ((0, _)) ⟨Nat.zero_le _, GNew.refl _ _ _⟩ rfl ⟨rfl, rfl, rfl, rfl, trivial⟩ (.keep (fun _ _ h => h) (.nil)) (fun s' hphi => ?_)
 subst hu_10
 subst hu_11
 subst hu_12
 subst hA_13
 obtain ⟨n, H⟩ := s'
 obtain ⟨hi, hgn⟩ := hphi
 dsimp only at hi hgn ⊢
 replace hV := hV.mono hgn.le
 replace hLS := StC.mono hLS hgn.le
 replace hCS := StC.mono hCS hgn.le
 replace hR := hR.mono hgn.le
 replace hL := hL.mono hgn.le
 replace hC := hC.mono hgn.le
 replace hO := hO.mono hgn.le
 replace hall := hall.mono hgn.le
 replace hal1 := hal1.mono hgn.le
 refine c_seq (c_seq (c_region (r_val .none rfl (p_move rfl) (r_val .none rfl (p_move rfl) ?_))))
 refine r_val .none rfl (p_nilcheck rfl) ?_
 refine r_val .none rfl (p_field Try.underlying61 rfl sz26 rfl) ?_
 refine r_val .none rfl (p_ldg (j := 1) Try.underlying26 rfl rfl hR (by first | exact odt rfl | omega) rfl) ?_
 refine r_val .none rfl (p_leng Try.underlying26 rfl hC) ?_
 have bd_14 := (hC).bound
 refine r_val .none rfl (p_add rfl rfl (by omega)) ?_
 refine r_val .none rfl (p_le rfl rfl) ?_
 refine r_nil (e_next ?_)
 refine c_splitd (d := 38) rfl (fun h_15 => ?_) (fun h_15 => ?_)
 · (
 first
 | (exfalso; first | omega | assumption)
 | (
 refine c_cond_t rfl (c_skip (e_next (c_seq (c_block ?_))))
 refine c_seq (c_region (r_val .none rfl (p_move rfl) (r_val .none rfl (p_move rfl) ?_)))
 cases hg : getR (RV ls iv) (n : Nat) with
 | none => (
 have hgp : ((gP (eraK l) (n : Nat)).getD pn0) = pn0 := by rw [hnR]; exact nR_none hg
 have hp0 : pn0.par = 0 := rfl
 have hd0 : pn0.dep = 0 := rfl
 have hi0 : pn0.inn = 0 := rfl
 refine r_call (vs := [_, _]) .none rfl cl49 rfl (fun w hw => c_rchN b va vb vc ls iv (n : Nat) ⟨hR, hL, hC, hO⟩ hLS hCS hnl hg (by omega) w hw) ?_
 refine r_val .none rfl (p_move rfl) ?_
 refine r_val .none rfl (p_extract rfl rfl) ?_
 refine r_val .none rfl (p_extract rfl rfl) ?_
 refine r_val .none rfl (p_assign rfl) (r_val .none rfl (p_assign rfl) (r_nil (e_next (c_seq ?_))))
 refine c_region (r_val .none rfl (p_move rfl) (r_val .none rfl (p_move rfl) ?_))
 refine r_callom (k := 0) (vs := [_, _]) .none rfl cl50 rfl rfl (fun w F hw hA hFG => (by have h9 := c_kstep _ (n : Nat) sZ l _ _ hV (by rw [hgp]) w hw hA hFG; rw [hgp] at h9; exact h9)) (fun G_16 v_19 hn_17 hr_18 => ?_)
 replace hV := hV.mono hn_17.le
 replace hLS := StC.mono hLS hn_17.le
 replace hCS := StC.mono hCS hn_17.le
 replace hR := hR.mono hn_17.le
 replace hL := hL.mono hn_17.le
 replace hC := hC.mono hn_17.le
 replace hO := hO.mono hn_17.le
 replace hall := hall.mono hn_17.le
 replace hal1 := hal1.mono hn_17.le
 obtain ⟨u_20a, u_20b, rfl, u_20s, u_20t⟩ := hr_18
 refine r_val .none rfl (p_move rfl) ?_
 refine r_val .none rfl (p_extract rfl rfl) ?_
 refine r_val .none rfl (p_extract rfl rfl) ?_
 refine r_alloc .none rfl zr50 (IsRow.lit _) (fun b_1 => ?_)
 refine r_stw (k := 0) .none sz50 rfl rfl (IsRow.lit _) (one_lit rfl (all_cons rfl (all_cons rfl (all_cons rfl (all_cons rfl (all_cons (u_20s).one (all_cons (u_20t).one rfl))))))) rfl ?_
 refine r_val .none rfl (p_assign rfl) (r_nil (e_next (c_seq (c_seq ?_))))
 refine c_region (r_val .none rfl (p_move rfl) ?_)
 refine r_val .none rfl (p_not rfl) ?_
 refine r_say (d := 54) (v := Value.bool true) rfl ?_
 refine r_val .none rfl (p_move rfl) ?_
 refine r_skip rfl (.no rfl rfl) ?_
 refine r_skip rfl (.no rfl rfl) ?_
 refine r_skip rfl (.no rfl rfl) ?_
 refine r_val .none rfl (p_pick_t rfl rfl) ?_
 refine r_nil (e_next (c_cond_t rfl (c_seq (c_region ?_))))
 refine r_val .none rfl (p_move rfl) ?_
 refine r_say (d := 60) (v := Value.bool false) (congrArg (fun z => some (Value.bool z)) (decide_eq_false (by decide))) ?_
 refine r_val .none rfl (p_move rfl) ?_
 refine r_val (.some rfl rfl) rfl (p_move rfl) ?_
 refine r_val (.some rfl rfl) rfl (p_move rfl) ?_
 refine r_callo (k := 1) (vs := [_, _]) (.some rfl rfl) rfl cl51 rfl rfl (fun w F hw hA hFG => (by have h9 := c_kpar _ (n : Nat) l _ _ hV w hw hA hFG; rw [hgp] at h9; exact h9)) ?_
 refine r_val (.some rfl rfl) rfl (p_ne rfl rfl) ?_
 refine r_say (d := 65) (v := Value.bool false) (congrArg (fun z => some (Value.bool z)) (decide_eq_false (fun h9 => h9 hp0))) ?_
 refine r_val .none rfl (p_pick_f rfl rfl) ?_
 refine r_val .none rfl (p_move rfl) ?_
 refine r_val (.some rfl rfl) rfl (p_move rfl) ?_
 refine r_val (.some rfl rfl) rfl (p_move rfl) ?_
 refine r_callo (k := 1) (vs := [_, _]) (.some rfl rfl) rfl cl20 rfl rfl (fun w F hw hA hFG => (by have h9 := c_kdep _ (n : Nat) l _ _ hV w hw hA hFG; rw [hgp] at h9; exact h9)) ?_
 refine r_val (.some rfl rfl) rfl (p_ne rfl rfl) ?_
 refine r_say (d := 71) (v := Value.bool false) (congrArg (fun z => some (Value.bool z)) (decide_eq_false (fun h9 => h9 hd0))) ?_
 refine r_val .none rfl (p_pick_f rfl rfl) ?_
 refine r_val .none rfl (p_move rfl) ?_
 refine r_val (.some rfl rfl) rfl (p_move rfl) ?_
 refine r_val (.some rfl rfl) rfl (p_move rfl) ?_
 refine r_callo (k := 1) (vs := [_, _]) (.some rfl rfl) rfl cl52 rfl rfl (fun w F hw hA hFG => (by have h9 := c_kinn _ (n : Nat) l _ _ hV w hw hA hFG; rw [hgp] at h9; exact h9)) ?_
 refine r_val (.some rfl rfl) rfl (p_ne rfl rfl) ?_
 refine r_say (d := 77) (v := Value.bool false) (congrArg (fun z => some (Value.bool z)) (decide_eq_false (fun h9 => h9 hi0))) ?_
 refine r_val .none rfl (p_pick_f rfl rfl) ?_
 refine r_val .none rfl (p_move rfl) ?_
 refine r_val (.some rfl rfl) rfl (p_move rfl) ?_
 refine r_val (.some rfl rfl) rfl (p_not rfl) ?_
 refine r_say (d := 81) (v := Value.bool true) rfl ?_
 refine r_val (.some rfl rfl) rfl (p_move rfl) ?_
 refine r_val (.some rfl rfl) rfl (p_move rfl) ?_
 refine r_val (.some rfl rfl) rfl (p_move rfl) ?_
 refine r_callo (k := 1) (vs := [_, _]) (.some rfl rfl) rfl cl19 rfl rfl (fun w F hw hA hFG => (by have h9 := c_kuses _ (n : Nat) l _ _ hV w hw hA hFG; rw [hgp] at h9; exact h9)) ?_
 refine r_val (.some rfl rfl) rfl (p_ne rfl rfl) ?_
 refine r_say (d := 86) (v := Value.bool false) (congrArg (fun z => some (Value.bool z)) (decide_eq_false (fun h9 => h9 rfl))) ?_
 refine r_val (.some rfl rfl) rfl (p_move rfl) ?_
 refine r_val (.some rfl rfl) rfl (p_move rfl) ?_
 refine r_val (.some rfl rfl) rfl (p_move rfl) ?_
 refine r_front (k := 1) rfl ?_
 refine r_callor (k := 0) (vs := [_, _]) (.some rfl rfl) rfl cl53 rfl rfl (fun w F hw hA hFG => (by have h9 := c_kkids _ (n : Nat) l _ _ hV (by rw [hgp]; exact Nat.zero_le _) w hw hA hFG; rw [hgp] at h9; exact h9)) (fun r_21 => ?_)
 refine r_unpack ?_
 refine r_freeze (k := 0) rfl (fun G_22 hn_23 hs_24 => ?_)
 replace hV := hV.mono hn_23.le
 replace hLS := StC.mono hLS hn_23.le
 replace hCS := StC.mono hCS hn_23.le
 replace hR := hR.mono hn_23.le
 replace hL := hL.mono hn_23.le
 replace hC := hC.mono hn_23.le
 replace hO := hO.mono hn_23.le
 replace hall := hall.mono hn_23.le
 replace hal1 := hal1.mono hn_23.le
 replace u_20s := u_20s.mono hn_23.le
 replace u_20t := u_20t.mono hn_23.le
 have hkk9 : SlL G_22 r_21 1 cI (0 : Int) pn0.kids := SlL.of (cells := cI) (0 : Int) (fun _ => rfl) rfl hs_24
 refine r_val (.some rfl rfl) rfl (p_leng Try.underlying33 rfl hkk9) ?_
 have bd_25 := (hkk9).bound
 refine r_val (.some rfl rfl) rfl (p_ne rfl rfl) ?_
 refine r_say (d := 92) (v := Value.bool false) (congrArg (fun z => some (Value.bool z)) (decide_eq_false (fun h9 => h9 rfl))) ?_
 refine r_val (.some rfl rfl) rfl (p_pick_f rfl rfl) ?_
 refine r_val (.some rfl rfl) rfl (p_move rfl) ?_
 refine r_val (.some rfl rfl) rfl (p_move rfl) ?_
 refine r_val (.some rfl rfl) rfl (p_move rfl) ?_
 refine r_callor (k := 0) (vs := [_, _]) (.some rfl rfl) rfl cl54 rfl rfl (fun w F hw hA hFG => (by have h9 := c_kouter _ (n : Nat) l _ _ hV (by rw [hgp]; exact Nat.zero_le _) w hw hA hFG; rw [hgp] at h9; exact h9)) (fun r_26 => ?_)
 refine r_unpack ?_
 refine r_freeze (k := 0) rfl (fun G_27 hn_28 hs_29 => ?_)
 replace hV := hV.mono hn_28.le
 replace hLS := StC.mono hLS hn_28.le
 replace hCS := StC.mono hCS hn_28.le
 replace hR := hR.mono hn_28.le
 replace hL := hL.mono hn_28.le
 replace hC := hC.mono hn_28.le
 replace hO := hO.mono hn_28.le
 replace hall := hall.mono hn_28.le
 replace hal1 := hal1.mono hn_28.le
 replace u_20s := u_20s.mono hn_28.le
 replace u_20t := u_20t.mono hn_28.le
 replace hkk9 := hkk9.mono hn_28.le
 have hko9 : SlL G_27 r_26 1 cI (0 : Int) pn0.outer := SlL.of (cells := cI) (0 : Int) (fun _ => rfl) rfl hs_29
 refine r_val (.some rfl rfl) rfl (p_leng Try.underlying33 rfl hko9) ?_
 have bd_30 := (hko9).bound
 refine r_val (.some rfl rfl) rfl (p_ne rfl rfl) ?_
 refine r_say (d := 99) (v := Value.bool false) (congrArg (fun z => some (Value.bool z)) (decide_eq_false (fun h9 => h9 rfl))) ?_
 refine r_val (.some rfl rfl) rfl (p_pick_f rfl rfl) ?_
 refine r_val (.some rfl rfl) rfl (p_pick_t rfl rfl) ?_
 refine r_val .none rfl (p_pick_f rfl rfl) ?_
 refine r_nil (e_next (c_cond_f rfl (c_skip (e_next ?_))))
 refine c_seq (c_seq (c_region (r_val .none rfl (p_move rfl) ?_)))
 refine r_val .none rfl (p_not rfl) ?_
 refine r_say (d := 104) (v := Value.bool true) rfl ?_
 refine r_nil (e_next (c_cond_t rfl (c_exit (e_exit_then ?_))))
 refine e_exit_block ?_
 refine e_next (c_region (r_val .none rfl (p_move rfl) ?_))
 refine r_val .none rfl (p_add rfl rfl (by omega)) ?_
 refine r_val .none rfl (p_assign rfl) (r_nil ?_)
 refine e_round ((n + 1, _)) ⟨⟨by dsimp only; omega, (((hgn.trans hn_17).trans hn_23).trans hn_28)⟩, by dsimp only; omega⟩ rfl ⟨rfl, rfl, rfl, rfl, trivial⟩ (.keep (fun _ _ h => h) (.drop (.nil))))
 | some c => (
 have hgp : ((gP (eraK l) (n : Nat)).getD pn0) = ndR (RV ls iv) c := by rw [hnR]; exact nR_some hg
 have hcz9 : sszL c ≤ 2000 := hcz _ _ hg
 have hs0 := chV_ss hCS hg
 obtain ⟨rs, hr, hrt, hrs, hcl⟩ := hs0.inv
 have hcn : c.length = rs.length := by rw [hcl]; simp
 have hll := sszL_len c
 have hlz9 : ssz (c.getLastD sZ) ≤ 5000 := Nat.le_trans (last_small hcz9) (by omega)
 refine r_call (vs := [_, _]) .none rfl cl49 rfl (fun w hw => c_rchY b va vb vc ls iv (n : Nat) c ⟨hR, hL, hC, hO⟩ hLS hCS hnl hg (by omega) w hw) ?_
 refine r_val .none rfl (p_move rfl) ?_
 refine r_val .none rfl (p_extract rfl rfl) ?_
 refine r_val .none rfl (p_extract rfl rfl) ?_
 refine r_val .none rfl (p_assign rfl) (r_val .none rfl (p_assign rfl) (r_nil (e_next (c_seq ?_))))
 refine c_region (r_val .none rfl (p_move rfl) (r_val .none rfl (p_move rfl) ?_))
 refine r_callom (k := 0) (vs := [_, _]) .none rfl cl50 rfl rfl (fun w F hw hA hFG => (by have h9 := c_kstep _ (n : Nat) (c.getLastD sZ) l _ _ hV (by rw [hgp]; rfl) w hw hA hFG; rw [hgp] at h9; exact h9)) (fun G_31 v_34 hn_32 hr_33 => ?_)
 replace hV := hV.mono hn_32.le
 replace hLS := StC.mono hLS hn_32.le
 replace hCS := StC.mono hCS hn_32.le
 replace hR := hR.mono hn_32.le
 replace hL := hL.mono hn_32.le
 replace hC := hC.mono hn_32.le
 replace hO := hO.mono hn_32.le
 replace hall := hall.mono hn_32.le
 replace hal1 := hal1.mono hn_32.le
 replace hs0 := hs0.mono hn_32.le
 replace hr := hr.mono hn_32.le
 replace hrt := fun p hm0 => (hrt p hm0).mono hn_32.le
 replace hrs := fun p hm0 => (hrs p hm0).mono hn_32.le
 obtain ⟨u_35a, u_35b, rfl, u_35s, u_35t⟩ := hr_33
 refine r_val .none rfl (p_move rfl) ?_
 refine r_val .none rfl (p_extract rfl rfl) ?_
 refine r_val .none rfl (p_extract rfl rfl) ?_
 refine r_alloc .none rfl zr50 (IsRow.lit _) (fun b_2 => ?_)
 refine r_stw (k := 0) .none sz50 rfl rfl (IsRow.lit _) (one_lit rfl (all_cons rfl (all_cons rfl (all_cons rfl (all_cons rfl (all_cons (u_35s).one (all_cons (u_35t).one rfl))))))) rfl ?_
 refine r_val .none rfl (p_assign rfl) (r_nil (e_next (c_seq (c_seq ?_))))
 refine c_region (r_val .none rfl (p_move rfl) ?_)
 refine r_val .none rfl (p_not rfl) ?_
 refine r_say (d := 54) (v := Value.bool false) rfl ?_
 refine r_val .none rfl (p_move rfl) ?_
 refine r_val (.some rfl rfl) rfl (p_move rfl) ?_
 refine r_val (.some rfl rfl) rfl (p_leng Try.underlying29 rfl hr) ?_
 have bd_36 := (hr).bound
 refine r_val (.some rfl rfl) rfl (p_eq rfl rfl) ?_
 refine r_val .none rfl (p_pick_f rfl rfl) ?_
 refine r_nil (e_next ?_)
 refine c_splitd (d := 59) rfl (fun h_37 => ?_) (fun h_37 => ?_)
 · (
 have he0 : c.length = 0 := by (have h9 := h_37; omega)
 have hp0 : (ndR (RV ls iv) c).par = 0 := par_nil he0
 have hd0 : (ndR (RV ls iv) c).dep = 0 := by (show (c.length : Int) = 0; omega)
 have hi0 : (ndR (RV ls iv) c).inn = 0 := inner_len0 he0
 first
 | (exfalso; first | omega | assumption)
 | (
 refine c_cond_t rfl (c_seq (c_region (r_val .none rfl (p_move rfl) ?_)))
 refine r_say (d := 60) (v := Value.bool false) (congrArg (fun z => some (Value.bool z)) (decide_eq_false (by omega))) ?_
 refine r_val .none rfl (p_move rfl) ?_
 refine r_val (.some rfl rfl) rfl (p_move rfl) ?_
 refine r_val (.some rfl rfl) rfl (p_move rfl) ?_
 refine r_callo (k := 1) (vs := [_, _]) (.some rfl rfl) rfl cl51 rfl rfl (fun w F hw hA hFG => (by have h9 := c_kpar _ (n : Nat) l _ _ hV w hw hA hFG; rw [hgp] at h9; exact h9)) ?_
 refine r_val (.some rfl rfl) rfl (p_ne rfl rfl) ?_
 refine r_say (d := 65) (v := Value.bool false) (congrArg (fun z => some (Value.bool z)) (decide_eq_false (fun h9 => h9 hp0))) ?_
 refine r_val .none rfl (p_pick_f rfl rfl) ?_
 refine r_val .none rfl (p_move rfl) ?_
 refine r_val (.some rfl rfl) rfl (p_move rfl) ?_
 refine r_val (.some rfl rfl) rfl (p_move rfl) ?_
 refine r_callo (k := 1) (vs := [_, _]) (.some rfl rfl) rfl cl20 rfl rfl (fun w F hw hA hFG => (by have h9 := c_kdep _ (n : Nat) l _ _ hV w hw hA hFG; rw [hgp] at h9; exact h9)) ?_
 refine r_val (.some rfl rfl) rfl (p_ne rfl rfl) ?_
 refine r_say (d := 71) (v := Value.bool false) (congrArg (fun z => some (Value.bool z)) (decide_eq_false (fun h9 => h9 hd0))) ?_
 refine r_val .none rfl (p_pick_f rfl rfl) ?_
 refine r_val .none rfl (p_move rfl) ?_
 refine r_val (.some rfl rfl) rfl (p_move rfl) ?_
 refine r_val (.some rfl rfl) rfl (p_move rfl) ?_
 refine r_callo (k := 1) (vs := [_, _]) (.some rfl rfl) rfl cl52 rfl rfl (fun w F hw hA hFG => (by have h9 := c_kinn _ (n : Nat) l _ _ hV w hw hA hFG; rw [hgp] at h9; exact h9)) ?_
 refine r_val (.some rfl rfl) rfl (p_ne rfl rfl) ?_
 refine r_say (d := 77) (v := Value.bool false) (congrArg (fun z => some (Value.bool z)) (decide_eq_false (fun h9 => h9 hi0))) ?_
 refine r_val .none rfl (p_pick_f rfl rfl) ?_
 refine r_val .none rfl (p_move rfl) ?_
 refine r_val (.some rfl rfl) rfl (p_move rfl) ?_
 refine r_val (.some rfl rfl) rfl (p_not rfl) ?_
 refine r_say (d := 81) (v := Value.bool false) rfl ?_
 refine r_val (.some rfl rfl) rfl (p_move rfl) ?_
 refine r_skip rfl (.no rfl rfl) ?_
 refine r_skip rfl (.no rfl rfl) ?_
 refine r_skip rfl (.no rfl rfl) ?_
 refine r_skip rfl (.no rfl rfl) ?_
 refine r_skip rfl (.no rfl rfl) ?_
 refine r_skip rfl (.un rfl rfl) ?_
 refine r_skip rfl (.un rfl rfl) ?_
 refine r_skip rfl (.un rfl rfl) ?_
 refine r_skip rfl (.un rfl rfl) ?_
 refine r_skip rfl (.un rfl rfl) ?_
 refine r_skip rfl (.no rfl rfl) ?_
 refine r_skip rfl (.no rfl rfl) ?_
 refine r_skip rfl (.un rfl rfl) ?_
 refine r_skip rfl (.un rfl rfl) ?_
 refine r_skip rfl (.un rfl rfl) ?_
 refine r_skip rfl (.un rfl rfl) ?_
 refine r_skip rfl (.un rfl rfl) ?_
 refine r_skip rfl (.no rfl rfl) ?_
 refine r_val (.some rfl rfl) rfl (p_pick_f rfl rfl) ?_
 refine r_val .none rfl (p_pick_f rfl rfl) ?_
 refine r_nil (e_next (c_cond_f rfl (c_skip (e_next ?_))))
 refine c_seq (c_seq (c_region (r_val .none rfl (p_move rfl) ?_)))
 refine r_val .none rfl (p_not rfl) ?_
 refine r_say (d := 104) (v := Value.bool false) rfl ?_
 refine r_nil (e_next (c_cond_f rfl (c_skip (e_next ?_))))
 refine c_seq (c_seq ?_)
 have hrG := hr
 refine c_region_d (fun _ => false) _ mixed (.keep (fun _ _ h => h) (.keep (fun _ _ h => h) (.nil))) ?_
 refine d_val1 0 rfl rfl (by kernel_rfl) (fun _ _ => rfl) .none rfl (p_move rfl) ?_
 refine d_val1 1 rfl rfl (by kernel_rfl) (fun _ _ => rfl) .none rfl (p_leng Try.underlying29 rfl hr) ?_
 have bd_38 := (hr).bound
 refine d_val1 2 rfl rfl (by kernel_rfl) (fun _ _ => rfl) .none rfl (p_gt rfl rfl) ?_
 refine d_say (d := 107) (v := Value.bool false) (congrArg (fun z => some (Value.bool z)) (decide_eq_false (by omega))) ?_
 refine d_val1 3 rfl rfl (by kernel_rfl) (fun _ _ => rfl) .none rfl (p_move rfl) ?_
 refine d_skip1 4 rfl rfl (by kernel_rfl) (fun _ _ => rfl) rfl (.no rfl rfl) ?_
 refine d_skip1 5 rfl rfl (by kernel_rfl) (fun _ _ => rfl) rfl (.no rfl rfl) ?_
 refine d_skip1 6 rfl rfl (by kernel_rfl) (fun _ _ => rfl) rfl (.no rfl rfl) ?_
 refine d_skip1 7 rfl rfl (by kernel_rfl) (fun _ _ => rfl) rfl (.un rfl rfl) ?_
 refine d_skip1 8 rfl rfl (by kernel_rfl) (fun _ _ => rfl) rfl (.un rfl rfl) ?_
 refine d_skip1 9 rfl rfl (by kernel_rfl) (fun _ _ => rfl) rfl (.un rfl rfl) ?_
 refine d_skip1 10 rfl rfl (by kernel_rfl) (fun _ _ => rfl) rfl (.un rfl rfl) ?_
 refine d_skip1 11 rfl rfl (by kernel_rfl) (fun _ _ => rfl) rfl (.un rfl rfl) ?_
 refine d_skip1 12 rfl rfl (by kernel_rfl) (fun _ _ => rfl) rfl (.un rfl rfl) ?_
 refine d_skip1 13 rfl rfl (by kernel_rfl) (fun _ _ => rfl) rfl (.un rfl rfl) ?_
 refine d_skip1 14 rfl rfl (by kernel_rfl) (fun _ _ => rfl) rfl (.un rfl rfl) ?_
 refine d_skip1 15 rfl rfl (by kernel_rfl) (fun _ _ => rfl) rfl (.un rfl rfl) ?_
 refine d_skip1 16 rfl rfl (by kernel_rfl) (fun _ _ => rfl) rfl (.un rfl rfl) ?_
 refine d_skip1 17 rfl rfl (by kernel_rfl) (fun _ _ => rfl) rfl (.no rfl rfl) ?_
 refine d_skip1 18 rfl rfl (by kernel_rfl) (fun _ _ => rfl) rfl (.no rfl rfl) ?_
 refine d_skip1 19 rfl rfl (by kernel_rfl) (fun _ _ => rfl) rfl (.un rfl rfl) ?_
 refine d_skip1 20 rfl rfl (by kernel_rfl) (fun _ _ => rfl) rfl (.un rfl rfl) ?_
 refine d_skip1 21 rfl rfl (by kernel_rfl) (fun _ _ => rfl) rfl (.un rfl rfl) ?_
 refine d_skip1 22 rfl rfl (by kernel_rfl) (fun _ _ => rfl) rfl (.un rfl rfl) ?_
 refine d_skip1 23 rfl rfl (by kernel_rfl) (fun _ _ => rfl) rfl (.un rfl rfl) ?_
 refine d_skip1 24 rfl rfl (by kernel_rfl) (fun _ _ => rfl) rfl (.un rfl rfl) ?_
 refine d_skip1 25 rfl rfl (by kernel_rfl) (fun _ _ => rfl) rfl (.un rfl rfl) ?_
 refine d_skip1 26 rfl rfl (by kernel_rfl) (fun _ _ => rfl) rfl (.un rfl rfl) ?_
 refine d_skip1 27 rfl rfl (by kernel_rfl) (fun _ _ => rfl) rfl (.un rfl rfl) ?_
 refine d_skip1 28 rfl rfl (by kernel_rfl) (fun _ _ => rfl) rfl (.un rfl rfl) ?_
 refine d_skip1 29 rfl rfl (by kernel_rfl) (fun _ _ => rfl) rfl (.un rfl rfl) ?_
 refine d_skip1 30 rfl rfl (by kernel_rfl) (fun _ _ => rfl) rfl (.no rfl rfl) ?_
 refine d_val1 31 rfl rfl (by kernel_rfl) (fun _ _ => rfl) .none rfl (p_pick_f rfl rfl) ?_
 refine d_nil (by kernel_rfl) ?_
 refine e_next (c_cond_f rfl (c_skip (e_next (c_seq ?_))))
 refine c_seq (c_region (r_val .none rfl (p_move rfl) (r_val .none rfl (p_move rfl) ?_)))
 refine r_callm (vs := [_]) .none rfl cl13 rfl (fun w hw => c_steps _ c (by omega) hs0 w hw) (fun G_39 v_42 hn_40 hr_41 => ?_)
 replace hV := hV.mono hn_40.le
 replace hLS := StC.mono hLS hn_40.le
 replace hCS := StC.mono hCS hn_40.le
 replace hR := hR.mono hn_40.le
 replace hL := hL.mono hn_40.le
 replace hC := hC.mono hn_40.le
 replace hO := hO.mono hn_40.le
 replace hall := hall.mono hn_40.le
 replace hal1 := hal1.mono hn_40.le
 replace hs0 := hs0.mono hn_40.le
 replace hr := hr.mono hn_40.le
 replace hrt := fun p hm0 => (hrt p hm0).mono hn_40.le
 replace hrs := fun p hm0 => (hrs p hm0).mono hn_40.le
 replace u_35s := u_35s.mono hn_40.le
 replace u_35t := u_35t.mono hn_40.le
 have hP9 := hr_41
 refine r_callo (k := 1) (vs := [_, _]) .none rfl cl18 rfl rfl (fun w F hw hA hFG => c_kfind _ _ c l _ _ hV hP9 w hw hA hFG) ?_
 refine r_val .none rfl (p_move rfl) ?_
 refine r_val .none rfl (p_ne rfl rfl) ?_
 refine r_say (d := 142) (v := Value.bool false) (congrArg (fun z => some (Value.bool z)) (decide_eq_false (fun h9 => h9 (find_of hClo hg)))) ?_
 refine r_val .none rfl (p_move rfl) ?_
 refine r_val (.some rfl rfl) rfl (p_move rfl) ?_
 refine r_val (.some rfl rfl) rfl (p_move rfl) ?_
 refine r_callo (k := 1) (vs := [_, _]) (.some rfl rfl) rfl cl20 rfl rfl (fun w F hw hA hFG => (by have h9 := c_kdep _ (n : Nat) l _ _ hV w hw hA hFG; rw [hgp] at h9; exact h9)) ?_
 refine r_val (.some rfl rfl) rfl (p_move rfl) ?_
 refine r_val (.some rfl rfl) rfl (p_leng Try.underlying29 rfl hr) ?_
 have bd_44 := (hr).bound
 refine r_val (.some rfl rfl) rfl (p_ne rfl rfl) ?_
 refine r_say (d := 149) (v := Value.bool false) (congrArg (fun z => some (Value.bool z)) (decide_eq_false (fun h9 => h9 (show (c.length : Int) = _ by omega)))) ?_
 refine r_val .none rfl (p_pick_f rfl rfl) ?_
 refine r_val .none rfl (p_move rfl) ?_
 refine r_val (.some rfl rfl) rfl (p_move rfl) ?_
 refine r_val (.some rfl rfl) rfl (p_move rfl) ?_
 refine r_callo (k := 1) (vs := [_, _]) (.some rfl rfl) rfl cl19 rfl rfl (fun w F hw hA hFG => (by have h9 := c_kuses _ (n : Nat) l _ _ hV w hw hA hFG; rw [hgp] at h9; exact h9)) ?_
 refine r_val (.some rfl rfl) rfl (p_move rfl) ?_
 refine r_val (.some rfl rfl) rfl (p_move rfl) ?_
 refine r_call (vs := [_, _]) (.some rfl rfl) rfl cl46 rfl (fun w hw => c_ruses16 b va vb vc ls iv _ c ⟨hR, hL, hC, hO⟩ hLS hCS hnl hs0 hlz w hw) ?_
 refine r_val (.some rfl rfl) rfl (p_ne rfl rfl) ?_
 refine r_say (d := 158) (v := Value.bool false) (congrArg (fun z => some (Value.bool z)) (decide_eq_false (fun h9 => h9 rfl))) ?_
 refine r_val .none rfl (p_pick_f rfl rfl) ?_
 refine r_val .none rfl (p_move rfl) ?_
 refine r_val (.some rfl rfl) rfl (p_move rfl) ?_
 refine r_val (.some rfl rfl) rfl (p_move rfl) ?_
 refine r_callo (k := 1) (vs := [_, _]) (.some rfl rfl) rfl cl52 rfl rfl (fun w F hw hA hFG => (by have h9 := c_kinn _ (n : Nat) l _ _ hV w hw hA hFG; rw [hgp] at h9; exact h9)) ?_
 refine r_val (.some rfl rfl) rfl (p_move rfl) ?_
 refine r_val (.some rfl rfl) rfl (p_move rfl) ?_
 refine r_call (vs := [_, _]) (.some rfl rfl) rfl cl56 rfl (fun w hw => c_rinnY b va vb vc ls iv (n : Nat) c ⟨hR, hL, hC, hO⟩ hLS hCS hnl hg (by omega) hcz9 w hw) ?_
 refine r_val (.some rfl rfl) rfl (p_ne rfl rfl) ?_
 refine r_say (d := 167) (v := Value.bool false) (congrArg (fun z => some (Value.bool z)) (decide_eq_false (fun h9 => h9 rfl))) ?_
 refine r_val .none rfl (p_pick_f rfl rfl) ?_
 refine r_nil (e_next (c_cond_f rfl (c_skip (e_next ?_))))
 refine c_seq (c_region (r_val .none rfl (p_assign rfl) (r_val .none rfl (p_assign rfl) (r_nil ?_))))
 refine e_next (c_seq (c_seq (c_region (r_val .none rfl (p_move rfl) ?_))))
 refine r_val .none rfl (p_leng Try.underlying33 rfl hall) ?_
 have bd_45 := (hall).bound
 refine r_val .none rfl (p_move rfl) (r_nil (e_next (c_block ?_)))
 refine c_nilrow 3 1 ?_
 refine c_nilrow 3 1 ?_
 refine c_name (d := 0) rfl (fun u_46 hu_46 => ?_)
 refine c_name (d := 1) rfl (fun u_47 hu_47 => ?_)
 refine c_name (d := 5) rfl (fun u_48 hu_48 => ?_)
 refine c_name (d := 6) rfl (fun u_49 hu_49 => ?_)
 refine c_name (d := 7) rfl (fun u_50 hu_50 => ?_)
 refine c_name (d := 8) rfl (fun u_51 hu_51 => ?_)
 refine c_name (d := 9) rfl (fun u_52 hu_52 => ?_)
 refine c_name (d := 10) rfl (fun u_53 hu_53 => ?_)
 refine c_name (d := 31) rfl (fun u_54 hu_54 => ?_)
 refine c_name (d := 32) rfl (fun u_55 hu_55 => ?_)
 refine c_name (d := 33) rfl (fun u_56 hu_56 => ?_)
 refine c_name (d := 34) rfl (fun u_57 hu_57 => ?_)
 refine c_name (d := 36) rfl (fun u_58 hu_58 => ?_)
 refine c_name (d := 37) rfl (fun u_59 hu_59 => ?_)
 refine c_name (d := 38) rfl (fun u_60 hu_60 => ?_)
 refine c_name (d := 42) rfl (fun u_61 hu_61 => ?_)
 refine c_name (d := 43) rfl (fun u_62 hu_62 => ?_)
 refine c_name (d := 45) rfl (fun u_63 hu_63 => ?_)
 refine c_name (d := 46) rfl (fun u_64 hu_64 => ?_)
 refine c_name (d := 48) rfl (fun u_65 hu_65 => ?_)
 refine c_name (d := 49) rfl (fun u_66 hu_66 => ?_)
 refine c_name (d := 51) rfl (fun u_67 hu_67 => ?_)
 refine c_name (d := 52) rfl (fun u_68 hu_68 => ?_)
 refine c_name (d := 53) rfl (fun u_69 hu_69 => ?_)
 refine c_name (d := 54) rfl (fun u_70 hu_70 => ?_)
 refine c_name (d := 55) rfl (fun u_71 hu_71 => ?_)
 refine c_name (d := 56) rfl (fun u_72 hu_72 => ?_)
 refine c_name (d := 57) rfl (fun u_73 hu_73 => ?_)
 refine c_name (d := 58) rfl (fun u_74 hu_74 => ?_)
 refine c_name (d := 59) rfl (fun u_75 hu_75 => ?_)
 refine c_name (d := 60) rfl (fun u_76 hu_76 => ?_)
 refine c_name (d := 61) rfl (fun u_77 hu_77 => ?_)
 refine c_name (d := 62) rfl (fun u_78 hu_78 => ?_)
 refine c_name (d := 63) rfl (fun u_79 hu_79 => ?_)
 refine c_name (d := 64) rfl (fun u_80 hu_80 => ?_)
 refine c_name (d := 65) rfl (fun u_81 hu_81 => ?_)
 refine c_name (d := 66) rfl (fun u_82 hu_82 => ?_)
 refine c_name (d := 67) rfl (fun u_83 hu_83 => ?_)
 refine c_name (d := 68) rfl (fun u_84 hu_84 => ?_)
 refine c_name (d := 69) rfl (fun u_85 hu_85 => ?_)
 refine c_name (d := 70) rfl (fun u_86 hu_86 => ?_)
 refine c_name (d := 71) rfl (fun u_87 hu_87 => ?_)
 refine c_name (d := 72) rfl (fun u_88 hu_88 => ?_)
 refine c_name (d := 73) rfl (fun u_89 hu_89 => ?_)
 refine c_name (d := 74) rfl (fun u_90 hu_90 => ?_)
 refine c_name (d := 75) rfl (fun u_91 hu_91 => ?_)
 refine c_name (d := 76) rfl (fun u_92 hu_92 => ?_)
 refine c_name (d := 77) rfl (fun u_93 hu_93 => ?_)
 refine c_name (d := 78) rfl (fun u_94 hu_94 => ?_)
 refine c_name (d := 79) rfl (fun u_95 hu_95 => ?_)
 refine c_name (d := 80) rfl (fun u_96 hu_96 => ?_)
 refine c_name (d := 81) rfl (fun u_97 hu_97 => ?_)
 refine c_name (d := 82) rfl (fun u_98 hu_98 => ?_)
 refine c_name (d := 101) rfl (fun u_99 hu_99 => ?_)
 refine c_name (d := 102) rfl (fun u_100 hu_100 => ?_)
 refine c_name (d := 103) rfl (fun u_101 hu_101 => ?_)
 refine c_name (d := 104) rfl (fun u_102 hu_102 => ?_)
 refine c_name (d := 105) rfl (fun u_103 hu_103 => ?_)
 refine c_name (d := 106) rfl (fun u_104 hu_104 => ?_)
 refine c_name (d := 107) rfl (fun u_105 hu_105 => ?_)
 refine c_name (d := 108) rfl (fun u_106 hu_106 => ?_)
 refine c_name (d := 136) rfl (fun u_107 hu_107 => ?_)
 refine c_name (d := 137) rfl (fun u_108 hu_108 => ?_)
 refine c_name (d := 138) rfl (fun u_109 hu_109 => ?_)
 refine c_name (d := 139) rfl (fun u_110 hu_110 => ?_)
 refine c_name (d := 140) rfl (fun u_111 hu_111 => ?_)
 refine c_name (d := 141) rfl (fun u_112 hu_112 => ?_)
 refine c_name (d := 142) rfl (fun u_113 hu_113 => ?_)
 refine c_name (d := 143) rfl (fun u_114 hu_114 => ?_)
 refine c_name (d := 144) rfl (fun u_115 hu_115 => ?_)
 refine c_name (d := 145) rfl (fun u_116 hu_116 => ?_)
 refine c_name (d := 146) rfl (fun u_117 hu_117 => ?_)
 refine c_name (d := 147) rfl (fun u_118 hu_118 => ?_)
 refine c_name (d := 148) rfl (fun u_119 hu_119 => ?_)
 refine c_name (d := 149) rfl (fun u_120 hu_120 => ?_)
 refine c_name (d := 150) rfl (fun u_121 hu_121 => ?_)
 refine c_name (d := 151) rfl (fun u_122 hu_122 => ?_)
 refine c_name (d := 152) rfl (fun u_123 hu_123 => ?_)
 refine c_name (d := 153) rfl (fun u_124 hu_124 => ?_)
 refine c_name (d := 154) rfl (fun u_125 hu_125 => ?_)
 refine c_name (d := 155) rfl (fun u_126 hu_126 => ?_)
 refine c_name (d := 156) rfl (fun u_127 hu_127 => ?_)
 refine c_name (d := 157) rfl (fun u_128 hu_128 => ?_)
 refine c_name (d := 158) rfl (fun u_129 hu_129 => ?_)
 refine c_name (d := 159) rfl (fun u_130 hu_130 => ?_)
 refine c_name (d := 160) rfl (fun u_131 hu_131 => ?_)
 refine c_name (d := 161) rfl (fun u_132 hu_132 => ?_)
 refine c_name (d := 162) rfl (fun u_133 hu_133 => ?_)
 refine c_name (d := 163) rfl (fun u_134 hu_134 => ?_)
 refine c_name (d := 164) rfl (fun u_135 hu_135 => ?_)
 refine c_name (d := 165) rfl (fun u_136 hu_136 => ?_)
 refine c_name (d := 166) rfl (fun u_137 hu_137 => ?_)
 refine c_name (d := 167) rfl (fun u_138 hu_138 => ?_)
 refine c_name (d := 168) rfl (fun u_139 hu_139 => ?_)
 refine c_name (d := 169) rfl (fun u_140 hu_140 => ?_)
 refine c_name (d := 170) rfl (fun u_141 hu_141 => ?_)
 refine c_nameL (k := 2) rfl (fun A_142 hA_142 => ?_)
 refine c_nameL (k := 3) rfl (fun A_143 hA_143 => ?_)
 refine c_loop (σ := Nat × Value × Value) (fun s' => [(171, Value.int .i64 (s'.1 : Nat)), (11, s'.2.1), (12, s'.2.2), (0, u_46), (1, u_47), (5, u_48), (6, u_49), (7, u_50), (8, u_51), (9, u_52), (10, u_53), (31, u_54), (32, u_55), (33, u_56), (34, u_57), (36, u_58), (37, u_59), (38, u_60), (42, u_61), (43, u_62), (45, u_63), (46, u_64), (48, u_65), (49, u_66), (51, u_67), (52, u_68), (53, u_69), (54, u_70), (55, u_71), (56, u_72), (57, u_73), (58, u_74), (59, u_75), (60, u_76), (61, u_77), (62, u_78), (63, u_79), (64, u_80), (65, u_81), (66, u_82), (67, u_83), (68, u_84), (69, u_85), (70, u_86), (71, u_87), (72, u_88), (73, u_89), (74, u_90), (75, u_91), (76, u_92), (77, u_93), (78, u_94), (79, u_95), (80, u_96), (81, u_97), (82, u_98), (101, u_99), (102, u_100), (103, u_101), (104, u_102), (105, u_103), (106, u_104), (107, u_105), (108, u_106), (136, u_107), (137, u_108), (138, u_109), (139, u_110), (140, u_111), (141, u_112), (142, u_113), (143, u_114), (144, u_115), (145, u_116), (146, u_117), (147, u_118), (148, u_119), (149, u_120), (150, u_121), (151, u_122), (152, u_123), (153, u_124), (154, u_125), (155, u_126), (156, u_127), (157, u_128), (158, u_129), (159, u_130), (160, u_131), (161, u_132), (162, u_133), (163, u_134), (164, u_135), (165, u_136), (166, u_137), (167, u_138), (168, u_139), (169, u_140), (170, u_141)]) (fun s' => [rowA (s'.2.2) 3 1 ((((all (RV ls iv)).take s'.1).filter (pickR (RV ls iv) (isOuter c)))).length (((((all (RV ls iv)).take s'.1).filter (pickR (RV ls iv) (isOuter c)))).flatMap cI), rowA (s'.2.1) 3 1 ((((all (RV ls iv)).take s'.1).filter (pickR (RV ls iv) (isKid c)))).length (((((all (RV ls iv)).take s'.1).filter (pickR (RV ls iv) (isKid c)))).flatMap cI), A_142, A_143]) (fun _ => _) (fun s' => s'.1 ≤ (all (RV ls iv)).length) (fun s' => (all (RV ls iv)).length - s'.1) ((0, _, _)) (Nat.zero_le _) rfl ⟨rfl, rfl, rfl, rfl, rfl, rfl, rfl, rfl, rfl, rfl, rfl, rfl, rfl, rfl, rfl, rfl, rfl, rfl, rfl, rfl, rfl, rfl, rfl, rfl, rfl, rfl, rfl, rfl, rfl, rfl, rfl, rfl, rfl, rfl, rfl, rfl, rfl, rfl, rfl, rfl, rfl, rfl, rfl, rfl, rfl, rfl, rfl, rfl, rfl, rfl, rfl, rfl, rfl, rfl, rfl, rfl, rfl, rfl, rfl, rfl, rfl, rfl, rfl, rfl, rfl, rfl, rfl, rfl, rfl, rfl, rfl, rfl, rfl, rfl, rfl, rfl, rfl, rfl, rfl, rfl, rfl, rfl, rfl, rfl, rfl, rfl, rfl, rfl, rfl, rfl, rfl, rfl, rfl, rfl, rfl, rfl, rfl, rfl, rfl, trivial⟩ (.keep (fun _ _ h => rowA_nil (by simp) _ _ h) (.keep (fun _ _ h => rowA_nil (by simp) _ _ h) (.keep (fun _ _ h => h) (.keep (fun _ _ h => h) (.nil))))) (fun s' hphi => ?_)
 subst hu_46
 subst hu_47
 subst hu_48
 subst hu_49
 subst hu_50
 subst hu_51
 subst hu_52
 subst hu_53
 subst hu_54
 subst hu_55
 subst hu_56
 subst hu_57
 subst hu_58
 subst hu_59
 subst hu_60
 subst hu_61
 subst hu_62
 subst hu_63
 subst hu_64
 subst hu_65
 subst hu_66
 subst hu_67
 subst hu_68
 subst hu_69
 subst hu_70
 subst hu_71
 subst hu_72
 subst hu_73
 subst hu_74
 subst hu_75
 subst hu_76
 subst hu_77
 subst hu_78
 subst hu_79
 subst hu_80
 subst hu_81
 subst hu_82
 subst hu_83
 subst hu_84
 subst hu_85
 subst hu_86
 subst hu_87
 subst hu_88
 subst hu_89
 subst hu_90
 subst hu_91
 subst hu_92
 subst hu_93
 subst hu_94
 subst hu_95
 subst hu_96
 subst hu_97
 subst hu_98
 subst hu_99
 subst hu_100
 subst hu_101
 subst hu_102
 subst hu_103
 subst hu_104
 subst hu_105
 subst hu_106
 subst hu_107
 subst hu_108
 subst hu_109
 subst hu_110
 subst hu_111
 subst hu_112
 subst hu_113
 subst hu_114
 subst hu_115
 subst hu_116
 subst hu_117
 subst hu_118
 subst hu_119
 subst hu_120
 subst hu_121
 subst hu_122
 subst hu_123
 subst hu_124
 subst hu_125
 subst hu_126
 subst hu_127
 subst hu_128
 subst hu_129
 subst hu_130
 subst hu_131
 subst hu_132
 subst hu_133
 subst hu_134
 subst hu_135
 subst hu_136
 subst hu_137
 subst hu_138
 subst hu_139
 subst hu_140
 subst hu_141
 subst hA_142
 subst hA_143
 obtain ⟨j, kvv, ovv⟩ := s'
 dsimp only at hphi ⊢
 refine c_seq (c_region ?_)
 refine r_val .none rfl (p_lt rfl rfl) ?_
 refine r_nil (e_next (c_seq ?_))
 refine c_splitd (d := 172) rfl (fun h_144 => ?_) (fun h_144 => ?_)
 · (
 first
 | (exfalso; first | omega | assumption)
 | (
 refine c_cond_t rfl (c_skip (e_next (c_seq (c_block ?_))))
 refine c_seq (c_region ?_)
 refine r_iaddr_g .none rfl Try.underlying33 sz3 rfl hall rfl (by first | exact odt rfl | omega) (fun p_146 o_147 R_145 => ?_)
 refine r_val .none rfl (p_ldg0 Try.underlying3 rfl rfl R_145 (by first | exact odt rfl | omega) (rfl : _ = Value.int _ _)) ?_
 refine r_val .none rfl (p_assign rfl) (r_nil (e_next (c_seq (c_region ?_))))
 refine r_val .none rfl (p_move rfl) (r_val .none rfl (p_move rfl) ?_)
 obtain ⟨d, hgd⟩ := all_mem.1 (getD_mem (i := j) (d := (0 : Int)) (rs := all (RV ls iv)) (by omega))
 have hdl := get_lt hgd
 have hdz9 : sszL d ≤ 2000 := hcz _ _ hgd
 have hs1 := chV_ss hCS hgd
 obtain ⟨rd, hrd, hrdt, hrds, hdcl⟩ := hs1.inv
 have hdn : d.length = rd.length := by rw [hdcl]; simp
 refine r_call (vs := [_, _]) .none rfl cl49 rfl (fun w hw => c_rchY b va vb vc ls iv ((all (RV ls iv)).getD j 0) d ⟨hR, hL, hC, hO⟩ hLS hCS hnl hgd (by omega) w hw) ?_
 refine r_val .none rfl (p_move rfl) ?_
 refine r_val .none rfl (p_extract rfl rfl) ?_
 refine r_val .none rfl (p_extract rfl rfl) ?_
 refine r_val .none rfl (p_assign rfl) (r_val .none rfl (p_assign rfl) (r_nil (e_next (c_seq ?_))))
 refine c_seq (c_region (r_val .none rfl (p_move rfl) ?_))
 refine r_val .none rfl (p_leng Try.underlying29 rfl hrd) ?_
 have bd_148 := (hrd).bound
 refine r_val .none rfl (p_move rfl) ?_
 refine r_val .none rfl (p_leng Try.underlying29 rfl hr) ?_
 have bd_149 := (hr).bound
 refine r_val .none rfl (p_add rfl rfl (by omega)) ?_
 refine r_val .none rfl (p_eq rfl rfl) ?_
 refine r_val .none rfl (p_move rfl) ?_
 refine r_splitd (d := 187) rfl (fun h_150 => ?_) (fun h_150 => ?_)
 · (
 have hdl9 : d.length = c.length + 1 := by (have h9 := h_150; omega)
 first
 | (exfalso; first | omega | assumption)
 | (
 refine r_val (.some rfl rfl) rfl (p_move rfl) ?_
 refine r_val (.some rfl rfl) rfl (p_move rfl) ?_
 refine r_val (.some rfl rfl) rfl (p_move rfl) ?_
 refine r_val (.some rfl rfl) rfl (p_leng Try.underlying29 rfl hr) ?_
 have bd_151 := (hr).bound
 refine r_slice0 (rs.length) (.some rfl rfl) rfl Try.underlying29 sz90 rfl hrd rfl (by first | exact odt rfl | omega) (fun v_152 hs_153 => ?_)
 have hPd : Ss G_39 v_152 ((rd.map Prod.fst).take rs.length) := by rw [← List.map_take]; exact Ss.mk (rd.take rs.length) (ss_take (by omega) hs_153) (fun p hm => hrdt p (List.mem_of_mem_take hm)) (fun p hm => hrds p (List.mem_of_mem_take hm))
 refine r_call (vs := [_, _]) (.some rfl rfl) rfl cl47 rfl (fun w hw => c_rfind16 b va vb vc ls iv _ ((rd.map Prod.fst).take rs.length) ⟨hR, hL, hC, hO⟩ hLS hCS hnl hPd w hw) ?_
 refine r_val (.some rfl rfl) rfl (p_move rfl) ?_
 refine r_val (.some rfl rfl) rfl (p_eq rfl rfl) ?_
 refine r_val .none rfl (p_pick_t rfl rfl) ?_
 refine r_nil (e_next ?_)
 refine c_splitd (d := 196) rfl (fun h_155 => ?_) (fun h_155 => ?_)
 · (
 have hkb : pickR (RV ls iv) (isKid c) ((all (RV ls iv)).getD j 0) = true := pick_kid_yes hClo hg hgd hdl9 (by rw [hcn]; have h9 := h_155; rw [← hdcl] at h9; exact h9)
 first
 | (exfalso; first | omega | assumption)
 | (
 refine c_cond_t rfl (c_region (r_val .none rfl (p_move rfl) (r_val .none rfl (p_move rfl) ?_)))
 refine r_bslice (vs := [(0, Value.int _ _)]) (c := #[_]) .none rfl Try.underlying33 el3 rfl rfl rfl (bs3_10i2 _ _) (IsRow.lit _) (fun b_3 => ?_)
 refine r_append (k := 2) (k2 := 0) .none rfl Try.underlying33 el3 rfl (by decide) rfl rfl rfl rfl rfl (one_lit rfl rfl) (by simp only [maxLen]; have h9 := List.length_filter_le (pickR (RV ls iv) (isKid c)) ((all (RV ls iv)).take j); rw [List.length_take] at h9; omega) (by have h9 := List.length_filter_le (pickR (RV ls iv) (isKid c)) ((all (RV ls iv)).take j); rw [List.length_take] at h9; omega) (fun v_156 => ?_)
 refine r_row1 (k := 2) rfl (fun o_157 => ?_)
 refine r_val .none rfl (p_assign rfl) (r_nil (e_next (c_seq (c_region ?_))))
 refine r_val .none rfl (p_move rfl) (r_val .none rfl (p_move rfl) ?_)
 refine r_call (vs := [_, _]) .none rfl cl56 rfl (fun w hw => c_rinnY b va vb vc ls iv ((all (RV ls iv)).getD j 0) d ⟨hR, hL, hC, hO⟩ hLS hCS hnl hgd (by omega) hdz9 w hw) ?_
 refine r_val .none rfl (p_move rfl) ?_
 refine r_val .none rfl (p_eq rfl rfl) ?_
 refine r_nil (e_next ?_)
 refine c_splitd (d := 205) rfl (fun h_158 => ?_) (fun h_158 => ?_)
 · (
 have hob : pickR (RV ls iv) (isOuter c) ((all (RV ls iv)).getD j 0) = true := by (rw [pickR_some hgd, outer_is hClo hg]; exact decide_eq_true h_158)
 first
 | (exfalso; first | omega | assumption)
 | (
 refine c_cond_t rfl (c_region (r_val .none rfl (p_move rfl) (r_val .none rfl (p_move rfl) ?_)))
 refine r_bslice (vs := [(0, Value.int _ _)]) (c := #[_]) .none rfl Try.underlying33 el3 rfl rfl rfl (bs3_10i2 _ _) (IsRow.lit _) (fun b_4 => ?_)
 refine r_append (k := 2) (k2 := 0) .none rfl Try.underlying33 el3 rfl (by decide) rfl rfl rfl rfl rfl (one_lit rfl rfl) (by simp only [maxLen]; have h9 := List.length_filter_le (pickR (RV ls iv) (isOuter c)) ((all (RV ls iv)).take j); rw [List.length_take] at h9; omega) (by have h9 := List.length_filter_le (pickR (RV ls iv) (isOuter c)) ((all (RV ls iv)).take j); rw [List.length_take] at h9; omega) (fun v_159 => ?_)
 refine r_row1 (k := 2) rfl (fun o_160 => ?_)
 refine r_val .none rfl (p_assign rfl) (r_nil ?_)
 refine e_norm_block ?_
 refine e_next (c_region ?_)
 refine r_val .none rfl (p_add rfl rfl (by omega)) ?_
 refine r_val .none rfl (p_move rfl) (r_nil ?_)
 refine e_round ((j + 1, _, _)) ⟨by dsimp only; omega, by dsimp only; omega⟩ rfl ⟨rfl, rfl, rfl, rfl, rfl, rfl, rfl, rfl, rfl, rfl, rfl, rfl, rfl, rfl, rfl, rfl, rfl, rfl, rfl, rfl, rfl, rfl, rfl, rfl, rfl, rfl, rfl, rfl, rfl, rfl, rfl, rfl, rfl, rfl, rfl, rfl, rfl, rfl, rfl, rfl, rfl, rfl, rfl, rfl, rfl, rfl, rfl, rfl, rfl, rfl, rfl, rfl, rfl, rfl, rfl, rfl, rfl, rfl, rfl, rfl, rfl, rfl, rfl, rfl, rfl, rfl, rfl, rfl, rfl, rfl, rfl, rfl, rfl, rfl, rfl, rfl, rfl, rfl, rfl, rfl, rfl, rfl, rfl, rfl, rfl, rfl, rfl, rfl, rfl, rfl, rfl, rfl, rfl, rfl, rfl, rfl, rfl, rfl, rfl, trivial⟩ (.drop (.drop (.keep (fun _ _ h => rowA_snoc (filt_yes (by omega) hob) rfl rfl rfl _ _ h) (.keep (fun _ _ h => rowA_snoc (filt_yes (by omega) hkb) rfl rfl rfl _ _ h) (.keep (fun _ _ h => h) (.keep (fun _ _ h => h) (.nil)))))))))
 · (
 have hob : pickR (RV ls iv) (isOuter c) ((all (RV ls iv)).getD j 0) = false := by (rw [pickR_some hgd, outer_is hClo hg]; exact decide_eq_false h_158)
 first
 | (exfalso; first | omega | assumption)
 | (
 refine c_cond_f rfl (c_skip ?_)
 refine e_norm_block ?_
 refine e_next (c_region ?_)
 refine r_val .none rfl (p_add rfl rfl (by omega)) ?_
 refine r_val .none rfl (p_move rfl) (r_nil ?_)
 refine e_round ((j + 1, _, _)) ⟨by dsimp only; omega, by dsimp only; omega⟩ rfl ⟨rfl, rfl, rfl, rfl, rfl, rfl, rfl, rfl, rfl, rfl, rfl, rfl, rfl, rfl, rfl, rfl, rfl, rfl, rfl, rfl, rfl, rfl, rfl, rfl, rfl, rfl, rfl, rfl, rfl, rfl, rfl, rfl, rfl, rfl, rfl, rfl, rfl, rfl, rfl, rfl, rfl, rfl, rfl, rfl, rfl, rfl, rfl, rfl, rfl, rfl, rfl, rfl, rfl, rfl, rfl, rfl, rfl, rfl, rfl, rfl, rfl, rfl, rfl, rfl, rfl, rfl, rfl, rfl, rfl, rfl, rfl, rfl, rfl, rfl, rfl, rfl, rfl, rfl, rfl, rfl, rfl, rfl, rfl, rfl, rfl, rfl, rfl, rfl, rfl, rfl, rfl, rfl, rfl, rfl, rfl, rfl, rfl, rfl, rfl, trivial⟩ (.drop (.keep (fun _ _ h => by rw [filt_no (by omega) hob]; exact h) (.keep (fun _ _ h => rowA_snoc (filt_yes (by omega) hkb) rfl rfl rfl _ _ h) (.keep (fun _ _ h => h) (.keep (fun _ _ h => h) (.nil))))))))))
 · (
 have hkb : pickR (RV ls iv) (isKid c) ((all (RV ls iv)).getD j 0) = false := pick_kid_no hClo hg hgd (.inr (by rw [hcn]; have h9 := h_155; rw [← hdcl] at h9; exact h9))
 first
 | (exfalso; first | omega | assumption)
 | (
 refine c_cond_f rfl (c_skip (e_next (c_seq (c_region ?_))))
 refine r_val .none rfl (p_move rfl) (r_val .none rfl (p_move rfl) ?_)
 refine r_call (vs := [_, _]) .none rfl cl56 rfl (fun w hw => c_rinnY b va vb vc ls iv ((all (RV ls iv)).getD j 0) d ⟨hR, hL, hC, hO⟩ hLS hCS hnl hgd (by omega) hdz9 w hw) ?_
 refine r_val .none rfl (p_move rfl) ?_
 refine r_val .none rfl (p_eq rfl rfl) ?_
 refine r_nil (e_next ?_)
 refine c_splitd (d := 205) rfl (fun h_161 => ?_) (fun h_161 => ?_)
 · (
 have hob : pickR (RV ls iv) (isOuter c) ((all (RV ls iv)).getD j 0) = true := by (rw [pickR_some hgd, outer_is hClo hg]; exact decide_eq_true h_161)
 first
 | (exfalso; first | omega | assumption)
 | (
 refine c_cond_t rfl (c_region (r_val .none rfl (p_move rfl) (r_val .none rfl (p_move rfl) ?_)))
 refine r_bslice (vs := [(0, Value.int _ _)]) (c := #[_]) .none rfl Try.underlying33 el3 rfl rfl rfl (bs3_10i2 _ _) (IsRow.lit _) (fun b_5 => ?_)
 refine r_append (k := 1) (k2 := 0) .none rfl Try.underlying33 el3 rfl (by decide) rfl rfl rfl rfl rfl (one_lit rfl rfl) (by simp only [maxLen]; have h9 := List.length_filter_le (pickR (RV ls iv) (isOuter c)) ((all (RV ls iv)).take j); rw [List.length_take] at h9; omega) (by have h9 := List.length_filter_le (pickR (RV ls iv) (isOuter c)) ((all (RV ls iv)).take j); rw [List.length_take] at h9; omega) (fun v_162 => ?_)
 refine r_row1 (k := 1) rfl (fun o_163 => ?_)
 refine r_val .none rfl (p_assign rfl) (r_nil ?_)
 refine e_norm_block ?_
 refine e_next (c_region ?_)
 refine r_val .none rfl (p_add rfl rfl (by omega)) ?_
 refine r_val .none rfl (p_move rfl) (r_nil ?_)
 refine e_round ((j + 1, _, _)) ⟨by dsimp only; omega, by dsimp only; omega⟩ rfl ⟨rfl, rfl, rfl, rfl, rfl, rfl, rfl, rfl, rfl, rfl, rfl, rfl, rfl, rfl, rfl, rfl, rfl, rfl, rfl, rfl, rfl, rfl, rfl, rfl, rfl, rfl, rfl, rfl, rfl, rfl, rfl, rfl, rfl, rfl, rfl, rfl, rfl, rfl, rfl, rfl, rfl, rfl, rfl, rfl, rfl, rfl, rfl, rfl, rfl, rfl, rfl, rfl, rfl, rfl, rfl, rfl, rfl, rfl, rfl, rfl, rfl, rfl, rfl, rfl, rfl, rfl, rfl, rfl, rfl, rfl, rfl, rfl, rfl, rfl, rfl, rfl, rfl, rfl, rfl, rfl, rfl, rfl, rfl, rfl, rfl, rfl, rfl, rfl, rfl, rfl, rfl, rfl, rfl, rfl, rfl, rfl, rfl, rfl, rfl, trivial⟩ (.drop (.keep (fun _ _ h => rowA_snoc (filt_yes (by omega) hob) rfl rfl rfl _ _ h) (.keep (fun _ _ h => by rw [filt_no (by omega) hkb]; exact h) (.keep (fun _ _ h => h) (.keep (fun _ _ h => h) (.nil))))))))
 · (
 have hob : pickR (RV ls iv) (isOuter c) ((all (RV ls iv)).getD j 0) = false := by (rw [pickR_some hgd, outer_is hClo hg]; exact decide_eq_false h_161)
 first
 | (exfalso; first | omega | assumption)
 | (
 refine c_cond_f rfl (c_skip ?_)
 refine e_norm_block ?_
 refine e_next (c_region ?_)
 refine r_val .none rfl (p_add rfl rfl (by omega)) ?_
 refine r_val .none rfl (p_move rfl) (r_nil ?_)
 refine e_round ((j + 1, _, _)) ⟨by dsimp only; omega, by dsimp only; omega⟩ rfl ⟨rfl, rfl, rfl, rfl, rfl, rfl, rfl, rfl, rfl, rfl, rfl, rfl, rfl, rfl, rfl, rfl, rfl, rfl, rfl, rfl, rfl, rfl, rfl, rfl, rfl, rfl, rfl, rfl, rfl, rfl, rfl, rfl, rfl, rfl, rfl, rfl, rfl, rfl, rfl, rfl, rfl, rfl, rfl, rfl, rfl, rfl, rfl, rfl, rfl, rfl, rfl, rfl, rfl, rfl, rfl, rfl, rfl, rfl, rfl, rfl, rfl, rfl, rfl, rfl, rfl, rfl, rfl, rfl, rfl, rfl, rfl, rfl, rfl, rfl, rfl, rfl, rfl, rfl, rfl, rfl, rfl, rfl, rfl, rfl, rfl, rfl, rfl, rfl, rfl, rfl, rfl, rfl, rfl, rfl, rfl, rfl, rfl, rfl, rfl, trivial⟩ (.keep (fun _ _ h => by rw [filt_no (by omega) hob]; exact h) (.keep (fun _ _ h => by rw [filt_no (by omega) hkb]; exact h) (.keep (fun _ _ h => h) (.keep (fun _ _ h => h) (.nil)))))))))))
 · (
 have hkb : pickR (RV ls iv) (isKid c) ((all (RV ls iv)).getD j 0) = false := pick_kid_no hClo hg hgd (.inl (by have h9 := h_150; omega))
 first
 | (exfalso; first | omega | assumption)
 | (
 refine r_skip rfl (.no rfl rfl) ?_
 refine r_skip rfl (.no rfl rfl) ?_
 refine r_skip rfl (.no rfl rfl) ?_
 refine r_skip rfl (.no rfl rfl) ?_
 refine r_skip rfl (.no rfl rfl) ?_
 refine r_skip rfl (.no rfl rfl) ?_
 refine r_skip rfl (.no rfl rfl) ?_
 refine r_skip rfl (.no rfl rfl) ?_
 refine r_val .none rfl (p_pick_f rfl rfl) ?_
 refine r_nil (e_next (c_cond_f rfl (c_skip (e_next ?_))))
 refine c_seq (c_region (r_val .none rfl (p_move rfl) (r_val .none rfl (p_move rfl) ?_)))
 refine r_call (vs := [_, _]) .none rfl cl56 rfl (fun w hw => c_rinnY b va vb vc ls iv ((all (RV ls iv)).getD j 0) d ⟨hR, hL, hC, hO⟩ hLS hCS hnl hgd (by omega) hdz9 w hw) ?_
 refine r_val .none rfl (p_move rfl) ?_
 refine r_val .none rfl (p_eq rfl rfl) ?_
 refine r_nil (e_next ?_)
 refine c_splitd (d := 205) rfl (fun h_164 => ?_) (fun h_164 => ?_)
 · (
 have hob : pickR (RV ls iv) (isOuter c) ((all (RV ls iv)).getD j 0) = true := by (rw [pickR_some hgd, outer_is hClo hg]; exact decide_eq_true h_164)
 first
 | (exfalso; first | omega | assumption)
 | (
 refine c_cond_t rfl (c_region (r_val .none rfl (p_move rfl) (r_val .none rfl (p_move rfl) ?_)))
 refine r_bslice (vs := [(0, Value.int _ _)]) (c := #[_]) .none rfl Try.underlying33 el3 rfl rfl rfl (bs3_10i2 _ _) (IsRow.lit _) (fun b_6 => ?_)
 refine r_append (k := 1) (k2 := 0) .none rfl Try.underlying33 el3 rfl (by decide) rfl rfl rfl rfl rfl (one_lit rfl rfl) (by simp only [maxLen]; have h9 := List.length_filter_le (pickR (RV ls iv) (isOuter c)) ((all (RV ls iv)).take j); rw [List.length_take] at h9; omega) (by have h9 := List.length_filter_le (pickR (RV ls iv) (isOuter c)) ((all (RV ls iv)).take j); rw [List.length_take] at h9; omega) (fun v_165 => ?_)
 refine r_row1 (k := 1) rfl (fun o_166 => ?_)
 refine r_val .none rfl (p_assign rfl) (r_nil ?_)
 refine e_norm_block ?_
 refine e_next (c_region ?_)
 refine r_val .none rfl (p_add rfl rfl (by omega)) ?_
 refine r_val .none rfl (p_move rfl) (r_nil ?_)
 refine e_round ((j + 1, _, _)) ⟨by dsimp only; omega, by dsimp only; omega⟩ rfl ⟨rfl, rfl, rfl, rfl, rfl, rfl, rfl, rfl, rfl, rfl, rfl, rfl, rfl, rfl, rfl, rfl, rfl, rfl, rfl, rfl, rfl, rfl, rfl, rfl, rfl, rfl, rfl, rfl, rfl, rfl, rfl, rfl, rfl, rfl, rfl, rfl, rfl, rfl, rfl, rfl, rfl, rfl, rfl, rfl, rfl, rfl, rfl, rfl, rfl, rfl, rfl, rfl, rfl, rfl, rfl, rfl, rfl, rfl, rfl, rfl, rfl, rfl, rfl, rfl, rfl, rfl, rfl, rfl, rfl, rfl, rfl, rfl, rfl, rfl, rfl, rfl, rfl, rfl, rfl, rfl, rfl, rfl, rfl, rfl, rfl, rfl, rfl, rfl, rfl, rfl, rfl, rfl, rfl, rfl, rfl, rfl, rfl, rfl, rfl, trivial⟩ (.drop (.keep (fun _ _ h => rowA_snoc (filt_yes (by omega) hob) rfl rfl rfl _ _ h) (.keep (fun _ _ h => by rw [filt_no (by omega) hkb]; exact h) (.keep (fun _ _ h => h) (.keep (fun _ _ h => h) (.nil))))))))
 · (
 have hob : pickR (RV ls iv) (isOuter c) ((all (RV ls iv)).getD j 0) = false := by (rw [pickR_some hgd, outer_is hClo hg]; exact decide_eq_false h_164)
 first
 | (exfalso; first | omega | assumption)
 | (
 refine c_cond_f rfl (c_skip ?_)
 refine e_norm_block ?_
 refine e_next (c_region ?_)
 refine r_val .none rfl (p_add rfl rfl (by omega)) ?_
 refine r_val .none rfl (p_move rfl) (r_nil ?_)
 refine e_round ((j + 1, _, _)) ⟨by dsimp only; omega, by dsimp only; omega⟩ rfl ⟨rfl, rfl, rfl, rfl, rfl, rfl, rfl, rfl, rfl, rfl, rfl, rfl, rfl, rfl, rfl, rfl, rfl, rfl, rfl, rfl, rfl, rfl, rfl, rfl, rfl, rfl, rfl, rfl, rfl, rfl, rfl, rfl, rfl, rfl, rfl, rfl, rfl, rfl, rfl, rfl, rfl, rfl, rfl, rfl, rfl, rfl, rfl, rfl, rfl, rfl, rfl, rfl, rfl, rfl, rfl, rfl, rfl, rfl, rfl, rfl, rfl, rfl, rfl, rfl, rfl, rfl, rfl, rfl, rfl, rfl, rfl, rfl, rfl, rfl, rfl, rfl, rfl, rfl, rfl, rfl, rfl, rfl, rfl, rfl, rfl, rfl, rfl, rfl, rfl, rfl, rfl, rfl, rfl, rfl, rfl, rfl, rfl, rfl, rfl, trivial⟩ (.keep (fun _ _ h => by rw [filt_no (by omega) hob]; exact h) (.keep (fun _ _ h => by rw [filt_no (by omega) hkb]; exact h) (.keep (fun _ _ h => h) (.keep (fun _ _ h => h) (.nil)))))))))))
 · (
 first
 | (exfalso; first | omega | assumption)
 | (
 refine c_cond_f rfl (c_exit (e_exit_then (e_exit_then ?_)))
 refine e_exit_block ?_
 refine e_next (c_seq (c_region (r_val .none rfl (p_move rfl) (r_val .none rfl (p_move rfl) ?_))))
 obtain rfl : j = (all (RV ls iv)).length := by omega
 skip
 refine r_front (k := 3) rfl ?_
 refine r_callor (k := 0) (vs := [_, _]) .none rfl cl53 rfl rfl (fun w F hw hA hFG => (by have h9 := c_kkids _ (n : Nat) l _ _ hV (by rw [hnR]; have h7 := (nR_kids (RV ls iv) (n : Nat)).1; omega) w hw hA hFG; rw [hgp] at h9; exact h9)) (fun r_167 => ?_)
 refine r_unpack ?_
 refine r_freeze (k := 0) rfl (fun G_168 hn_169 hs_170 => ?_)
 replace hV := hV.mono hn_169.le
 replace hLS := StC.mono hLS hn_169.le
 replace hCS := StC.mono hCS hn_169.le
 replace hR := hR.mono hn_169.le
 replace hL := hL.mono hn_169.le
 replace hC := hC.mono hn_169.le
 replace hO := hO.mono hn_169.le
 replace hall := hall.mono hn_169.le
 replace hal1 := hal1.mono hn_169.le
 replace hs0 := hs0.mono hn_169.le
 replace hr := hr.mono hn_169.le
 replace hrt := fun p hm0 => (hrt p hm0).mono hn_169.le
 replace hrs := fun p hm0 => (hrs p hm0).mono hn_169.le
 replace u_35s := u_35s.mono hn_169.le
 replace u_35t := u_35t.mono hn_169.le
 replace hP9 := hP9.mono hn_169.le
 have hk1 : SlL G_168 r_167 1 cI (0 : Int) (kidsR (RV ls iv) c) := SlL.of (cells := cI) (0 : Int) (fun _ => rfl) rfl hs_170
 refine r_val .none rfl (p_move rfl) ?_
 refine r_freeze (k := 2) rfl (fun G_171 hn_172 hs_173 => ?_)
 replace hV := hV.mono hn_172.le
 replace hLS := StC.mono hLS hn_172.le
 replace hCS := StC.mono hCS hn_172.le
 replace hR := hR.mono hn_172.le
 replace hL := hL.mono hn_172.le
 replace hC := hC.mono hn_172.le
 replace hO := hO.mono hn_172.le
 replace hall := hall.mono hn_172.le
 replace hal1 := hal1.mono hn_172.le
 replace hs0 := hs0.mono hn_172.le
 replace hr := hr.mono hn_172.le
 replace hrt := fun p hm0 => (hrt p hm0).mono hn_172.le
 replace hrs := fun p hm0 => (hrs p hm0).mono hn_172.le
 replace u_35s := u_35s.mono hn_172.le
 replace u_35t := u_35t.mono hn_172.le
 replace hP9 := hP9.mono hn_172.le
 replace hk1 := hk1.mono hn_172.le
 rw [List.take_of_length_le (Nat.le_refl _), all_kids] at hs_173
 have hk2 : SlL G_171 kvv 1 cI (0 : Int) (kidsR (RV ls iv) c) := SlL.of (cells := cI) (0 : Int) (fun _ => rfl) rfl hs_173
 refine r_call (vs := [_, _]) .none rfl cl23 rfl (fun w hw => c_ints15 _ _ _ _ hk1 hk2 w hw) ?_
 refine r_say (d := 215) (v := Value.bool true) (congrArg (fun z => some (Value.bool z)) (decide_eq_true rfl)) ?_
 refine r_val .none rfl (p_not rfl) ?_
 refine r_say (d := 216) (v := Value.bool false) rfl ?_
 refine r_val .none rfl (p_move rfl) ?_
 refine r_val (.some rfl rfl) rfl (p_move rfl) ?_
 refine r_val (.some rfl rfl) rfl (p_move rfl) ?_
 refine r_callor (k := 0) (vs := [_, _]) (.some rfl rfl) rfl cl54 rfl rfl (fun w F hw hA hFG => (by have h9 := c_kouter _ (n : Nat) l _ _ hV (by rw [hnR]; have h7 := (nR_kids (RV ls iv) (n : Nat)).2; omega) w hw hA hFG; rw [hgp] at h9; exact h9)) (fun r_174 => ?_)
 refine r_unpack ?_
 refine r_freeze (k := 0) rfl (fun G_175 hn_176 hs_177 => ?_)
 replace hV := hV.mono hn_176.le
 replace hLS := StC.mono hLS hn_176.le
 replace hCS := StC.mono hCS hn_176.le
 replace hR := hR.mono hn_176.le
 replace hL := hL.mono hn_176.le
 replace hC := hC.mono hn_176.le
 replace hO := hO.mono hn_176.le
 replace hall := hall.mono hn_176.le
 replace hal1 := hal1.mono hn_176.le
 replace hs0 := hs0.mono hn_176.le
 replace hr := hr.mono hn_176.le
 replace hrt := fun p hm0 => (hrt p hm0).mono hn_176.le
 replace hrs := fun p hm0 => (hrs p hm0).mono hn_176.le
 replace u_35s := u_35s.mono hn_176.le
 replace u_35t := u_35t.mono hn_176.le
 replace hP9 := hP9.mono hn_176.le
 replace hk1 := hk1.mono hn_176.le
 replace hk2 := hk2.mono hn_176.le
 have ho1 : SlL G_175 r_174 1 cI (0 : Int) (outerR (RV ls iv) c) := SlL.of (cells := cI) (0 : Int) (fun _ => rfl) rfl hs_177
 refine r_val (.some rfl rfl) rfl (p_move rfl) ?_
 refine r_freeze (k := 1) rfl (fun G_178 hn_179 hs_180 => ?_)
 replace hV := hV.mono hn_179.le
 replace hLS := StC.mono hLS hn_179.le
 replace hCS := StC.mono hCS hn_179.le
 replace hR := hR.mono hn_179.le
 replace hL := hL.mono hn_179.le
 replace hC := hC.mono hn_179.le
 replace hO := hO.mono hn_179.le
 replace hall := hall.mono hn_179.le
 replace hal1 := hal1.mono hn_179.le
 replace hs0 := hs0.mono hn_179.le
 replace hr := hr.mono hn_179.le
 replace hrt := fun p hm0 => (hrt p hm0).mono hn_179.le
 replace hrs := fun p hm0 => (hrs p hm0).mono hn_179.le
 replace u_35s := u_35s.mono hn_179.le
 replace u_35t := u_35t.mono hn_179.le
 replace hP9 := hP9.mono hn_179.le
 replace hk1 := hk1.mono hn_179.le
 replace hk2 := hk2.mono hn_179.le
 replace ho1 := ho1.mono hn_179.le
 rw [List.take_of_length_le (Nat.le_refl _), all_outer] at hs_180
 have ho2 : SlL G_178 ovv 1 cI (0 : Int) (outerR (RV ls iv) c) := SlL.of (cells := cI) (0 : Int) (fun _ => rfl) rfl hs_180
 refine r_call (vs := [_, _]) (.some rfl rfl) rfl cl23 rfl (fun w hw => c_ints15 _ _ _ _ ho1 ho2 w hw) ?_
 refine r_say (d := 222) (v := Value.bool true) (congrArg (fun z => some (Value.bool z)) (decide_eq_true rfl)) ?_
 refine r_val (.some rfl rfl) rfl (p_not rfl) ?_
 refine r_say (d := 223) (v := Value.bool false) rfl ?_
 refine r_val .none rfl (p_pick_f rfl rfl) ?_
 refine r_nil (e_next (c_cond_f rfl (c_skip ?_)))
 refine e_norm_block ?_
 refine e_next (c_region (r_val .none rfl (p_move rfl) ?_))
 refine r_val .none rfl (p_add rfl rfl (by omega)) ?_
 refine r_val .none rfl (p_assign rfl) (r_nil ?_)
 refine e_round ((n + 1, _)) ⟨⟨by dsimp only; omega, ((((((hgn.trans hn_32).trans hn_40).trans hn_169).trans hn_172).trans hn_176).trans hn_179)⟩, by dsimp only; omega⟩ rfl ⟨rfl, rfl, rfl, rfl, trivial⟩ (.keep (fun _ _ h => h) (.drop (.nil)))))))
 · (
 have he0 : c.length ≠ 0 := by (have h9 := h_37; omega)
 have hpp : 0 < (ndR (RV ls iv) c).par := par_pos hClo hg he0
 first
 | (exfalso; first | omega | assumption)
 | (
 refine c_cond_f rfl (c_skip (e_next (c_seq (c_seq ?_))))
 refine c_region (r_val .none rfl (p_move rfl) ?_)
 refine r_val .none rfl (p_not rfl) ?_
 refine r_say (d := 104) (v := Value.bool false) rfl ?_
 refine r_nil (e_next (c_cond_f rfl (c_skip (e_next ?_))))
 refine c_seq (c_seq ?_)
 have hrG := hr
 refine c_region_d (fun _ => false) _ mixed (.keep (fun _ _ h => h) (.keep (fun _ _ h => h) (.nil))) ?_
 refine d_val1 0 rfl rfl (by kernel_rfl) (fun _ _ => rfl) .none rfl (p_move rfl) ?_
 refine d_val1 1 rfl rfl (by kernel_rfl) (fun _ _ => rfl) .none rfl (p_leng Try.underlying29 rfl hr) ?_
 have bd_181 := (hr).bound
 refine d_val1 2 rfl rfl (by kernel_rfl) (fun _ _ => rfl) .none rfl (p_gt rfl rfl) ?_
 refine d_say (d := 107) (v := Value.bool true) (congrArg (fun z => some (Value.bool z)) (decide_eq_true (by omega))) ?_
 refine d_val1 3 rfl rfl (by kernel_rfl) (fun _ _ => rfl) .none rfl (p_move rfl) ?_
 refine d_val1 4 rfl rfl (by kernel_rfl) (fun _ _ => rfl) (.some rfl rfl) rfl (p_move rfl) ?_
 refine d_say (d := 109) (v := Value.bool true) (congrArg (fun z => some (Value.bool z)) (decide_eq_true hpp)) ?_
 refine d_val1 5 rfl rfl (by kernel_rfl) (fun _ _ => rfl) (.some rfl rfl) rfl (p_not rfl) ?_
 refine d_say (d := 110) (v := Value.bool false) rfl ?_
 refine d_val1 6 rfl rfl (by kernel_rfl) (fun _ _ => rfl) (.some rfl rfl) rfl (p_move rfl) ?_
 refine d_val1 7 rfl rfl (by kernel_rfl) (fun _ _ => rfl) (.some rfl rfl) rfl (p_ldw (k := 0) Try.underlying50 rfl sz50 rfl rfl (rfl : _ = Value.agg #[_, _, _, _, _, _])) ?_
 refine d_val1 9 rfl rfl (by kernel_rfl) (fun _ _ => rfl) (.some rfl rfl) rfl (p_move rfl) ?_
 refine d_val1 10 rfl rfl (by kernel_rfl) (fun _ _ => rfl) (.some rfl rfl) rfl (p_move rfl) ?_
 refine d_val1 11 rfl rfl (by kernel_rfl) (fun _ _ => rfl) (.some rfl rfl) rfl (p_leng Try.underlying29 rfl hr) ?_
 have bd_182 := (hr).bound
 obtain ⟨m, hm⟩ : ∃ m, rs.length = m + 1 := ⟨rs.length - 1, by omega⟩
 refine d_val1 12 rfl rfl (by kernel_rfl) (fun _ _ => rfl) (.some rfl rfl) rfl (p_sub rfl rfl (by omega)) ?_
 refine d_say (d := 117) (v := Value.int .i64 ((m : Nat) : Int)) (congrArg (fun x => some (Value.int .i64 x)) (by omega)) ?_
 refine d_iaddr_g 13 rfl rfl (by kernel_rfl) (fun _ _ => rfl) (.some rfl rfl) rfl Try.underlying29 sz90 rfl hr rfl (by first | exact odt rfl | omega) (fun p_184 o_185 R_183 => ?_)
 have ht_186 := hrt _ (getD_mem (i := m) (d := s0) (by omega))
 have hc_187 := hrs _ (getD_mem (i := m) (d := s0) (by omega))
 refine d_val1 14 rfl rfl (by kernel_rfl) (fun _ _ => rfl) (.some rfl rfl) rfl (p_ldga0 Try.underlying90 rfl sz90 rfl R_183 (by first | exact odt rfl | omega) (rfl : _ = Value.agg #[_, _, _, _, _, _])) ?_
 refine d_eff 8 rfl (by kernel_rfl) (fun K_188 hKK_188 hcK_188 => ?_)
 refine r_callm (vs := [_]) (.some rfl rfl) rfl cl37 rfl (fun w hw => c_sref (c.getLastD sZ) _ _ hlz9 u_35s u_35t w hw) (fun G_189 v_192 hn_190 hr_191 => ?_)
 replace hV := hV.mono hn_190.le
 replace hLS := StC.mono hLS hn_190.le
 replace hCS := StC.mono hCS hn_190.le
 replace hR := hR.mono hn_190.le
 replace hL := hL.mono hn_190.le
 replace hC := hC.mono hn_190.le
 replace hO := hO.mono hn_190.le
 replace hall := hall.mono hn_190.le
 replace hal1 := hal1.mono hn_190.le
 replace hs0 := hs0.mono hn_190.le
 replace hr := hr.mono hn_190.le
 replace hrt := fun p hm0 => (hrt p hm0).mono hn_190.le
 replace hrs := fun p hm0 => (hrs p hm0).mono hn_190.le
 replace u_35s := u_35s.mono hn_190.le
 replace u_35t := u_35t.mono hn_190.le
 replace R_183 := R_183.mono hn_190.le
 replace ht_186 := ht_186.mono hn_190.le
 replace hc_187 := hc_187.mono hn_190.le
 obtain ⟨u_193a, u_193b, rfl, u_193s, u_193t⟩ := hr_191
 refine r_nil (e_d (i := 8) (brk := (fun _ => false)) (ph' := true) hKK_188 hcK_188 rfl (fun _ => hn_190.le) (fun _ => .keep (fun _ _ h => h) (.keep (fun _ _ h => h) (.nil))) ?_)
 clear hKK_188 hcK_188 K_188
 refine d_eff 15 rfl (by kernel_rfl) (fun K_194 hKK_194 hcK_194 => ?_)
 refine r_call (vs := [_, _]) (.some rfl rfl) rfl cl55 rfl (fun w hw => c_rsameS (c.getLastD sZ) (rs.getD m s0).1 _ _ _ _ u_193s u_193t ht_186 hc_187 w hw) ?_
 refine r_nil (e_d (i := 15) (brk := (fun _ => false)) (ph' := true) hKK_194 hcK_194 rfl (fun _ => hn_190.le) (fun _ => .keep (fun _ _ h => h) (.keep (fun _ _ h => h) (.nil))) ?_)
 clear hKK_194 hcK_194 K_194
 refine d_say (d := 120) (v := Value.bool true) (congrArg (fun z => some (Value.bool z)) (by rw [(last_is hcl hm).1]; exact (seq_iff _ _).2 rfl)) ?_
 refine d_val1 16 rfl rfl (by kernel_rfl) (fun _ _ => rfl) (.some rfl rfl) rfl (p_not rfl) ?_
 refine d_say (d := 121) (v := Value.bool false) rfl ?_
 refine d_val1 17 rfl rfl (by kernel_rfl) (fun _ _ => rfl) (.some rfl rfl) rfl (p_pick_f rfl rfl) ?_
 refine d_val1 18 rfl rfl (by kernel_rfl) (fun _ _ => rfl) (.some rfl rfl) rfl (p_move rfl) ?_
 refine d_val1 19 rfl rfl (by kernel_rfl) (fun _ _ => rfl) (.some rfl rfl) rfl (p_move rfl) ?_
 refine d_val1 20 rfl rfl (by kernel_rfl) (fun _ _ => rfl) (.some rfl rfl) rfl (p_move rfl) ?_
 refine d_val1 22 rfl rfl (by kernel_rfl) (fun _ _ => rfl) (.some rfl rfl) rfl (p_move rfl) ?_
 refine d_val1 23 rfl rfl (by kernel_rfl) (fun _ _ => rfl) (.some rfl rfl) rfl (p_move rfl) ?_
 refine d_val1 24 rfl rfl (by kernel_rfl) (fun _ _ => rfl) (.some rfl rfl) rfl (p_move rfl) ?_
 refine d_val1 25 rfl rfl (by kernel_rfl) (fun _ _ => rfl) (.some rfl rfl) rfl (p_lengx Try.underlying29 rfl hr) ?_
 have bd_195 := (hr).bound
 refine d_val1 26 rfl rfl (by kernel_rfl) (fun _ _ => rfl) (.some rfl rfl) rfl (p_sub rfl rfl (by omega)) ?_
 refine d_say (d := 131) (v := Value.int .i64 ((m : Nat) : Int)) (congrArg (fun x => some (Value.int .i64 x)) (by omega)) ?_
 refine d_slice0 27 m rfl rfl (by kernel_rfl) (fun _ _ => rfl) (.some rfl rfl) rfl Try.underlying29 sz90 rfl hrG rfl (by first | exact odt rfl | omega) (fun v_196 hs_197 => ?_)
 have hPn : Ss G_189 v_196 ((rs.map Prod.fst).take m) := by rw [← List.map_take]; exact Ss.mk (rs.take m) (ss_take (by omega) (hs_197.mono hn_190.le)) (fun p hm => hrt p (List.mem_of_mem_take hm)) (fun p hm => hrs p (List.mem_of_mem_take hm))
 refine d_eff 21 rfl (by kernel_rfl) (fun K_199 hKK_199 hcK_199 => ?_)
 refine r_callo (k := 1) (vs := [_, _]) (.some rfl rfl) rfl cl51 rfl rfl (fun w F hw hA hFG => (by have h9 := c_kpar _ (n : Nat) l _ _ hV w hw hA hFG; rw [hgp] at h9; exact h9)) ?_
 refine r_nil (e_d (i := 21) (brk := (fun _ => false)) (ph' := true) hKK_199 hcK_199 rfl (fun _ => hn_190.le) (fun _ => .keep (fun _ _ h => h) (.keep (fun _ _ h => h) (.nil))) ?_)
 clear hKK_199 hcK_199 K_199
 refine d_eff 28 rfl (by kernel_rfl) (fun K_200 hKK_200 hcK_200 => ?_)
 refine r_call (vs := [_, _]) (.some rfl rfl) rfl cl47 rfl (fun w hw => c_rfind16 b va vb vc ls iv _ ((rs.map Prod.fst).take m) ⟨hR, hL, hC, hO⟩ hLS hCS hnl hPn w hw) ?_
 refine r_nil (e_d (i := 28) (brk := (fun _ => false)) (ph' := true) hKK_200 hcK_200 rfl (fun _ => hn_190.le) (fun _ => .keep (fun _ _ h => h) (.keep (fun _ _ h => h) (.nil))) ?_)
 clear hKK_200 hcK_200 K_200
 refine d_val1 29 rfl rfl (by kernel_rfl) (fun _ _ => rfl) (.some rfl rfl) rfl (p_ne rfl rfl) ?_
 refine d_say (d := 134) (v := Value.bool false) (congrArg (fun z => some (Value.bool z)) (decide_eq_false (fun h9 => h9 (par_snoc hcl hm)))) ?_
 refine d_val1 30 rfl rfl (by kernel_rfl) (fun _ _ => rfl) (.some rfl rfl) rfl (p_pick_f rfl rfl) ?_
 refine d_val1 31 rfl rfl (by kernel_rfl) (fun _ _ => rfl) .none rfl (p_pick_t rfl rfl) ?_
 refine d_nil (by kernel_rfl) ?_
 refine e_next (c_cond_f rfl (c_skip (e_next (c_seq ?_))))
 refine c_seq (c_region (r_val .none rfl (p_move rfl) (r_val .none rfl (p_move rfl) ?_)))
 refine r_callm (vs := [_]) .none rfl cl13 rfl (fun w hw => c_steps _ c (by omega) hs0 w hw) (fun G_201 v_204 hn_202 hr_203 => ?_)
 replace hV := hV.mono hn_202.le
 replace hLS := StC.mono hLS hn_202.le
 replace hCS := StC.mono hCS hn_202.le
 replace hR := hR.mono hn_202.le
 replace hL := hL.mono hn_202.le
 replace hC := hC.mono hn_202.le
 replace hO := hO.mono hn_202.le
 replace hall := hall.mono hn_202.le
 replace hal1 := hal1.mono hn_202.le
 replace hs0 := hs0.mono hn_202.le
 replace hr := hr.mono hn_202.le
 replace hrt := fun p hm0 => (hrt p hm0).mono hn_202.le
 replace hrs := fun p hm0 => (hrs p hm0).mono hn_202.le
 replace u_35s := u_35s.mono hn_202.le
 replace u_35t := u_35t.mono hn_202.le
 replace R_183 := R_183.mono hn_202.le
 replace ht_186 := ht_186.mono hn_202.le
 replace hc_187 := hc_187.mono hn_202.le
 replace u_193s := u_193s.mono hn_202.le
 replace u_193t := u_193t.mono hn_202.le
 replace hPn := hPn.mono hn_202.le
 have hP9 := hr_203
 refine r_callo (k := 1) (vs := [_, _]) .none rfl cl18 rfl rfl (fun w F hw hA hFG => c_kfind _ _ c l _ _ hV hP9 w hw hA hFG) ?_
 refine r_val .none rfl (p_move rfl) ?_
 refine r_val .none rfl (p_ne rfl rfl) ?_
 refine r_say (d := 142) (v := Value.bool false) (congrArg (fun z => some (Value.bool z)) (decide_eq_false (fun h9 => h9 (find_of hClo hg)))) ?_
 refine r_val .none rfl (p_move rfl) ?_
 refine r_val (.some rfl rfl) rfl (p_move rfl) ?_
 refine r_val (.some rfl rfl) rfl (p_move rfl) ?_
 refine r_callo (k := 1) (vs := [_, _]) (.some rfl rfl) rfl cl20 rfl rfl (fun w F hw hA hFG => (by have h9 := c_kdep _ (n : Nat) l _ _ hV w hw hA hFG; rw [hgp] at h9; exact h9)) ?_
 refine r_val (.some rfl rfl) rfl (p_move rfl) ?_
 refine r_val (.some rfl rfl) rfl (p_leng Try.underlying29 rfl hr) ?_
 have bd_206 := (hr).bound
 refine r_val (.some rfl rfl) rfl (p_ne rfl rfl) ?_
 refine r_say (d := 149) (v := Value.bool false) (congrArg (fun z => some (Value.bool z)) (decide_eq_false (fun h9 => h9 (show (c.length : Int) = _ by omega)))) ?_
 refine r_val .none rfl (p_pick_f rfl rfl) ?_
 refine r_val .none rfl (p_move rfl) ?_
 refine r_val (.some rfl rfl) rfl (p_move rfl) ?_
 refine r_val (.some rfl rfl) rfl (p_move rfl) ?_
 refine r_callo (k := 1) (vs := [_, _]) (.some rfl rfl) rfl cl19 rfl rfl (fun w F hw hA hFG => (by have h9 := c_kuses _ (n : Nat) l _ _ hV w hw hA hFG; rw [hgp] at h9; exact h9)) ?_
 refine r_val (.some rfl rfl) rfl (p_move rfl) ?_
 refine r_val (.some rfl rfl) rfl (p_move rfl) ?_
 refine r_call (vs := [_, _]) (.some rfl rfl) rfl cl46 rfl (fun w hw => c_ruses16 b va vb vc ls iv _ c ⟨hR, hL, hC, hO⟩ hLS hCS hnl hs0 hlz w hw) ?_
 refine r_val (.some rfl rfl) rfl (p_ne rfl rfl) ?_
 refine r_say (d := 158) (v := Value.bool false) (congrArg (fun z => some (Value.bool z)) (decide_eq_false (fun h9 => h9 rfl))) ?_
 refine r_val .none rfl (p_pick_f rfl rfl) ?_
 refine r_val .none rfl (p_move rfl) ?_
 refine r_val (.some rfl rfl) rfl (p_move rfl) ?_
 refine r_val (.some rfl rfl) rfl (p_move rfl) ?_
 refine r_callo (k := 1) (vs := [_, _]) (.some rfl rfl) rfl cl52 rfl rfl (fun w F hw hA hFG => (by have h9 := c_kinn _ (n : Nat) l _ _ hV w hw hA hFG; rw [hgp] at h9; exact h9)) ?_
 refine r_val (.some rfl rfl) rfl (p_move rfl) ?_
 refine r_val (.some rfl rfl) rfl (p_move rfl) ?_
 refine r_call (vs := [_, _]) (.some rfl rfl) rfl cl56 rfl (fun w hw => c_rinnY b va vb vc ls iv (n : Nat) c ⟨hR, hL, hC, hO⟩ hLS hCS hnl hg (by omega) hcz9 w hw) ?_
 refine r_val (.some rfl rfl) rfl (p_ne rfl rfl) ?_
 refine r_say (d := 167) (v := Value.bool false) (congrArg (fun z => some (Value.bool z)) (decide_eq_false (fun h9 => h9 rfl))) ?_
 refine r_val .none rfl (p_pick_f rfl rfl) ?_
 refine r_nil (e_next (c_cond_f rfl (c_skip (e_next ?_))))
 refine c_seq (c_region (r_val .none rfl (p_assign rfl) (r_val .none rfl (p_assign rfl) (r_nil ?_))))
 refine e_next (c_seq (c_seq (c_region (r_val .none rfl (p_move rfl) ?_))))
 refine r_val .none rfl (p_leng Try.underlying33 rfl hall) ?_
 have bd_207 := (hall).bound
 refine r_val .none rfl (p_move rfl) (r_nil (e_next (c_block ?_)))
 refine c_nilrow 3 1 ?_
 refine c_nilrow 3 1 ?_
 refine c_name (d := 0) rfl (fun u_208 hu_208 => ?_)
 refine c_name (d := 1) rfl (fun u_209 hu_209 => ?_)
 refine c_name (d := 5) rfl (fun u_210 hu_210 => ?_)
 refine c_name (d := 6) rfl (fun u_211 hu_211 => ?_)
 refine c_name (d := 7) rfl (fun u_212 hu_212 => ?_)
 refine c_name (d := 8) rfl (fun u_213 hu_213 => ?_)
 refine c_name (d := 9) rfl (fun u_214 hu_214 => ?_)
 refine c_name (d := 10) rfl (fun u_215 hu_215 => ?_)
 refine c_name (d := 31) rfl (fun u_216 hu_216 => ?_)
 refine c_name (d := 32) rfl (fun u_217 hu_217 => ?_)
 refine c_name (d := 33) rfl (fun u_218 hu_218 => ?_)
 refine c_name (d := 34) rfl (fun u_219 hu_219 => ?_)
 refine c_name (d := 36) rfl (fun u_220 hu_220 => ?_)
 refine c_name (d := 37) rfl (fun u_221 hu_221 => ?_)
 refine c_name (d := 38) rfl (fun u_222 hu_222 => ?_)
 refine c_name (d := 42) rfl (fun u_223 hu_223 => ?_)
 refine c_name (d := 43) rfl (fun u_224 hu_224 => ?_)
 refine c_name (d := 45) rfl (fun u_225 hu_225 => ?_)
 refine c_name (d := 46) rfl (fun u_226 hu_226 => ?_)
 refine c_name (d := 48) rfl (fun u_227 hu_227 => ?_)
 refine c_name (d := 49) rfl (fun u_228 hu_228 => ?_)
 refine c_name (d := 51) rfl (fun u_229 hu_229 => ?_)
 refine c_name (d := 52) rfl (fun u_230 hu_230 => ?_)
 refine c_name (d := 53) rfl (fun u_231 hu_231 => ?_)
 refine c_name (d := 54) rfl (fun u_232 hu_232 => ?_)
 refine c_name (d := 55) rfl (fun u_233 hu_233 => ?_)
 refine c_name (d := 56) rfl (fun u_234 hu_234 => ?_)
 refine c_name (d := 57) rfl (fun u_235 hu_235 => ?_)
 refine c_name (d := 58) rfl (fun u_236 hu_236 => ?_)
 refine c_name (d := 59) rfl (fun u_237 hu_237 => ?_)
 refine c_name (d := 103) rfl (fun u_238 hu_238 => ?_)
 refine c_name (d := 104) rfl (fun u_239 hu_239 => ?_)
 refine c_name (d := 105) rfl (fun u_240 hu_240 => ?_)
 refine c_name (d := 106) rfl (fun u_241 hu_241 => ?_)
 refine c_name (d := 107) rfl (fun u_242 hu_242 => ?_)
 refine c_name (d := 108) rfl (fun u_243 hu_243 => ?_)
 refine c_name (d := 109) rfl (fun u_244 hu_244 => ?_)
 refine c_name (d := 110) rfl (fun u_245 hu_245 => ?_)
 refine c_name (d := 111) rfl (fun u_246 hu_246 => ?_)
 refine c_name (d := 112) rfl (fun u_247 hu_247 => ?_)
 refine c_name (d := 113) rfl (fun u_248 hu_248 => ?_)
 refine c_name (d := 114) rfl (fun u_249 hu_249 => ?_)
 refine c_name (d := 115) rfl (fun u_250 hu_250 => ?_)
 refine c_name (d := 116) rfl (fun u_251 hu_251 => ?_)
 refine c_name (d := 117) rfl (fun u_252 hu_252 => ?_)
 refine c_name (d := 118) rfl (fun u_253 hu_253 => ?_)
 refine c_name (d := 119) rfl (fun u_254 hu_254 => ?_)
 refine c_name (d := 120) rfl (fun u_255 hu_255 => ?_)
 refine c_name (d := 121) rfl (fun u_256 hu_256 => ?_)
 refine c_name (d := 122) rfl (fun u_257 hu_257 => ?_)
 refine c_name (d := 123) rfl (fun u_258 hu_258 => ?_)
 refine c_name (d := 124) rfl (fun u_259 hu_259 => ?_)
 refine c_name (d := 125) rfl (fun u_260 hu_260 => ?_)
 refine c_name (d := 126) rfl (fun u_261 hu_261 => ?_)
 refine c_name (d := 127) rfl (fun u_262 hu_262 => ?_)
 refine c_name (d := 128) rfl (fun u_263 hu_263 => ?_)
 refine c_name (d := 129) rfl (fun u_264 hu_264 => ?_)
 refine c_name (d := 130) rfl (fun u_265 hu_265 => ?_)
 refine c_name (d := 131) rfl (fun u_266 hu_266 => ?_)
 refine c_name (d := 132) rfl (fun u_267 hu_267 => ?_)
 refine c_name (d := 133) rfl (fun u_268 hu_268 => ?_)
 refine c_name (d := 134) rfl (fun u_269 hu_269 => ?_)
 refine c_name (d := 135) rfl (fun u_270 hu_270 => ?_)
 refine c_name (d := 136) rfl (fun u_271 hu_271 => ?_)
 refine c_name (d := 137) rfl (fun u_272 hu_272 => ?_)
 refine c_name (d := 138) rfl (fun u_273 hu_273 => ?_)
 refine c_name (d := 139) rfl (fun u_274 hu_274 => ?_)
 refine c_name (d := 140) rfl (fun u_275 hu_275 => ?_)
 refine c_name (d := 141) rfl (fun u_276 hu_276 => ?_)
 refine c_name (d := 142) rfl (fun u_277 hu_277 => ?_)
 refine c_name (d := 143) rfl (fun u_278 hu_278 => ?_)
 refine c_name (d := 144) rfl (fun u_279 hu_279 => ?_)
 refine c_name (d := 145) rfl (fun u_280 hu_280 => ?_)
 refine c_name (d := 146) rfl (fun u_281 hu_281 => ?_)
 refine c_name (d := 147) rfl (fun u_282 hu_282 => ?_)
 refine c_name (d := 148) rfl (fun u_283 hu_283 => ?_)
 refine c_name (d := 149) rfl (fun u_284 hu_284 => ?_)
 refine c_name (d := 150) rfl (fun u_285 hu_285 => ?_)
 refine c_name (d := 151) rfl (fun u_286 hu_286 => ?_)
 refine c_name (d := 152) rfl (fun u_287 hu_287 => ?_)
 refine c_name (d := 153) rfl (fun u_288 hu_288 => ?_)
 refine c_name (d := 154) rfl (fun u_289 hu_289 => ?_)
 refine c_name (d := 155) rfl (fun u_290 hu_290 => ?_)
 refine c_name (d := 156) rfl (fun u_291 hu_291 => ?_)
 refine c_name (d := 157) rfl (fun u_292 hu_292 => ?_)
 refine c_name (d := 158) rfl (fun u_293 hu_293 => ?_)
 refine c_name (d := 159) rfl (fun u_294 hu_294 => ?_)
 refine c_name (d := 160) rfl (fun u_295 hu_295 => ?_)
 refine c_name (d := 161) rfl (fun u_296 hu_296 => ?_)
 refine c_name (d := 162) rfl (fun u_297 hu_297 => ?_)
 refine c_name (d := 163) rfl (fun u_298 hu_298 => ?_)
 refine c_name (d := 164) rfl (fun u_299 hu_299 => ?_)
 refine c_name (d := 165) rfl (fun u_300 hu_300 => ?_)
 refine c_name (d := 166) rfl (fun u_301 hu_301 => ?_)
 refine c_name (d := 167) rfl (fun u_302 hu_302 => ?_)
 refine c_name (d := 168) rfl (fun u_303 hu_303 => ?_)
 refine c_name (d := 169) rfl (fun u_304 hu_304 => ?_)
 refine c_name (d := 170) rfl (fun u_305 hu_305 => ?_)
 refine c_nameL (k := 2) rfl (fun A_306 hA_306 => ?_)
 refine c_nameL (k := 3) rfl (fun A_307 hA_307 => ?_)
 refine c_loop (σ := Nat × Value × Value) (fun s' => [(171, Value.int .i64 (s'.1 : Nat)), (11, s'.2.1), (12, s'.2.2), (0, u_208), (1, u_209), (5, u_210), (6, u_211), (7, u_212), (8, u_213), (9, u_214), (10, u_215), (31, u_216), (32, u_217), (33, u_218), (34, u_219), (36, u_220), (37, u_221), (38, u_222), (42, u_223), (43, u_224), (45, u_225), (46, u_226), (48, u_227), (49, u_228), (51, u_229), (52, u_230), (53, u_231), (54, u_232), (55, u_233), (56, u_234), (57, u_235), (58, u_236), (59, u_237), (103, u_238), (104, u_239), (105, u_240), (106, u_241), (107, u_242), (108, u_243), (109, u_244), (110, u_245), (111, u_246), (112, u_247), (113, u_248), (114, u_249), (115, u_250), (116, u_251), (117, u_252), (118, u_253), (119, u_254), (120, u_255), (121, u_256), (122, u_257), (123, u_258), (124, u_259), (125, u_260), (126, u_261), (127, u_262), (128, u_263), (129, u_264), (130, u_265), (131, u_266), (132, u_267), (133, u_268), (134, u_269), (135, u_270), (136, u_271), (137, u_272), (138, u_273), (139, u_274), (140, u_275), (141, u_276), (142, u_277), (143, u_278), (144, u_279), (145, u_280), (146, u_281), (147, u_282), (148, u_283), (149, u_284), (150, u_285), (151, u_286), (152, u_287), (153, u_288), (154, u_289), (155, u_290), (156, u_291), (157, u_292), (158, u_293), (159, u_294), (160, u_295), (161, u_296), (162, u_297), (163, u_298), (164, u_299), (165, u_300), (166, u_301), (167, u_302), (168, u_303), (169, u_304), (170, u_305)]) (fun s' => [rowA (s'.2.2) 3 1 ((((all (RV ls iv)).take s'.1).filter (pickR (RV ls iv) (isOuter c)))).length (((((all (RV ls iv)).take s'.1).filter (pickR (RV ls iv) (isOuter c)))).flatMap cI), rowA (s'.2.1) 3 1 ((((all (RV ls iv)).take s'.1).filter (pickR (RV ls iv) (isKid c)))).length (((((all (RV ls iv)).take s'.1).filter (pickR (RV ls iv) (isKid c)))).flatMap cI), A_306, A_307]) (fun _ => _) (fun s' => s'.1 ≤ (all (RV ls iv)).length) (fun s' => (all (RV ls iv)).length - s'.1) ((0, _, _)) (Nat.zero_le _) rfl ⟨rfl, rfl, rfl, rfl, rfl, rfl, rfl, rfl, rfl, rfl, rfl, rfl, rfl, rfl, rfl, rfl, rfl, rfl, rfl, rfl, rfl, rfl, rfl, rfl, rfl, rfl, rfl, rfl, rfl, rfl, rfl, rfl, rfl, rfl, rfl, rfl, rfl, rfl, rfl, rfl, rfl, rfl, rfl, rfl, rfl, rfl, rfl, rfl, rfl, rfl, rfl, rfl, rfl, rfl, rfl, rfl, rfl, rfl, rfl, rfl, rfl, rfl, rfl, rfl, rfl, rfl, rfl, rfl, rfl, rfl, rfl, rfl, rfl, rfl, rfl, rfl, rfl, rfl, rfl, rfl, rfl, rfl, rfl, rfl, rfl, rfl, rfl, rfl, rfl, rfl, rfl, rfl, rfl, rfl, rfl, rfl, rfl, rfl, rfl, rfl, rfl, trivial⟩ (.keep (fun _ _ h => rowA_nil (by simp) _ _ h) (.keep (fun _ _ h => rowA_nil (by simp) _ _ h) (.keep (fun _ _ h => h) (.keep (fun _ _ h => h) (.nil))))) (fun s' hphi => ?_)
 subst hu_208
 subst hu_209
 subst hu_210
 subst hu_211
 subst hu_212
 subst hu_213
 subst hu_214
 subst hu_215
 subst hu_216
 subst hu_217
 subst hu_218
 subst hu_219
 subst hu_220
 subst hu_221
 subst hu_222
 subst hu_223
 subst hu_224
 subst hu_225
 subst hu_226
 subst hu_227
 subst hu_228
 subst hu_229
 subst hu_230
 subst hu_231
 subst hu_232
 subst hu_233
 subst hu_234
 subst hu_235
 subst hu_236
 subst hu_237
 subst hu_238
 subst hu_239
 subst hu_240
 subst hu_241
 subst hu_242
 subst hu_243
 subst hu_244
 subst hu_245
 subst hu_246
 subst hu_247
 subst hu_248
 subst hu_249
 subst hu_250
 subst hu_251
 subst hu_252
 subst hu_253
 subst hu_254
 subst hu_255
 subst hu_256
 subst hu_257
 subst hu_258
 subst hu_259
 subst hu_260
 subst hu_261
 subst hu_262
 subst hu_263
 subst hu_264
 subst hu_265
 subst hu_266
 subst hu_267
 subst hu_268
 subst hu_269
 subst hu_270
 subst hu_271
 subst hu_272
 subst hu_273
 subst hu_274
 subst hu_275
 subst hu_276
 subst hu_277
 subst hu_278
 subst hu_279
 subst hu_280
 subst hu_281
 subst hu_282
 subst hu_283
 subst hu_284
 subst hu_285
 subst hu_286
 subst hu_287
 subst hu_288
 subst hu_289
 subst hu_290
 subst hu_291
 subst hu_292
 subst hu_293
 subst hu_294
 subst hu_295
 subst hu_296
 subst hu_297
 subst hu_298
 subst hu_299
 subst hu_300
 subst hu_301
 subst hu_302
 subst hu_303
 subst hu_304
 subst hu_305
 subst hA_306
 subst hA_307
 obtain ⟨j, kvv, ovv⟩ := s'
 dsimp only at hphi ⊢
 refine c_seq (c_region ?_)
 refine r_val .none rfl (p_lt rfl rfl) ?_
 refine r_nil (e_next (c_seq ?_))
 refine c_splitd (d := 172) rfl (fun h_308 => ?_) (fun h_308 => ?_)
 · (
 first
 | (exfalso; first | omega | assumption)
 | (
 refine c_cond_t rfl (c_skip (e_next (c_seq (c_block ?_))))
 refine c_seq (c_region ?_)
 refine r_iaddr_g .none rfl Try.underlying33 sz3 rfl hall rfl (by first | exact odt rfl | omega) (fun p_310 o_311 R_309 => ?_)
 refine r_val .none rfl (p_ldg0 Try.underlying3 rfl rfl R_309 (by first | exact odt rfl | omega) (rfl : _ = Value.int _ _)) ?_
 refine r_val .none rfl (p_assign rfl) (r_nil (e_next (c_seq (c_region ?_))))
 refine r_val .none rfl (p_move rfl) (r_val .none rfl (p_move rfl) ?_)
 obtain ⟨d, hgd⟩ := all_mem.1 (getD_mem (i := j) (d := (0 : Int)) (rs := all (RV ls iv)) (by omega))
 have hdl := get_lt hgd
 have hdz9 : sszL d ≤ 2000 := hcz _ _ hgd
 have hs1 := chV_ss hCS hgd
 obtain ⟨rd, hrd, hrdt, hrds, hdcl⟩ := hs1.inv
 have hdn : d.length = rd.length := by rw [hdcl]; simp
 refine r_call (vs := [_, _]) .none rfl cl49 rfl (fun w hw => c_rchY b va vb vc ls iv ((all (RV ls iv)).getD j 0) d ⟨hR, hL, hC, hO⟩ hLS hCS hnl hgd (by omega) w hw) ?_
 refine r_val .none rfl (p_move rfl) ?_
 refine r_val .none rfl (p_extract rfl rfl) ?_
 refine r_val .none rfl (p_extract rfl rfl) ?_
 refine r_val .none rfl (p_assign rfl) (r_val .none rfl (p_assign rfl) (r_nil (e_next (c_seq ?_))))
 refine c_seq (c_region (r_val .none rfl (p_move rfl) ?_))
 refine r_val .none rfl (p_leng Try.underlying29 rfl hrd) ?_
 have bd_312 := (hrd).bound
 refine r_val .none rfl (p_move rfl) ?_
 refine r_val .none rfl (p_leng Try.underlying29 rfl hr) ?_
 have bd_313 := (hr).bound
 refine r_val .none rfl (p_add rfl rfl (by omega)) ?_
 refine r_val .none rfl (p_eq rfl rfl) ?_
 refine r_val .none rfl (p_move rfl) ?_
 refine r_splitd (d := 187) rfl (fun h_314 => ?_) (fun h_314 => ?_)
 · (
 have hdl9 : d.length = c.length + 1 := by (have h9 := h_314; omega)
 first
 | (exfalso; first | omega | assumption)
 | (
 refine r_val (.some rfl rfl) rfl (p_move rfl) ?_
 refine r_val (.some rfl rfl) rfl (p_move rfl) ?_
 refine r_val (.some rfl rfl) rfl (p_move rfl) ?_
 refine r_val (.some rfl rfl) rfl (p_leng Try.underlying29 rfl hr) ?_
 have bd_315 := (hr).bound
 refine r_slice0 (rs.length) (.some rfl rfl) rfl Try.underlying29 sz90 rfl hrd rfl (by first | exact odt rfl | omega) (fun v_316 hs_317 => ?_)
 have hPd : Ss G_201 v_316 ((rd.map Prod.fst).take rs.length) := by rw [← List.map_take]; exact Ss.mk (rd.take rs.length) (ss_take (by omega) hs_317) (fun p hm => hrdt p (List.mem_of_mem_take hm)) (fun p hm => hrds p (List.mem_of_mem_take hm))
 refine r_call (vs := [_, _]) (.some rfl rfl) rfl cl47 rfl (fun w hw => c_rfind16 b va vb vc ls iv _ ((rd.map Prod.fst).take rs.length) ⟨hR, hL, hC, hO⟩ hLS hCS hnl hPd w hw) ?_
 refine r_val (.some rfl rfl) rfl (p_move rfl) ?_
 refine r_val (.some rfl rfl) rfl (p_eq rfl rfl) ?_
 refine r_val .none rfl (p_pick_t rfl rfl) ?_
 refine r_nil (e_next ?_)
 refine c_splitd (d := 196) rfl (fun h_319 => ?_) (fun h_319 => ?_)
 · (
 have hkb : pickR (RV ls iv) (isKid c) ((all (RV ls iv)).getD j 0) = true := pick_kid_yes hClo hg hgd hdl9 (by rw [hcn]; have h9 := h_319; rw [← hdcl] at h9; exact h9)
 first
 | (exfalso; first | omega | assumption)
 | (
 refine c_cond_t rfl (c_region (r_val .none rfl (p_move rfl) (r_val .none rfl (p_move rfl) ?_)))
 refine r_bslice (vs := [(0, Value.int _ _)]) (c := #[_]) .none rfl Try.underlying33 el3 rfl rfl rfl (bs3_10i2 _ _) (IsRow.lit _) (fun b_7 => ?_)
 refine r_append (k := 2) (k2 := 0) .none rfl Try.underlying33 el3 rfl (by decide) rfl rfl rfl rfl rfl (one_lit rfl rfl) (by simp only [maxLen]; have h9 := List.length_filter_le (pickR (RV ls iv) (isKid c)) ((all (RV ls iv)).take j); rw [List.length_take] at h9; omega) (by have h9 := List.length_filter_le (pickR (RV ls iv) (isKid c)) ((all (RV ls iv)).take j); rw [List.length_take] at h9; omega) (fun v_320 => ?_)
 refine r_row1 (k := 2) rfl (fun o_321 => ?_)
 refine r_val .none rfl (p_assign rfl) (r_nil (e_next (c_seq (c_region ?_))))
 refine r_val .none rfl (p_move rfl) (r_val .none rfl (p_move rfl) ?_)
 refine r_call (vs := [_, _]) .none rfl cl56 rfl (fun w hw => c_rinnY b va vb vc ls iv ((all (RV ls iv)).getD j 0) d ⟨hR, hL, hC, hO⟩ hLS hCS hnl hgd (by omega) hdz9 w hw) ?_
 refine r_val .none rfl (p_move rfl) ?_
 refine r_val .none rfl (p_eq rfl rfl) ?_
 refine r_nil (e_next ?_)
 refine c_splitd (d := 205) rfl (fun h_322 => ?_) (fun h_322 => ?_)
 · (
 have hob : pickR (RV ls iv) (isOuter c) ((all (RV ls iv)).getD j 0) = true := by (rw [pickR_some hgd, outer_is hClo hg]; exact decide_eq_true h_322)
 first
 | (exfalso; first | omega | assumption)
 | (
 refine c_cond_t rfl (c_region (r_val .none rfl (p_move rfl) (r_val .none rfl (p_move rfl) ?_)))
 refine r_bslice (vs := [(0, Value.int _ _)]) (c := #[_]) .none rfl Try.underlying33 el3 rfl rfl rfl (bs3_10i2 _ _) (IsRow.lit _) (fun b_8 => ?_)
 refine r_append (k := 2) (k2 := 0) .none rfl Try.underlying33 el3 rfl (by decide) rfl rfl rfl rfl rfl (one_lit rfl rfl) (by simp only [maxLen]; have h9 := List.length_filter_le (pickR (RV ls iv) (isOuter c)) ((all (RV ls iv)).take j); rw [List.length_take] at h9; omega) (by have h9 := List.length_filter_le (pickR (RV ls iv) (isOuter c)) ((all (RV ls iv)).take j); rw [List.length_take] at h9; omega) (fun v_323 => ?_)
 refine r_row1 (k := 2) rfl (fun o_324 => ?_)
 refine r_val .none rfl (p_assign rfl) (r_nil ?_)
 refine e_norm_block ?_
 refine e_next (c_region ?_)
 refine r_val .none rfl (p_add rfl rfl (by omega)) ?_
 refine r_val .none rfl (p_move rfl) (r_nil ?_)
 refine e_round ((j + 1, _, _)) ⟨by dsimp only; omega, by dsimp only; omega⟩ rfl ⟨rfl, rfl, rfl, rfl, rfl, rfl, rfl, rfl, rfl, rfl, rfl, rfl, rfl, rfl, rfl, rfl, rfl, rfl, rfl, rfl, rfl, rfl, rfl, rfl, rfl, rfl, rfl, rfl, rfl, rfl, rfl, rfl, rfl, rfl, rfl, rfl, rfl, rfl, rfl, rfl, rfl, rfl, rfl, rfl, rfl, rfl, rfl, rfl, rfl, rfl, rfl, rfl, rfl, rfl, rfl, rfl, rfl, rfl, rfl, rfl, rfl, rfl, rfl, rfl, rfl, rfl, rfl, rfl, rfl, rfl, rfl, rfl, rfl, rfl, rfl, rfl, rfl, rfl, rfl, rfl, rfl, rfl, rfl, rfl, rfl, rfl, rfl, rfl, rfl, rfl, rfl, rfl, rfl, rfl, rfl, rfl, rfl, rfl, rfl, rfl, rfl, trivial⟩ (.drop (.drop (.keep (fun _ _ h => rowA_snoc (filt_yes (by omega) hob) rfl rfl rfl _ _ h) (.keep (fun _ _ h => rowA_snoc (filt_yes (by omega) hkb) rfl rfl rfl _ _ h) (.keep (fun _ _ h => h) (.keep (fun _ _ h => h) (.nil)))))))))
 · (
 have hob : pickR (RV ls iv) (isOuter c) ((all (RV ls iv)).getD j 0) = false := by (rw [pickR_some hgd, outer_is hClo hg]; exact decide_eq_false h_322)
 first
 | (exfalso; first | omega | assumption)
 | (
 refine c_cond_f rfl (c_skip ?_)
 refine e_norm_block ?_
 refine e_next (c_region ?_)
 refine r_val .none rfl (p_add rfl rfl (by omega)) ?_
 refine r_val .none rfl (p_move rfl) (r_nil ?_)
 refine e_round ((j + 1, _, _)) ⟨by dsimp only; omega, by dsimp only; omega⟩ rfl ⟨rfl, rfl, rfl, rfl, rfl, rfl, rfl, rfl, rfl, rfl, rfl, rfl, rfl, rfl, rfl, rfl, rfl, rfl, rfl, rfl, rfl, rfl, rfl, rfl, rfl, rfl, rfl, rfl, rfl, rfl, rfl, rfl, rfl, rfl, rfl, rfl, rfl, rfl, rfl, rfl, rfl, rfl, rfl, rfl, rfl, rfl, rfl, rfl, rfl, rfl, rfl, rfl, rfl, rfl, rfl, rfl, rfl, rfl, rfl, rfl, rfl, rfl, rfl, rfl, rfl, rfl, rfl, rfl, rfl, rfl, rfl, rfl, rfl, rfl, rfl, rfl, rfl, rfl, rfl, rfl, rfl, rfl, rfl, rfl, rfl, rfl, rfl, rfl, rfl, rfl, rfl, rfl, rfl, rfl, rfl, rfl, rfl, rfl, rfl, rfl, rfl, trivial⟩ (.drop (.keep (fun _ _ h => by rw [filt_no (by omega) hob]; exact h) (.keep (fun _ _ h => rowA_snoc (filt_yes (by omega) hkb) rfl rfl rfl _ _ h) (.keep (fun _ _ h => h) (.keep (fun _ _ h => h) (.nil))))))))))
 · (
 have hkb : pickR (RV ls iv) (isKid c) ((all (RV ls iv)).getD j 0) = false := pick_kid_no hClo hg hgd (.inr (by rw [hcn]; have h9 := h_319; rw [← hdcl] at h9; exact h9))
 first
 | (exfalso; first | omega | assumption)
 | (
 refine c_cond_f rfl (c_skip (e_next (c_seq (c_region ?_))))
 refine r_val .none rfl (p_move rfl) (r_val .none rfl (p_move rfl) ?_)
 refine r_call (vs := [_, _]) .none rfl cl56 rfl (fun w hw => c_rinnY b va vb vc ls iv ((all (RV ls iv)).getD j 0) d ⟨hR, hL, hC, hO⟩ hLS hCS hnl hgd (by omega) hdz9 w hw) ?_
 refine r_val .none rfl (p_move rfl) ?_
 refine r_val .none rfl (p_eq rfl rfl) ?_
 refine r_nil (e_next ?_)
 refine c_splitd (d := 205) rfl (fun h_325 => ?_) (fun h_325 => ?_)
 · (
 have hob : pickR (RV ls iv) (isOuter c) ((all (RV ls iv)).getD j 0) = true := by (rw [pickR_some hgd, outer_is hClo hg]; exact decide_eq_true h_325)
 first
 | (exfalso; first | omega | assumption)
 | (
 refine c_cond_t rfl (c_region (r_val .none rfl (p_move rfl) (r_val .none rfl (p_move rfl) ?_)))
 refine r_bslice (vs := [(0, Value.int _ _)]) (c := #[_]) .none rfl Try.underlying33 el3 rfl rfl rfl (bs3_10i2 _ _) (IsRow.lit _) (fun b_9 => ?_)
 refine r_append (k := 1) (k2 := 0) .none rfl Try.underlying33 el3 rfl (by decide) rfl rfl rfl rfl rfl (one_lit rfl rfl) (by simp only [maxLen]; have h9 := List.length_filter_le (pickR (RV ls iv) (isOuter c)) ((all (RV ls iv)).take j); rw [List.length_take] at h9; omega) (by have h9 := List.length_filter_le (pickR (RV ls iv) (isOuter c)) ((all (RV ls iv)).take j); rw [List.length_take] at h9; omega) (fun v_326 => ?_)
 refine r_row1 (k := 1) rfl (fun o_327 => ?_)
 refine r_val .none rfl (p_assign rfl) (r_nil ?_)
 refine e_norm_block ?_
 refine e_next (c_region ?_)
 refine r_val .none rfl (p_add rfl rfl (by omega)) ?_
 refine r_val .none rfl (p_move rfl) (r_nil ?_)
 refine e_round ((j + 1, _, _)) ⟨by dsimp only; omega, by dsimp only; omega⟩ rfl ⟨rfl, rfl, rfl, rfl, rfl, rfl, rfl, rfl, rfl, rfl, rfl, rfl, rfl, rfl, rfl, rfl, rfl, rfl, rfl, rfl, rfl, rfl, rfl, rfl, rfl, rfl, rfl, rfl, rfl, rfl, rfl, rfl, rfl, rfl, rfl, rfl, rfl, rfl, rfl, rfl, rfl, rfl, rfl, rfl, rfl, rfl, rfl, rfl, rfl, rfl, rfl, rfl, rfl, rfl, rfl, rfl, rfl, rfl, rfl, rfl, rfl, rfl, rfl, rfl, rfl, rfl, rfl, rfl, rfl, rfl, rfl, rfl, rfl, rfl, rfl, rfl, rfl, rfl, rfl, rfl, rfl, rfl, rfl, rfl, rfl, rfl, rfl, rfl, rfl, rfl, rfl, rfl, rfl, rfl, rfl, rfl, rfl, rfl, rfl, rfl, rfl, trivial⟩ (.drop (.keep (fun _ _ h => rowA_snoc (filt_yes (by omega) hob) rfl rfl rfl _ _ h) (.keep (fun _ _ h => by rw [filt_no (by omega) hkb]; exact h) (.keep (fun _ _ h => h) (.keep (fun _ _ h => h) (.nil))))))))
 · (
 have hob : pickR (RV ls iv) (isOuter c) ((all (RV ls iv)).getD j 0) = false := by (rw [pickR_some hgd, outer_is hClo hg]; exact decide_eq_false h_325)
 first
 | (exfalso; first | omega | assumption)
 | (
 refine c_cond_f rfl (c_skip ?_)
 refine e_norm_block ?_
 refine e_next (c_region ?_)
 refine r_val .none rfl (p_add rfl rfl (by omega)) ?_
 refine r_val .none rfl (p_move rfl) (r_nil ?_)
 refine e_round ((j + 1, _, _)) ⟨by dsimp only; omega, by dsimp only; omega⟩ rfl ⟨rfl, rfl, rfl, rfl, rfl, rfl, rfl, rfl, rfl, rfl, rfl, rfl, rfl, rfl, rfl, rfl, rfl, rfl, rfl, rfl, rfl, rfl, rfl, rfl, rfl, rfl, rfl, rfl, rfl, rfl, rfl, rfl, rfl, rfl, rfl, rfl, rfl, rfl, rfl, rfl, rfl, rfl, rfl, rfl, rfl, rfl, rfl, rfl, rfl, rfl, rfl, rfl, rfl, rfl, rfl, rfl, rfl, rfl, rfl, rfl, rfl, rfl, rfl, rfl, rfl, rfl, rfl, rfl, rfl, rfl, rfl, rfl, rfl, rfl, rfl, rfl, rfl, rfl, rfl, rfl, rfl, rfl, rfl, rfl, rfl, rfl, rfl, rfl, rfl, rfl, rfl, rfl, rfl, rfl, rfl, rfl, rfl, rfl, rfl, rfl, rfl, trivial⟩ (.keep (fun _ _ h => by rw [filt_no (by omega) hob]; exact h) (.keep (fun _ _ h => by rw [filt_no (by omega) hkb]; exact h) (.keep (fun _ _ h => h) (.keep (fun _ _ h => h) (.nil)))))))))))
 · (
 have hkb : pickR (RV ls iv) (isKid c) ((all (RV ls iv)).getD j 0) = false := pick_kid_no hClo hg hgd (.inl (by have h9 := h_314; omega))
 first
 | (exfalso; first | omega | assumption)
 | (
 refine r_skip rfl (.no rfl rfl) ?_
 refine r_skip rfl (.no rfl rfl) ?_
 refine r_skip rfl (.no rfl rfl) ?_
 refine r_skip rfl (.no rfl rfl) ?_
 refine r_skip rfl (.no rfl rfl) ?_
 refine r_skip rfl (.no rfl rfl) ?_
 refine r_skip rfl (.no rfl rfl) ?_
 refine r_skip rfl (.no rfl rfl) ?_
 refine r_val .none rfl (p_pick_f rfl rfl) ?_
 refine r_nil (e_next (c_cond_f rfl (c_skip (e_next ?_))))
 refine c_seq (c_region (r_val .none rfl (p_move rfl) (r_val .none rfl (p_move rfl) ?_)))
 refine r_call (vs := [_, _]) .none rfl cl56 rfl (fun w hw => c_rinnY b va vb vc ls iv ((all (RV ls iv)).getD j 0) d ⟨hR, hL, hC, hO⟩ hLS hCS hnl hgd (by omega) hdz9 w hw) ?_
 refine r_val .none rfl (p_move rfl) ?_
 refine r_val .none rfl (p_eq rfl rfl) ?_
 refine r_nil (e_next ?_)
 refine c_splitd (d := 205) rfl (fun h_328 => ?_) (fun h_328 => ?_)
 · (
 have hob : pickR (RV ls iv) (isOuter c) ((all (RV ls iv)).getD j 0) = true := by (rw [pickR_some hgd, outer_is hClo hg]; exact decide_eq_true h_328)
 first
 | (exfalso; first | omega | assumption)
 | (
 refine c_cond_t rfl (c_region (r_val .none rfl (p_move rfl) (r_val .none rfl (p_move rfl) ?_)))
 refine r_bslice (vs := [(0, Value.int _ _)]) (c := #[_]) .none rfl Try.underlying33 el3 rfl rfl rfl (bs3_10i2 _ _) (IsRow.lit _) (fun b_10 => ?_)
 refine r_append (k := 1) (k2 := 0) .none rfl Try.underlying33 el3 rfl (by decide) rfl rfl rfl rfl rfl (one_lit rfl rfl) (by simp only [maxLen]; have h9 := List.length_filter_le (pickR (RV ls iv) (isOuter c)) ((all (RV ls iv)).take j); rw [List.length_take] at h9; omega) (by have h9 := List.length_filter_le (pickR (RV ls iv) (isOuter c)) ((all (RV ls iv)).take j); rw [List.length_take] at h9; omega) (fun v_329 => ?_)
 refine r_row1 (k := 1) rfl (fun o_330 => ?_)
 refine r_val .none rfl (p_assign rfl) (r_nil ?_)
 refine e_norm_block ?_
 refine e_next (c_region ?_)
 refine r_val .none rfl (p_add rfl rfl (by omega)) ?_
 refine r_val .none rfl (p_move rfl) (r_nil ?_)
 refine e_round ((j + 1, _, _)) ⟨by dsimp only; omega, by dsimp only; omega⟩ rfl ⟨rfl, rfl, rfl, rfl, rfl, rfl, rfl, rfl, rfl, rfl, rfl, rfl, rfl, rfl, rfl, rfl, rfl, rfl, rfl, rfl, rfl, rfl, rfl, rfl, rfl, rfl, rfl, rfl, rfl, rfl, rfl, rfl, rfl, rfl, rfl, rfl, rfl, rfl, rfl, rfl, rfl, rfl, rfl, rfl, rfl, rfl, rfl, rfl, rfl, rfl, rfl, rfl, rfl, rfl, rfl, rfl, rfl, rfl, rfl, rfl, rfl, rfl, rfl, rfl, rfl, rfl, rfl, rfl, rfl, rfl, rfl, rfl, rfl, rfl, rfl, rfl, rfl, rfl, rfl, rfl, rfl, rfl, rfl, rfl, rfl, rfl, rfl, rfl, rfl, rfl, rfl, rfl, rfl, rfl, rfl, rfl, rfl, rfl, rfl, rfl, rfl, trivial⟩ (.drop (.keep (fun _ _ h => rowA_snoc (filt_yes (by omega) hob) rfl rfl rfl _ _ h) (.keep (fun _ _ h => by rw [filt_no (by omega) hkb]; exact h) (.keep (fun _ _ h => h) (.keep (fun _ _ h => h) (.nil))))))))
 · (
 have hob : pickR (RV ls iv) (isOuter c) ((all (RV ls iv)).getD j 0) = false := by (rw [pickR_some hgd, outer_is hClo hg]; exact decide_eq_false h_328)
 first
 | (exfalso; first | omega | assumption)
 | (
 refine c_cond_f rfl (c_skip ?_)
 refine e_norm_block ?_
 refine e_next (c_region ?_)
 refine r_val .none rfl (p_add rfl rfl (by omega)) ?_
 refine r_val .none rfl (p_move rfl) (r_nil ?_)
 refine e_round ((j + 1, _, _)) ⟨by dsimp only; omega, by dsimp only; omega⟩ rfl ⟨rfl, rfl, rfl, rfl, rfl, rfl, rfl, rfl, rfl, rfl, rfl, rfl, rfl, rfl, rfl, rfl, rfl, rfl, rfl, rfl, rfl, rfl, rfl, rfl, rfl, rfl, rfl, rfl, rfl, rfl, rfl, rfl, rfl, rfl, rfl, rfl, rfl, rfl, rfl, rfl, rfl, rfl, rfl, rfl, rfl, rfl, rfl, rfl, rfl, rfl, rfl, rfl, rfl, rfl, rfl, rfl, rfl, rfl, rfl, rfl, rfl, rfl, rfl, rfl, rfl, rfl, rfl, rfl, rfl, rfl, rfl, rfl, rfl, rfl, rfl, rfl, rfl, rfl, rfl, rfl, rfl, rfl, rfl, rfl, rfl, rfl, rfl, rfl, rfl, rfl, rfl, rfl, rfl, rfl, rfl, rfl, rfl, rfl, rfl, rfl, rfl, trivial⟩ (.keep (fun _ _ h => by rw [filt_no (by omega) hob]; exact h) (.keep (fun _ _ h => by rw [filt_no (by omega) hkb]; exact h) (.keep (fun _ _ h => h) (.keep (fun _ _ h => h) (.nil)))))))))))
 · (
 first
 | (exfalso; first | omega | assumption)
 | (
 refine c_cond_f rfl (c_exit (e_exit_then (e_exit_then ?_)))
 refine e_exit_block ?_
 refine e_next (c_seq (c_region (r_val .none rfl (p_move rfl) (r_val .none rfl (p_move rfl) ?_))))
 obtain rfl : j = (all (RV ls iv)).length := by omega
 skip
 refine r_front (k := 3) rfl ?_
 refine r_callor (k := 0) (vs := [_, _]) .none rfl cl53 rfl rfl (fun w F hw hA hFG => (by have h9 := c_kkids _ (n : Nat) l _ _ hV (by rw [hnR]; have h7 := (nR_kids (RV ls iv) (n : Nat)).1; omega) w hw hA hFG; rw [hgp] at h9; exact h9)) (fun r_331 => ?_)
 refine r_unpack ?_
 refine r_freeze (k := 0) rfl (fun G_332 hn_333 hs_334 => ?_)
 replace hV := hV.mono hn_333.le
 replace hLS := StC.mono hLS hn_333.le
 replace hCS := StC.mono hCS hn_333.le
 replace hR := hR.mono hn_333.le
 replace hL := hL.mono hn_333.le
 replace hC := hC.mono hn_333.le
 replace hO := hO.mono hn_333.le
 replace hall := hall.mono hn_333.le
 replace hal1 := hal1.mono hn_333.le
 replace hs0 := hs0.mono hn_333.le
 replace hr := hr.mono hn_333.le
 replace hrt := fun p hm0 => (hrt p hm0).mono hn_333.le
 replace hrs := fun p hm0 => (hrs p hm0).mono hn_333.le
 replace u_35s := u_35s.mono hn_333.le
 replace u_35t := u_35t.mono hn_333.le
 replace R_183 := R_183.mono hn_333.le
 replace ht_186 := ht_186.mono hn_333.le
 replace hc_187 := hc_187.mono hn_333.le
 replace u_193s := u_193s.mono hn_333.le
 replace u_193t := u_193t.mono hn_333.le
 replace hPn := hPn.mono hn_333.le
 replace hP9 := hP9.mono hn_333.le
 have hk1 : SlL G_332 r_331 1 cI (0 : Int) (kidsR (RV ls iv) c) := SlL.of (cells := cI) (0 : Int) (fun _ => rfl) rfl hs_334
 refine r_val .none rfl (p_move rfl) ?_
 refine r_freeze (k := 2) rfl (fun G_335 hn_336 hs_337 => ?_)
 replace hV := hV.mono hn_336.le
 replace hLS := StC.mono hLS hn_336.le
 replace hCS := StC.mono hCS hn_336.le
 replace hR := hR.mono hn_336.le
 replace hL := hL.mono hn_336.le
 replace hC := hC.mono hn_336.le
 replace hO := hO.mono hn_336.le
 replace hall := hall.mono hn_336.le
 replace hal1 := hal1.mono hn_336.le
 replace hs0 := hs0.mono hn_336.le
 replace hr := hr.mono hn_336.le
 replace hrt := fun p hm0 => (hrt p hm0).mono hn_336.le
 replace hrs := fun p hm0 => (hrs p hm0).mono hn_336.le
 replace u_35s := u_35s.mono hn_336.le
 replace u_35t := u_35t.mono hn_336.le
 replace R_183 := R_183.mono hn_336.le
 replace ht_186 := ht_186.mono hn_336.le
 replace hc_187 := hc_187.mono hn_336.le
 replace u_193s := u_193s.mono hn_336.le
 replace u_193t := u_193t.mono hn_336.le
 replace hPn := hPn.mono hn_336.le
 replace hP9 := hP9.mono hn_336.le
 replace hk1 := hk1.mono hn_336.le
 rw [List.take_of_length_le (Nat.le_refl _), all_kids] at hs_337
 have hk2 : SlL G_335 kvv 1 cI (0 : Int) (kidsR (RV ls iv) c) := SlL.of (cells := cI) (0 : Int) (fun _ => rfl) rfl hs_337
 refine r_call (vs := [_, _]) .none rfl cl23 rfl (fun w hw => c_ints15 _ _ _ _ hk1 hk2 w hw) ?_
 refine r_say (d := 215) (v := Value.bool true) (congrArg (fun z => some (Value.bool z)) (decide_eq_true rfl)) ?_
 refine r_val .none rfl (p_not rfl) ?_
 refine r_say (d := 216) (v := Value.bool false) rfl ?_
 refine r_val .none rfl (p_move rfl) ?_
 refine r_val (.some rfl rfl) rfl (p_move rfl) ?_
 refine r_val (.some rfl rfl) rfl (p_move rfl) ?_
 refine r_callor (k := 0) (vs := [_, _]) (.some rfl rfl) rfl cl54 rfl rfl (fun w F hw hA hFG => (by have h9 := c_kouter _ (n : Nat) l _ _ hV (by rw [hnR]; have h7 := (nR_kids (RV ls iv) (n : Nat)).2; omega) w hw hA hFG; rw [hgp] at h9; exact h9)) (fun r_338 => ?_)
 refine r_unpack ?_
 refine r_freeze (k := 0) rfl (fun G_339 hn_340 hs_341 => ?_)
 replace hV := hV.mono hn_340.le
 replace hLS := StC.mono hLS hn_340.le
 replace hCS := StC.mono hCS hn_340.le
 replace hR := hR.mono hn_340.le
 replace hL := hL.mono hn_340.le
 replace hC := hC.mono hn_340.le
 replace hO := hO.mono hn_340.le
 replace hall := hall.mono hn_340.le
 replace hal1 := hal1.mono hn_340.le
 replace hs0 := hs0.mono hn_340.le
 replace hr := hr.mono hn_340.le
 replace hrt := fun p hm0 => (hrt p hm0).mono hn_340.le
 replace hrs := fun p hm0 => (hrs p hm0).mono hn_340.le
 replace u_35s := u_35s.mono hn_340.le
 replace u_35t := u_35t.mono hn_340.le
 replace R_183 := R_183.mono hn_340.le
 replace ht_186 := ht_186.mono hn_340.le
 replace hc_187 := hc_187.mono hn_340.le
 replace u_193s := u_193s.mono hn_340.le
 replace u_193t := u_193t.mono hn_340.le
 replace hPn := hPn.mono hn_340.le
 replace hP9 := hP9.mono hn_340.le
 replace hk1 := hk1.mono hn_340.le
 replace hk2 := hk2.mono hn_340.le
 have ho1 : SlL G_339 r_338 1 cI (0 : Int) (outerR (RV ls iv) c) := SlL.of (cells := cI) (0 : Int) (fun _ => rfl) rfl hs_341
 refine r_val (.some rfl rfl) rfl (p_move rfl) ?_
 refine r_freeze (k := 1) rfl (fun G_342 hn_343 hs_344 => ?_)
 replace hV := hV.mono hn_343.le
 replace hLS := StC.mono hLS hn_343.le
 replace hCS := StC.mono hCS hn_343.le
 replace hR := hR.mono hn_343.le
 replace hL := hL.mono hn_343.le
 replace hC := hC.mono hn_343.le
 replace hO := hO.mono hn_343.le
 replace hall := hall.mono hn_343.le
 replace hal1 := hal1.mono hn_343.le
 replace hs0 := hs0.mono hn_343.le
 replace hr := hr.mono hn_343.le
 replace hrt := fun p hm0 => (hrt p hm0).mono hn_343.le
 replace hrs := fun p hm0 => (hrs p hm0).mono hn_343.le
 replace u_35s := u_35s.mono hn_343.le
 replace u_35t := u_35t.mono hn_343.le
 replace R_183 := R_183.mono hn_343.le
 replace ht_186 := ht_186.mono hn_343.le
 replace hc_187 := hc_187.mono hn_343.le
 replace u_193s := u_193s.mono hn_343.le
 replace u_193t := u_193t.mono hn_343.le
 replace hPn := hPn.mono hn_343.le
 replace hP9 := hP9.mono hn_343.le
 replace hk1 := hk1.mono hn_343.le
 replace hk2 := hk2.mono hn_343.le
 replace ho1 := ho1.mono hn_343.le
 rw [List.take_of_length_le (Nat.le_refl _), all_outer] at hs_344
 have ho2 : SlL G_342 ovv 1 cI (0 : Int) (outerR (RV ls iv) c) := SlL.of (cells := cI) (0 : Int) (fun _ => rfl) rfl hs_344
 refine r_call (vs := [_, _]) (.some rfl rfl) rfl cl23 rfl (fun w hw => c_ints15 _ _ _ _ ho1 ho2 w hw) ?_
 refine r_say (d := 222) (v := Value.bool true) (congrArg (fun z => some (Value.bool z)) (decide_eq_true rfl)) ?_
 refine r_val (.some rfl rfl) rfl (p_not rfl) ?_
 refine r_say (d := 223) (v := Value.bool false) rfl ?_
 refine r_val .none rfl (p_pick_f rfl rfl) ?_
 refine r_nil (e_next (c_cond_f rfl (c_skip ?_)))
 refine e_norm_block ?_
 refine e_next (c_region (r_val .none rfl (p_move rfl) ?_))
 refine r_val .none rfl (p_add rfl rfl (by omega)) ?_
 refine r_val .none rfl (p_assign rfl) (r_nil ?_)
 refine e_round ((n + 1, _)) ⟨⟨by dsimp only; omega, (((((((hgn.trans hn_32).trans hn_190).trans hn_202).trans hn_333).trans hn_336).trans hn_340).trans hn_343)⟩, by dsimp only; omega⟩ rfl ⟨rfl, rfl, rfl, rfl, trivial⟩ (.keep (fun _ _ h => h) (.drop (.nil))))))))))
 · (
 first
 | (exfalso; first | omega | assumption)
 | (
 refine c_cond_f rfl (c_exit (e_exit_then (e_exit_then ?_)))
 refine e_exit_block ?_
 refine e_next (c_seq (c_region (r_val .none rfl (p_assign rfl) (r_nil ?_))))
 refine e_next ?_
 refine c_ret ?_
 refine e_ret1 Try.results26 (.tmp rfl .nil) (fun w hm => ⟨?_, hm.kept [trR 74 p (KS.mk l lt)] (.keep (fun _ _ h => h) (.nil)) (trR 74 p (KS.mk l lt)) (fun F' h => (starL_oneE _ _).1 h)⟩)
 rfl))
end Go.Proofs.Ytdkfdncbldngdaa

/- Lists that come and go, one behind the other; no program in sight. -/
namespace Go.Gx.T16
open Go.Gx Go.Gx.T3 Go.Gx.T4 Go.Gx.T6 Go.Gx.T8
abbrev OP := Bool × (List CT × Value)
abbrev op0 : OP := (false, ([], .slice none 0 0))
def opC (q : OP) : List Value := [.bool q.1, q.2.2]
/-- What holds of a trie and the document's, after some calls. -/
structure PI (G : Ghost) (s : KS Nd) (ls : List (List ST × Value)) (iv : List IV) (k : Nat) : Prop where
  ti : TI s (RV ls iv)
  ss : StS G s
  cl : StC G ls
  ci : StC G (iv.map Prod.fst)
  us : Used (RV ls iv)
  nl : ls.length ≤ k
  ni : iv.length ≤ 16 * k
  sz : ∀ x ∈ ls, sszL x.1 ≤ 64
variable {G G' : Ghost} {s s' : KS Nd} {ls ls' : List (List ST × Value)} {iv iv' : List IV} {k : Nat}
theorem PI.mono (h : PI G s ls iv k) (hle : GLe G G') : PI G' s ls iv k := ⟨h.ti, h.ss.mono hle, h.cl.mono hle, h.ci.mono hle, h.us, h.nl, h.ni, h.sz⟩
theorem PI.new : PI G KS0 [] [] 0 := ⟨new_TI, new_StS, by simp [StC], by simp [StC], used0, Nat.le_refl _, Nat.le_refl _, by simp⟩
theorem PI.lists (h : PI G s ls iv k) : (RV ls iv).lists.length = ls.length ∧ (RV ls iv).its.length = iv.length := ⟨List.length_map _, itsV_len iv⟩
theorem PI.caps (h : PI G s ls iv k) (hk : k ≤ 16) : (ls.length ≤ 900 ∧ iv.length ≤ 900) ∧ (RV ls iv).its.length ≤ 900 ∧ (RV ls iv).lists.length ≤ 900 := by
  have h1 := h.lists
  have h2 := h.nl
  have h3 := h.ni
  omega
theorem PI.low (h : PI G s ls iv k) : ∀ q ∈ ls, sszL q.1 ≤ 4000 := fun q hq => Nat.le_trans (h.sz q hq) (by omega)
theorem PI.chains (h : PI G s ls iv k) : ∀ id c, getR (RV ls iv) id = some c → sszL c ≤ 2000 := fun id c hc =>
  Nat.le_trans (chain_small h.us (m := 64) (fun x hx => by obtain ⟨q, hq, rfl⟩ := List.mem_map.1 hx; exact h.sz q hq) hc) (by omega)
theorem PI.next (h : PI G s ls iv k) : PI G s ls iv (k + 1) := ⟨h.ti, h.ss, h.cl, h.ci, h.us, by have := h.nl; omega, by have := h.ni; omega, h.sz⟩
theorem PI.add {l : List CT} {v : Value} (h : PI G s ls iv k) (hle : GLe G G') (hz : sizeL l ≤ 16) (hv : Ss G' v (stepsOf [] l)) (hT : TI s' (addR (RV ls iv) (stepsOf [] l))) (hS : StS G' s') (hR : RV (ls ++ [(stepsOf [] l, v)]) iv' = addR (RV ls iv) (stepsOf [] l)) (hC : StC G' (iv'.map Prod.fst)) : PI G' s' (ls ++ [(stepsOf [] l, v)]) iv' (k + 1) := by
  have h1 := add_len2 (RV ls iv) l
  have h2 := h.lists
  have h3 : (RV (ls ++ [(stepsOf [] l, v)]) iv').its.length = iv'.length := itsV_len iv'
  rw [hR] at h3
  have h4 := h.ni
  have h5 := h.nl
  refine ⟨by rw [hR]; exact hT, hS, StC.snoc (h.cl.mono hle) hv, hC, by rw [hR]; exact used_add h.us, by rw [List.length_append]; simp; omega, by omega, fun x hx => ?_⟩
  rcases List.mem_append.1 hx with hx | hx
  · exact h.sz x hx
  · rw [List.mem_singleton.1 hx]
    exact Nat.le_trans (sszL_of l []) (by omega)
theorem PI.rem {cl : List ST} (h : PI G s ls iv k) (hT : TI s' (remR (RV ls iv) cl)) (hS : StS G' s') (hR : RV ls' iv' = remR (RV ls iv) cl) (hL : StC G' ls') (hC : StC G' (iv'.map Prod.fst)) : PI G' s' ls' iv' (k + 1) := by
  have h1 := rem_len (RV ls iv) cl
  have h2 := h.lists
  have h3 : (RV ls' iv').its.length = iv'.length := itsV_len iv'
  have h6 : (RV ls' iv').lists.length = ls'.length := List.length_map _
  rw [hR] at h3 h6
  have h4 := h.ni
  have h5 := h.nl
  refine ⟨by rw [hR]; exact hT, hS, hL, hC, by rw [hR]; exact used_rem, by omega, by omega, fun x hx => ?_⟩
  have h7 : x.1 ∈ (RV ls' iv').lists := List.mem_map.2 ⟨x, hx, rfl⟩
  rw [hR] at h7
  have h8 := remL_sub x.1 h7
  obtain ⟨q, hq, e⟩ := List.mem_map.1 h8
  rw [← e]; exact h.sz q hq
end Go.Gx.T16

/- Walks: what Go functions of this chapter come to, each as a function on plain data; no condition but those that each theorem names. Printed by a program of this work (gen.py). -/
namespace Go.Proofs.Ytdkfdncbldngdaa
open Go.Gx Go.Gx.T16 Go.Gx.T8 Go.Gx.T6 Go.Gx.T4 Go.Gx.T3 Go.Gx.T4 Go.Gx.T3 Go.Gx.T6 Go.Gx.T8 Go.Gx.T4 Go.Gx.T3 Go.Gx.T8 Go.Gx.T4 Go.Gx.T3 Go.Gx.T8 Go.Gx.T6 Go.Gx.T4 Go.Gx.T3
theorem sz63 : SzIs Try.prog 63 2 := by
 unfold SzIs
 kernel_rfl
theorem zr63 : ZeroIs Try.prog 63 (Value.agg #[Value.bool false, Value.slice none 0 0]) := by
 unfold ZeroIs
 kernel_rfl
theorem cl24 : Callable Try.prog 24 := callable Try.func24 (by kernel_rfl) rfl
theorem cl25 : Callable Try.prog 25 := callable Try.func25 (by kernel_rfl) rfl
theorem cl26 : Callable Try.prog 26 := callable Try.func26 (by kernel_rfl) rfl
theorem bl61_  : Program.built Try.prog 61 [] = some #[Value.slice none 0 0, Value.slice none 0 0, Value.slice none 0 0] := by
 kernel_rfl
theorem c_kremN {F : Nat → Prop} {G : Ghost} (p : Nat) (v : Value) (cl : List ST) (R : RT) (s : KS Nd) (hT : TI s R) (hS : StS G s) (hs : Ss G v cl) (hth : there R cl = false) (w : World) (hG : Has G w) (hA : (trE (nkD 71 3) 74 p (s)).holds w F) (hFG : ∀ b, F b → G b = none) :
    Calls Try.prog 22 #[Value.pointer (some ⟨p, 0, none⟩), v] w (Ret fun r w' => r = Value.tuple #[Value.slice none 0 0, Value.int .i64 16] ∧ Kept (trE (nkD 71 3) 74 p (s)) F w w') := by
  by_cases hf0 : find R cl = 0
  · exact c_krem0 p v cl R s hT hS hs hf0 w hG hA hFG
  · have hx : ∃ x, lkp s.nodes (find R cl) = some x ∧ x.ends = 0 := by
      refine Classical.byContradiction (fun hno => ?_)
      have h9 := (there_iff hT (cl := cl)).2 ⟨hf0, fun x hx e => hno ⟨x, hx, e⟩⟩
      rw [hth] at h9; cases h9
    obtain ⟨xe, h1, h2⟩ := hx
    exact c_krem1 p v cl R xe s hT hS hs hf0 h1 h2 w hG hA hFG
theorem c_same16E {F : Nat → Prop} {G : Ghost} (p b k : Nat) (s : KS Nd) (ls : List (List ST × Value)) (iv : List IV) (hP : PI G s ls iv k) (hk : k ≤ 16) (w : World) (hG : Has G w) (hA : (starL [rtA 61 29 3 b (ls) (iv), trE (nkD 71 3) 74 p (s)]).holds w F) (hFG : ∀ b, F b → G b = none) :
    Calls Try.prog 26 #[Value.pointer (some ⟨p, 0, none⟩), Value.pointer (some ⟨b, 0, none⟩)] w (Ret fun r w' => r = Value.bool true ∧ Kept (starL [rtA 61 29 3 b (ls) (iv), trE (nkD 71 3) 74 p (s)]) F w w') := by
 have hc := hP.caps hk
 refine with_seen (H := rtA 61 29 3 b (ls) (iv)) (A := trE (nkD 71 3) 74 p (s)) (B := fun _ => trE (nkD 71 3) 74 p (s)) (R := fun r => r = Value.bool true) (S := fun G' => ∃ va vb vc, RSeen G' b va vb vc ls iv) (fun F1 hM => rt_freeze hM) (fun G1 F1 hle1 hX1 hG1 hA1 hF1 => ?_) hG hA hFG
 obtain ⟨va, vb, vc, hX⟩ := hX1
 refine trie_see0 (R := fun r => r = Value.bool true) (fun l G2 F2 hl hle2 hn9 hG2 hA2 hF2 => ?_) hG1 hA1 hF1
 have hr := hP.ti.range hl (by omega)
 exact c_same16 p b va vb vc l _ ls iv (seen_of hP.ti.kc (hP.ss.mono hle1) hl hn9 hle2) (hX.mono hle2) ((hP.cl.mono hle1).mono hle2) ((hP.ci.mono hle1).mono hle2) (by omega) (by omega) hP.low hP.chains (fun id => nR_eq hP.ti hl id) (by rw [← eraK_len l, ← hl, hP.ti.len]) (hP.ti.sorted hl) hr.1 w hG2 hA2 hF2
set_option maxHeartbeats 2000000 in
theorem c_TriePlays (v : Value) (os : List OP) {G : Ghost} (hs : SlL G v 2 opC op0 os) (hls : ∀ q ∈ os, Cs G q.2.2 q.2.1) (w : World) (hG : Has G w) :
    Calls Try.prog 6 #[v] w (Ret fun r w' => r = Value.bool true ∧ Since nX w w') := by
 refine enter (args := [_]) (X := nX) (G := G) (l := [(0, v)]) Try.func6 rfl Try.ntmps6 hG ⟨rfl, trivial⟩ (Nat.le_of_ble_eq_true rfl) ?_
 have hbl := hs.bound
 refine c_seq (c_region (r_val .none rfl (p_assign rfl) (r_nil (e_next ?_))))
 refine c_seq (c_region ?_)
 refine r_callnew (vs := []) .none rfl cl7 rfl (fun w hw => c_knew w hw) (fun p_1 => ?_)
 refine r_val .none rfl (p_assign rfl) (r_nil (e_next (c_seq (c_seq ?_))))
 refine c_region (r_val .none rfl (p_move rfl) ?_)
 refine r_val .none rfl (p_leng Try.underlying58 rfl hs) ?_
 have bd_2 := (hs).bound
 refine r_val .none rfl (p_gt rfl rfl) ?_
 refine r_val .none rfl (p_move rfl) ?_
 refine r_splitd (d := 17) rfl (fun h_3 => ?_) (fun h_3 => ?_)
 · (
 first
 | (exfalso; first | omega | assumption)
 | (
 refine r_skip rfl (.no rfl rfl) ?_
 refine r_skip rfl (.no rfl rfl) ?_
 refine r_val .none rfl (p_pick_t rfl rfl) ?_
 refine r_nil (e_next (c_cond_t rfl (c_seq (c_region ?_))))
 refine r_val .none rfl (p_move rfl) ?_
 refine r_val .none rfl (p_ne_ptr Try.underlying23 (by first | exact .inr rfl | exact .inl rfl) rfl rfl) ?_
 refine r_say (d := 22) (v := Value.bool true) rfl ?_
 refine r_val .none rfl (p_move rfl) ?_
 refine r_call (vs := []) (.some rfl rfl) rfl cl8 rfl (fun w hw => c_awake16 w) ?_
 refine r_val .none rfl (p_pick_t rfl rfl) ?_
 refine r_val .none rfl (p_assign rfl) (r_nil (e_next ?_))
 refine c_ret ?_
 refine e_ret_then ?_
 refine e_ret1 Try.results6 (.tmp rfl .nil) (fun w hm => ⟨?_, hm.since⟩)
 rfl))
 · (
 first
 | (exfalso; first | omega | assumption)
 | (
 refine r_val (.some rfl rfl) rfl (p_move rfl) ?_
 refine r_val (.some rfl rfl) rfl (p_eq_ptr Try.underlying23 (by first | exact .inr rfl | exact .inl rfl) rfl rfl) ?_
 refine r_say (d := 19) (v := Value.bool false) rfl ?_
 refine r_val .none rfl (p_pick_f rfl rfl) ?_
 refine r_nil (e_next (c_cond_f rfl (c_skip (e_next ?_))))
 refine c_seq (c_region ?_)
 refine r_val .none rfl (p_build (vs := []) rfl (bl61_ )) ?_
 refine r_box .none rfl rfl (IsRow.lit _) (fun b_1 => ?_)
 refine r_nilrow 3 1 ?_
 refine r_nilrow 29 1 ?_
 refine r_nilrow 29 1 ?_
 refine r_front (k := 3) rfl ?_
 refine r_conv (B := box b_1 3 61 (at_ [.slice none 0 0, .slice none 0 0, .slice none 0 0])) (k := 0) rfl (fun _ _ h => box_congr (fun i hi => by match i, hi with | 0, _ => rfl | 1, _ => rfl | 2, _ => rfl) _ _ h) ?_
 dsimp only [List.set_cons_zero]
 refine r_shutX (E1 := 29) (E2 := 3) (ls := []) (iv := []) (.slice none 0 0) (.slice none 0 0) (.slice none 0 0) ?_
 refine r_val .none rfl (p_assign rfl) (r_nil (e_next (c_seq (c_seq ?_))))
 refine c_region (r_val .none rfl (p_move rfl) ?_)
 refine r_val .none rfl (p_leng Try.underlying58 rfl hs) ?_
 have bd_4 := (hs).bound
 refine r_val .none rfl (p_move rfl) (r_nil (e_next (c_block ?_)))
 refine c_name (d := 3) rfl (fun u_5 hu_5 => ?_)
 refine c_name (d := 4) rfl (fun u_6 hu_6 => ?_)
 refine c_name (d := 28) rfl (fun u_7 hu_7 => ?_)
 refine c_name (d := 29) rfl (fun u_8 hu_8 => ?_)
 refine c_loop (σ := Nat × KS Nd × List (List ST × Value) × List IV × Ghost) (fun s' => [(30, Value.int .i64 (s'.1 : Nat)), (3, u_5), (4, u_6), (28, u_7), (29, u_8)]) (fun s' => [rtA 61 29 3 b_1 (s'.2.2.1) (s'.2.2.2.1), trE (nkD 71 3) 74 p_1 s'.2.1]) (fun s' => s'.2.2.2.2) (fun s' => (s'.1 ≤ os.length ∧ os.length ≤ 16) ∧ PI s'.2.2.2.2 s'.2.1 s'.2.2.1 s'.2.2.2.1 s'.1 ∧ GNew w nX G s'.2.2.2.2) (fun s' => os.length - s'.1) ((0, KS0, [], [], _)) ⟨⟨Nat.zero_le _, by omega⟩, PI.new, GNew.refl _ _ _⟩ rfl ⟨rfl, rfl, rfl, rfl, rfl, trivial⟩ (.keep (fun _ _ h => h) (.keep (fun _ _ h => h) (.nil))) (fun s' hphi => ?_)
 subst hu_5
 subst hu_6
 subst hu_7
 subst hu_8
 obtain ⟨k, s, ls, iv, H⟩ := s'
 obtain ⟨⟨hk, hl16⟩, hPI, hgn⟩ := hphi
 dsimp only at hk hPI hgn ⊢
 replace hs := hs.mono hgn.le
 replace hls := fun p hm0 => (hls p hm0).mono hgn.le
 refine c_seq (c_region ?_)
 refine r_val .none rfl (p_lt rfl rfl) ?_
 refine r_nil (e_next (c_seq ?_))
 refine c_splitd (d := 31) rfl (fun h_9 => ?_) (fun h_9 => ?_)
 · (
 first
 | (exfalso; first | omega | assumption)
 | (
 refine c_cond_t rfl (c_skip (e_next (c_seq (c_block ?_))))
 refine c_seq (c_region ?_)
 refine r_iaddr_g .none rfl Try.underlying58 sz63 rfl hs rfl (by first | exact odt rfl | omega) (fun p_11 o_12 R_10 => ?_)
 have hcl9 := hls _ (getD_mem (i := k) (d := op0) (by omega))
 refine r_val .none rfl (p_ldga0 Try.underlying63 rfl sz63 rfl R_10 (by first | exact odt rfl | omega) (rfl : _ = Value.agg #[_, _])) ?_
 refine r_alloc .none rfl zr63 (IsRow.lit _) (fun b_2 => ?_)
 refine r_stw (k := 0) .none sz63 rfl rfl (IsRow.lit _) (one_lit rfl (all_cons rfl (all_cons (hcl9).one rfl))) rfl ?_
 refine r_nil (e_next (c_seq (c_seq (c_region ?_))))
 refine r_val .none rfl (p_field Try.underlying63 rfl sz27 rfl) ?_
 refine r_val .none rfl (p_ld (k := 0) Try.underlying27 rfl rfl rfl (by first | exact odt rfl | omega) rfl) ?_
 refine r_call (vs := [_]) .none rfl cl9 rfl (fun w hw => c_fine6 _ _ hcl9 w hw) ?_
 refine r_val .none rfl (p_not rfl) ?_
 refine r_nil (e_next ?_)
 refine c_splitn (d := 37) rfl (fun h_13 => ?_) (fun h_13 => ?_)
 · (
 first
 | (exfalso; first | omega | assumption)
 | (
 refine c_cond_t rfl (c_seq (c_region ?_))
 refine r_call (vs := []) .none rfl cl8 rfl (fun w hw => c_awake16 w) ?_
 refine r_val .none rfl (p_assign rfl) (r_nil (e_next ?_))
 refine c_ret ?_
 refine e_ret_then ?_
 refine e_ret_block ?_
 refine e_ret_then ?_
 refine e_ret_then ?_
 refine e_ret_block ?_
 refine e_ret_then ?_
 refine e_ret1 Try.results6 (.tmp rfl .nil) (fun w hm => ⟨?_, hm.since⟩)
 rfl))
 · (
 have hf9 : fineL (os.getD k op0).2.1 = true := by simpa using h_13
 have hfy9 := fineL_yes hf9
 have hz16 := hfy9.2
 have hsz9 : sizeL (os.getD k op0).2.1 ≤ 1000 := by omega
 have hss1 : sszL (stepsOf [] (os.getD k op0).2.1) ≤ 64 := Nat.le_trans (sszL_of (os.getD k op0).2.1 []) (by omega)
 have hss9 : sszL (stepsOf [] (os.getD k op0).2.1) ≤ 5000 := by omega
 have hcp9 := hPI.caps (by omega)
 first
 | (exfalso; first | omega | assumption)
 | (
 refine c_cond_f rfl (c_skip (e_next (c_seq (c_region ?_))))
 refine r_val .none rfl (p_field Try.underlying63 rfl sz27 rfl) ?_
 refine r_val .none rfl (p_ld (k := 0) Try.underlying27 rfl rfl rfl (by first | exact odt rfl | omega) rfl) ?_
 refine r_callm (vs := [_]) .none rfl cl11 rfl (fun w hw => c_lref _ _ hsz9 hcl9 w hw) (fun G_14 v_17 hn_15 hr_16 => ?_)
 replace hs := hs.mono hn_15.le
 replace hls := fun p hm0 => (hls p hm0).mono hn_15.le
 replace hPI := hPI.mono hn_15.le
 replace R_10 := R_10.mono hn_15.le
 replace hcl9 := hcl9.mono hn_15.le
 have hR9 := hr_16
 refine r_callm (vs := [_]) .none rfl cl10 rfl (fun w hw => c_compile _ _ hsz9 hR9 w hw) (fun G_19 v_22 hn_20 hr_21 => ?_)
 replace hs := hs.mono hn_20.le
 replace hls := fun p hm0 => (hls p hm0).mono hn_20.le
 replace hPI := hPI.mono hn_20.le
 replace R_10 := R_10.mono hn_20.le
 replace hcl9 := hcl9.mono hn_20.le
 replace hR9 := hR9.mono hn_20.le
 have hS9 := hr_21
 obtain ⟨a9, c9, he9⟩ := ss_len hS9
 subst he9
 refine r_val .none rfl (p_assign rfl) (r_nil (e_next (c_seq (c_seq ?_))))
 refine c_region ?_
 refine r_val .none rfl (p_field Try.underlying63 rfl sz4 rfl) ?_
 refine r_val .none rfl (p_ld (k := 0) Try.underlying4 rfl rfl rfl (by first | exact odt rfl | omega) (rfl : _ = Value.bool _)) ?_
 refine r_nil (e_next ?_)
 refine c_split (d := 44) rfl (fun h_24 => ?_) (fun h_24 => ?_)
 · (
 first
 | (exfalso; first | omega | assumption)
 | (
 refine c_cond_t rfl (c_seq (c_region (r_val .none rfl (p_move rfl) (r_val .none rfl (p_move rfl) ?_))))
 cases hth : there (RV ls iv) (stepsOf [] (os.getD k op0).2.1) with
 | false => (
 skip
 refine r_callo (k := 1) (vs := [_, _]) .none rfl cl24 rfl rfl (fun w F hw hA hFG => c_rremN _ ls iv _ (stepsOf [] (os.getD k op0).2.1) hS9 hPI.cl hPI.ci ⟨by omega, by omega⟩ hPI.low hth w hw hA hFG) ?_
 refine r_val .none rfl (p_move rfl) ?_
 refine r_val .none rfl (p_extract rfl rfl) ?_
 refine r_val .none rfl (p_extract rfl rfl) ?_
 refine r_val .none rfl (p_assign rfl) (r_val .none rfl (p_assign rfl) (r_nil (e_next (c_seq ?_))))
 refine c_region (r_val .none rfl (p_move rfl) (r_val .none rfl (p_move rfl) ?_))
 refine r_callm (vs := [_]) .none rfl cl13 rfl (fun w hw => c_steps _ _ hss9 hS9 w hw) (fun G_25 v_28 hn_26 hr_27 => ?_)
 replace hs := hs.mono hn_26.le
 replace hls := fun p hm0 => (hls p hm0).mono hn_26.le
 replace hPI := hPI.mono hn_26.le
 replace R_10 := R_10.mono hn_26.le
 replace hcl9 := hcl9.mono hn_26.le
 replace hR9 := hR9.mono hn_26.le
 replace hS9 := hS9.mono hn_26.le
 have hP9 := hr_27
 refine r_callo (k := 2) (vs := [_, _]) .none rfl cl22 rfl rfl (fun w F hw hA hFG => c_kremN _ _ (stepsOf [] (os.getD k op0).2.1) (RV ls iv) _ hPI.ti hPI.ss hP9 hth w hw hA hFG) ?_
 refine r_val .none rfl (p_move rfl) ?_
 refine r_val .none rfl (p_extract rfl rfl) ?_
 refine r_val .none rfl (p_extract rfl rfl) ?_
 refine r_val .none rfl (p_assign rfl) (r_val .none rfl (p_assign rfl) (r_nil (e_next (c_seq ?_))))
 refine c_region (r_val .none rfl (p_move rfl) (r_val .none rfl (p_move rfl) ?_))
 refine r_call (vs := [_, _]) .none rfl cl23 rfl (fun w hw => c_ints15 _ _ [] [] (SlG.nil _ _ _) (SlG.nil _ _ _) w hw) ?_
 refine r_say (d := 60) (v := Value.bool true) (congrArg (fun z => some (Value.bool z)) (decide_eq_true rfl)) ?_
 have hPI2 := hPI.next
 refine r_val .none rfl (p_not rfl) ?_
 refine r_say (d := 61) (v := Value.bool false) rfl ?_
 refine r_val .none rfl (p_move rfl) ?_
 refine r_val (.some rfl rfl) rfl (p_move rfl) ?_
 refine r_val (.some rfl rfl) rfl (p_eq rfl rfl) ?_
 refine r_say (d := 64) (v := Value.bool false) (congrArg (fun z => some (Value.bool z)) (decide_eq_false (by decide))) ?_
 refine r_val (.some rfl rfl) rfl (p_move rfl) ?_
 refine r_val (.some rfl rfl) rfl (p_neb Try.underlying4 rfl rfl) ?_
 refine r_say (d := 66) (v := Value.bool false) (congrArg (fun z => some (Value.bool z)) (by decide)) ?_
 refine r_val .none rfl (p_pick_f rfl rfl) ?_
 refine r_val .none rfl (p_move rfl) ?_
 refine r_val (.some rfl rfl) rfl (p_move rfl) ?_
 refine r_val (.some rfl rfl) rfl (p_not rfl) ?_
 refine r_say (d := 70) (v := Value.bool true) rfl ?_
 refine r_val (.some rfl rfl) rfl (p_move rfl) ?_
 refine r_val (.some rfl rfl) rfl (p_move rfl) ?_
 refine r_val (.some rfl rfl) rfl (p_ne rfl rfl) ?_
 refine r_say (d := 73) (v := Value.bool false) (congrArg (fun z => some (Value.bool z)) (by decide)) ?_
 refine r_val (.some rfl rfl) rfl (p_pick_t rfl rfl) ?_
 refine r_val .none rfl (p_pick_f rfl rfl) ?_
 refine r_nil (e_next (c_cond_f rfl (c_skip (e_next ?_))))
 refine c_seq (c_region (r_val .none rfl (p_move rfl) (r_val .none rfl (p_move rfl) ?_)))
 refine r_front (k := 2) rfl ?_
 refine r_front (k := 2) rfl ?_
 refine r_pack [_, _] ?_
 refine r_callo (k := 0) (vs := [_, _]) .none rfl cl26 rfl rfl (fun w F hw hA hFG => c_same16E _ _ (k + 1) s (ls) (iv) hPI2 (by omega) w hw hA hFG) ?_
 refine r_unpack ?_
 refine r_front (k := 1) rfl ?_
 refine r_front (k := 1) rfl ?_
 refine r_front (k := 2) rfl ?_
 refine r_val .none rfl (p_not rfl) ?_
 refine r_say (d := 89) (v := Value.bool false) rfl ?_
 refine r_nil (e_next (c_cond_f rfl (c_skip ?_)))
 refine e_norm_block ?_
 refine e_next (c_region ?_)
 refine r_val .none rfl (p_add rfl rfl (by omega)) ?_
 refine r_val .none rfl (p_move rfl) (r_nil ?_)
 refine e_round ((k + 1, s, ls, iv, _)) ⟨⟨⟨by dsimp only; omega, hl16⟩, hPI2, (((hgn.trans hn_15).trans hn_20).trans hn_26)⟩, by dsimp only; omega⟩ rfl ⟨rfl, rfl, rfl, rfl, rfl, trivial⟩ (.drop (.keep (fun _ _ h => h) (.keep (fun _ _ h => h) (.nil)))))
 | true => (
 skip
 refine r_callox (k := 1) (vs := [_, _]) .none rfl cl24 rfl rfl (fun w F hw hA hFG => c_rremY _ ls iv _ (stepsOf [] (os.getD k op0).2.1) hS9 hPI.cl hPI.ci ⟨by omega, by omega⟩ hPI.low hth w hw hA hFG) (fun G_30 v_33 z_35 hn_31 hr_32 => ?_)
 replace hs := hs.mono hn_31.le
 replace hls := fun p hm0 => (hls p hm0).mono hn_31.le
 replace hPI := hPI.mono hn_31.le
 replace R_10 := R_10.mono hn_31.le
 replace hcl9 := hcl9.mono hn_31.le
 replace hR9 := hR9.mono hn_31.le
 replace hS9 := hS9.mono hn_31.le
 obtain ⟨⟨v48, rfl, hi48⟩, hR48, hL48, hC48⟩ := hr_32
 refine r_val .none rfl (p_move rfl) ?_
 refine r_val .none rfl (p_extract rfl rfl) ?_
 refine r_val .none rfl (p_extract rfl rfl) ?_
 refine r_val .none rfl (p_assign rfl) (r_val .none rfl (p_assign rfl) (r_nil (e_next (c_seq ?_))))
 refine c_region (r_val .none rfl (p_move rfl) (r_val .none rfl (p_move rfl) ?_))
 refine r_callm (vs := [_]) .none rfl cl13 rfl (fun w hw => c_steps _ _ hss9 hS9 w hw) (fun G_36 v_39 hn_37 hr_38 => ?_)
 replace hs := hs.mono hn_37.le
 replace hls := fun p hm0 => (hls p hm0).mono hn_37.le
 replace hPI := hPI.mono hn_37.le
 replace R_10 := R_10.mono hn_37.le
 replace hcl9 := hcl9.mono hn_37.le
 replace hR9 := hR9.mono hn_37.le
 replace hS9 := hS9.mono hn_37.le
 replace hi48 := hi48.mono hn_37.le
 replace hL48 := StC.mono hL48 hn_37.le
 replace hC48 := StC.mono hC48 hn_37.le
 have hP9 := hr_38
 refine r_callox (k := 2) (vs := [_, _]) .none rfl cl22 rfl rfl (fun w F hw hA hFG => c_kremY _ _ (stepsOf [] (os.getD k op0).2.1) (RV ls iv) _ hPI.ti hPI.ss hP9 (by omega) hPI.us hth ⟨by omega, by omega⟩ w hw hA hFG) (fun G_41 v_44 z_46 hn_42 hr_43 => ?_)
 replace hs := hs.mono hn_42.le
 replace hls := fun p hm0 => (hls p hm0).mono hn_42.le
 replace hPI := hPI.mono hn_42.le
 replace R_10 := R_10.mono hn_42.le
 replace hcl9 := hcl9.mono hn_42.le
 replace hR9 := hR9.mono hn_42.le
 replace hS9 := hS9.mono hn_42.le
 replace hi48 := hi48.mono hn_42.le
 replace hL48 := StC.mono hL48 hn_42.le
 replace hC48 := StC.mono hC48 hn_42.le
 replace hP9 := hP9.mono hn_42.le
 obtain ⟨⟨v55, rfl, hi55⟩, hT55, hS55⟩ := hr_43
 refine r_val .none rfl (p_move rfl) ?_
 refine r_val .none rfl (p_extract rfl rfl) ?_
 refine r_val .none rfl (p_extract rfl rfl) ?_
 refine r_val .none rfl (p_assign rfl) (r_val .none rfl (p_assign rfl) (r_nil (e_next (c_seq ?_))))
 refine c_region (r_val .none rfl (p_move rfl) (r_val .none rfl (p_move rfl) ?_))
 refine r_call (vs := [_, _]) .none rfl cl23 rfl (fun w hw => c_ints15 _ _ _ _ hi55 hi48 w hw) ?_
 refine r_say (d := 60) (v := Value.bool true) (congrArg (fun z => some (Value.bool z)) (decide_eq_true rfl)) ?_
 have hPI2 := PI.rem hPI hT55 hS55 hR48 hL48 hC48
 refine r_val .none rfl (p_not rfl) ?_
 refine r_say (d := 61) (v := Value.bool false) rfl ?_
 refine r_val .none rfl (p_move rfl) ?_
 refine r_val (.some rfl rfl) rfl (p_move rfl) ?_
 refine r_val (.some rfl rfl) rfl (p_eq rfl rfl) ?_
 refine r_say (d := 64) (v := Value.bool true) (congrArg (fun z => some (Value.bool z)) (decide_eq_true rfl)) ?_
 refine r_val (.some rfl rfl) rfl (p_move rfl) ?_
 refine r_val (.some rfl rfl) rfl (p_neb Try.underlying4 rfl rfl) ?_
 refine r_say (d := 66) (v := Value.bool false) (congrArg (fun z => some (Value.bool z)) (by decide)) ?_
 refine r_val .none rfl (p_pick_f rfl rfl) ?_
 refine r_val .none rfl (p_move rfl) ?_
 refine r_val (.some rfl rfl) rfl (p_move rfl) ?_
 refine r_val (.some rfl rfl) rfl (p_not rfl) ?_
 refine r_say (d := 70) (v := Value.bool false) rfl ?_
 refine r_val (.some rfl rfl) rfl (p_move rfl) ?_
 refine r_skip rfl (.no rfl rfl) ?_
 refine r_skip rfl (.no rfl rfl) ?_
 refine r_val (.some rfl rfl) rfl (p_pick_f rfl rfl) ?_
 refine r_val .none rfl (p_pick_f rfl rfl) ?_
 refine r_nil (e_next (c_cond_f rfl (c_skip (e_next ?_))))
 refine c_seq (c_region (r_val .none rfl (p_move rfl) (r_val .none rfl (p_move rfl) ?_)))
 refine r_front (k := 2) rfl ?_
 refine r_front (k := 2) rfl ?_
 refine r_pack [_, _] ?_
 refine r_callo (k := 0) (vs := [_, _]) .none rfl cl26 rfl rfl (fun w F hw hA hFG => c_same16E _ _ (k + 1) z_46 (z_35.1) (z_35.2) hPI2 (by omega) w hw hA hFG) ?_
 refine r_unpack ?_
 refine r_front (k := 1) rfl ?_
 refine r_front (k := 1) rfl ?_
 refine r_front (k := 2) rfl ?_
 refine r_val .none rfl (p_not rfl) ?_
 refine r_say (d := 89) (v := Value.bool false) rfl ?_
 refine r_nil (e_next (c_cond_f rfl (c_skip ?_)))
 refine e_norm_block ?_
 refine e_next (c_region ?_)
 refine r_val .none rfl (p_add rfl rfl (by omega)) ?_
 refine r_val .none rfl (p_move rfl) (r_nil ?_)
 refine e_round ((k + 1, z_46, z_35.1, z_35.2, _)) ⟨⟨⟨by dsimp only; omega, hl16⟩, hPI2, (((((hgn.trans hn_15).trans hn_20).trans hn_31).trans hn_37).trans hn_42)⟩, by dsimp only; omega⟩ rfl ⟨rfl, rfl, rfl, rfl, rfl, trivial⟩ (.drop (.keep (fun _ _ h => h) (.keep (fun _ _ h => h) (.nil)))))))
 · (
 first
 | (exfalso; first | omega | assumption)
 | (
 refine c_cond_f rfl (c_seq (c_region (r_val .none rfl (p_move rfl) (r_val .none rfl (p_move rfl) ?_))))
 refine r_callox (k := 1) (vs := [_, _]) .none rfl cl25 rfl rfl (fun w F hw hA hFG => c_radd16 _ ls iv _ _ (stepsOf [] (os.getD k op0).2.1) hS9 hPI.cl hPI.ci (by omega) ⟨by omega, by omega⟩ w hw hA hFG) (fun G_47 v_50 z_52 hn_48 hr_49 => ?_)
 replace hs := hs.mono hn_48.le
 replace hls := fun p hm0 => (hls p hm0).mono hn_48.le
 replace hPI := hPI.mono hn_48.le
 replace R_10 := R_10.mono hn_48.le
 replace hcl9 := hcl9.mono hn_48.le
 replace hR9 := hR9.mono hn_48.le
 replace hS9 := hS9.mono hn_48.le
 obtain ⟨hi78, hR78, hC78⟩ := hr_49
 refine r_val .none rfl (p_assign rfl) (r_nil (e_next (c_seq (c_region ?_))))
 refine r_val .none rfl (p_move rfl) (r_val .none rfl (p_move rfl) ?_)
 refine r_callm (vs := [_]) .none rfl cl13 rfl (fun w hw => c_steps _ _ hss9 hS9 w hw) (fun G_53 v_56 hn_54 hr_55 => ?_)
 replace hs := hs.mono hn_54.le
 replace hls := fun p hm0 => (hls p hm0).mono hn_54.le
 replace hPI := hPI.mono hn_54.le
 replace R_10 := R_10.mono hn_54.le
 replace hcl9 := hcl9.mono hn_54.le
 replace hR9 := hR9.mono hn_54.le
 replace hS9 := hS9.mono hn_54.le
 replace hi78 := hi78.mono hn_54.le
 replace hC78 := StC.mono hC78 hn_54.le
 have hP9 := hr_55
 refine r_callox (k := 2) (vs := [_, _]) .none rfl cl12 rfl rfl (fun w F hw hA hFG => c_kadd _ _ (stepsOf [] (os.getD k op0).2.1) (RV ls iv) _ hPI.ti hPI.ss hP9 (by omega) ⟨by omega, by omega⟩ w hw hA hFG) (fun G_58 v_61 z_63 hn_59 hr_60 => ?_)
 replace hs := hs.mono hn_59.le
 replace hls := fun p hm0 => (hls p hm0).mono hn_59.le
 replace hPI := hPI.mono hn_59.le
 replace R_10 := R_10.mono hn_59.le
 replace hcl9 := hcl9.mono hn_59.le
 replace hR9 := hR9.mono hn_59.le
 replace hS9 := hS9.mono hn_59.le
 replace hi78 := hi78.mono hn_59.le
 replace hC78 := StC.mono hC78 hn_59.le
 replace hP9 := hP9.mono hn_59.le
 obtain ⟨hi82, hT82, hS82⟩ := hr_60
 refine r_val .none rfl (p_move rfl) ?_
 refine r_call (vs := [_, _]) .none rfl cl23 rfl (fun w hw => c_ints15 _ _ _ _ hi82 hi78 w hw) ?_
 refine r_say (d := 84) (v := Value.bool true) (congrArg (fun z => some (Value.bool z)) (decide_eq_true rfl)) ?_
 have hPI2 := PI.add hPI (GLe.refl _) hz16 hS9 hT82 hS82 hR78 hC78
 refine r_val .none rfl (p_not rfl) ?_
 refine r_say (d := 85) (v := Value.bool false) rfl ?_
 refine r_nil (e_next (c_cond_f rfl (c_skip (e_next ?_))))
 refine c_seq (c_region (r_val .none rfl (p_move rfl) (r_val .none rfl (p_move rfl) ?_)))
 refine r_front (k := 2) rfl ?_
 refine r_front (k := 2) rfl ?_
 refine r_pack [_, _] ?_
 refine r_callo (k := 0) (vs := [_, _]) .none rfl cl26 rfl rfl (fun w F hw hA hFG => c_same16E _ _ (k + 1) z_63 ((ls ++ [((stepsOf [] (os.getD k op0).2.1), Value.slice a9 (stepsOf [] (os.getD k op0).2.1).length c9)])) (z_52) hPI2 (by omega) w hw hA hFG) ?_
 refine r_unpack ?_
 refine r_front (k := 1) rfl ?_
 refine r_front (k := 1) rfl ?_
 refine r_front (k := 2) rfl ?_
 refine r_val .none rfl (p_not rfl) ?_
 refine r_say (d := 89) (v := Value.bool false) rfl ?_
 refine r_nil (e_next (c_cond_f rfl (c_skip ?_)))
 refine e_norm_block ?_
 refine e_next (c_region ?_)
 refine r_val .none rfl (p_add rfl rfl (by omega)) ?_
 refine r_val .none rfl (p_move rfl) (r_nil ?_)
 refine e_round ((k + 1, z_63, (ls ++ [((stepsOf [] (os.getD k op0).2.1), Value.slice a9 (stepsOf [] (os.getD k op0).2.1).length c9)]), z_52, _)) ⟨⟨⟨by dsimp only; omega, hl16⟩, hPI2, (((((hgn.trans hn_15).trans hn_20).trans hn_48).trans hn_54).trans hn_59)⟩, by dsimp only; omega⟩ rfl ⟨rfl, rfl, rfl, rfl, rfl, trivial⟩ (.drop (.keep (fun _ _ h => h) (.keep (fun _ _ h => h) (.nil))))))))))
 · (
 first
 | (exfalso; first | omega | assumption)
 | (
 refine c_cond_f rfl (c_exit (e_exit_then (e_exit_then ?_)))
 refine e_exit_block ?_
 refine e_next (c_seq (c_region ?_))
 refine r_call (vs := []) .none rfl cl8 rfl (fun w hw => c_awake16 w) ?_
 refine r_val .none rfl (p_assign rfl) (r_nil (e_next ?_))
 refine c_ret ?_
 refine e_ret1 Try.results6 (.tmp rfl .nil) (fun w hm => ⟨?_, hm.since⟩)
 rfl))))
end Go.Proofs.Ytdkfdncbldngdaa

/- Walks: what Go functions of this chapter come to, each as a function on plain data; no condition but those that each theorem names. Printed by a program of this work (gen.py). -/
namespace Go.Proofs.Ytdkfdncbldngdaa
open Go.Gx Go.Gx.T16 Go.Gx.T8 Go.Gx.T6 Go.Gx.T4 Go.Gx.T3 Go.Gx.T3 Go.Gx.T4 Go.Gx.T3 Go.Gx.T6 Go.Gx.T8 Go.Gx.T4 Go.Gx.T3 Go.Gx.T8 Go.Gx.T4 Go.Gx.T3 Go.Gx.T8 Go.Gx.T6 Go.Gx.T4 Go.Gx.T3 Go.ChangeShapes Go.WideShapes Go.ChangeAt Go.RowKit
theorem open_cond_l : leafT Try.prog 10 80 = some [3, 4, 3, 4, 3, 4, 3, 27] := by kernel_rfl
theorem open_cond_n {H : Type} {enc : TypeId × Value → H} {W : World} {base : Nat} {sp : Nat → Bool} {held : Bool} : ∀ (B n : Nat) (cs : List Value) (x : DataW H × List MemPlace), n ≤ B → DataW.trod enc Try.prog W base sp held n 80 cs = some x → ∃ a : CT × Value, cs = cvC a ∧ Cs (GW W) a.2 a.1.subs
 | 0, n, cs, x, hn, h => by
  obtain rfl : n = 0 := by omega
  simp [DataW.trod] at h
 | B + 1, n, cs, x, hn, h => by
  obtain ⟨n', rfl, hl⟩ := leavesB_struct 9 Try.underlying80 open_cond_l h
  obtain ⟨x0, r0, e0, f0, g0⟩ := hl.inv
  obtain ⟨a0, rfl, _⟩ := f0.leaf.int Try.underlying3
  obtain ⟨x1, r1, e1, f1, g1⟩ := g0.inv
  obtain ⟨a1, rfl⟩ := f1.leaf.bool Try.underlying4
  obtain ⟨x2, r2, e2, f2, g2⟩ := g1.inv
  obtain ⟨a2, rfl, _⟩ := f2.leaf.int Try.underlying3
  obtain ⟨x3, r3, e3, f3, g3⟩ := g2.inv
  obtain ⟨a3, rfl⟩ := f3.leaf.bool Try.underlying4
  obtain ⟨x4, r4, e4, f4, g4⟩ := g3.inv
  obtain ⟨a4, rfl, _⟩ := f4.leaf.int Try.underlying3
  obtain ⟨x5, r5, e5, f5, g5⟩ := g4.inv
  obtain ⟨a5, rfl⟩ := f5.leaf.bool Try.underlying4
  obtain ⟨x6, r6, e6, f6, g6⟩ := g5.inv
  obtain ⟨a6, rfl, _⟩ := f6.leaf.int Try.underlying3
  obtain ⟨x7, r7, e7, f7, g7⟩ := g6.inv
  have z := g7.inv0
  obtain ⟨l, h1, h2⟩ := open_slB (cells := cvC) (Qa := fun a => Cs (GW W) a.2 a.1.subs) d0 Try.underlying27 (show Program.cellsOf Try.prog 80 = 8 by kernel_rfl) (by decide) (fun m cs' y hm hy => open_cond_n B m cs' y (by omega) hy) f7
  refine ⟨(CT.mk ⟨a0, a1, a2, a3, a4, a5, a6⟩ (l.map Prod.fst), x7), ?_, Tr.mk l h1 h2⟩
  rw [e0, e1, e2, e3, e4, e5, e6, e7, z]; rfl
theorem open_op16_l : leafT Try.prog 15 63 = some [4, 27] := by kernel_rfl
set_option maxRecDepth 100000 in
theorem open_op16 {H : Type} {enc : TypeId × Value → H} {W : World} {base : Nat} {sp : Nat → Bool} {held : Bool} {m : Nat} {cs' : List Value} {y : DataW H × List MemPlace} (h : DataW.trod enc Try.prog W base sp held m 63 cs' = some y) : ∃ q : OP, cs' = opC q ∧ Cs (GW W) q.2.2 q.2.1 := by
 obtain ⟨n', _, hl⟩ := leavesB_struct 14 Try.underlying63 open_op16_l h
 obtain ⟨x0, r0, e0, f0, g0⟩ := hl.inv
 obtain ⟨a0, rfl⟩ := f0.leaf.bool Try.underlying4
 obtain ⟨x1, r1, e1, f1, g1⟩ := g0.inv
 have z := g1.inv0
 obtain ⟨l, h1, h2⟩ := open_slB (B := n') (cells := cvC) (Qa := fun a => Cs (GW W) a.2 a.1.subs) d0 Try.underlying27 (show Program.cellsOf Try.prog 80 = 8 by kernel_rfl) (by decide) (fun m cs' y hm hy => open_cond_n n' m cs' y (by omega) hy) f1
 exact ⟨(a0, (l.map Prod.fst, x1)), by rw [e0, e1, z]; rfl, Tr.mk l h1 h2⟩
set_option maxRecDepth 100000 in
theorem open_ops16 {H : Type} {enc : TypeId × Value → H} {W : World} {base : Nat} {sp : Nat → Bool} {held : Bool} {r : Reach} {b0 : Nat} {v : Value} {y : DataW H} {ps : List MemPlace} (hv : Value.okWide Try.prog W r b0 58 v) (h : DataW.Trod enc Try.prog W base sp held 58 v y ps) : ∃ os : List OP, SlL (GW W) v 2 opC op0 os ∧ ∀ q ∈ os, Cs (GW W) q.2.2 q.2.1 := by
 obtain ⟨a, n, c, rfl⟩ := okWide_slice Try.underlying58 hv
 obtain ⟨fuel, hf⟩ := h
 exact open_slB (B := fuel) (cells := opC) (Qa := fun q : OP => Cs (GW W) q.2.2 q.2.1) op0 Try.underlying58 (show Program.cellsOf Try.prog 63 = 2 by kernel_rfl) (by decide) (fun m cs' y hm hy => open_op16 hy) ⟨fuel, _, Nat.le_refl _, hf⟩
end Go.Proofs.Ytdkfdncbldngdaa
