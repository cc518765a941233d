/- Texts of this work, laid together: a logic of steps, plain laws, and walks of Go functions, each without a condition but those that its theorems name. -/
import Derived.Test.YtdcaehepmkhciaaKTreeFacts2
import Derived.Test.YtdcaehepmkhciaaRows
/- Walks: what Go functions of this chapter come to, each as a function on plain data; no condition but those that each theorem names. Printed by a program of this work (gen.py). -/
namespace Go.Proofs.Ytdcaehepmkhciaa
open Go.Gx Go.Gx Go.Gx.T10 Go.Gx.T12 Go.Gx.T10 Go.Gx.T11 Go.Gx.T15 Go.Gx.T12 Go.Gx.T6 Go.Gx.T4
theorem sz4 : SzIs Try.prog 4 1 := by
 unfold SzIs
 kernel_rfl
theorem sz27 : SzIs Try.prog 27 4 := by
 unfold SzIs
 kernel_rfl
theorem zr27 : ZeroIs Try.prog 27 (Value.agg #[Value.bool false, Value.int .i64 0, Value.string ⟨#[]⟩, Value.int .i64 0]) := by
 unfold ZeroIs
 kernel_rfl
theorem cl11 : Callable Try.prog 11 := callable Try.func11 (by kernel_rfl) rfl
theorem cl14 : Callable Try.prog 14 := callable Try.func14 (by kernel_rfl) rfl
theorem cl15 : Callable Try.prog 15 := callable Try.func15 (by kernel_rfl) rfl
theorem cl51 : Callable Try.prog 51 := callable Try.func51 (by kernel_rfl) rfl
theorem cl52 : Callable Try.prog 52 := callable Try.func52 (by kernel_rfl) rfl
theorem cl53 : Callable Try.prog 53 := callable Try.func53 (by kernel_rfl) rfl
theorem cl54 : Callable Try.prog 54 := callable Try.func54 (by kernel_rfl) rfl
theorem c_TreeFacts (v : Value) (os : List (Bool × Int × ByteArray × Int)) {G : Ghost} (hs : SlL G v 4 opC (false, 0, ByteArray.empty, 0) os) (w : World) (hG : Has G w) :
  Calls Try.prog 8 #[v] w (Ret fun r w' => r = Value.bool true ∧ Since nX w w') := by
 refine enter (args := [_]) (X := nX) (G := G) (l := [(0, v)]) Try.func8 rfl Try.ntmps8 hG ⟨rfl, trivial⟩ (Nat.le_of_ble_eq_true rfl) ?_
 refine c_seq ?_
 refine c_region ?_
 refine r_val .none rfl (p_assign rfl) ?_
 refine r_nil ?_
 refine e_next ?_
 refine c_seq ?_
 refine c_region ?_
 refine r_callnew (vs := [_]) .none rfl cl10 rfl (fun w hw => c_tnewS awE w hw) (fun p_1 => ?_)
 refine r_val .none rfl (p_assign rfl) ?_
 refine r_nil ?_
 refine e_next ?_
 refine c_seq ?_
 refine c_seq ?_
 refine c_region ?_
 refine r_val .none rfl (p_move rfl) ?_
 refine r_val .none rfl (p_leng Try.underlying22 rfl hs) ?_
 have bd_2 := (hs).bound
 refine r_val .none rfl (p_gt rfl rfl) ?_
 refine r_val .none rfl (p_move rfl) ?_
 refine r_splitd (d := 18) rfl (fun h_3 => ?_) (fun h_3 => ?_)
 ·
  first
   | (exfalso; first | omega | assumption)
   | (
    refine r_skip rfl (.no rfl rfl) ?_
    refine r_skip rfl (.no rfl rfl) ?_
    refine r_val .none rfl (p_pick_t rfl rfl) ?_
    refine r_nil ?_
    refine e_next ?_
    refine c_cond_t rfl ?_
    refine c_seq ?_
    refine c_region ?_
    refine r_val .none rfl (p_move rfl) ?_
    refine r_val .none rfl (p_ne_ptr Try.underlying23 (by first | exact .inr rfl | exact .inl rfl) rfl rfl) ?_
    refine r_say (d := 23) (v := Value.bool true) rfl ?_
    refine r_val .none rfl (p_move rfl) ?_
    refine r_call (vs := []) (.some rfl rfl) rfl cl11 rfl (fun w hw => c_awake15 w) ?_
    refine r_val .none rfl (p_pick_t rfl rfl) ?_
    refine r_val .none rfl (p_assign rfl) ?_
    refine r_nil ?_
    refine e_next ?_
    refine c_ret ?_
    refine e_ret_then ?_
    refine e_ret1 Try.results8 (.tmp rfl .nil) (fun w hm => ⟨?_, hm.since⟩)
    first
    | rfl
    | (simp; done)
    )
 ·
  first
   | (exfalso; first | omega | assumption)
   | (
    refine r_val (.some rfl rfl) rfl (p_move rfl) ?_
    refine r_val (.some rfl rfl) rfl (p_eq_ptr Try.underlying23 (by first | exact .inr rfl | exact .inl rfl) rfl rfl) ?_
    refine r_say (d := 20) (v := Value.bool false) rfl ?_
    refine r_val .none rfl (p_pick_f rfl rfl) ?_
    refine r_nil ?_
    refine e_next ?_
    refine c_cond_f rfl ?_
    refine c_skip ?_
    refine e_next ?_
    refine c_seq ?_
    refine c_seq ?_
    refine c_region ?_
    refine r_val .none rfl (p_move rfl) ?_
    refine r_val .none rfl (p_leng Try.underlying22 rfl hs) ?_
    have bd_4 := (hs).bound
    refine r_val .none rfl (p_move rfl) ?_
    refine r_nil ?_
    refine e_next ?_
    refine c_block ?_
    refine c_name (d := 2) rfl (fun u_5 hu_5 => ?_)
    refine c_name (d := 3) rfl (fun u_6 hu_6 => ?_)
    refine c_name (d := 27) rfl (fun u_7 hu_7 => ?_)
    refine c_name (d := 28) rfl (fun u_8 hu_8 => ?_)
    refine c_loop (σ := Nat × TS (Tk ByteArray) ByteArray) (fun s' => [(29, Value.int .i64 (s'.1 : Nat)), (2, u_5), (3, u_6), (27, u_7), (28, u_8)]) (fun s' => [treeE 119 122 3 kS p_1 s'.2]) (fun _ => _) (fun s' => s'.1 ≤ os.length ∧ TInv s'.2 ∧ FInv s'.2 ∧ s'.2.last ≤ s'.1 + 1) (fun s' => os.length - s'.1) ((0, newS awE)) ⟨Nat.zero_le _, TInv.new _, FInv.new _, Int.le_refl _⟩ rfl ⟨rfl, rfl, rfl, rfl, rfl, trivial⟩ (.keep (fun _ _ h => h) (.nil)) (fun s' hphi => ?_)
    subst hu_5
    subst hu_6
    subst hu_7
    subst hu_8
    obtain ⟨j, t⟩ := s'
    obtain ⟨hj, hI, hF, hla⟩ := hphi
    dsimp only at hj hI hF hla ⊢
    have hlo := hI.lo
    refine c_seq ?_
    refine c_region ?_
    refine r_val .none rfl (p_lt rfl rfl) ?_
    refine r_nil ?_
    refine e_next ?_
    refine c_seq ?_
    refine c_splitd (d := 30) rfl (fun h_9 => ?_) (fun h_9 => ?_)
    ·
     first
      | (exfalso; first | omega | assumption)
      | (
       refine c_cond_t rfl ?_
       refine c_skip ?_
       refine e_next ?_
       refine c_seq ?_
       refine c_block ?_
       refine c_seq ?_
       refine c_region ?_
       refine r_iaddr_g .none rfl Try.underlying22 sz27 rfl hs rfl (by first | exact of_decide_eq_true rfl | omega) (fun p_11 o_12 R_10 => ?_)
       refine r_val .none rfl (p_ldga0 Try.underlying27 rfl sz27 rfl R_10 (by first | exact of_decide_eq_true rfl | omega) (rfl : _ = Value.agg #[_, _, _, _])) ?_
       refine r_alloc .none rfl zr27 (IsRow.lit _) (fun b_1 => ?_)
       refine r_stw (k := 0) .none sz27 rfl rfl (IsRow.lit _) (one_lit rfl rfl) rfl ?_
       refine r_nil ?_
       refine e_next ?_
       refine c_seq ?_
       refine c_region ?_
       refine r_val .none rfl (p_field Try.underlying27 rfl sz4 rfl) ?_
       refine r_val .none rfl (p_ld (k := 0) Try.underlying4 rfl rfl rfl (by first | exact of_decide_eq_true rfl | omega) (rfl : _ = Value.bool _)) ?_
       refine r_nil ?_
       refine e_next ?_
       refine c_split (d := 34) rfl (fun h_13 => ?_) (fun h_13 => ?_)
       ·
        first
         | (exfalso; first | omega | assumption)
         | (
          refine c_cond_t rfl ?_
          refine c_region ?_
          refine r_val .none rfl (p_move rfl) ?_
          refine r_val .none rfl (p_field Try.underlying27 rfl sz3 rfl) ?_
          refine r_val .none rfl (p_ld (k := 0) Try.underlying3 rfl rfl rfl (by first | exact of_decide_eq_true rfl | omega) (rfl : _ = Value.int _ _)) ?_
          rcases hI.cases (os.getD j (false, 0, ByteArray.empty, 0)).2.1 with hno | ⟨hd1, x, xp, T, hx0, hp, hg⟩
          ·
           refine r_front (k := 1) rfl ?_
           refine r_callov (k := 0) (vs := [_, _]) (u := fun v => .tuple #[v, Value.int .i64 (if (os.getD j (false, 0, ByteArray.empty, 0)).2.1 = 1 then (13 : Int) else 16)]) .none rfl cl12 rfl rfl (fun w F hw hA hFG => c_tdelnoS _ (os.getD j (false, 0, ByteArray.empty, 0)).2.1 t hno w hw hA hFG) (fun dv_14 => ?_)
           refine r_unpack ?_
           refine r_nil ?_
           refine e_norm_block ?_
           refine e_next ?_
           refine c_region ?_
           refine r_val .none rfl (p_add rfl rfl (by omega)) ?_
           refine r_val .none rfl (p_move rfl) ?_
           refine r_nil ?_
           refine e_round ((j + 1, t)) ⟨⟨by dsimp only; omega, hI, hF, by dsimp only; omega⟩, by dsimp only; omega⟩ rfl ⟨rfl, rfl, rfl, rfl, rfl, trivial⟩ (.drop (.keep (fun _ _ h => h) (.drop (.nil))))
          ·
           refine r_front (k := 1) rfl ?_
           refine r_callov (k := 0) (vs := [_, _]) (u := fun v => .tuple #[v, Value.int .i64 0]) .none rfl cl12 rfl rfl (fun w F hw hA hFG => c_EdelS _ (os.getD j (false, 0, ByteArray.empty, 0)).2.1 t T x xp hI (by omega) hd1 hx0 hp hg w hw hA hFG) (fun dv_15 => ?_)
           refine r_unpack ?_
           refine r_nil ?_
           refine e_norm_block ?_
           refine e_next ?_
           refine c_region ?_
           refine r_val .none rfl (p_add rfl rfl (by omega)) ?_
           refine r_val .none rfl (p_move rfl) ?_
           refine r_nil ?_
           refine e_round ((j + 1, delS t x xp (os.getD j (false, 0, ByteArray.empty, 0)).2.1 T)) ⟨⟨by dsimp only; omega, hI.del hd1 hx0 hp hg, FInv.del hI hF hp hg, by dsimp only; rw [del_last]; omega⟩, by dsimp only; omega⟩ rfl ⟨rfl, rfl, rfl, rfl, rfl, trivial⟩ (.drop (.keep (fun _ _ h => h) (.drop (.nil))))
          )
       ·
        first
         | (exfalso; first | omega | assumption)
         | (
          refine c_cond_f rfl ?_
          refine c_region ?_
          refine r_val .none rfl (p_move rfl) ?_
          refine r_val .none rfl (p_field Try.underlying27 rfl sz3 rfl) ?_
          refine r_val .none rfl (p_ld (k := 0) Try.underlying3 rfl rfl rfl (by first | exact of_decide_eq_true rfl | omega) (rfl : _ = Value.int _ _)) ?_
          refine r_val .none rfl (p_field Try.underlying27 rfl sz9 rfl) ?_
          refine r_val .none rfl (p_ld (k := 0) Try.underlying9 rfl rfl rfl (by first | exact of_decide_eq_true rfl | omega) (rfl : _ = Value.string _)) ?_
          refine r_val .none rfl (p_field Try.underlying27 rfl sz3 rfl) ?_
          refine r_val .none rfl (p_ld (k := 0) Try.underlying3 rfl rfl rfl (by first | exact of_decide_eq_true rfl | omega) (rfl : _ = Value.int _ _)) ?_
          refine r_callo (k := 1) (vs := [_, _, _, _]) .none rfl cl13 rfl rfl (fun w F hw hA hFG => c_EaddS _ (os.getD j (false, 0, ByteArray.empty, 0)).2.1 (os.getD j (false, 0, ByteArray.empty, 0)).2.2.1 (os.getD j (false, 0, ByteArray.empty, 0)).2.2.2 t hI (by omega) w hw hA hFG) ?_
          refine r_nil ?_
          refine e_norm_block ?_
          refine e_next ?_
          refine c_region ?_
          refine r_val .none rfl (p_add rfl rfl (by omega)) ?_
          refine r_val .none rfl (p_move rfl) ?_
          refine r_nil ?_
          refine e_round ((j + 1, addS t (os.getD j (false, 0, ByteArray.empty, 0)).2.1 (os.getD j (false, 0, ByteArray.empty, 0)).2.2.1 (os.getD j (false, 0, ByteArray.empty, 0)).2.2.2)) ⟨⟨by dsimp only; omega, hI.add _ _ _, FInv.add hI hF _ _ _, by dsimp only; rw [add_last]; split <;> omega⟩, by dsimp only; omega⟩ rfl ⟨rfl, rfl, rfl, rfl, rfl, trivial⟩ (.drop (.keep (fun _ _ h => h) (.nil)))
          )
       )
    ·
     first
      | (exfalso; first | omega | assumption)
      | (
       refine c_cond_f rfl ?_
       refine c_exit ?_
       refine e_exit_then ?_
       refine e_exit_then ?_
       refine e_exit_block ?_
       refine e_next ?_
       refine c_seq ?_
       refine c_seq ?_
       refine c_region ?_
       refine r_val .none rfl (p_assign rfl) ?_
       refine r_nil ?_
       refine e_next ?_
       refine c_block ?_
       refine c_name (d := 3) rfl (fun u_16 hu_16 => ?_)
       refine c_nameL (k := 0) rfl (fun A_17 hA_17 => ?_)
       refine c_loop (σ := Int × Ghost) (fun s' => [(6, Value.int .i64 s'.1), (3, u_16)]) (fun s' => [A_17]) (fun s' => s'.2) (fun s' => (2 ≤ s'.1 ∧ s'.1 ≤ 62) ∧ GNew w nX G s'.2) (fun s' => (62 - s'.1).toNat) ((2, _)) ⟨⟨Int.le_refl _, by dsimp only; omega⟩, GNew.refl _ _ _⟩ rfl ⟨rfl, rfl, trivial⟩ (.keep (fun _ _ h => h) (.nil)) (fun s' hphi => ?_)
       subst hu_16
       subst hA_17
       obtain ⟨i, H⟩ := s'
       obtain ⟨hi, hgn⟩ := hphi
       dsimp only at hi hgn ⊢
       replace hs := hs.mono hgn.le
       refine c_seq ?_
       refine c_seq ?_
       refine c_region ?_
       refine r_val .none rfl (p_move rfl) ?_
       refine r_val .none rfl (p_le rfl rfl) ?_
       refine r_nil ?_
       refine e_next ?_
       refine c_splitd (d := 49) rfl (fun h_18 => ?_) (fun h_18 => ?_)
       ·
        first
         | (exfalso; first | omega | assumption)
         | (
          refine c_cond_t rfl ?_
          refine c_skip ?_
          refine e_next ?_
          refine c_seq ?_
          refine c_block ?_
          refine c_seq ?_
          refine c_seq ?_
          refine c_region ?_
          refine r_val .none rfl (p_move rfl) ?_
          refine r_val .none rfl (p_move rfl) ?_
          refine r_callo (k := 0) (vs := [_, _]) .none rfl cl14 rfl rfl (fun w F hw hA hFG => c_EplaceS _ i t w hw hA hFG) ?_
          refine r_val .none rfl (p_move rfl) ?_
          refine r_val .none rfl (p_extract rfl rfl) ?_
          refine r_val .none rfl (p_extract rfl rfl) ?_
          refine r_val .none rfl (p_assign rfl) ?_
          refine r_val .none rfl (p_assign rfl) ?_
          refine r_nil ?_
          refine e_next ?_
          refine c_seq ?_
          refine c_region ?_
          refine r_val .none rfl (p_move rfl) ?_
          refine r_val .none rfl (p_not rfl) ?_
          refine r_nil ?_
          refine e_next ?_
          refine c_splitn (d := 59) rfl (fun h_19 => ?_) (fun h_19 => ?_)
          ·
           first
            | (exfalso; first | omega | assumption)
            | (
             refine c_cond_t rfl ?_
             refine c_exit ?_
             refine e_exit_then ?_
             refine e_exit_block ?_
             refine e_next ?_
             refine c_region ?_
             refine r_val .none rfl (p_move rfl) ?_
             refine r_val .none rfl (p_add rfl rfl (by omega)) ?_
             refine r_val .none rfl (p_assign rfl) ?_
             refine r_nil ?_
             refine e_round ((i + 1, _)) ⟨⟨by dsimp only; omega, hgn⟩, by dsimp only; omega⟩ rfl ⟨rfl, rfl, trivial⟩ (.keep (fun _ _ h => h) (.nil))
             )
          ·
           have hok : (lkp t.toks i).isSome = true := by (have h9 := h_19; simpa using h9)
           obtain ⟨x, hx0⟩ := Option.isSome_iff_exists.1 hok
           have hr := hI.rng i x hx0
           first
            | (exfalso; first | omega | assumption)
            | (
             refine c_cond_f rfl ?_
             refine c_skip ?_
             refine e_next ?_
             refine c_seq ?_
             refine c_region ?_
             refine r_val .none rfl (p_move rfl) ?_
             refine r_val .none rfl (p_move rfl) ?_
             refine r_val .none rfl (p_move rfl) ?_
             refine r_callo (k := 0) (vs := [_, _]) .none rfl cl15 rfl rfl (fun w F hw hA hFG => c_EparS _ i t w hw hA hFG) ?_
             rw [show ((lkp t.toks i).map Tk.par).getD 0 = x.par by rw [hx0]; rfl]
             have hfl := factsR_len (n := 61) (show t.last ≤ ((61 : Nat) : Int) by omega) x.par
             refine r_callor (k := 0) (vs := [_, _]) .none rfl cl51 rfl rfl (fun w F hw hA hFG => c_EfactsS _ x.par t hI (by omega) (by omega) w hw hA hFG) (fun r_20 => ?_)
             refine r_unpack ?_
             refine r_val .none rfl (p_assign rfl) ?_
             refine r_nil ?_
             refine e_next ?_
             refine c_seq ?_
             refine c_seq ?_
             refine c_region ?_
             refine r_val .none rfl (p_move rfl) ?_
             refine r_val .none rfl (p_move rfl) ?_
             refine r_callo (k := 1) (vs := [_, _]) .none rfl cl52 rfl rfl (fun w F hw hA hFG => c_EfactS _ i t w hw hA hFG) ?_
             rw [show ((lkp t.toks i).map Tk.fac).getD 0 = x.fac by rw [hx0]; rfl]
             refine r_val .none rfl (p_assign rfl) ?_
             refine r_nil ?_
             refine e_next ?_
             refine c_seq ?_
             refine c_region ?_
             refine r_val .none rfl (p_move rfl) ?_
             refine r_val .none rfl (p_ne rfl rfl) ?_
             refine r_nil ?_
             refine e_next ?_
             refine c_splitd (d := 69) rfl (fun h_21 => ?_) (fun h_21 => ?_)
             ·
              have hf : ¬ x.fac = 0 := h_21
              first
               | (exfalso; first | omega | assumption)
               | (
                refine c_cond_t rfl ?_
                refine c_seq ?_
                refine c_region ?_
                refine r_val .none rfl (p_move rfl) ?_
                refine r_val .none rfl (p_move rfl) ?_
                refine r_bslice (vs := [(0, Value.int _ _)]) (c := #[_]) .none rfl Try.underlying42 el3 rfl rfl rfl (bs3_10i2 _ _) (IsRow.lit _) (fun b_2 => ?_)
                refine r_append (k := 1) (k2 := 0) .none rfl Try.underlying42 el3 rfl (by decide) rfl rfl rfl rfl rfl (one_lit rfl rfl) (by simp only [maxLen]; omega) (by omega) (fun v_22 => ?_)
                refine r_row1 (k := 1) rfl (fun o_23 => ?_)
                refine r_conv (B := rowA v_22 3 1 (factsR t x.par ++ [x.fac]).length ((factsR t x.par ++ [x.fac]).flatMap cI)) (k := 1) rfl (fun _ _ h => rowA_snoc rfl rfl rfl rfl _ _ h) ?_
                dsimp only [List.set_cons_zero, List.set_cons_succ]
                refine r_val .none rfl (p_assign rfl) ?_
                refine r_nil ?_
                refine e_next ?_
                refine c_seq ?_
                refine c_region ?_
                refine r_val .none rfl (p_assign rfl) ?_
                refine r_nil ?_
                refine e_next ?_
                refine c_seq ?_
                refine c_seq ?_
                refine c_region ?_
                refine r_val .none rfl (p_move rfl) ?_
                refine r_val .none rfl (p_move rfl) ?_
                refine r_front (k := 2) rfl ?_
                refine r_callor (k := 0) (vs := [_, _]) .none rfl cl53 rfl rfl (fun w F hw hA hFG => c_EwithS _ x.fac t (fun h hh => ⟨((Nst.wf hF x.fac (n := t.last.toNat) (by omega) (fun id hs => by obtain ⟨_, y, hy, _⟩ := hs; have h8 := hI.rng id y hy; omega)) h hh).1, by have h7 := ((Nst.wf hF x.fac (n := t.last.toNat) (by omega) (fun id hs => by obtain ⟨_, y, hy, _⟩ := hs; have h8 := hI.rng id y hy; omega)) h hh).2; omega⟩) w hw hA hFG) (fun r_24 => ?_)
                refine r_unpack ?_
                refine r_val .none rfl (p_leno (k := 0) Try.underlying42 rfl rfl) ?_
                refine r_val .none rfl (p_move rfl) ?_
                refine r_nil ?_
                refine e_next ?_
                refine c_block ?_
                refine c_name (d := 3) rfl (fun u_25 hu_25 => ?_)
                refine c_name (d := 6) rfl (fun u_26 hu_26 => ?_)
                refine c_name (d := 7) rfl (fun u_27 hu_27 => ?_)
                refine c_name (d := 8) rfl (fun u_28 hu_28 => ?_)
                refine c_name (d := 9) rfl (fun u_29 hu_29 => ?_)
                refine c_name (d := 10) rfl (fun u_30 hu_30 => ?_)
                refine c_name (d := 48) rfl (fun u_31 hu_31 => ?_)
                refine c_name (d := 49) rfl (fun u_32 hu_32 => ?_)
                refine c_name (d := 53) rfl (fun u_33 hu_33 => ?_)
                refine c_name (d := 54) rfl (fun u_34 hu_34 => ?_)
                refine c_name (d := 56) rfl (fun u_35 hu_35 => ?_)
                refine c_name (d := 57) rfl (fun u_36 hu_36 => ?_)
                refine c_name (d := 58) rfl (fun u_37 hu_37 => ?_)
                refine c_name (d := 59) rfl (fun u_38 hu_38 => ?_)
                refine c_name (d := 60) rfl (fun u_39 hu_39 => ?_)
                refine c_name (d := 61) rfl (fun u_40 hu_40 => ?_)
                refine c_name (d := 62) rfl (fun u_41 hu_41 => ?_)
                refine c_name (d := 63) rfl (fun u_42 hu_42 => ?_)
                refine c_name (d := 64) rfl (fun u_43 hu_43 => ?_)
                refine c_name (d := 65) rfl (fun u_44 hu_44 => ?_)
                refine c_name (d := 66) rfl (fun u_45 hu_45 => ?_)
                refine c_name (d := 67) rfl (fun u_46 hu_46 => ?_)
                refine c_name (d := 68) rfl (fun u_47 hu_47 => ?_)
                refine c_name (d := 69) rfl (fun u_48 hu_48 => ?_)
                refine c_name (d := 70) rfl (fun u_49 hu_49 => ?_)
                refine c_name (d := 71) rfl (fun u_50 hu_50 => ?_)
                refine c_name (d := 72) rfl (fun u_51 hu_51 => ?_)
                refine c_name (d := 73) rfl (fun u_52 hu_52 => ?_)
                refine c_name (d := 74) rfl (fun u_53 hu_53 => ?_)
                refine c_name (d := 75) rfl (fun u_54 hu_54 => ?_)
                refine c_name (d := 76) rfl (fun u_55 hu_55 => ?_)
                refine c_name (d := 77) rfl (fun u_56 hu_56 => ?_)
                refine c_nameL (k := 0) rfl (fun A_57 hA_57 => ?_)
                refine c_nameL (k := 1) rfl (fun A_58 hA_58 => ?_)
                refine c_nameL (k := 2) rfl (fun A_59 hA_59 => ?_)
                refine c_nameL (k := 3) rfl (fun A_60 hA_60 => ?_)
                refine c_loop (σ := Nat × Bool) (fun s' => [(78, Value.int .i64 (s'.1 : Nat)), (11, Value.bool s'.2), (3, u_25), (6, u_26), (7, u_27), (8, u_28), (9, u_29), (10, u_30), (48, u_31), (49, u_32), (53, u_33), (54, u_34), (56, u_35), (57, u_36), (58, u_37), (59, u_38), (60, u_39), (61, u_40), (62, u_41), (63, u_42), (64, u_43), (65, u_44), (66, u_45), (67, u_46), (68, u_47), (69, u_48), (70, u_49), (71, u_50), (72, u_51), (73, u_52), (74, u_53), (75, u_54), (76, u_55), (77, u_56)]) (fun s' => [A_57, A_58, A_59, A_60]) (fun _ => _) (fun s' => s'.1 ≤ (itemsN t.fc x.fac).length ∧ s'.2 = decide (i ∈ (itemsN t.fc x.fac).take s'.1)) (fun s' => (itemsN t.fc x.fac).length - s'.1) ((0, false)) ⟨Nat.zero_le _, by simp⟩ rfl ⟨rfl, rfl, rfl, rfl, rfl, rfl, rfl, rfl, rfl, rfl, rfl, rfl, rfl, rfl, rfl, rfl, rfl, rfl, rfl, rfl, rfl, rfl, rfl, rfl, rfl, rfl, rfl, rfl, rfl, rfl, rfl, rfl, rfl, rfl, trivial⟩ (.keep (fun _ _ h => h) (.keep (fun _ _ h => h) (.keep (fun _ _ h => h) (.keep (fun _ _ h => h) (.nil))))) (fun s' hphi => ?_)
                subst hu_25
                subst hu_26
                subst hu_27
                subst hu_28
                subst hu_29
                subst hu_30
                subst hu_31
                subst hu_32
                subst hu_33
                subst hu_34
                subst hu_35
                subst hu_36
                subst hu_37
                subst hu_38
                subst hu_39
                subst hu_40
                subst hu_41
                subst hu_42
                subst hu_43
                subst hu_44
                subst hu_45
                subst hu_46
                subst hu_47
                subst hu_48
                subst hu_49
                subst hu_50
                subst hu_51
                subst hu_52
                subst hu_53
                subst hu_54
                subst hu_55
                subst hu_56
                subst hA_57
                subst hA_58
                subst hA_59
                subst hA_60
                obtain ⟨k, hb⟩ := s'
                obtain ⟨hk, hhb⟩ := hphi
                dsimp only at hk hhb ⊢
                have hil := Nst.ilen hF x.fac (n := t.last.toNat) (by omega) (fun id hs => by (obtain ⟨_, y, hy, _⟩ := hs; have h8 := hI.rng id y hy; omega))
                refine c_seq ?_
                refine c_region ?_
                refine r_val .none rfl (p_lt rfl rfl) ?_
                refine r_nil ?_
                refine e_next ?_
                refine c_seq ?_
                refine c_splitd (d := 79) rfl (fun h_61 => ?_) (fun h_61 => ?_)
                ·
                 first
                  | (exfalso; first | omega | assumption)
                  | (
                   refine c_cond_t rfl ?_
                   refine c_skip ?_
                   refine e_next ?_
                   refine c_seq ?_
                   refine c_block ?_
                   refine c_seq ?_
                   refine c_region ?_
                   refine r_iaddr_o (k := 0) .none rfl Try.underlying42 sz3 rfl rfl rfl (by first | exact of_decide_eq_true rfl | omega) (fun p_62 c_63 hv_64 => ?_)
                   refine r_val .none rfl (p_ldo0 (k := 0) Try.underlying3 rfl rfl hv_64 rfl (by first | exact of_decide_eq_true rfl | omega) (by first | exact of_decide_eq_true rfl | omega) ((flatMap_get (cells := cI) (fun _ => rfl) (0 : Int) _ _ _ (by first | exact of_decide_eq_true rfl | omega) (by first | exact of_decide_eq_true rfl | omega)).trans (rfl : _ = Value.int _ _))) ?_
                   refine r_val .none rfl (p_assign rfl) ?_
                   refine r_nil ?_
                   refine e_next ?_
                   refine c_region ?_
                   refine r_val .none rfl (p_move rfl) ?_
                   refine r_val .none rfl (p_move rfl) ?_
                   refine r_split (d := 83) rfl (fun h_65 => ?_) (fun h_65 => ?_)
                   ·
                    have hbv : hb = true := by simpa using h_65
                    first
                     | (exfalso; first | omega | assumption)
                     | (
                      refine r_skip rfl (.no rfl rfl) ?_
                      refine r_skip rfl (.no rfl rfl) ?_
                      refine r_skip rfl (.no rfl rfl) ?_
                      refine r_val .none rfl (p_pick_t rfl rfl) ?_
                      refine r_val .none rfl (p_assign rfl) ?_
                      refine r_nil ?_
                      refine e_norm_block ?_
                      refine e_next ?_
                      refine c_region ?_
                      refine r_val .none rfl (p_add rfl rfl (by omega)) ?_
                      refine r_val .none rfl (p_move rfl) ?_
                      refine r_nil ?_
                      refine e_round ((k + 1, _)) ⟨⟨by dsimp only; omega, by dsimp only; rw [has_next (by omega), ← hhb, hbv]; rfl⟩, by dsimp only; omega⟩ rfl ⟨rfl, rfl, rfl, rfl, rfl, rfl, rfl, rfl, rfl, rfl, rfl, rfl, rfl, rfl, rfl, rfl, rfl, rfl, rfl, rfl, rfl, rfl, rfl, rfl, rfl, rfl, rfl, rfl, rfl, rfl, rfl, rfl, rfl, rfl, trivial⟩ (.keep (fun _ _ h => h) (.keep (fun _ _ h => h) (.keep (fun _ _ h => h) (.keep (fun _ _ h => h) (.nil)))))
                      )
                   ·
                    have hbv : hb = false := by simpa using h_65
                    first
                     | (exfalso; first | omega | assumption)
                     | (
                      refine r_val (.some rfl rfl) rfl (p_move rfl) ?_
                      refine r_val (.some rfl rfl) rfl (p_move rfl) ?_
                      refine r_val (.some rfl rfl) rfl (p_eq rfl rfl) ?_
                      refine r_val .none rfl (p_pick_f rfl rfl) ?_
                      refine r_val .none rfl (p_assign rfl) ?_
                      refine r_nil ?_
                      refine e_norm_block ?_
                      refine e_next ?_
                      refine c_region ?_
                      refine r_val .none rfl (p_add rfl rfl (by omega)) ?_
                      refine r_val .none rfl (p_move rfl) ?_
                      refine r_nil ?_
                      refine e_round ((k + 1, _)) ⟨⟨by dsimp only; omega, by dsimp only; rw [has_next (by omega), ← hhb, hbv]; rfl⟩, by dsimp only; omega⟩ rfl ⟨rfl, rfl, rfl, rfl, rfl, rfl, rfl, rfl, rfl, rfl, rfl, rfl, rfl, rfl, rfl, rfl, rfl, rfl, rfl, rfl, rfl, rfl, rfl, rfl, rfl, rfl, rfl, rfl, rfl, rfl, rfl, rfl, rfl, rfl, trivial⟩ (.keep (fun _ _ h => h) (.keep (fun _ _ h => h) (.keep (fun _ _ h => h) (.keep (fun _ _ h => h) (.nil)))))
                      )
                   )
                ·
                 first
                  | (exfalso; first | omega | assumption)
                  | (
                   refine c_cond_f rfl ?_
                   refine c_exit ?_
                   refine e_exit_then ?_
                   refine e_exit_then ?_
                   refine e_exit_block ?_
                   refine e_next ?_
                   refine c_seq ?_
                   refine c_region ?_
                   refine r_val .none rfl (p_move rfl) ?_
                   refine r_val .none rfl (p_not rfl) ?_
                   refine r_nil ?_
                   refine e_next ?_
                   refine c_splitn (d := 90) rfl (fun h_66 => ?_) (fun h_66 => ?_)
                   ·
                    have hx : False := by (have h9 := h_66; have h8 : hb = true := (by rw [hhb, List.take_of_length_le (by omega)]; exact decide_eq_true ((Nst.items hF x.fac i).2 ⟨hf, x, hx0, rfl⟩)); rw [h8] at h9; simp at h9)
                    exact hx.elim
                   ·
                    first
                     | (exfalso; first | omega | assumption)
                     | (
                      refine c_cond_f rfl ?_
                      refine c_skip ?_
                      refine e_next ?_
                      refine c_seq ?_
                      refine c_region ?_
                      refine r_val .none rfl (p_move rfl) ?_
                      refine r_val .none rfl (p_move rfl) ?_
                      refine r_front (k := 1) rfl ?_
                      refine r_callor (k := 0) (vs := [_, _]) .none rfl cl51 rfl rfl (fun w F hw hA hFG => c_EfactsS _ i t hI (by omega) (by omega) w hw hA hFG) (fun r_67 => ?_)
                      refine r_unpack ?_
                      refine r_freeze (k := 0) rfl (fun G_68 hn_69 hs_70 => ?_)
                      replace hs := hs.mono hn_69.le
                      have hs9 : SlL G_68 r_67 1 cI (0 : Int) (factsR t i) := SlL.of (cells := cI) (0 : Int) (fun _ => rfl) rfl hs_70
                      refine r_val .none rfl (p_move rfl) ?_
                      refine r_callr (k := 3) (vs := [_, _]) .none rfl cl54 rfl rfl (fun w G_71 hw hle_72 hs_73 => c_ints15 _ _ _ _ (hs9.mono hle_72) (SlL.of (cells := cI) (0 : Int) (fun _ => rfl) rfl hs_73) w hw) ?_
                      refine r_val .none rfl (p_not rfl) ?_
                      refine r_nil ?_
                      refine e_next ?_
                      refine c_splitn (d := 96) rfl (fun h_74 => ?_) (fun h_74 => ?_)
                      ·
                       have hx : False := by (have h9 := h_74; rw [factsR_next hI hx0] at h9; first | (rw [if_neg hf] at h9; simp at h9; done) | (rw [if_pos hf] at h9; simp at h9; done))
                       exact hx.elim
                      ·
                       first
                        | (exfalso; first | omega | assumption)
                        | (
                         refine c_cond_f rfl ?_
                         refine c_skip ?_
                         refine e_norm_block ?_
                         refine e_next ?_
                         refine c_region ?_
                         refine r_val .none rfl (p_move rfl) ?_
                         refine r_val .none rfl (p_add rfl rfl (by omega)) ?_
                         refine r_val .none rfl (p_assign rfl) ?_
                         refine r_nil ?_
                         refine e_round ((i + 1, _)) ⟨⟨by dsimp only; omega, (hgn.trans hn_69)⟩, by dsimp only; omega⟩ rfl ⟨rfl, rfl, trivial⟩ (.keep (fun _ _ h => h) (.drop (.drop (.drop (.nil)))))
                         )
                      )
                   )
                )
             ·
              have hf : x.fac = 0 := Decidable.not_not.1 h_21
              first
               | (exfalso; first | omega | assumption)
               | (
                refine c_cond_f rfl ?_
                refine c_skip ?_
                refine e_next ?_
                refine c_seq ?_
                refine c_region ?_
                refine r_val .none rfl (p_move rfl) ?_
                refine r_val .none rfl (p_move rfl) ?_
                refine r_front (k := 1) rfl ?_
                refine r_callor (k := 0) (vs := [_, _]) .none rfl cl51 rfl rfl (fun w F hw hA hFG => c_EfactsS _ i t hI (by omega) (by omega) w hw hA hFG) (fun r_75 => ?_)
                refine r_unpack ?_
                refine r_freeze (k := 0) rfl (fun G_76 hn_77 hs_78 => ?_)
                replace hs := hs.mono hn_77.le
                have hs9 : SlL G_76 r_75 1 cI (0 : Int) (factsR t i) := SlL.of (cells := cI) (0 : Int) (fun _ => rfl) rfl hs_78
                refine r_val .none rfl (p_move rfl) ?_
                refine r_callr (k := 1) (vs := [_, _]) .none rfl cl54 rfl rfl (fun w G_79 hw hle_80 hs_81 => c_ints15 _ _ _ _ (hs9.mono hle_80) (SlL.of (cells := cI) (0 : Int) (fun _ => rfl) rfl hs_81) w hw) ?_
                refine r_val .none rfl (p_not rfl) ?_
                refine r_nil ?_
                refine e_next ?_
                refine c_splitn (d := 96) rfl (fun h_82 => ?_) (fun h_82 => ?_)
                ·
                 have hx : False := by (have h9 := h_82; rw [factsR_next hI hx0] at h9; first | (rw [if_neg hf] at h9; simp at h9; done) | (rw [if_pos hf] at h9; simp at h9; done))
                 exact hx.elim
                ·
                 first
                  | (exfalso; first | omega | assumption)
                  | (
                   refine c_cond_f rfl ?_
                   refine c_skip ?_
                   refine e_norm_block ?_
                   refine e_next ?_
                   refine c_region ?_
                   refine r_val .none rfl (p_move rfl) ?_
                   refine r_val .none rfl (p_add rfl rfl (by omega)) ?_
                   refine r_val .none rfl (p_assign rfl) ?_
                   refine r_nil ?_
                   refine e_round ((i + 1, _)) ⟨⟨by dsimp only; omega, (hgn.trans hn_77)⟩, by dsimp only; omega⟩ rfl ⟨rfl, rfl, trivial⟩ (.keep (fun _ _ h => h) (.drop (.nil)))
                   )
                )
             )
          )
       ·
        first
         | (exfalso; first | omega | assumption)
         | (
          refine c_cond_f rfl ?_
          refine c_exit ?_
          refine e_exit_then ?_
          refine e_exit_then ?_
          refine e_exit_block ?_
          refine e_next ?_
          refine c_seq ?_
          refine c_region ?_
          refine r_call (vs := []) .none rfl cl11 rfl (fun w hw => c_awake15 w) ?_
          refine r_val .none rfl (p_assign rfl) ?_
          refine r_nil ?_
          refine e_next ?_
          refine c_ret ?_
          refine e_ret1 Try.results8 (.tmp rfl .nil) (fun w hm => ⟨?_, hm.since⟩)
          first
          | rfl
          | (simp; done)
          )
       )
    )
end Go.Proofs.Ytdcaehepmkhciaa
