/- Walks: what Go functions of this chapter come to, each as a function on plain data; no condition but those that each theorem names. Printed by a program of this work (gen.py). -/
import Derived.Test.YtoflaphnlfggkaaW06d
import Derived.Test.YtoflaphnlfggkaaPl06b
import Derived.Test.YtoflaphnlfggkaaShelf5
import Derived.Test.YtoflaphnlfggkaaRows
namespace Go.Proofs.Ytoflaphnlfggkaa
open Go.Gx Go.Gx.T4 Go.Gx.T3 Go.Gx.T6 Go.Gx.T8 Go.Gx.T4 Go.Gx.T3 Go.Gx.T8 Go.Gx.T4 Go.Gx.T3
theorem sz84 : SzIs Try.prog 84 3 := by
  unfold SzIs
  kernel_rfl
theorem cl60 : Callable Try.prog 60 := callable Try.func60 (by kernel_rfl) rfl
theorem cl61 : Callable Try.prog 61 := callable Try.func61 (by kernel_rfl) rfl
theorem cl62 : Callable Try.prog 62 := callable Try.func62 (by kernel_rfl) rfl
theorem cl66 : Callable Try.prog 66 := callable Try.func66 (by kernel_rfl) rfl
theorem bl84_0i1_1i1_2i1 (x0 : Int) (x1 : Int) (x2 : Int) : Program.built Try.prog 84 [(0, Value.int .i64 x0), (1, Value.int .i64 x1), (2, Value.int .i64 x2)] = some #[Value.int .i64 x0, Value.int .i64 x1, Value.int .i64 x2] := by
  kernel_rfl
theorem bs84_10a3 (a0 a1 a2 : Value) : Instr.fill (fun i => some (i * 3, 3)) ((Array.range (1 * 3)).map ((Value.agg #[Value.int .i64 0, Value.int .i64 0, Value.int .i64 0]).cells[· % (Value.agg #[Value.int .i64 0, Value.int .i64 0, Value.int .i64 0]).cells.size]!)) [(0, Value.agg #[a0, a1, a2])] = some #[a0, a1, a2] := by
  kernel_rfl
theorem el84 : ElemIs Try.prog 84 3 24 (Value.agg #[Value.int .i64 0, Value.int .i64 0, Value.int .i64 0]) := by
  unfold ElemIs
  kernel_rfl
theorem c_bnd1 (x : PL) (b : Bool) (n : Int) (p : Nat) {G : Ghost} (hR : RowAt G p 0 2 (at_ [Value.bool b, Value.int .i64 n])) (w : World) (hG : Has G w) :
    Calls Try.prog 61 #[Value.agg #[Value.int .i64 x.1, Value.int .i64 x.2.1, Value.int .i64 x.2.2], Value.pointer (some ⟨p, 0, none⟩)] w (Ret fun r w' => r = Value.bool (isV n x) ∧ Since nX w w') := by
  refine enter (args := [_, _]) (X := nX) (G := G) (l := [(0, Value.agg #[Value.int .i64 x.1, Value.int .i64 x.2.1, Value.int .i64 x.2.2]), (1, Value.pointer (some ⟨p, 0, none⟩))]) Try.func61 rfl Try.ntmps61 hG ⟨rfl, rfl, trivial⟩ (Nat.le_of_ble_eq_true rfl) ?_
  refine c_seq ?_
  refine c_region ?_
  refine r_box .none rfl rfl (IsRow.lit _) (fun b_1 => ?_)
  refine r_val .none rfl (p_assign rfl) ?_
  refine r_nil ?_
  refine e_next ?_
  refine c_seq ?_
  refine c_region ?_
  refine r_val .none rfl (p_field Try.underlying84 rfl sz3 rfl) ?_
  refine r_val .none rfl (p_ld (k := 0) Try.underlying3 rfl rfl rfl (by first | exact of_decide_eq_true rfl | omega) (rfl : _ = Value.int _ _)) ?_
  refine r_val .none rfl (p_field Try.underlying35 rfl sz3 rfl) ?_
  refine r_val .none rfl (p_ldg (j := 1) Try.underlying3 rfl rfl hR (by first | exact of_decide_eq_true rfl | omega) (rfl : _ = Value.int _ _)) ?_
  refine r_val .none rfl (p_eq rfl rfl) ?_
  refine r_val .none rfl (p_assign rfl) ?_
  refine r_nil ?_
  refine e_next ?_
  refine c_ret ?_
  refine e_ret1 Try.results61 (.tmp rfl .nil) (fun w hm => ⟨?_, hm.since⟩)
  rfl
theorem c_idxP (v : Value) (zs : List (PL)) (g : Nat) (cv : Value) (pf : PL → Bool) {G : Ghost} (hr : SlL G v 3 tC t0 zs) (hcg : Callable Try.prog g) (hcl : ∀ (x : PL) (w : World), Has G w → Calls Try.prog g #[Value.agg #[Value.int .i64 x.1, Value.int .i64 x.2.1, Value.int .i64 x.2.2], cv] w (Ret fun r w' => r = Value.bool (pf x) ∧ Since nX w w')) (w : World) (hG : Has G w) :
    Calls Try.prog 66 #[v, Value.func (.func g) #[] #[cv]] w (Ret fun r w' => r = Value.int .i64 (idxF pf zs 0) ∧ Since nX w w') := by
  refine enter (args := [_, _]) (X := nX) (G := G) (l := [(0, v), (1, Value.func (.func g) #[] #[cv])]) Try.func66 rfl Try.ntmps66 hG ⟨rfl, rfl, trivial⟩ (Nat.le_of_ble_eq_true rfl) ?_
  have hbd := hr.bound
  refine c_seq ?_
  refine c_region ?_
  refine r_val .none rfl (p_assign rfl) ?_
  refine r_nil ?_
  refine e_next ?_
  refine c_seq ?_
  refine c_seq ?_
  refine c_region ?_
  refine r_val .none rfl (p_move rfl) ?_
  refine r_val .none rfl (p_leng Try.underlying81 rfl hr) ?_
  have bd_1 := (hr).bound
  refine r_val .none rfl (p_move rfl) ?_
  refine r_nil ?_
  refine e_next ?_
  refine c_block ?_
  refine c_name (d := 0) rfl (fun u_2 hu_2 => ?_)
  refine c_name (d := 1) rfl (fun u_3 hu_3 => ?_)
  refine c_name (d := 7) rfl (fun u_4 hu_4 => ?_)
  refine c_loop (σ := Nat) (fun k => [(8, Value.int .i64 (k : Nat)), (0, u_2), (1, u_3), (7, u_4)]) (fun k => []) (fun _ => _) (fun k => k ≤ zs.length ∧ idxF pf (zs.drop k) k = idxF pf zs 0) (fun k => zs.length - k) (0) ⟨Nat.zero_le _, rfl⟩ rfl ⟨rfl, rfl, rfl, rfl, trivial⟩ (.nil) (fun k hphi => ?_)
  subst hu_2
  subst hu_3
  subst hu_4
  refine c_seq ?_
  refine c_region ?_
  refine r_val .none rfl (p_lt rfl rfl) ?_
  refine r_nil ?_
  refine e_next ?_
  refine c_seq ?_
  refine c_splitd (d := 9) rfl (fun h_5 => ?_) (fun h_5 => ?_)
  · skip
    first
      | (exfalso; omega)
      | (
        refine c_cond_t rfl ?_
        refine c_skip ?_
        refine e_next ?_
        refine c_seq ?_
        refine c_block ?_
        refine c_seq ?_
        refine c_region ?_
        refine r_val .none rfl (p_move rfl) ?_
        refine r_val .none rfl (p_assign rfl) ?_
        refine r_nil ?_
        refine e_next ?_
        refine c_seq ?_
        refine c_region ?_
        refine r_val .none rfl (p_move rfl) ?_
        refine r_val .none rfl (p_move rfl) ?_
        refine r_val .none rfl (p_move rfl) ?_
        refine r_iaddr_g .none rfl Try.underlying81 sz84 rfl hr rfl (by first | exact of_decide_eq_true rfl | omega) (fun p_7 o_8 R_6 => ?_)
        refine r_val .none rfl (p_ldga0 Try.underlying84 rfl sz84 rfl R_6 (by first | exact of_decide_eq_true rfl | omega) (rfl : _ = Value.agg #[_, _, _])) ?_
        refine r_fun (cs := [_]) .none rfl ?_
        refine r_call (vs := [_, _]) .none rfl hcg rfl (fun w hw => hcl (zs.getD k t0) w hw) ?_
        refine r_nil ?_
        refine e_next ?_
        refine c_split (d := 16) rfl (fun h_9 => ?_) (fun h_9 => ?_)
        · skip
          have hE := h_9
          first
            | (exfalso; omega)
            | (
              refine c_cond_t rfl ?_
              refine c_seq ?_
              refine c_region ?_
              refine r_val .none rfl (p_move rfl) ?_
              refine r_val .none rfl (p_assign rfl) ?_
              refine r_nil ?_
              refine e_next ?_
              refine c_ret ?_
              refine e_ret_block ?_
              refine e_ret_then ?_
              refine e_ret_then ?_
              refine e_ret_block ?_
              refine e_ret_then ?_
              refine e_ret1 Try.results66 (.tmp rfl .nil) (fun w hm => ⟨?_, hm.since⟩)
              first
              | (rw [← hphi.2, idxF_yes (d := t0) (by omega) hE])
              | (rw [← hphi.2, List.drop_eq_nil_of_le (by omega)]; rfl)
              )
        · skip
          have hE := h_9
          first
            | (exfalso; omega)
            | (
              refine c_cond_f rfl ?_
              refine c_skip ?_
              refine e_norm_block ?_
              refine e_next ?_
              refine c_region ?_
              refine r_val .none rfl (p_add rfl rfl (by omega)) ?_
              refine r_val .none rfl (p_move rfl) ?_
              refine r_nil ?_
              refine e_round (k + 1) ⟨⟨by omega, by rw [← hphi.2, idxF_no (d := t0) (by omega) hE]⟩, by omega⟩ rfl ⟨rfl, rfl, rfl, rfl, trivial⟩ (.nil)
              )
        )
  · skip
    first
      | (exfalso; omega)
      | (
        refine c_cond_f rfl ?_
        refine c_exit ?_
        refine e_exit_then ?_
        refine e_exit_then ?_
        refine e_exit_block ?_
        refine e_next ?_
        refine c_seq ?_
        refine c_region ?_
        refine r_val .none rfl (p_assign rfl) ?_
        refine r_nil ?_
        refine e_next ?_
        refine c_ret ?_
        refine e_ret1 Try.results66 (.tmp rfl .nil) (fun w hm => ⟨?_, hm.since⟩)
        first
        | (rw [← hphi.2, idxF_yes (d := t0) (by omega) hE])
        | (rw [← hphi.2, List.drop_eq_nil_of_le (by omega)]; rfl)
        )
theorem c_ctnP (v : Value) (zs : List (PL)) (g : Nat) (cv : Value) (pf : PL → Bool) {G : Ghost} (hr : SlL G v 3 tC t0 zs) (hcg : Callable Try.prog g) (hcl : ∀ (x : PL) (w : World), Has G w → Calls Try.prog g #[Value.agg #[Value.int .i64 x.1, Value.int .i64 x.2.1, Value.int .i64 x.2.2], cv] w (Ret fun r w' => r = Value.bool (pf x) ∧ Since nX w w')) (w : World) (hG : Has G w) :
    Calls Try.prog 60 #[v, Value.func (.func g) #[] #[cv]] w (Ret fun r w' => r = Value.bool (decide (0 ≤ idxF pf zs 0)) ∧ Since nX w w') := by
  refine enter (args := [_, _]) (X := nX) (G := G) (l := [(0, v), (1, Value.func (.func g) #[] #[cv])]) Try.func60 rfl Try.ntmps60 hG ⟨rfl, rfl, trivial⟩ (Nat.le_of_ble_eq_true rfl) ?_
  refine c_seq ?_
  refine c_region ?_
  refine r_val .none rfl (p_assign rfl) ?_
  refine r_nil ?_
  refine e_next ?_
  refine c_seq ?_
  refine c_region ?_
  refine r_val .none rfl (p_move rfl) ?_
  refine r_val .none rfl (p_move rfl) ?_
  refine r_call (vs := [_, _]) .none rfl cl66 rfl (fun w hw => c_idxP _ _ _ _ _ hr hcg hcl w hw) ?_
  refine r_val .none rfl (p_ge rfl rfl) ?_
  refine r_val .none rfl (p_assign rfl) ?_
  refine r_nil ?_
  refine e_next ?_
  refine c_ret ?_
  refine e_ret1 Try.results60 (.tmp rfl .nil) (fun w hm => ⟨?_, hm.since⟩)
  rfl
theorem clos63 (x y : PL) (W : World) : Calls Try.prog 63 #[Value.agg #[.int .i64 x.1, .int .i64 x.2.1, .int .i64 x.2.2], Value.agg #[.int .i64 y.1, .int .i64 y.2.1, .int .i64 y.2.2]] W fun e w' => e = .returned (.int .i64 (Lib.compareInt x.1 y.1)) ∧ ∃ q os', w' = Go.Sort.grow (W.drewN q) os' := by
  have hcon := fun W' => Try.cmp_Compare_int x.1 y.1 W'
  generalize Lib.compareInt x.1 y.1 = r at hcon ⊢
  go_enter Try.func63, Try.ntmps63
  go_wp2_with (go_at_call 64; refine (hcon _).mono ?_; rintro e w' ⟨rfl, rfl⟩)
  go_ret
  exact ⟨rfl, 0, _, by rw [Go.Sort.alloc_eq_grow, Go.Sort.alloc_eq_grow, Go.Sort.grow_grow]; rfl⟩
theorem ltP_of : Go.Proofs.ltOf (fun x y : PL => Lib.compareInt x.1 y.1) = ltP := by
  funext x y
  unfold Go.Proofs.ltOf Lib.compareInt ltP
  by_cases h1 : x.1 < y.1
  · simp [h1]
  · by_cases h2 : y.1 < x.1 <;> simp [h1, h2]
theorem ltP_swo : Go.Sort.SWO ltP where
  irrefl x := by simp [ltP]
  trans x y z h1 h2 := by simp [ltP] at *; omega
  ntrans x y z h1 h2 := by simp [ltP] at *; omega
theorem sortPC : SortFC Try.prog 62 63 tC 3 ltP := by
  intro blk cap zs w hH hblk hlen
  have eg : ∀ args w, (callFunc 63 args).run Try.prog w = .ok (.enter 63 args) w := enters_of Try.func63 (by kernel_rfl) rfl
  have h := AnyQ.slices_SortFunc Try.sortP 3 Try.isAgg84 Try.sizeOf84 tC (fun _ => rfl) (fun x v hv => by simp [tC] at hv; rcases hv with rfl | rfl | rfl <;> rfl) (fun x y => Lib.compareInt x.1 y.1) (ltP_of ▸ ltP_swo) 63 #[] blk 0 cap zs.toArray w eg (fun _ _ _ _ x y => clos63 x y _) hH hblk (by simpa using hlen)
  rw [ltP_of] at h
  exact h
theorem sortPN : SortFN Try.prog 62 63 := fun p cap w => AnyF.slices_SortFunc_none Try.sortP p cap _ w
theorem c_bnd (v : Value) (l : List CT) {G : Ghost} (hsz : l.length ≤ 1000) (hs : Cs G v l) (w : World) (hG : Has G w) :
    Calls Try.prog 41 #[v] w (Ret fun r w' => ∃ G', GNew w nX G G' ∧ Has G' w' ∧ (∃ zs, zs.Perm (places l 0 []) ∧ zs.Pairwise (fun a b => ltP b a = false) ∧ SlL G' r 3 tC t0 zs) ∧ Since nX w w') := by
  refine enter (args := [_]) (X := nX) (G := G) (l := [(0, v)]) Try.func41 rfl Try.ntmps41 hG ⟨rfl, trivial⟩ (Nat.le_of_ble_eq_true rfl) ?_
  obtain ⟨rs, hr, hp, rfl⟩ := hs.inv
  have hbd := hr.bound
  rw [List.length_map] at hsz
  refine c_seq ?_
  refine c_region ?_
  refine r_val .none rfl (p_assign rfl) ?_
  refine r_nil ?_
  refine e_next ?_
  refine c_seq ?_
  refine c_region ?_
  refine r_val .none rfl (p_assign rfl) ?_
  refine r_nil ?_
  refine e_next ?_
  refine c_seq ?_
  refine c_region ?_
  refine r_val .none rfl (p_assign rfl) ?_
  refine r_nil ?_
  refine e_next ?_
  refine c_seq ?_
  refine c_seq ?_
  refine c_region ?_
  refine r_val .none rfl (p_move rfl) ?_
  refine r_val .none rfl (p_leng Try.underlying22 rfl hr) ?_
  have bd_1 := (hr).bound
  refine r_val .none rfl (p_move rfl) ?_
  refine r_nil ?_
  refine e_next ?_
  refine c_block ?_
  refine c_nilrow 84 3 ?_
  refine c_name (d := 2) rfl (fun u_2 hu_2 => ?_)
  refine c_name (d := 9) rfl (fun u_3 hu_3 => ?_)
  refine c_name (d := 10) rfl (fun u_4 hu_4 => ?_)
  refine c_loop (σ := Nat × Value × Ghost) (fun s => [(11, Value.int .i64 (s.1 : Nat)), (4, Value.int .i64 (posN ((rs.map Prod.fst).take s.1) : Nat)), (3, s.2.1), (2, u_2), (9, u_3), (10, u_4)]) (fun s => [rowA (s.2.1) 84 3 ((places ((rs.map Prod.fst).take s.1) 0 [])).length (((places ((rs.map Prod.fst).take s.1) 0 [])).flatMap tC)]) (fun s => s.2.2) (fun s => s.1 ≤ rs.length ∧ GNew w nX G s.2.2) (fun s => rs.length - s.1) ((0, _, _)) ⟨Nat.zero_le _, GNew.refl _ _ _⟩ rfl ⟨rfl, rfl, rfl, rfl, rfl, rfl, trivial⟩ (.keep (fun _ _ h => rowA_nil rfl _ _ h) (.nil)) (fun s hphi => ?_)
  subst hu_2
  subst hu_3
  subst hu_4
  obtain ⟨k, v, H⟩ := s
  obtain ⟨hk, hgn⟩ := hphi
  dsimp only at hk hgn ⊢
  have hpn := posN_len (rs.map Prod.fst |>.take k)
  rw [List.length_take, List.length_map] at hpn
  have hpl := places_len ((rs.map Prod.fst).take k) 0 []
  rw [List.length_take, List.length_map] at hpl
  refine c_row1 (k := 0) rfl (fun ov => ?_)
  refine c_rowlen (k := 0) rfl (fun l63 => ?_)
  replace hr := hr.mono hgn.le
  replace hp := fun p hm0 => (hp p hm0).mono hgn.le
  refine c_seq ?_
  refine c_region ?_
  refine r_val .none rfl (p_lt rfl rfl) ?_
  refine r_nil ?_
  refine e_next ?_
  refine c_seq ?_
  refine c_splitd (d := 12) rfl (fun h_5 => ?_) (fun h_5 => ?_)
  · skip
    first
      | (exfalso; omega)
      | (
        refine c_cond_t rfl ?_
        refine c_skip ?_
        refine e_next ?_
        refine c_seq ?_
        refine c_block ?_
        refine c_seq ?_
        refine c_region ?_
        refine r_iaddr_g .none rfl Try.underlying22 sz38 rfl hr rfl (by first | exact of_decide_eq_true rfl | omega) (fun p_7 o_8 R_6 => ?_)
        have hc_9 := hp _ (getD_mem (i := k) (d := d0) (by omega))
        refine r_val .none rfl (p_ldga0 Try.underlying38 rfl sz38 rfl R_6 (by first | exact of_decide_eq_true rfl | omega) (rfl : _ = Value.agg #[_, _, _, _, _, _, _, _])) ?_
        refine r_alloc .none rfl zr38 (IsRow.lit _) (fun b_1 => ?_)
        refine r_stw (k := 0) .none sz38 rfl rfl (IsRow.lit _) (one_lit rfl (all_cons rfl (all_cons rfl (all_cons rfl (all_cons rfl (all_cons rfl (all_cons rfl (all_cons rfl (all_cons (hc_9).one rfl))))))))) rfl ?_
        refine r_nil ?_
        refine e_next ?_
        refine c_seq ?_
        refine c_seq ?_
        refine c_region ?_
        refine r_val .none rfl (p_field Try.underlying38 rfl sz3 rfl) ?_
        refine r_val .none rfl (p_ld (k := 0) Try.underlying3 rfl rfl rfl (by first | exact of_decide_eq_true rfl | omega) (rfl : _ = Value.int _ _)) ?_
        refine r_val .none rfl (p_ne rfl rfl) ?_
        refine r_nil ?_
        refine e_next ?_
        refine c_splitd (d := 17) rfl (fun h_10 => ?_) (fun h_10 => ?_)
        · skip
          have hk1 : ¬ (rs.getD k d0).1.h.k = 1 := h_10
          first
            | (exfalso; omega)
            | (
              refine c_cond_t rfl ?_
              refine c_exit ?_
              refine e_exit_then ?_
              refine e_exit_block ?_
              refine e_next ?_
              refine c_region ?_
              refine r_val .none rfl (p_add rfl rfl (by omega)) ?_
              refine r_val .none rfl (p_move rfl) ?_
              refine r_nil ?_
              refine e_round ((k + 1, _, _)) ⟨⟨by dsimp only; omega, hgn⟩, by dsimp only; omega⟩ rfl ⟨rfl, (congrArg (fun z => some (Value.int .i64 z)) (by rw [map_take (d := d0) (by omega), posN_append]; simp only [posN]; first | (rw [if_pos hk1]; omega) | (rw [if_neg hk1]; omega))), rfl, rfl, rfl, rfl, trivial⟩ (.drop (.keep (fun _ _ h => rowA_congr (by rw [map_take (d := d0) (by omega), places_snoc]; first | (rw [if_pos hk1, Int.zero_add]; done) | (rw [if_neg hk1]; done)) (by rw [map_take (d := d0) (by omega), places_snoc]; first | (rw [if_pos hk1, Int.zero_add]; done) | (rw [if_neg hk1]; done)) _ _ h) (.nil)))
              )
        · skip
          have hk1 := Decidable.not_not.1 h_10
          first
            | (exfalso; omega)
            | (
              refine c_cond_f rfl ?_
              refine c_skip ?_
              refine e_next ?_
              refine c_seq ?_
              refine c_seq ?_
              refine c_region ?_
              refine r_val .none rfl (p_field Try.underlying38 rfl sz36 rfl) ?_
              refine r_val .none rfl (p_lda (k := 0) Try.underlying36 rfl sz36 rfl rfl (by first | exact of_decide_eq_true rfl | omega) (rfl : _ = Value.agg #[_, _, _, _, _, _])) ?_
              refine r_val .none rfl (p_move rfl) ?_
              refine r_nil ?_
              refine e_next ?_
              refine c_block ?_
              refine c_name (d := 2) rfl (fun u_11 hu_11 => ?_)
              refine c_name (d := 4) rfl (fun u_12 hu_12 => ?_)
              refine c_name (d := 6) rfl (fun u_13 hu_13 => ?_)
              refine c_name (d := 9) rfl (fun u_14 hu_14 => ?_)
              refine c_name (d := 10) rfl (fun u_15 hu_15 => ?_)
              refine c_name (d := 11) rfl (fun u_16 hu_16 => ?_)
              refine c_name (d := 12) rfl (fun u_17 hu_17 => ?_)
              refine c_name (d := 13) rfl (fun u_18 hu_18 => ?_)
              refine c_name (d := 14) rfl (fun u_19 hu_19 => ?_)
              refine c_name (d := 15) rfl (fun u_20 hu_20 => ?_)
              refine c_name (d := 16) rfl (fun u_21 hu_21 => ?_)
              refine c_name (d := 17) rfl (fun u_22 hu_22 => ?_)
              refine c_name (d := 18) rfl (fun u_23 hu_23 => ?_)
              refine c_name (d := 19) rfl (fun u_24 hu_24 => ?_)
              refine c_nameL (k := 0) rfl (fun A_25 hA_25 => ?_)
              refine c_loop (σ := Nat × Value × Ghost) (fun s => [(20, Value.int .i64 (s.1 : Nat)), (3, s.2.1), (2, u_11), (4, u_12), (6, u_13), (9, u_14), (10, u_15), (11, u_16), (12, u_17), (13, u_18), (14, u_19), (15, u_20), (16, u_21), (17, u_22), (18, u_23), (19, u_24)]) (fun s => [A_25, rowA (s.2.1) 84 3 ((plTo (rs.getD k d0).1.h (posN ((rs.map Prod.fst).take k)) (places ((rs.map Prod.fst).take k) 0 []) s.1)).length (((plTo (rs.getD k d0).1.h (posN ((rs.map Prod.fst).take k)) (places ((rs.map Prod.fst).take k) 0 []) s.1)).flatMap tC)]) (fun s => s.2.2) (fun s => s.1 ≤ 3 ∧ GNew w nX H s.2.2) (fun s => 3 - s.1) ((0, _, _)) ⟨Nat.zero_le _, GNew.refl _ _ _⟩ rfl ⟨rfl, rfl, rfl, rfl, rfl, rfl, rfl, rfl, rfl, rfl, rfl, rfl, rfl, rfl, rfl, rfl, trivial⟩ (.keep (fun _ _ h => h) (.keep (fun _ _ h => h) (.nil))) (fun s hphi => ?_)
              subst hu_11
              subst hu_12
              subst hu_13
              subst hu_14
              subst hu_15
              subst hu_16
              subst hu_17
              subst hu_18
              subst hu_19
              subst hu_20
              subst hu_21
              subst hu_22
              subst hu_23
              subst hu_24
              subst hA_25
              obtain ⟨f, v, H2⟩ := s
              obtain ⟨hf, hgn2⟩ := hphi
              dsimp only at hf hgn2 ⊢
              have hpt := plTo_len (rs.getD k d0).1.h (posN ((rs.map Prod.fst).take k)) (places ((rs.map Prod.fst).take k) 0 []) f
              refine c_row1 (k := 1) rfl (fun ov => ?_)
              refine c_rowlen (k := 1) rfl (fun l63 => ?_)
              replace hr := hr.mono hgn2.le
              replace hp := fun p hm0 => (hp p hm0).mono hgn2.le
              replace R_6 := R_6.mono hgn2.le
              replace hc_9 := hc_9.mono hgn2.le
              obtain rfl | rfl | rfl | rfl : f = 0 ∨ f = 1 ∨ f = 2 ∨ f = 3 := by omega
              · skip
                refine c_seq ?_
                refine c_region ?_
                refine r_val .none rfl (p_lt rfl rfl) ?_
                refine r_say (d := 21) (v := Value.bool true) rfl ?_
                refine r_nil ?_
                refine e_next ?_
                refine c_seq ?_
                refine c_cond_t rfl ?_
                refine c_skip ?_
                refine e_next ?_
                refine c_seq ?_
                refine c_block ?_
                refine c_seq ?_
                refine c_region ?_
                refine r_val .none rfl (p_move rfl) ?_
                refine r_val .none rfl (p_indexa (k := 0) Try.underlying36 Try.underlying35 rfl sz35 rfl (IsRow.lit _) rfl rfl (by first | exact of_decide_eq_true rfl | omega) (rfl : _ = Value.agg #[_, _])) ?_
                refine r_alloc .none rfl zr35 (IsRow.lit _) (fun b_2 => ?_)
                refine r_val .none rfl (p_assign rfl) ?_
                refine r_stw (k := 0) .none sz35 rfl rfl (IsRow.lit _) (one_lit rfl rfl) rfl ?_
                refine r_nil ?_
                refine e_next ?_
                refine c_seq ?_
                refine c_region ?_
                refine r_freezeX (k := 0) rfl (fun G_26 hn_27 hR_28 => ?_)
                replace hr := hr.mono hn_27.le
                replace hp := fun p hm0 => (hp p hm0).mono hn_27.le
                replace R_6 := R_6.mono hn_27.le
                replace hc_9 := hc_9.mono hn_27.le
                have hR_29 : RowAt G_26 b_2 0 2 (at_ [Value.bool (vF (rs.getD k d0).1.h 0), Value.int .i64 (nF (rs.getD k d0).1.h 0)]) := RowAt.congr hR_28 (fun i hi => by match i, hi with | 0, _ => rfl | 1, _ => rfl)
                refine r_val .none rfl (p_field Try.underlying35 rfl sz4 rfl) ?_
                refine r_val .none rfl (p_ldg (j := 0) Try.underlying4 rfl rfl hR_29 (by first | exact of_decide_eq_true rfl | omega) (rfl : _ = Value.bool _)) ?_
                refine r_val .none rfl (p_move rfl) ?_
                refine' r_and (c := 26) (d := 31) [_, _, _, _, _] rfl (fun h_30 Q_31 hQ_32 => ?_) (fun h_30 Q_31 hQ_32 => ?_) ?_
                rotate_left 1
                · skip
                  refine r_val (.some rfl rfl) rfl (p_move rfl) ?_
                  refine r_val (.some rfl rfl) rfl (p_mkfunc (vs := [_]) rfl) ?_
                  refine r_callr (k := 1) (vs := [_, _]) (.some rfl rfl) rfl cl60 rfl rfl (fun w G_34 hw hle_35 hs_36 => c_ctnP _ _ _ _ _ (SlL.of t0 (fun _ => rfl) rfl hs_36) cl61 (fun x w hw => c_bnd1 x _ _ _ (hR_29.mono hle_35) w hw) w hw) ?_
                  refine r_val (.some rfl rfl) rfl (p_not rfl) ?_
                  refine r_val .none rfl (p_pick_t rfl rfl) ?_
                  refine r_nil (e_fin (d := 31) hQ_32 rfl (by repeat (first | exact .refl | refine .put rfl ?_ | refine .say rfl ?_ | refine .say2 rfl (by first | assumption | simp_all) ?_)))
                · skip
                  repeat (first | refine r_skip rfl (.no rfl rfl) ?_ | refine r_skip rfl (.un rfl rfl) ?_)
                  refine r_val (by first | exact .none | exact .some rfl rfl) rfl (p_pick_f rfl rfl) ?_
                  refine r_nil (e_fin (d := 31) hQ_32 rfl (by repeat (first | exact .refl | refine .put rfl ?_ | refine .say rfl ?_ | refine .say2 rfl (by first | assumption | simp_all) ?_)))
                refine r_nil ?_
                refine e_next ?_
                refine c_split (d := 31) rfl (fun h_37 => ?_) (fun h_37 => ?_)
                · skip
                  try simp only [norms] at h_37
                  have hb := h_37
                  first
                    | (exfalso; omega)
                    | (
                      refine c_cond_t rfl ?_
                      refine c_region ?_
                      refine r_val .none rfl (p_move rfl) ?_
                      refine r_val .none rfl (p_field Try.underlying35 rfl sz3 rfl) ?_
                      refine r_val .none rfl (p_ldg (j := 1) Try.underlying3 rfl rfl hR_29 (by first | exact of_decide_eq_true rfl | omega) (rfl : _ = Value.int _ _)) ?_
                      refine r_val .none rfl (p_move rfl) ?_
                      refine r_val .none rfl (p_move rfl) ?_
                      refine r_val .none rfl (p_build (vs := [(0, Value.int _ _), (1, Value.int _ _), (2, Value.int _ _)]) rfl (bl84_0i1_1i1_2i1 _ _ _)) ?_
                      refine r_bslice (vs := [(0, Value.agg #[_, _, _])]) (c := #[_, _, _]) .none rfl Try.underlying81 el84 rfl rfl rfl (bs84_10a3 _ _ _) (IsRow.lit _) (fun b_3 => ?_)
                      refine r_append (k := 2) (k2 := 0) .none rfl Try.underlying81 el84 rfl (by decide) rfl rfl rfl rfl rfl (one_lit rfl rfl) (by simp only [maxLen]; simp at hpl; omega) (by simp at hpl; omega) (fun v_38 => ?_)
                      refine r_row1 (k := 2) rfl (fun o_39 => ?_)
                      refine r_val .none rfl (p_assign rfl) ?_
                      refine r_nil ?_
                      refine e_norm_block ?_
                      refine e_next ?_
                      refine c_region ?_
                      refine r_val .none rfl (p_add rfl rfl (by omega)) ?_
                      refine r_val .none rfl (p_move rfl) ?_
                      refine r_nil ?_
                      refine e_round ((1, _, _)) ⟨⟨Nat.le_of_ble_eq_true rfl, (hgn2.trans hn_27)⟩, Nat.le_of_ble_eq_true rfl⟩ rfl ⟨rfl, rfl, rfl, rfl, rfl, rfl, rfl, rfl, rfl, rfl, rfl, rfl, rfl, rfl, rfl, rfl, trivial⟩ (.drop (.keep (fun _ _ h => h) (.keep (fun _ _ h => rowA_snoc (l := plTo (rs.getD k d0).1.h (posN ((rs.map Prod.fst).take k)) (places ((rs.map Prod.fst).take k) 0 []) 0) (x := (nF (rs.getD k d0).1.h 0, ((posN ((rs.map Prod.fst).take k) : Nat) : Int), (0 : Int))) (by show pl1 _ _ _ 0 = _; unfold pl1; exact if_pos (by first | exact hb | simpa using hb)) rfl rfl rfl _ _ h) (.nil))))
                      )
                · skip
                  try simp only [norms] at h_37
                  have hb := h_37
                  first
                    | (exfalso; omega)
                    | (
                      refine c_cond_f rfl ?_
                      refine c_skip ?_
                      refine e_norm_block ?_
                      refine e_next ?_
                      refine c_region ?_
                      refine r_val .none rfl (p_add rfl rfl (by omega)) ?_
                      refine r_val .none rfl (p_move rfl) ?_
                      refine r_nil ?_
                      refine e_round ((1, _, _)) ⟨⟨Nat.le_of_ble_eq_true rfl, (hgn2.trans hn_27)⟩, Nat.le_of_ble_eq_true rfl⟩ rfl ⟨rfl, rfl, rfl, rfl, rfl, rfl, rfl, rfl, rfl, rfl, rfl, rfl, rfl, rfl, rfl, rfl, trivial⟩ (.keep (fun _ _ h => h) (.keep (fun _ _ h => rowA_same (by show pl1 _ _ _ 0 = _; unfold pl1; exact if_neg (fun hx => hb.elim (fun h1 => by first | exact h1 hx.1 | (have h3 := h1.symm.trans hx.1; cases h3)) (fun h1 => hx.2 (by first | exact h1 | exact of_decide_eq_true h1 | simpa using h1)))) _ _ h) (.nil)))
                      )
              · skip
                refine c_seq ?_
                refine c_region ?_
                refine r_val .none rfl (p_lt rfl rfl) ?_
                refine r_say (d := 21) (v := Value.bool true) rfl ?_
                refine r_nil ?_
                refine e_next ?_
                refine c_seq ?_
                refine c_cond_t rfl ?_
                refine c_skip ?_
                refine e_next ?_
                refine c_seq ?_
                refine c_block ?_
                refine c_seq ?_
                refine c_region ?_
                refine r_val .none rfl (p_move rfl) ?_
                refine r_val .none rfl (p_indexa (k := 1) Try.underlying36 Try.underlying35 rfl sz35 rfl (IsRow.lit _) rfl rfl (by first | exact of_decide_eq_true rfl | omega) (rfl : _ = Value.agg #[_, _])) ?_
                refine r_alloc .none rfl zr35 (IsRow.lit _) (fun b_4 => ?_)
                refine r_val .none rfl (p_assign rfl) ?_
                refine r_stw (k := 0) .none sz35 rfl rfl (IsRow.lit _) (one_lit rfl rfl) rfl ?_
                refine r_nil ?_
                refine e_next ?_
                refine c_seq ?_
                refine c_region ?_
                refine r_freezeX (k := 0) rfl (fun G_40 hn_41 hR_42 => ?_)
                replace hr := hr.mono hn_41.le
                replace hp := fun p hm0 => (hp p hm0).mono hn_41.le
                replace R_6 := R_6.mono hn_41.le
                replace hc_9 := hc_9.mono hn_41.le
                have hR_43 : RowAt G_40 b_4 0 2 (at_ [Value.bool (vF (rs.getD k d0).1.h 1), Value.int .i64 (nF (rs.getD k d0).1.h 1)]) := RowAt.congr hR_42 (fun i hi => by match i, hi with | 0, _ => rfl | 1, _ => rfl)
                refine r_val .none rfl (p_field Try.underlying35 rfl sz4 rfl) ?_
                refine r_val .none rfl (p_ldg (j := 0) Try.underlying4 rfl rfl hR_43 (by first | exact of_decide_eq_true rfl | omega) (rfl : _ = Value.bool _)) ?_
                refine r_val .none rfl (p_move rfl) ?_
                refine' r_and (c := 26) (d := 31) [_, _, _, _, _] rfl (fun h_44 Q_45 hQ_46 => ?_) (fun h_44 Q_45 hQ_46 => ?_) ?_
                rotate_left 1
                · skip
                  refine r_val (.some rfl rfl) rfl (p_move rfl) ?_
                  refine r_val (.some rfl rfl) rfl (p_mkfunc (vs := [_]) rfl) ?_
                  refine r_callr (k := 1) (vs := [_, _]) (.some rfl rfl) rfl cl60 rfl rfl (fun w G_48 hw hle_49 hs_50 => c_ctnP _ _ _ _ _ (SlL.of t0 (fun _ => rfl) rfl hs_50) cl61 (fun x w hw => c_bnd1 x _ _ _ (hR_43.mono hle_49) w hw) w hw) ?_
                  refine r_val (.some rfl rfl) rfl (p_not rfl) ?_
                  refine r_val .none rfl (p_pick_t rfl rfl) ?_
                  refine r_nil (e_fin (d := 31) hQ_46 rfl (by repeat (first | exact .refl | refine .put rfl ?_ | refine .say rfl ?_ | refine .say2 rfl (by first | assumption | simp_all) ?_)))
                · skip
                  repeat (first | refine r_skip rfl (.no rfl rfl) ?_ | refine r_skip rfl (.un rfl rfl) ?_)
                  refine r_val (by first | exact .none | exact .some rfl rfl) rfl (p_pick_f rfl rfl) ?_
                  refine r_nil (e_fin (d := 31) hQ_46 rfl (by repeat (first | exact .refl | refine .put rfl ?_ | refine .say rfl ?_ | refine .say2 rfl (by first | assumption | simp_all) ?_)))
                refine r_nil ?_
                refine e_next ?_
                refine c_split (d := 31) rfl (fun h_51 => ?_) (fun h_51 => ?_)
                · skip
                  try simp only [norms] at h_51
                  have hb := h_51
                  first
                    | (exfalso; omega)
                    | (
                      refine c_cond_t rfl ?_
                      refine c_region ?_
                      refine r_val .none rfl (p_move rfl) ?_
                      refine r_val .none rfl (p_field Try.underlying35 rfl sz3 rfl) ?_
                      refine r_val .none rfl (p_ldg (j := 1) Try.underlying3 rfl rfl hR_43 (by first | exact of_decide_eq_true rfl | omega) (rfl : _ = Value.int _ _)) ?_
                      refine r_val .none rfl (p_move rfl) ?_
                      refine r_val .none rfl (p_move rfl) ?_
                      refine r_val .none rfl (p_build (vs := [(0, Value.int _ _), (1, Value.int _ _), (2, Value.int _ _)]) rfl (bl84_0i1_1i1_2i1 _ _ _)) ?_
                      refine r_bslice (vs := [(0, Value.agg #[_, _, _])]) (c := #[_, _, _]) .none rfl Try.underlying81 el84 rfl rfl rfl (bs84_10a3 _ _ _) (IsRow.lit _) (fun b_5 => ?_)
                      refine r_append (k := 2) (k2 := 0) .none rfl Try.underlying81 el84 rfl (by decide) rfl rfl rfl rfl rfl (one_lit rfl rfl) (by simp only [maxLen]; simp at hpl; omega) (by simp at hpl; omega) (fun v_52 => ?_)
                      refine r_row1 (k := 2) rfl (fun o_53 => ?_)
                      refine r_val .none rfl (p_assign rfl) ?_
                      refine r_nil ?_
                      refine e_norm_block ?_
                      refine e_next ?_
                      refine c_region ?_
                      refine r_val .none rfl (p_add rfl rfl (by omega)) ?_
                      refine r_val .none rfl (p_move rfl) ?_
                      refine r_nil ?_
                      refine e_round ((2, _, _)) ⟨⟨Nat.le_of_ble_eq_true rfl, (hgn2.trans hn_41)⟩, Nat.le_of_ble_eq_true rfl⟩ rfl ⟨rfl, rfl, rfl, rfl, rfl, rfl, rfl, rfl, rfl, rfl, rfl, rfl, rfl, rfl, rfl, rfl, trivial⟩ (.drop (.keep (fun _ _ h => h) (.keep (fun _ _ h => rowA_snoc (l := plTo (rs.getD k d0).1.h (posN ((rs.map Prod.fst).take k)) (places ((rs.map Prod.fst).take k) 0 []) 1) (x := (nF (rs.getD k d0).1.h 1, ((posN ((rs.map Prod.fst).take k) : Nat) : Int), (1 : Int))) (by show pl1 _ _ _ 1 = _; unfold pl1; exact if_pos (by first | exact hb | simpa using hb)) rfl rfl rfl _ _ h) (.nil))))
                      )
                · skip
                  try simp only [norms] at h_51
                  have hb := h_51
                  first
                    | (exfalso; omega)
                    | (
                      refine c_cond_f rfl ?_
                      refine c_skip ?_
                      refine e_norm_block ?_
                      refine e_next ?_
                      refine c_region ?_
                      refine r_val .none rfl (p_add rfl rfl (by omega)) ?_
                      refine r_val .none rfl (p_move rfl) ?_
                      refine r_nil ?_
                      refine e_round ((2, _, _)) ⟨⟨Nat.le_of_ble_eq_true rfl, (hgn2.trans hn_41)⟩, Nat.le_of_ble_eq_true rfl⟩ rfl ⟨rfl, rfl, rfl, rfl, rfl, rfl, rfl, rfl, rfl, rfl, rfl, rfl, rfl, rfl, rfl, rfl, trivial⟩ (.keep (fun _ _ h => h) (.keep (fun _ _ h => rowA_same (by show pl1 _ _ _ 1 = _; unfold pl1; exact if_neg (fun hx => hb.elim (fun h1 => by first | exact h1 hx.1 | (have h3 := h1.symm.trans hx.1; cases h3)) (fun h1 => hx.2 (by first | exact h1 | exact of_decide_eq_true h1 | simpa using h1)))) _ _ h) (.nil)))
                      )
              · skip
                refine c_seq ?_
                refine c_region ?_
                refine r_val .none rfl (p_lt rfl rfl) ?_
                refine r_say (d := 21) (v := Value.bool true) rfl ?_
                refine r_nil ?_
                refine e_next ?_
                refine c_seq ?_
                refine c_cond_t rfl ?_
                refine c_skip ?_
                refine e_next ?_
                refine c_seq ?_
                refine c_block ?_
                refine c_seq ?_
                refine c_region ?_
                refine r_val .none rfl (p_move rfl) ?_
                refine r_val .none rfl (p_indexa (k := 2) Try.underlying36 Try.underlying35 rfl sz35 rfl (IsRow.lit _) rfl rfl (by first | exact of_decide_eq_true rfl | omega) (rfl : _ = Value.agg #[_, _])) ?_
                refine r_alloc .none rfl zr35 (IsRow.lit _) (fun b_6 => ?_)
                refine r_val .none rfl (p_assign rfl) ?_
                refine r_stw (k := 0) .none sz35 rfl rfl (IsRow.lit _) (one_lit rfl rfl) rfl ?_
                refine r_nil ?_
                refine e_next ?_
                refine c_seq ?_
                refine c_region ?_
                refine r_freezeX (k := 0) rfl (fun G_54 hn_55 hR_56 => ?_)
                replace hr := hr.mono hn_55.le
                replace hp := fun p hm0 => (hp p hm0).mono hn_55.le
                replace R_6 := R_6.mono hn_55.le
                replace hc_9 := hc_9.mono hn_55.le
                have hR_57 : RowAt G_54 b_6 0 2 (at_ [Value.bool (vF (rs.getD k d0).1.h 2), Value.int .i64 (nF (rs.getD k d0).1.h 2)]) := RowAt.congr hR_56 (fun i hi => by match i, hi with | 0, _ => rfl | 1, _ => rfl)
                refine r_val .none rfl (p_field Try.underlying35 rfl sz4 rfl) ?_
                refine r_val .none rfl (p_ldg (j := 0) Try.underlying4 rfl rfl hR_57 (by first | exact of_decide_eq_true rfl | omega) (rfl : _ = Value.bool _)) ?_
                refine r_val .none rfl (p_move rfl) ?_
                refine' r_and (c := 26) (d := 31) [_, _, _, _, _] rfl (fun h_58 Q_59 hQ_60 => ?_) (fun h_58 Q_59 hQ_60 => ?_) ?_
                rotate_left 1
                · skip
                  refine r_val (.some rfl rfl) rfl (p_move rfl) ?_
                  refine r_val (.some rfl rfl) rfl (p_mkfunc (vs := [_]) rfl) ?_
                  refine r_callr (k := 1) (vs := [_, _]) (.some rfl rfl) rfl cl60 rfl rfl (fun w G_62 hw hle_63 hs_64 => c_ctnP _ _ _ _ _ (SlL.of t0 (fun _ => rfl) rfl hs_64) cl61 (fun x w hw => c_bnd1 x _ _ _ (hR_57.mono hle_63) w hw) w hw) ?_
                  refine r_val (.some rfl rfl) rfl (p_not rfl) ?_
                  refine r_val .none rfl (p_pick_t rfl rfl) ?_
                  refine r_nil (e_fin (d := 31) hQ_60 rfl (by repeat (first | exact .refl | refine .put rfl ?_ | refine .say rfl ?_ | refine .say2 rfl (by first | assumption | simp_all) ?_)))
                · skip
                  repeat (first | refine r_skip rfl (.no rfl rfl) ?_ | refine r_skip rfl (.un rfl rfl) ?_)
                  refine r_val (by first | exact .none | exact .some rfl rfl) rfl (p_pick_f rfl rfl) ?_
                  refine r_nil (e_fin (d := 31) hQ_60 rfl (by repeat (first | exact .refl | refine .put rfl ?_ | refine .say rfl ?_ | refine .say2 rfl (by first | assumption | simp_all) ?_)))
                refine r_nil ?_
                refine e_next ?_
                refine c_split (d := 31) rfl (fun h_65 => ?_) (fun h_65 => ?_)
                · skip
                  try simp only [norms] at h_65
                  have hb := h_65
                  first
                    | (exfalso; omega)
                    | (
                      refine c_cond_t rfl ?_
                      refine c_region ?_
                      refine r_val .none rfl (p_move rfl) ?_
                      refine r_val .none rfl (p_field Try.underlying35 rfl sz3 rfl) ?_
                      refine r_val .none rfl (p_ldg (j := 1) Try.underlying3 rfl rfl hR_57 (by first | exact of_decide_eq_true rfl | omega) (rfl : _ = Value.int _ _)) ?_
                      refine r_val .none rfl (p_move rfl) ?_
                      refine r_val .none rfl (p_move rfl) ?_
                      refine r_val .none rfl (p_build (vs := [(0, Value.int _ _), (1, Value.int _ _), (2, Value.int _ _)]) rfl (bl84_0i1_1i1_2i1 _ _ _)) ?_
                      refine r_bslice (vs := [(0, Value.agg #[_, _, _])]) (c := #[_, _, _]) .none rfl Try.underlying81 el84 rfl rfl rfl (bs84_10a3 _ _ _) (IsRow.lit _) (fun b_7 => ?_)
                      refine r_append (k := 2) (k2 := 0) .none rfl Try.underlying81 el84 rfl (by decide) rfl rfl rfl rfl rfl (one_lit rfl rfl) (by simp only [maxLen]; simp at hpl; omega) (by simp at hpl; omega) (fun v_66 => ?_)
                      refine r_row1 (k := 2) rfl (fun o_67 => ?_)
                      refine r_val .none rfl (p_assign rfl) ?_
                      refine r_nil ?_
                      refine e_norm_block ?_
                      refine e_next ?_
                      refine c_region ?_
                      refine r_val .none rfl (p_add rfl rfl (by omega)) ?_
                      refine r_val .none rfl (p_move rfl) ?_
                      refine r_nil ?_
                      refine e_round ((3, _, _)) ⟨⟨Nat.le_of_ble_eq_true rfl, (hgn2.trans hn_55)⟩, Nat.le_of_ble_eq_true rfl⟩ rfl ⟨rfl, rfl, rfl, rfl, rfl, rfl, rfl, rfl, rfl, rfl, rfl, rfl, rfl, rfl, rfl, rfl, trivial⟩ (.drop (.keep (fun _ _ h => h) (.keep (fun _ _ h => rowA_snoc (l := plTo (rs.getD k d0).1.h (posN ((rs.map Prod.fst).take k)) (places ((rs.map Prod.fst).take k) 0 []) 2) (x := (nF (rs.getD k d0).1.h 2, ((posN ((rs.map Prod.fst).take k) : Nat) : Int), (2 : Int))) (by show pl1 _ _ _ 2 = _; unfold pl1; exact if_pos (by first | exact hb | simpa using hb)) rfl rfl rfl _ _ h) (.nil))))
                      )
                · skip
                  try simp only [norms] at h_65
                  have hb := h_65
                  first
                    | (exfalso; omega)
                    | (
                      refine c_cond_f rfl ?_
                      refine c_skip ?_
                      refine e_norm_block ?_
                      refine e_next ?_
                      refine c_region ?_
                      refine r_val .none rfl (p_add rfl rfl (by omega)) ?_
                      refine r_val .none rfl (p_move rfl) ?_
                      refine r_nil ?_
                      refine e_round ((3, _, _)) ⟨⟨Nat.le_of_ble_eq_true rfl, (hgn2.trans hn_55)⟩, Nat.le_of_ble_eq_true rfl⟩ rfl ⟨rfl, rfl, rfl, rfl, rfl, rfl, rfl, rfl, rfl, rfl, rfl, rfl, rfl, rfl, rfl, rfl, trivial⟩ (.keep (fun _ _ h => h) (.keep (fun _ _ h => rowA_same (by show pl1 _ _ _ 2 = _; unfold pl1; exact if_neg (fun hx => hb.elim (fun h1 => by first | exact h1 hx.1 | (have h3 := h1.symm.trans hx.1; cases h3)) (fun h1 => hx.2 (by first | exact h1 | exact of_decide_eq_true h1 | simpa using h1)))) _ _ h) (.nil)))
                      )
              · skip
                refine c_seq ?_
                refine c_region ?_
                refine r_val .none rfl (p_lt rfl rfl) ?_
                refine r_say (d := 21) (v := Value.bool false) rfl ?_
                refine r_nil ?_
                refine e_next ?_
                refine c_seq ?_
                refine c_cond_f rfl ?_
                refine c_exit ?_
                refine e_exit_then ?_
                refine e_exit_then ?_
                refine e_exit_block ?_
                refine e_next ?_
                refine c_region ?_
                refine r_val .none rfl (p_move rfl) ?_
                refine r_val .none rfl (p_add rfl rfl (by omega)) ?_
                refine r_val .none rfl (p_assign rfl) ?_
                refine r_nil ?_
                refine e_norm_block ?_
                refine e_next ?_
                refine c_region ?_
                refine r_val .none rfl (p_add rfl rfl (by omega)) ?_
                refine r_val .none rfl (p_move rfl) ?_
                refine r_nil ?_
                refine e_round ((k + 1, _, _)) ⟨⟨by dsimp only; omega, (hgn.trans hgn2)⟩, by dsimp only; omega⟩ rfl ⟨rfl, (congrArg (fun z => some (Value.int .i64 z)) (by rw [map_take (d := d0) (by omega), posN_append]; simp only [posN]; first | (rw [if_pos hk1]; omega) | (rw [if_neg hk1]; omega))), rfl, rfl, rfl, rfl, trivial⟩ (.drop (.keep (fun _ _ h => rowA_congr (by rw [map_take (d := d0) (by omega), places_snoc]; first | (rw [if_pos hk1, Int.zero_add]; done) | (rw [if_neg hk1]; done)) (by rw [map_take (d := d0) (by omega), places_snoc]; first | (rw [if_pos hk1, Int.zero_add]; done) | (rw [if_neg hk1]; done)) _ _ h) (.nil)))
              )
        )
  · skip
    first
      | (exfalso; omega)
      | (
        refine c_cond_f rfl ?_
        refine c_exit ?_
        refine e_exit_then ?_
        refine e_exit_then ?_
        refine e_exit_block ?_
        refine e_next ?_
        refine c_seq ?_
        refine c_region ?_
        refine r_val .none rfl (p_move rfl) ?_
        refine r_sortf (k := 0) .none rfl cl62 rfl rfl (fun _ => rfl) sortPC sortPN (by have h9 := places_len ((rs.map Prod.fst).take k) 0 []; simp at h9; omega) (fun z_68 z_68p z_68s => ?_)
        refine r_nil ?_
        refine e_next ?_
        refine c_seq ?_
        refine c_region ?_
        refine r_val .none rfl (p_move rfl) ?_
        refine r_val .none rfl (p_assign rfl) ?_
        refine r_nil ?_
        refine e_next ?_
        refine c_ret ?_
        refine e_freeze (k := 0) rfl (fun G_69 hn_70 hs_71 => ?_)
        replace hr := hr.mono hn_70.le
        replace hp := fun p hm0 => (hp p hm0).mono hn_70.le
        refine e_ret1 Try.results41 (.tmp rfl .nil) (fun w hm => ⟨_, (hgn.trans hn_70), hm.has, ?_, hm.since⟩)
        exact ⟨z_68, by rw [show rs.map Prod.fst = (rs.map Prod.fst).take k by rw [List.take_of_length_le (by simp; omega)]]; exact z_68p, z_68s, SlL.of t0 (fun _ => rfl) rfl hs_71⟩
        )
end Go.Proofs.Ytoflaphnlfggkaa
