/- Walks: what Go functions of this chapter come to, each as a function on plain data; no condition but those that each theorem names. Printed by a program of this work (gen.py). -/
import Derived.Test.YtoflaphnlfggkaaPl08n
import Derived.Test.YtoflaphnlfggkaaW08t
import Derived.Test.YtoflaphnlfggkaaRows
namespace Go.Proofs.Ytoflaphnlfggkaa
open Go.Gx Go.Gx.T4 Go.Gx.T3 Go.Gx.T6 Go.Gx.T8 Go.Gx.T4 Go.Gx.T3 Go.Gx.T8 Go.Gx.T4 Go.Gx.T3 Go.Gx.T8 Go.Gx.T6 Go.Gx.T4 Go.Gx.T3
theorem cl21 : Callable Try.prog 21 := callable Try.func21 (by kernel_rfl) rfl
def TurnIs (n : Nat) : Prop := ∀ (c : CT) (sv : Value) (y : Int) (G : Ghost) (w : World), SizeOf.sizeOf c ≤ n → (size c ≤ 1000 ∧ okC c) ∧ 0 ≤ y ∧ y ≤ 31 → Cs G sv c.subs → Has G w → Calls Try.prog 21 #[Value.agg #[Value.int .i64 c.h.k, Value.bool c.h.v0, Value.int .i64 c.h.n0, Value.bool c.h.v1, Value.int .i64 c.h.n1, Value.bool c.h.v2, Value.int .i64 c.h.n2, sv], Value.int .i64 y] w (Ret fun r w' => ∃ G', GNew w nX G G' ∧ Has G' w' ∧ (∃ u, r = Value.agg #[Value.int .i64 (tn y c).h.k, Value.bool (tn y c).h.v0, Value.int .i64 (tn y c).h.n0, Value.bool (tn y c).h.v1, Value.int .i64 (tn y c).h.n1, Value.bool (tn y c).h.v2, Value.int .i64 (tn y c).h.n2, u] ∧ Cs G' u (tn y c).subs) ∧ Since nX w w')
theorem c_turn_s (n : Nat) (ih : TurnIs n) (c : CT) (sv : Value) (y : Int) {G : Ghost} (hz : SizeOf.sizeOf c ≤ n + 1) (hb : (size c ≤ 1000 ∧ okC c) ∧ 0 ≤ y ∧ y ≤ 31) (hs : Cs G sv c.subs) (w : World) (hG : Has G w) :
    Calls Try.prog 21 #[Value.agg #[Value.int .i64 c.h.k, Value.bool c.h.v0, Value.int .i64 c.h.n0, Value.bool c.h.v1, Value.int .i64 c.h.n1, Value.bool c.h.v2, Value.int .i64 c.h.n2, sv], Value.int .i64 y] w (Ret fun r w' => ∃ G', GNew w nX G G' ∧ Has G' w' ∧ (∃ u, r = Value.agg #[Value.int .i64 (tn y c).h.k, Value.bool (tn y c).h.v0, Value.int .i64 (tn y c).h.n0, Value.bool (tn y c).h.v1, Value.int .i64 (tn y c).h.n1, Value.bool (tn y c).h.v2, Value.int .i64 (tn y c).h.n2, u] ∧ Cs G' u (tn y c).subs) ∧ Since nX w w') := by
  refine enter (args := [_, _]) (X := nX) (G := G) (l := [(0, Value.agg #[Value.int .i64 c.h.k, Value.bool c.h.v0, Value.int .i64 c.h.n0, Value.bool c.h.v1, Value.int .i64 c.h.n1, Value.bool c.h.v2, Value.int .i64 c.h.n2, sv]), (1, Value.int .i64 y)]) Try.func21 rfl Try.ntmps21 hG ⟨rfl, rfl, trivial⟩ (Nat.le_of_ble_eq_true rfl) ?_
  have hone := hs.one
  obtain ⟨rs, hr, hp, hl⟩ := hs.inv
  have hlen : c.subs.length = rs.length := by rw [hl]; simp
  have hbd := hr.bound
  have hl1 := size_len hl hb.1.1
  have hoC := hb.1.2
  rw [okC_eq] at hoC
  obtain ⟨hoH, hoL⟩ := hoC
  refine c_seq ?_
  refine c_region ?_
  refine r_box .none rfl rfl (IsRow.lit _) (fun b_1 => ?_)
  refine r_alloc .none rfl zr38 (IsRow.lit _) (fun b_2 => ?_)
  refine r_nil ?_
  refine e_next ?_
  refine c_seq ?_
  refine c_seq ?_
  refine c_region ?_
  refine r_val .none rfl (p_field Try.underlying38 rfl sz36 rfl) ?_
  refine r_val .none rfl (p_lda (k := 1) Try.underlying36 rfl sz36 rfl rfl (by first | exact of_decide_eq_true rfl | omega) (rfl : _ = Value.agg #[_, _, _, _, _, _])) ?_
  refine r_val .none rfl (p_move rfl) ?_
  refine r_nil ?_
  refine e_next ?_
  refine c_block ?_
  refine c_name (d := 1) rfl (fun u_1 hu_1 => ?_)
  refine c_name (d := 2) rfl (fun u_2 hu_2 => ?_)
  refine c_name (d := 4) rfl (fun u_3 hu_3 => ?_)
  refine c_name (d := 11) rfl (fun u_4 hu_4 => ?_)
  refine c_nameL (k := 0) rfl (fun A_5 hA_5 => ?_)
  refine c_loop (σ := Nat) (fun f => [(12, Value.int .i64 (f : Nat)), (1, u_1), (2, u_2), (4, u_3), (11, u_4)]) (fun f => [A_5, box b_1 8 38 (at_ [.int .i64 c.h.k, .bool c.h.v0, .int .i64 (tnF y c.h f 0), .bool c.h.v1, .int .i64 (tnF y c.h f 1), .bool c.h.v2, .int .i64 (tnF y c.h f 2), sv])]) (fun _ => _) (fun f => f ≤ 3) (fun f => 3 - f) (0) (Nat.zero_le _) rfl ⟨rfl, rfl, rfl, rfl, rfl, trivial⟩ (.keep (fun _ _ h => h) (.keep (fun _ _ h => box_congr (fun i hi => by match i, hi with | 0, _ => rfl | 1, _ => rfl | 2, _ => rfl | 3, _ => rfl | 4, _ => rfl | 5, _ => rfl | 6, _ => rfl | 7, _ => rfl) _ _ h) (.nil))) (fun f hphi => ?_)
  subst hu_1
  subst hu_2
  subst hu_3
  subst hu_4
  subst hA_5
  obtain rfl | rfl | rfl | rfl : f = 0 ∨ f = 1 ∨ f = 2 ∨ f = 3 := by omega
  · skip
    refine c_seq ?_
    refine c_region ?_
    refine r_val .none rfl (p_lt rfl rfl) ?_
    refine r_say (d := 13) (v := Value.bool true) rfl ?_
    refine r_nil ?_
    refine e_next ?_
    refine c_seq ?_
    refine c_cond_t rfl ?_
    refine c_skip ?_
    refine e_next ?_
    refine c_seq ?_
    refine c_block ?_
    refine c_seq ?_
    refine c_region ?_
    refine r_val .none rfl (p_move rfl) ?_
    refine r_val .none rfl (p_indexa (k := 0) Try.underlying36 Try.underlying35 rfl sz35 rfl (IsRow.lit _) rfl rfl (by first | exact of_decide_eq_true rfl | omega) (rfl : _ = Value.agg #[_, _])) ?_
    refine r_alloc .none rfl zr35 (IsRow.lit _) (fun b_3 => ?_)
    refine r_val .none rfl (p_assign rfl) ?_
    refine r_stw (k := 0) .none sz35 rfl rfl (IsRow.lit _) (one_lit rfl rfl) rfl ?_
    refine r_nil ?_
    refine e_next ?_
    refine c_seq ?_
    refine c_region ?_
    refine r_val .none rfl (p_field Try.underlying35 rfl sz4 rfl) ?_
    refine r_val .none rfl (p_ld (k := 0) Try.underlying4 rfl rfl rfl (by first | exact of_decide_eq_true rfl | omega) (rfl : _ = Value.bool _)) ?_
    refine r_nil ?_
    refine e_next ?_
    refine c_split (d := 17) rfl (fun h_6 => ?_) (fun h_6 => ?_)
    · skip
      have hv : vF c.h 0 = true := h_6
      have hok : 1 ≤ c.h.n0 ∧ c.h.n0 ≤ 32 := okH_at hoH 0 hv
      first
        | (exfalso; omega)
        | (
          refine c_cond_t rfl ?_
          refine c_region ?_
          refine r_val .none rfl (p_move rfl) ?_
          refine r_val .none rfl (p_field Try.underlying35 rfl sz3 rfl) ?_
          refine r_val .none rfl (p_ld (k := 0) Try.underlying3 rfl rfl rfl (by first | exact of_decide_eq_true rfl | omega) (rfl : _ = Value.int _ _)) ?_
          refine r_val .none rfl (p_sub rfl rfl (by omega)) ?_
          refine r_val .none rfl (p_move rfl) ?_
          refine r_val .none rfl (p_add rfl rfl (by omega)) ?_
          refine r_val .none rfl (p_rem rfl rfl (by omega)) ?_
          refine r_val .none rfl (p_add rfl rfl (by omega)) ?_
          refine r_val .none rfl (p_field Try.underlying38 rfl sz36 rfl) ?_
          refine r_val .none rfl (p_iaddr (k := 0) Try.underlying36 sz35 rfl rfl (by first | exact of_decide_eq_true rfl | omega)) ?_
          refine r_val .none rfl (p_field Try.underlying35 rfl sz3 rfl) ?_
          refine r_st (k := 2) .none sz3 rfl rfl rfl rfl (by first | exact of_decide_eq_true rfl | omega) ?_
          refine r_nil ?_
          refine e_norm_block ?_
          refine e_next ?_
          refine c_region ?_
          refine r_val .none rfl (p_add rfl rfl (by omega)) ?_
          refine r_val .none rfl (p_move rfl) ?_
          refine r_nil ?_
          refine e_round (1) ⟨Nat.le_of_ble_eq_true rfl, Nat.le_of_ble_eq_true rfl⟩ rfl ⟨rfl, rfl, rfl, rfl, rfl, trivial⟩ (.drop (.keep (fun _ _ h => h) (.keep (fun _ _ h => box_congr (fun i hi => by match i, hi with | 0, _ => rfl | 1, _ => rfl | 2, _ => exact (by first | exact congrArg (Value.int .i64) (tnF_set (h := c.h) (f := 0) hv).symm | exact congrArg (Value.int .i64) (tnF_not (h := c.h) (f := 0) hv).symm) | 3, _ => rfl | 4, _ => exact congrArg (Value.int .i64) (tnF_else (h := c.h) (f := 0) (i := 1) (by decide)).symm | 5, _ => rfl | 6, _ => exact congrArg (Value.int .i64) (tnF_else (h := c.h) (f := 0) (i := 2) (by decide)).symm | 7, _ => rfl) _ _ h) (.nil))))
          )
    · skip
      have hv : vF c.h 0 = false := h_6
      first
        | (exfalso; omega)
        | (
          refine c_cond_f rfl ?_
          refine c_skip ?_
          refine e_norm_block ?_
          refine e_next ?_
          refine c_region ?_
          refine r_val .none rfl (p_add rfl rfl (by omega)) ?_
          refine r_val .none rfl (p_move rfl) ?_
          refine r_nil ?_
          refine e_round (1) ⟨Nat.le_of_ble_eq_true rfl, Nat.le_of_ble_eq_true rfl⟩ rfl ⟨rfl, rfl, rfl, rfl, rfl, trivial⟩ (.drop (.keep (fun _ _ h => h) (.keep (fun _ _ h => box_congr (fun i hi => by match i, hi with | 0, _ => rfl | 1, _ => rfl | 2, _ => exact (by first | exact congrArg (Value.int .i64) (tnF_set (h := c.h) (f := 0) hv).symm | exact congrArg (Value.int .i64) (tnF_not (h := c.h) (f := 0) hv).symm) | 3, _ => rfl | 4, _ => exact congrArg (Value.int .i64) (tnF_else (h := c.h) (f := 0) (i := 1) (by decide)).symm | 5, _ => rfl | 6, _ => exact congrArg (Value.int .i64) (tnF_else (h := c.h) (f := 0) (i := 2) (by decide)).symm | 7, _ => rfl) _ _ h) (.nil))))
          )
  · skip
    refine c_seq ?_
    refine c_region ?_
    refine r_val .none rfl (p_lt rfl rfl) ?_
    refine r_say (d := 13) (v := Value.bool true) rfl ?_
    refine r_nil ?_
    refine e_next ?_
    refine c_seq ?_
    refine c_cond_t rfl ?_
    refine c_skip ?_
    refine e_next ?_
    refine c_seq ?_
    refine c_block ?_
    refine c_seq ?_
    refine c_region ?_
    refine r_val .none rfl (p_move rfl) ?_
    refine r_val .none rfl (p_indexa (k := 1) Try.underlying36 Try.underlying35 rfl sz35 rfl (IsRow.lit _) rfl rfl (by first | exact of_decide_eq_true rfl | omega) (rfl : _ = Value.agg #[_, _])) ?_
    refine r_alloc .none rfl zr35 (IsRow.lit _) (fun b_4 => ?_)
    refine r_val .none rfl (p_assign rfl) ?_
    refine r_stw (k := 0) .none sz35 rfl rfl (IsRow.lit _) (one_lit rfl rfl) rfl ?_
    refine r_nil ?_
    refine e_next ?_
    refine c_seq ?_
    refine c_region ?_
    refine r_val .none rfl (p_field Try.underlying35 rfl sz4 rfl) ?_
    refine r_val .none rfl (p_ld (k := 0) Try.underlying4 rfl rfl rfl (by first | exact of_decide_eq_true rfl | omega) (rfl : _ = Value.bool _)) ?_
    refine r_nil ?_
    refine e_next ?_
    refine c_split (d := 17) rfl (fun h_7 => ?_) (fun h_7 => ?_)
    · skip
      have hv : vF c.h 1 = true := h_7
      have hok : 1 ≤ c.h.n1 ∧ c.h.n1 ≤ 32 := okH_at hoH 1 hv
      first
        | (exfalso; omega)
        | (
          refine c_cond_t rfl ?_
          refine c_region ?_
          refine r_val .none rfl (p_move rfl) ?_
          refine r_val .none rfl (p_field Try.underlying35 rfl sz3 rfl) ?_
          refine r_val .none rfl (p_ld (k := 0) Try.underlying3 rfl rfl rfl (by first | exact of_decide_eq_true rfl | omega) (rfl : _ = Value.int _ _)) ?_
          refine r_val .none rfl (p_sub rfl rfl (by omega)) ?_
          refine r_val .none rfl (p_move rfl) ?_
          refine r_val .none rfl (p_add rfl rfl (by omega)) ?_
          refine r_val .none rfl (p_rem rfl rfl (by omega)) ?_
          refine r_val .none rfl (p_add rfl rfl (by omega)) ?_
          refine r_val .none rfl (p_field Try.underlying38 rfl sz36 rfl) ?_
          refine r_val .none rfl (p_iaddr (k := 1) Try.underlying36 sz35 rfl rfl (by first | exact of_decide_eq_true rfl | omega)) ?_
          refine r_val .none rfl (p_field Try.underlying35 rfl sz3 rfl) ?_
          refine r_st (k := 2) .none sz3 rfl rfl rfl rfl (by first | exact of_decide_eq_true rfl | omega) ?_
          refine r_nil ?_
          refine e_norm_block ?_
          refine e_next ?_
          refine c_region ?_
          refine r_val .none rfl (p_add rfl rfl (by omega)) ?_
          refine r_val .none rfl (p_move rfl) ?_
          refine r_nil ?_
          refine e_round (2) ⟨Nat.le_of_ble_eq_true rfl, Nat.le_of_ble_eq_true rfl⟩ rfl ⟨rfl, rfl, rfl, rfl, rfl, trivial⟩ (.drop (.keep (fun _ _ h => h) (.keep (fun _ _ h => box_congr (fun i hi => by match i, hi with | 0, _ => rfl | 1, _ => rfl | 2, _ => exact congrArg (Value.int .i64) (tnF_else (h := c.h) (f := 1) (i := 0) (by decide)).symm | 3, _ => rfl | 4, _ => exact (by first | exact congrArg (Value.int .i64) (tnF_set (h := c.h) (f := 1) hv).symm | exact congrArg (Value.int .i64) (tnF_not (h := c.h) (f := 1) hv).symm) | 5, _ => rfl | 6, _ => exact congrArg (Value.int .i64) (tnF_else (h := c.h) (f := 1) (i := 2) (by decide)).symm | 7, _ => rfl) _ _ h) (.nil))))
          )
    · skip
      have hv : vF c.h 1 = false := h_7
      first
        | (exfalso; omega)
        | (
          refine c_cond_f rfl ?_
          refine c_skip ?_
          refine e_norm_block ?_
          refine e_next ?_
          refine c_region ?_
          refine r_val .none rfl (p_add rfl rfl (by omega)) ?_
          refine r_val .none rfl (p_move rfl) ?_
          refine r_nil ?_
          refine e_round (2) ⟨Nat.le_of_ble_eq_true rfl, Nat.le_of_ble_eq_true rfl⟩ rfl ⟨rfl, rfl, rfl, rfl, rfl, trivial⟩ (.drop (.keep (fun _ _ h => h) (.keep (fun _ _ h => box_congr (fun i hi => by match i, hi with | 0, _ => rfl | 1, _ => rfl | 2, _ => exact congrArg (Value.int .i64) (tnF_else (h := c.h) (f := 1) (i := 0) (by decide)).symm | 3, _ => rfl | 4, _ => exact (by first | exact congrArg (Value.int .i64) (tnF_set (h := c.h) (f := 1) hv).symm | exact congrArg (Value.int .i64) (tnF_not (h := c.h) (f := 1) hv).symm) | 5, _ => rfl | 6, _ => exact congrArg (Value.int .i64) (tnF_else (h := c.h) (f := 1) (i := 2) (by decide)).symm | 7, _ => rfl) _ _ h) (.nil))))
          )
  · skip
    refine c_seq ?_
    refine c_region ?_
    refine r_val .none rfl (p_lt rfl rfl) ?_
    refine r_say (d := 13) (v := Value.bool true) rfl ?_
    refine r_nil ?_
    refine e_next ?_
    refine c_seq ?_
    refine c_cond_t rfl ?_
    refine c_skip ?_
    refine e_next ?_
    refine c_seq ?_
    refine c_block ?_
    refine c_seq ?_
    refine c_region ?_
    refine r_val .none rfl (p_move rfl) ?_
    refine r_val .none rfl (p_indexa (k := 2) Try.underlying36 Try.underlying35 rfl sz35 rfl (IsRow.lit _) rfl rfl (by first | exact of_decide_eq_true rfl | omega) (rfl : _ = Value.agg #[_, _])) ?_
    refine r_alloc .none rfl zr35 (IsRow.lit _) (fun b_5 => ?_)
    refine r_val .none rfl (p_assign rfl) ?_
    refine r_stw (k := 0) .none sz35 rfl rfl (IsRow.lit _) (one_lit rfl rfl) rfl ?_
    refine r_nil ?_
    refine e_next ?_
    refine c_seq ?_
    refine c_region ?_
    refine r_val .none rfl (p_field Try.underlying35 rfl sz4 rfl) ?_
    refine r_val .none rfl (p_ld (k := 0) Try.underlying4 rfl rfl rfl (by first | exact of_decide_eq_true rfl | omega) (rfl : _ = Value.bool _)) ?_
    refine r_nil ?_
    refine e_next ?_
    refine c_split (d := 17) rfl (fun h_8 => ?_) (fun h_8 => ?_)
    · skip
      have hv : vF c.h 2 = true := h_8
      have hok : 1 ≤ c.h.n2 ∧ c.h.n2 ≤ 32 := okH_at hoH 2 hv
      first
        | (exfalso; omega)
        | (
          refine c_cond_t rfl ?_
          refine c_region ?_
          refine r_val .none rfl (p_move rfl) ?_
          refine r_val .none rfl (p_field Try.underlying35 rfl sz3 rfl) ?_
          refine r_val .none rfl (p_ld (k := 0) Try.underlying3 rfl rfl rfl (by first | exact of_decide_eq_true rfl | omega) (rfl : _ = Value.int _ _)) ?_
          refine r_val .none rfl (p_sub rfl rfl (by omega)) ?_
          refine r_val .none rfl (p_move rfl) ?_
          refine r_val .none rfl (p_add rfl rfl (by omega)) ?_
          refine r_val .none rfl (p_rem rfl rfl (by omega)) ?_
          refine r_val .none rfl (p_add rfl rfl (by omega)) ?_
          refine r_val .none rfl (p_field Try.underlying38 rfl sz36 rfl) ?_
          refine r_val .none rfl (p_iaddr (k := 2) Try.underlying36 sz35 rfl rfl (by first | exact of_decide_eq_true rfl | omega)) ?_
          refine r_val .none rfl (p_field Try.underlying35 rfl sz3 rfl) ?_
          refine r_st (k := 2) .none sz3 rfl rfl rfl rfl (by first | exact of_decide_eq_true rfl | omega) ?_
          refine r_nil ?_
          refine e_norm_block ?_
          refine e_next ?_
          refine c_region ?_
          refine r_val .none rfl (p_add rfl rfl (by omega)) ?_
          refine r_val .none rfl (p_move rfl) ?_
          refine r_nil ?_
          refine e_round (3) ⟨Nat.le_of_ble_eq_true rfl, Nat.le_of_ble_eq_true rfl⟩ rfl ⟨rfl, rfl, rfl, rfl, rfl, trivial⟩ (.drop (.keep (fun _ _ h => h) (.keep (fun _ _ h => box_congr (fun i hi => by match i, hi with | 0, _ => rfl | 1, _ => rfl | 2, _ => exact congrArg (Value.int .i64) (tnF_else (h := c.h) (f := 2) (i := 0) (by decide)).symm | 3, _ => rfl | 4, _ => exact congrArg (Value.int .i64) (tnF_else (h := c.h) (f := 2) (i := 1) (by decide)).symm | 5, _ => rfl | 6, _ => exact (by first | exact congrArg (Value.int .i64) (tnF_set (h := c.h) (f := 2) hv).symm | exact congrArg (Value.int .i64) (tnF_not (h := c.h) (f := 2) hv).symm) | 7, _ => rfl) _ _ h) (.nil))))
          )
    · skip
      have hv : vF c.h 2 = false := h_8
      first
        | (exfalso; omega)
        | (
          refine c_cond_f rfl ?_
          refine c_skip ?_
          refine e_norm_block ?_
          refine e_next ?_
          refine c_region ?_
          refine r_val .none rfl (p_add rfl rfl (by omega)) ?_
          refine r_val .none rfl (p_move rfl) ?_
          refine r_nil ?_
          refine e_round (3) ⟨Nat.le_of_ble_eq_true rfl, Nat.le_of_ble_eq_true rfl⟩ rfl ⟨rfl, rfl, rfl, rfl, rfl, trivial⟩ (.drop (.keep (fun _ _ h => h) (.keep (fun _ _ h => box_congr (fun i hi => by match i, hi with | 0, _ => rfl | 1, _ => rfl | 2, _ => exact congrArg (Value.int .i64) (tnF_else (h := c.h) (f := 2) (i := 0) (by decide)).symm | 3, _ => rfl | 4, _ => exact congrArg (Value.int .i64) (tnF_else (h := c.h) (f := 2) (i := 1) (by decide)).symm | 5, _ => rfl | 6, _ => exact (by first | exact congrArg (Value.int .i64) (tnF_set (h := c.h) (f := 2) hv).symm | exact congrArg (Value.int .i64) (tnF_not (h := c.h) (f := 2) hv).symm) | 7, _ => rfl) _ _ h) (.nil))))
          )
  · skip
    refine c_seq ?_
    refine c_region ?_
    refine r_val .none rfl (p_lt rfl rfl) ?_
    refine r_say (d := 13) (v := Value.bool false) rfl ?_
    refine r_nil ?_
    refine e_next ?_
    refine c_seq ?_
    refine c_cond_f rfl ?_
    refine c_exit ?_
    refine e_exit_then ?_
    refine e_exit_then ?_
    refine e_exit_block ?_
    refine e_next ?_
    refine c_seq ?_
    refine c_region ?_
    refine r_val .none rfl (p_assign rfl) ?_
    refine r_nil ?_
    refine e_next ?_
    refine c_seq ?_
    refine c_seq ?_
    refine c_region ?_
    refine r_val .none rfl (p_field Try.underlying38 rfl sz22 rfl) ?_
    refine r_val .none rfl (p_ld (k := 1) Try.underlying22 rfl rfl rfl (by first | exact of_decide_eq_true rfl | omega) rfl) ?_
    refine r_val .none rfl (p_leng Try.underlying22 rfl hr) ?_
    have bd_9 := (hr).bound
    refine r_val .none rfl (p_move rfl) ?_
    refine r_nil ?_
    refine e_next ?_
    refine c_block ?_
    refine c_nilrow 38 8 ?_
    refine c_name (d := 1) rfl (fun u_10 hu_10 => ?_)
    refine c_name (d := 2) rfl (fun u_11 hu_11 => ?_)
    refine c_name (d := 4) rfl (fun u_12 hu_12 => ?_)
    refine c_name (d := 31) rfl (fun u_13 hu_13 => ?_)
    refine c_name (d := 32) rfl (fun u_14 hu_14 => ?_)
    refine c_nameL (k := 1) rfl (fun A_15 hA_15 => ?_)
    refine c_nameL (k := 2) rfl (fun A_16 hA_16 => ?_)
    refine c_loop (σ := Nat × Value × List (CT × Value) × Ghost) (fun s => [(33, Value.int .i64 (s.1 : Nat)), (7, s.2.1), (1, u_10), (2, u_11), (4, u_12), (31, u_13), (32, u_14)]) (fun s => [rowA (s.2.1) 38 8 (s.2.2.1).length ((s.2.2.1).flatMap cvC), A_15, A_16]) (fun s => s.2.2.2) (fun s => s.1 ≤ rs.length ∧ s.2.2.1.map Prod.fst = tnL y ((rs.map Prod.fst).take s.1) ∧ (∀ p ∈ s.2.2.1, Cs s.2.2.2 p.2 p.1.subs) ∧ GNew w nX G s.2.2.2) (fun s => rs.length - s.1) ((0, _, [], _)) ⟨Nat.zero_le _, rfl, by simp, GNew.refl _ _ _⟩ rfl ⟨rfl, rfl, rfl, rfl, rfl, rfl, rfl, trivial⟩ (.keep (fun _ _ h => rowA_nil rfl _ _ h) (.keep (fun _ _ h => h) (.keep (fun _ _ h => h) (.nil)))) (fun s hphi => ?_)
    subst hu_10
    subst hu_11
    subst hu_12
    subst hu_13
    subst hu_14
    subst hA_15
    subst hA_16
    obtain ⟨k, v, qs, H⟩ := s
    obtain ⟨hk, hq, hqs, hgn⟩ := hphi
    dsimp only at hk hq hqs hgn ⊢
    have hql : qs.length ≤ k := (by have := congrArg List.length hq; rw [tnL_len] at this; simp at this; omega)
    replace hp := fun p hm0 => (hp p hm0).mono hgn.le
    replace hr := hr.mono hgn.le
    replace hs := hs.mono hgn.le
    refine c_seq ?_
    refine c_region ?_
    refine r_val .none rfl (p_lt rfl rfl) ?_
    refine r_nil ?_
    refine e_next ?_
    refine c_seq ?_
    refine c_splitd (d := 34) rfl (fun h_17 => ?_) (fun h_17 => ?_)
    · skip
      first
        | (exfalso; omega)
        | (
          refine c_cond_t rfl ?_
          refine c_skip ?_
          refine e_next ?_
          refine c_seq ?_
          refine c_block ?_
          refine c_seq ?_
          refine c_region ?_
          refine r_iaddr_g .none rfl Try.underlying22 sz38 rfl hr rfl (by first | exact of_decide_eq_true rfl | omega) (fun p_19 o_20 R_18 => ?_)
          have hc_21 := hp _ (getD_mem (i := k) (d := d0) (by omega))
          have hz3 := size_child (i := k) hl (by omega) hb.1.1
          have hok3 := okCL_at (k := k) (by rw [← hl]; exact hoL) (by omega)
          refine r_val .none rfl (p_ldga0 Try.underlying38 rfl sz38 rfl R_18 (by first | exact of_decide_eq_true rfl | omega) (rfl : _ = Value.agg #[_, _, _, _, _, _, _, _])) ?_
          refine r_alloc .none rfl zr38 (IsRow.lit _) (fun b_6 => ?_)
          refine r_stw (k := 0) .none sz38 rfl rfl (IsRow.lit _) (one_lit rfl (all_cons rfl (all_cons rfl (all_cons rfl (all_cons rfl (all_cons rfl (all_cons rfl (all_cons rfl (all_cons (hc_21).one rfl))))))))) rfl ?_
          refine r_nil ?_
          refine e_next ?_
          refine c_region ?_
          refine r_val .none rfl (p_move rfl) ?_
          refine r_val .none rfl (p_ldw (k := 0) Try.underlying38 rfl sz38 rfl rfl (rfl : _ = Value.agg #[_, _, _, _, _, _, _, _])) ?_
          refine r_val .none rfl (p_move rfl) ?_
          refine r_callm (vs := [_, _]) .none rfl cl21 rfl (fun w hw => ih (rs.getD k d0).1 _ _ _ w (size_at hl (by omega) hz) ⟨⟨hz3, hok3⟩, hb.2⟩ hc_21 hw) (fun G_22 v_25 hn_23 hr_24 => ?_)
          replace hp := fun p hm0 => (hp p hm0).mono hn_23.le
          replace hr := hr.mono hn_23.le
          replace hs := hs.mono hn_23.le
          replace hqs := fun p hm0 => (hqs p hm0).mono hn_23.le
          replace R_18 := R_18.mono hn_23.le
          replace hc_21 := hc_21.mono hn_23.le
          obtain ⟨u_26, rfl, u_26s⟩ := hr_24
          refine r_bslice (vs := [(0, Value.agg #[_, _, _, _, _, _, _, _])]) (c := #[_, _, _, _, _, _, _, _]) .none rfl Try.underlying22 el38 rfl rfl rfl (bs38_10a8 _ _ _ _ _ _ _ _) (IsRow.lit _) (fun b_7 => ?_)
          refine r_append (k := 2) (k2 := 0) .none rfl Try.underlying22 el38 rfl (by decide) rfl rfl rfl rfl rfl (one_lit rfl (all_cons rfl (all_cons rfl (all_cons rfl (all_cons rfl (all_cons rfl (all_cons rfl (all_cons rfl (all_cons (u_26s).one rfl))))))))) (by simp only [maxLen]; omega) (by omega) (fun v_27 => ?_)
          refine r_row1 (k := 2) rfl (fun o_28 => ?_)
          refine r_val .none rfl (p_assign rfl) ?_
          refine r_nil ?_
          refine e_norm_block ?_
          refine e_next ?_
          refine c_region ?_
          refine r_val .none rfl (p_add rfl rfl (by omega)) ?_
          refine r_val .none rfl (p_move rfl) ?_
          refine r_nil ?_
          refine e_round ((k + 1, _, qs ++ [(tn y (rs.getD k d0).1, u_26)], _)) ⟨⟨by dsimp only; omega, by rw [tnL_take (by omega), List.map_append, hq]; rfl, (fun p hp' => by rcases List.mem_append.1 hp' with h | h; exact hqs p h; rw [List.mem_singleton.1 h]; exact u_26s), (hgn.trans hn_23)⟩, by dsimp only; omega⟩ rfl ⟨rfl, rfl, rfl, rfl, rfl, rfl, rfl, trivial⟩ (.drop (.drop (.keep (fun _ _ h => rowA_snoc (l := qs) (x := (tn y (rs.getD k d0).1, u_26)) rfl rfl rfl rfl _ _ h) (.keep (fun _ _ h => h) (.keep (fun _ _ h => h) (.nil))))))
          )
    · skip
      first
        | (exfalso; omega)
        | (
          refine c_cond_f rfl ?_
          refine c_exit ?_
          refine e_exit_then ?_
          refine e_exit_then ?_
          refine e_exit_block ?_
          refine e_next ?_
          refine c_seq ?_
          refine c_region ?_
          refine r_freeze (k := 0) rfl (fun G_29 hn_30 hs_31 => ?_)
          replace hp := fun p hm0 => (hp p hm0).mono hn_30.le
          replace hr := hr.mono hn_30.le
          replace hs := hs.mono hn_30.le
          replace hqs := fun p hm0 => (hqs p hm0).mono hn_30.le
          have hfz : Cs G_29 v (tnL y c.subs) := by rw [show tnL y c.subs = qs.map Prod.fst by rw [hq, hl, List.take_of_length_le (by simp; omega)]]; exact Tr.mk qs (SlL.of d0 (fun _ => rfl) rfl hs_31) hqs
          refine r_val .none rfl (p_move rfl) ?_
          refine r_val .none rfl (p_field Try.underlying38 rfl sz22 rfl) ?_
          refine r_st (k := 1) .none sz22 rfl rfl (hfz).one rfl (by first | exact of_decide_eq_true rfl | omega) ?_
          refine r_nil ?_
          refine e_next ?_
          refine c_seq ?_
          refine c_region ?_
          refine r_val .none rfl (p_ldw (k := 1) Try.underlying38 rfl sz38 rfl rfl (rfl : _ = Value.agg #[_, _, _, _, _, _, _, _])) ?_
          refine r_stw (k := 0) .none sz38 rfl rfl (IsRow.lit _) (one_lit rfl (all_cons rfl (all_cons rfl (all_cons rfl (all_cons rfl (all_cons rfl (all_cons rfl (all_cons rfl (all_cons (hfz).one rfl))))))))) rfl ?_
          refine r_nil ?_
          refine e_next ?_
          refine c_ret ?_
          refine e_ret1 Try.results21 (.cell (k := 0) rfl Try.underlying38 rfl sz38 rfl (rfl : _ = Value.agg #[_, _, _, _, _, _, _, _]) .nil) (fun w hm => ⟨_, (hgn.trans hn_30), hm.has, ?_, hm.since⟩)
          refine ⟨v, ?_, ?_⟩
          · rw [tn_eq]; rfl
          · rw [tn_eq]; exact hfz
          )
theorem c_turn_n : ∀ n, TurnIs n
  | 0 => fun c sv y G w hz _ _ _ => absurd hz (by have := size_subs c; omega)
  | n + 1 => fun c sv y G w hz hb hs hG => c_turn_s n (c_turn_n n) c sv y hz hb hs w hG
theorem c_turn (c : CT) (sv : Value) (y : Int) {G : Ghost} (hb : (size c ≤ 1000 ∧ okC c) ∧ 0 ≤ y ∧ y ≤ 31) (hs : Cs G sv c.subs) (w : World) (hG : Has G w) : Calls Try.prog 21 #[Value.agg #[Value.int .i64 c.h.k, Value.bool c.h.v0, Value.int .i64 c.h.n0, Value.bool c.h.v1, Value.int .i64 c.h.n1, Value.bool c.h.v2, Value.int .i64 c.h.n2, sv], Value.int .i64 y] w (Ret fun r w' => ∃ G', GNew w nX G G' ∧ Has G' w' ∧ (∃ u, r = Value.agg #[Value.int .i64 (tn y c).h.k, Value.bool (tn y c).h.v0, Value.int .i64 (tn y c).h.n0, Value.bool (tn y c).h.v1, Value.int .i64 (tn y c).h.n1, Value.bool (tn y c).h.v2, Value.int .i64 (tn y c).h.n2, u] ∧ Cs G' u (tn y c).subs) ∧ Since nX w w') := c_turn_n _ c sv y G w (Nat.le_refl _) hb hs hG
end Go.Proofs.Ytoflaphnlfggkaa
