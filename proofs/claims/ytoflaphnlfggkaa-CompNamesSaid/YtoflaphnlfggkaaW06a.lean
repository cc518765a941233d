/- Walks: what Go functions of this chapter come to, each as a function on plain data; no condition but those that each theorem names. Printed by a program of this work (gen.py). -/
import Derived.Test.YtoflaphnlfggkaaW08d
import Derived.Test.YtoflaphnlfggkaaGxClos
import Derived.Test.YtoflaphnlfggkaaPl06
import Derived.Test.YtoflaphnlfggkaaRows
namespace Go.Proofs.Ytoflaphnlfggkaa
open Go.Gx Go.Gx.T4 Go.Gx.T3 Go.Gx.T6 Go.Gx.T8 Go.Gx.T4 Go.Gx.T3 Go.Gx.T8 Go.Gx.T4 Go.Gx.T3
theorem el38 : ElemIs Try.prog 38 8 80 (Value.agg #[Value.int .i64 0, Value.bool false, Value.int .i64 0, Value.bool false, Value.int .i64 0, Value.bool false, Value.int .i64 0, Value.slice none 0 0]) := by
  unfold ElemIs
  kernel_rfl
theorem c_cloneC_a (a : Option Addr) (cap : Nat) (rs : List (CT × Value)) {G : Ghost} (hr : SlL G (Value.slice a rs.length cap) 8 cvC d0 rs) (hlen : rs.length ≤ 1000) (hp : ∀ p ∈ rs, Cs G p.2 p.1.subs) (w : World) (hG : Has G w) :
    Calls Try.prog 44 #[Value.slice a rs.length cap] w (Ret fun r w' => Since nX w w' ∧ ∃ F', (rowA r 38 8 (rs).length ((rs).flatMap cvC)).holds w' F' ∧ ∀ b, F' b → w.heap.size ≤ b) := by
  refine enter (args := [_]) (X := nX) (G := G) (l := [(0, Value.slice a rs.length cap)]) Try.func44 rfl Try.ntmps44 hG ⟨rfl, trivial⟩ (Nat.le_of_ble_eq_true rfl) ?_
  refine c_seq ?_
  refine c_region ?_
  refine r_val .none rfl (p_assign rfl) ?_
  refine r_nil ?_
  refine e_next ?_
  refine c_seq ?_
  refine c_seq ?_
  refine c_region ?_
  refine r_val .none rfl (p_move rfl) ?_
  refine r_val .none rfl (p_eqnil Try.underlying22 rfl rfl) ?_
  refine r_nil ?_
  refine e_next ?_
  refine c_split (d := 4) rfl (fun h_1 => ?_) (fun h_1 => ?_)
  · skip
    have hrs : rs = [] := by cases a with | none => exact nil_rs hr | some x => cases h_1
    refine c_cond_t rfl ?_
    refine c_seq ?_
    refine c_region ?_
    refine r_val .none rfl (p_assign rfl) ?_
    refine r_nilrow 38 8 ?_
    refine r_nil ?_
    refine e_next ?_
    refine c_ret ?_
    refine e_ret_then ?_
    refine e_ret1 Try.results44 (.tmp rfl .nil) (fun w hm => hm.made [rowA (.slice none 0 0) 38 8 (rs).length ((rs).flatMap cvC)] (.keep (fun _ _ h => rowA_congr (by rw [hrs]; rfl) (by rw [hrs]; rfl) _ _ h) (.nil)) _ (fun F' h => starL_one h))
  · skip
    refine c_cond_f rfl ?_
    refine c_skip ?_
    refine e_next ?_
    refine c_seq ?_
    refine c_region ?_
    refine r_bslice0 .none rfl Try.underlying22 el38 (fun v_2 => ?_)
    refine r_val .none rfl (p_move rfl) ?_
    refine r_append_g (k := 0) .none rfl Try.underlying22 el38 rfl (by decide) rfl rfl rfl hr (fun _ hi _ hj => cv_ones hp _ hi _ hj) (by simp only [maxLen]; omega) (by omega) (fun v_3 => ?_)
    refine r_row1 (k := 0) rfl (fun o_4 => ?_)
    refine r_val .none rfl (p_assign rfl) ?_
    refine r_nil ?_
    refine e_next ?_
    refine c_ret ?_
    refine e_ret1 Try.results44 (.tmp rfl .nil) (fun w hm => hm.made [rowA v_3 38 8 (rs).length ((rs).flatMap cvC)] (.keep (fun _ _ h => rowA_congr (by omega) (by rw [flat_all (cells := cvC) (fun _ => rfl)]; rfl) _ _ h) (.nil)) _ (fun F' h => starL_one h))
theorem c_cloneC (v : Value) (rs : List (CT × Value)) {G : Ghost} (hr : SlL G v 8 cvC d0 rs) (hlen : rs.length ≤ 1000) (hp : ∀ p ∈ rs, Cs G p.2 p.1.subs) (w : World) (hG : Has G w) : Calls Try.prog 44 #[v] w (Ret fun r w' => Since nX w w' ∧ ∃ F', (rowA r 38 8 (rs).length ((rs).flatMap cvC)).holds w' F' ∧ ∀ b, F' b → w.heap.size ≤ b) := by
  obtain ⟨a, cap, rfl⟩ := SlG.len hr
  exact c_cloneC_a a cap rs hr hlen hp w hG
theorem c_cloneCM (v : Value) (rs : List (CT × Value)) {G : Ghost} (hr : SlL G v 8 cvC d0 rs) (hlen : rs.length ≤ 1000) (hp : ∀ p ∈ rs, Cs G p.2 p.1.subs) (w : World) (hG : Has G w) : Calls Try.prog 44 #[v] w (Ret fun r w' => ∃ G2, GNew w nX G G2 ∧ Has G2 w' ∧ SlL G2 r 8 cvC d0 rs ∧ Since nX w w') := by
  refine (c_cloneC v rs hr hlen hp w hG).mono (fun e w' hR => ?_)
  cases e with
  | returned r =>
    obtain ⟨G2, h1, h2, h3, h4⟩ := row_mem hG hR
    exact ⟨G2, h1, h2, SlL.of d0 (fun _ => rfl) rfl h3, h4⟩
  | panicked c => exact hR.elim
  | outgrown => exact hR.elim
end Go.Proofs.Ytoflaphnlfggkaa
