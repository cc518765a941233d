/- Texts of this work, laid together: a logic of steps, plain laws, and walks of Go functions, each without a condition but those that its theorems name. -/
import Derived.Test.YtpadfgomhojjnaaKPlainSteps5
import Derived.Test.YtpadfgomhojjnaaRows
/- Walks: what Go functions of this chapter come to, each as a function on plain data; no condition but those that each theorem names. Printed by a program of this work (gen.py). -/
namespace Go.Proofs.Ytpadfgomhojjnaa
open Go.Gx Go.Gx.T13 Go.Gx.T8 Go.Gx.T4 Go.Gx.T3 Go.Gx.T14 Go.Gx.T13 Go.Gx.T8 Go.Gx.T6 Go.Gx.T4 Go.Gx.T3 Go.Gx.T3 Go.Gx.T4 Go.Gx.T3 Go.Gx.T5 Go.Gx.T1 Go.Gx.T8 Go.Gx.T6 Go.Gx.T4 Go.Gx.T3 Go.Gx.T6 Go.Gx.T8 Go.Gx.T4 Go.Gx.T3 Go.Gx.T8 Go.Gx.T4 Go.Gx.T3 Go.Gx.T8 Go.Gx.T6 Go.Gx.T4 Go.Gx.T3
theorem cl78 : Callable Try.prog 78 := callable Try.func78 (by kernel_rfl) rfl
theorem cl79 : Callable Try.prog 79 := callable Try.func79 (by kernel_rfl) rfl
theorem c_rhas7 (t k : Tri)  (w : World)  :
  Calls Try.prog 78 #[kT t, kT k] w (Ret fun r w' => r = Value.bool (hasK t k) ∧ Since nX w w') := by
 refine enter (args := [_, _]) (X := nX) (G := (fun _ => none)) (l := [(0, kT t), (1, kT k)]) Try.func78 rfl Try.ntmps78 (fun _ _ h => by cases h) ⟨rfl, rfl, trivial⟩ (Nat.le_of_ble_eq_true rfl) ?_
 refine c_seq ?_
 refine c_region ?_
 refine r_box .none rfl rfl (IsRow.lit _) (fun b_1 => ?_)
 refine r_box .none rfl rfl (IsRow.lit _) (fun b_2 => ?_)
 refine r_val .none rfl (p_assign rfl) ?_
 refine r_nil ?_
 refine e_next ?_
 refine c_seq ?_
 refine c_region ?_
 refine r_val .none rfl (p_iaddr (k := 0) Try.underlying105 sz3 rfl rfl (by first | exact of_decide_eq_true rfl | omega)) ?_
 refine r_val .none rfl (p_ld (k := 0) Try.underlying3 rfl rfl rfl (by first | exact of_decide_eq_true rfl | omega) (rfl : _ = Value.int _ _)) ?_
 refine r_val .none rfl (p_eq rfl rfl) ?_
 refine r_val .none rfl (p_move rfl) ?_
 refine r_splitd (d := 8) rfl (fun h_1 => ?_) (fun h_1 => ?_)
 ·
  first
   | (exfalso; omega)
   | (
    refine r_skip rfl (.no rfl rfl) ?_
    refine r_skip rfl (.no rfl rfl) ?_
    refine r_skip rfl (.no rfl rfl) ?_
    refine r_skip rfl (.no rfl rfl) ?_
    refine r_skip rfl (.no rfl rfl) ?_
    refine r_val .none rfl (p_pick_t rfl rfl) ?_
    refine r_val .none rfl (p_move rfl) ?_
    refine r_val (.some rfl rfl) rfl (p_iaddr (k := 1) Try.underlying105 sz3 rfl rfl (by first | exact of_decide_eq_true rfl | omega)) ?_
    refine r_val (.some rfl rfl) rfl (p_ld (k := 0) Try.underlying3 rfl rfl rfl (by first | exact of_decide_eq_true rfl | omega) (rfl : _ = Value.int _ _)) ?_
    refine r_val (.some rfl rfl) rfl (p_eq rfl rfl) ?_
    refine r_val (.some rfl rfl) rfl (p_move rfl) ?_
    refine r_splitd (d := 19) rfl (fun h_2 => ?_) (fun h_2 => ?_)
    ·
     first
      | (exfalso; omega)
      | (
       refine r_skip rfl (.no rfl rfl) ?_
       refine r_skip rfl (.no rfl rfl) ?_
       refine r_skip rfl (.no rfl rfl) ?_
       refine r_skip rfl (.no rfl rfl) ?_
       refine r_skip rfl (.no rfl rfl) ?_
       refine r_val (.some rfl rfl) rfl (p_pick_t rfl rfl) ?_
       refine r_val .none rfl (p_pick_t rfl rfl) ?_
       refine r_val .none rfl (p_move rfl) ?_
       refine r_val (.some rfl rfl) rfl (p_iaddr (k := 2) Try.underlying105 sz3 rfl rfl (by first | exact of_decide_eq_true rfl | omega)) ?_
       refine r_val (.some rfl rfl) rfl (p_ld (k := 0) Try.underlying3 rfl rfl rfl (by first | exact of_decide_eq_true rfl | omega) (rfl : _ = Value.int _ _)) ?_
       refine r_val (.some rfl rfl) rfl (p_eq rfl rfl) ?_
       refine r_val (.some rfl rfl) rfl (p_move rfl) ?_
       refine r_splitd (d := 31) rfl (fun h_3 => ?_) (fun h_3 => ?_)
       ·
        first
         | (exfalso; omega)
         | (
          refine r_skip rfl (.no rfl rfl) ?_
          refine r_skip rfl (.no rfl rfl) ?_
          refine r_skip rfl (.no rfl rfl) ?_
          refine r_skip rfl (.no rfl rfl) ?_
          refine r_skip rfl (.no rfl rfl) ?_
          refine r_val (.some rfl rfl) rfl (p_pick_t rfl rfl) ?_
          refine r_val .none rfl (p_pick_t rfl rfl) ?_
          refine r_val .none rfl (p_assign rfl) ?_
          refine r_nil ?_
          refine e_next ?_
          refine c_ret ?_
          refine e_ret1 Try.results78 (.tmp rfl .nil) (fun w hm => ⟨?_, hm.since⟩)
          (simp [hasK, *])
          )
       ·
        first
         | (exfalso; omega)
         | (
          refine r_val (.some rfl rfl) rfl (p_iaddr (k := 2) Try.underlying105 sz3 rfl rfl (by first | exact of_decide_eq_true rfl | omega)) ?_
          refine r_val (.some rfl rfl) rfl (p_ld (k := 0) Try.underlying3 rfl rfl rfl (by first | exact of_decide_eq_true rfl | omega) (rfl : _ = Value.int _ _)) ?_
          refine r_val (.some rfl rfl) rfl (p_iaddr (k := 2) Try.underlying105 sz3 rfl rfl (by first | exact of_decide_eq_true rfl | omega)) ?_
          refine r_val (.some rfl rfl) rfl (p_ld (k := 1) Try.underlying3 rfl rfl rfl (by first | exact of_decide_eq_true rfl | omega) (rfl : _ = Value.int _ _)) ?_
          refine r_val (.some rfl rfl) rfl (p_eq rfl rfl) ?_
          refine r_val (.some rfl rfl) rfl (p_pick_f rfl rfl) ?_
          refine r_val .none rfl (p_pick_t rfl rfl) ?_
          refine r_val .none rfl (p_assign rfl) ?_
          refine r_nil ?_
          refine e_next ?_
          refine c_ret ?_
          refine e_ret1 Try.results78 (.tmp rfl .nil) (fun w hm => ⟨?_, hm.since⟩)
          (simp [hasK, *])
          )
       )
    ·
     first
      | (exfalso; omega)
      | (
       refine r_val (.some rfl rfl) rfl (p_iaddr (k := 1) Try.underlying105 sz3 rfl rfl (by first | exact of_decide_eq_true rfl | omega)) ?_
       refine r_val (.some rfl rfl) rfl (p_ld (k := 0) Try.underlying3 rfl rfl rfl (by first | exact of_decide_eq_true rfl | omega) (rfl : _ = Value.int _ _)) ?_
       refine r_val (.some rfl rfl) rfl (p_iaddr (k := 1) Try.underlying105 sz3 rfl rfl (by first | exact of_decide_eq_true rfl | omega)) ?_
       refine r_val (.some rfl rfl) rfl (p_ld (k := 1) Try.underlying3 rfl rfl rfl (by first | exact of_decide_eq_true rfl | omega) (rfl : _ = Value.int _ _)) ?_
       refine r_val (.some rfl rfl) rfl (p_eq rfl rfl) ?_
       refine r_val (.some rfl rfl) rfl (p_pick_f rfl rfl) ?_
       refine r_val .none rfl (p_pick_t rfl rfl) ?_
       refine r_val .none rfl (p_move rfl) ?_
       refine r_splitd (d := 27) rfl (fun h_4 => ?_) (fun h_4 => ?_)
       ·
        first
         | (exfalso; omega)
         | (
          refine r_val (.some rfl rfl) rfl (p_iaddr (k := 2) Try.underlying105 sz3 rfl rfl (by first | exact of_decide_eq_true rfl | omega)) ?_
          refine r_val (.some rfl rfl) rfl (p_ld (k := 0) Try.underlying3 rfl rfl rfl (by first | exact of_decide_eq_true rfl | omega) (rfl : _ = Value.int _ _)) ?_
          refine r_val (.some rfl rfl) rfl (p_eq rfl rfl) ?_
          refine r_val (.some rfl rfl) rfl (p_move rfl) ?_
          refine r_splitd (d := 31) rfl (fun h_5 => ?_) (fun h_5 => ?_)
          ·
           first
            | (exfalso; omega)
            | (
             refine r_skip rfl (.no rfl rfl) ?_
             refine r_skip rfl (.no rfl rfl) ?_
             refine r_skip rfl (.no rfl rfl) ?_
             refine r_skip rfl (.no rfl rfl) ?_
             refine r_skip rfl (.no rfl rfl) ?_
             refine r_val (.some rfl rfl) rfl (p_pick_t rfl rfl) ?_
             refine r_val .none rfl (p_pick_t rfl rfl) ?_
             refine r_val .none rfl (p_assign rfl) ?_
             refine r_nil ?_
             refine e_next ?_
             refine c_ret ?_
             refine e_ret1 Try.results78 (.tmp rfl .nil) (fun w hm => ⟨?_, hm.since⟩)
             (simp [hasK, *])
             )
          ·
           first
            | (exfalso; omega)
            | (
             refine r_val (.some rfl rfl) rfl (p_iaddr (k := 2) Try.underlying105 sz3 rfl rfl (by first | exact of_decide_eq_true rfl | omega)) ?_
             refine r_val (.some rfl rfl) rfl (p_ld (k := 0) Try.underlying3 rfl rfl rfl (by first | exact of_decide_eq_true rfl | omega) (rfl : _ = Value.int _ _)) ?_
             refine r_val (.some rfl rfl) rfl (p_iaddr (k := 2) Try.underlying105 sz3 rfl rfl (by first | exact of_decide_eq_true rfl | omega)) ?_
             refine r_val (.some rfl rfl) rfl (p_ld (k := 1) Try.underlying3 rfl rfl rfl (by first | exact of_decide_eq_true rfl | omega) (rfl : _ = Value.int _ _)) ?_
             refine r_val (.some rfl rfl) rfl (p_eq rfl rfl) ?_
             refine r_val (.some rfl rfl) rfl (p_pick_f rfl rfl) ?_
             refine r_val .none rfl (p_pick_t rfl rfl) ?_
             refine r_val .none rfl (p_assign rfl) ?_
             refine r_nil ?_
             refine e_next ?_
             refine c_ret ?_
             refine e_ret1 Try.results78 (.tmp rfl .nil) (fun w hm => ⟨?_, hm.since⟩)
             (simp [hasK, *])
             )
          )
       ·
        first
         | (exfalso; omega)
         | (
          refine r_skip rfl (.no rfl rfl) ?_
          refine r_skip rfl (.no rfl rfl) ?_
          refine r_skip rfl (.no rfl rfl) ?_
          refine r_skip rfl (.no rfl rfl) ?_
          refine r_skip rfl (.un rfl rfl) ?_
          refine r_skip rfl (.un rfl rfl) ?_
          refine r_skip rfl (.un rfl rfl) ?_
          refine r_skip rfl (.un rfl rfl) ?_
          refine r_skip rfl (.un rfl rfl) ?_
          refine r_skip rfl (.no rfl rfl) ?_
          refine r_val .none rfl (p_pick_f rfl rfl) ?_
          refine r_val .none rfl (p_assign rfl) ?_
          refine r_nil ?_
          refine e_next ?_
          refine c_ret ?_
          refine e_ret1 Try.results78 (.tmp rfl .nil) (fun w hm => ⟨?_, hm.since⟩)
          (simp [hasK, *])
          )
       )
    )
 ·
  first
   | (exfalso; omega)
   | (
    refine r_val (.some rfl rfl) rfl (p_iaddr (k := 0) Try.underlying105 sz3 rfl rfl (by first | exact of_decide_eq_true rfl | omega)) ?_
    refine r_val (.some rfl rfl) rfl (p_ld (k := 0) Try.underlying3 rfl rfl rfl (by first | exact of_decide_eq_true rfl | omega) (rfl : _ = Value.int _ _)) ?_
    refine r_val (.some rfl rfl) rfl (p_iaddr (k := 0) Try.underlying105 sz3 rfl rfl (by first | exact of_decide_eq_true rfl | omega)) ?_
    refine r_val (.some rfl rfl) rfl (p_ld (k := 1) Try.underlying3 rfl rfl rfl (by first | exact of_decide_eq_true rfl | omega) (rfl : _ = Value.int _ _)) ?_
    refine r_val (.some rfl rfl) rfl (p_eq rfl rfl) ?_
    refine r_val .none rfl (p_pick_f rfl rfl) ?_
    refine r_val .none rfl (p_move rfl) ?_
    refine r_splitd (d := 15) rfl (fun h_6 => ?_) (fun h_6 => ?_)
    ·
     first
      | (exfalso; omega)
      | (
       refine r_val (.some rfl rfl) rfl (p_iaddr (k := 1) Try.underlying105 sz3 rfl rfl (by first | exact of_decide_eq_true rfl | omega)) ?_
       refine r_val (.some rfl rfl) rfl (p_ld (k := 0) Try.underlying3 rfl rfl rfl (by first | exact of_decide_eq_true rfl | omega) (rfl : _ = Value.int _ _)) ?_
       refine r_val (.some rfl rfl) rfl (p_eq rfl rfl) ?_
       refine r_val (.some rfl rfl) rfl (p_move rfl) ?_
       refine r_splitd (d := 19) rfl (fun h_7 => ?_) (fun h_7 => ?_)
       ·
        first
         | (exfalso; omega)
         | (
          refine r_skip rfl (.no rfl rfl) ?_
          refine r_skip rfl (.no rfl rfl) ?_
          refine r_skip rfl (.no rfl rfl) ?_
          refine r_skip rfl (.no rfl rfl) ?_
          refine r_skip rfl (.no rfl rfl) ?_
          refine r_val (.some rfl rfl) rfl (p_pick_t rfl rfl) ?_
          refine r_val .none rfl (p_pick_t rfl rfl) ?_
          refine r_val .none rfl (p_move rfl) ?_
          refine r_val (.some rfl rfl) rfl (p_iaddr (k := 2) Try.underlying105 sz3 rfl rfl (by first | exact of_decide_eq_true rfl | omega)) ?_
          refine r_val (.some rfl rfl) rfl (p_ld (k := 0) Try.underlying3 rfl rfl rfl (by first | exact of_decide_eq_true rfl | omega) (rfl : _ = Value.int _ _)) ?_
          refine r_val (.some rfl rfl) rfl (p_eq rfl rfl) ?_
          refine r_val (.some rfl rfl) rfl (p_move rfl) ?_
          refine r_splitd (d := 31) rfl (fun h_8 => ?_) (fun h_8 => ?_)
          ·
           first
            | (exfalso; omega)
            | (
             refine r_skip rfl (.no rfl rfl) ?_
             refine r_skip rfl (.no rfl rfl) ?_
             refine r_skip rfl (.no rfl rfl) ?_
             refine r_skip rfl (.no rfl rfl) ?_
             refine r_skip rfl (.no rfl rfl) ?_
             refine r_val (.some rfl rfl) rfl (p_pick_t rfl rfl) ?_
             refine r_val .none rfl (p_pick_t rfl rfl) ?_
             refine r_val .none rfl (p_assign rfl) ?_
             refine r_nil ?_
             refine e_next ?_
             refine c_ret ?_
             refine e_ret1 Try.results78 (.tmp rfl .nil) (fun w hm => ⟨?_, hm.since⟩)
             (simp [hasK, *])
             )
          ·
           first
            | (exfalso; omega)
            | (
             refine r_val (.some rfl rfl) rfl (p_iaddr (k := 2) Try.underlying105 sz3 rfl rfl (by first | exact of_decide_eq_true rfl | omega)) ?_
             refine r_val (.some rfl rfl) rfl (p_ld (k := 0) Try.underlying3 rfl rfl rfl (by first | exact of_decide_eq_true rfl | omega) (rfl : _ = Value.int _ _)) ?_
             refine r_val (.some rfl rfl) rfl (p_iaddr (k := 2) Try.underlying105 sz3 rfl rfl (by first | exact of_decide_eq_true rfl | omega)) ?_
             refine r_val (.some rfl rfl) rfl (p_ld (k := 1) Try.underlying3 rfl rfl rfl (by first | exact of_decide_eq_true rfl | omega) (rfl : _ = Value.int _ _)) ?_
             refine r_val (.some rfl rfl) rfl (p_eq rfl rfl) ?_
             refine r_val (.some rfl rfl) rfl (p_pick_f rfl rfl) ?_
             refine r_val .none rfl (p_pick_t rfl rfl) ?_
             refine r_val .none rfl (p_assign rfl) ?_
             refine r_nil ?_
             refine e_next ?_
             refine c_ret ?_
             refine e_ret1 Try.results78 (.tmp rfl .nil) (fun w hm => ⟨?_, hm.since⟩)
             (simp [hasK, *])
             )
          )
       ·
        first
         | (exfalso; omega)
         | (
          refine r_val (.some rfl rfl) rfl (p_iaddr (k := 1) Try.underlying105 sz3 rfl rfl (by first | exact of_decide_eq_true rfl | omega)) ?_
          refine r_val (.some rfl rfl) rfl (p_ld (k := 0) Try.underlying3 rfl rfl rfl (by first | exact of_decide_eq_true rfl | omega) (rfl : _ = Value.int _ _)) ?_
          refine r_val (.some rfl rfl) rfl (p_iaddr (k := 1) Try.underlying105 sz3 rfl rfl (by first | exact of_decide_eq_true rfl | omega)) ?_
          refine r_val (.some rfl rfl) rfl (p_ld (k := 1) Try.underlying3 rfl rfl rfl (by first | exact of_decide_eq_true rfl | omega) (rfl : _ = Value.int _ _)) ?_
          refine r_val (.some rfl rfl) rfl (p_eq rfl rfl) ?_
          refine r_val (.some rfl rfl) rfl (p_pick_f rfl rfl) ?_
          refine r_val .none rfl (p_pick_t rfl rfl) ?_
          refine r_val .none rfl (p_move rfl) ?_
          refine r_splitd (d := 27) rfl (fun h_9 => ?_) (fun h_9 => ?_)
          ·
           first
            | (exfalso; omega)
            | (
             refine r_val (.some rfl rfl) rfl (p_iaddr (k := 2) Try.underlying105 sz3 rfl rfl (by first | exact of_decide_eq_true rfl | omega)) ?_
             refine r_val (.some rfl rfl) rfl (p_ld (k := 0) Try.underlying3 rfl rfl rfl (by first | exact of_decide_eq_true rfl | omega) (rfl : _ = Value.int _ _)) ?_
             refine r_val (.some rfl rfl) rfl (p_eq rfl rfl) ?_
             refine r_val (.some rfl rfl) rfl (p_move rfl) ?_
             refine r_splitd (d := 31) rfl (fun h_10 => ?_) (fun h_10 => ?_)
             ·
              first
               | (exfalso; omega)
               | (
                refine r_skip rfl (.no rfl rfl) ?_
                refine r_skip rfl (.no rfl rfl) ?_
                refine r_skip rfl (.no rfl rfl) ?_
                refine r_skip rfl (.no rfl rfl) ?_
                refine r_skip rfl (.no rfl rfl) ?_
                refine r_val (.some rfl rfl) rfl (p_pick_t rfl rfl) ?_
                refine r_val .none rfl (p_pick_t rfl rfl) ?_
                refine r_val .none rfl (p_assign rfl) ?_
                refine r_nil ?_
                refine e_next ?_
                refine c_ret ?_
                refine e_ret1 Try.results78 (.tmp rfl .nil) (fun w hm => ⟨?_, hm.since⟩)
                (simp [hasK, *])
                )
             ·
              first
               | (exfalso; omega)
               | (
                refine r_val (.some rfl rfl) rfl (p_iaddr (k := 2) Try.underlying105 sz3 rfl rfl (by first | exact of_decide_eq_true rfl | omega)) ?_
                refine r_val (.some rfl rfl) rfl (p_ld (k := 0) Try.underlying3 rfl rfl rfl (by first | exact of_decide_eq_true rfl | omega) (rfl : _ = Value.int _ _)) ?_
                refine r_val (.some rfl rfl) rfl (p_iaddr (k := 2) Try.underlying105 sz3 rfl rfl (by first | exact of_decide_eq_true rfl | omega)) ?_
                refine r_val (.some rfl rfl) rfl (p_ld (k := 1) Try.underlying3 rfl rfl rfl (by first | exact of_decide_eq_true rfl | omega) (rfl : _ = Value.int _ _)) ?_
                refine r_val (.some rfl rfl) rfl (p_eq rfl rfl) ?_
                refine r_val (.some rfl rfl) rfl (p_pick_f rfl rfl) ?_
                refine r_val .none rfl (p_pick_t rfl rfl) ?_
                refine r_val .none rfl (p_assign rfl) ?_
                refine r_nil ?_
                refine e_next ?_
                refine c_ret ?_
                refine e_ret1 Try.results78 (.tmp rfl .nil) (fun w hm => ⟨?_, hm.since⟩)
                (simp [hasK, *])
                )
             )
          ·
           first
            | (exfalso; omega)
            | (
             refine r_skip rfl (.no rfl rfl) ?_
             refine r_skip rfl (.no rfl rfl) ?_
             refine r_skip rfl (.no rfl rfl) ?_
             refine r_skip rfl (.no rfl rfl) ?_
             refine r_skip rfl (.un rfl rfl) ?_
             refine r_skip rfl (.un rfl rfl) ?_
             refine r_skip rfl (.un rfl rfl) ?_
             refine r_skip rfl (.un rfl rfl) ?_
             refine r_skip rfl (.un rfl rfl) ?_
             refine r_skip rfl (.no rfl rfl) ?_
             refine r_val .none rfl (p_pick_f rfl rfl) ?_
             refine r_val .none rfl (p_assign rfl) ?_
             refine r_nil ?_
             refine e_next ?_
             refine c_ret ?_
             refine e_ret1 Try.results78 (.tmp rfl .nil) (fun w hm => ⟨?_, hm.since⟩)
             (simp [hasK, *])
             )
          )
       )
    ·
     first
      | (exfalso; omega)
      | (
       refine r_skip rfl (.no rfl rfl) ?_
       refine r_skip rfl (.no rfl rfl) ?_
       refine r_skip rfl (.no rfl rfl) ?_
       refine r_skip rfl (.no rfl rfl) ?_
       refine r_skip rfl (.un rfl rfl) ?_
       refine r_skip rfl (.un rfl rfl) ?_
       refine r_skip rfl (.un rfl rfl) ?_
       refine r_skip rfl (.un rfl rfl) ?_
       refine r_skip rfl (.un rfl rfl) ?_
       refine r_skip rfl (.no rfl rfl) ?_
       refine r_val .none rfl (p_pick_f rfl rfl) ?_
       refine r_val .none rfl (p_move rfl) ?_
       refine r_skip rfl (.no rfl rfl) ?_
       refine r_skip rfl (.no rfl rfl) ?_
       refine r_skip rfl (.no rfl rfl) ?_
       refine r_skip rfl (.no rfl rfl) ?_
       refine r_skip rfl (.un rfl rfl) ?_
       refine r_skip rfl (.un rfl rfl) ?_
       refine r_skip rfl (.un rfl rfl) ?_
       refine r_skip rfl (.un rfl rfl) ?_
       refine r_skip rfl (.un rfl rfl) ?_
       refine r_skip rfl (.no rfl rfl) ?_
       refine r_val .none rfl (p_pick_f rfl rfl) ?_
       refine r_val .none rfl (p_assign rfl) ?_
       refine r_nil ?_
       refine e_next ?_
       refine c_ret ?_
       refine e_ret1 Try.results78 (.tmp rfl .nil) (fun w hm => ⟨?_, hm.since⟩)
       (simp [hasK, *])
       )
    )
theorem c_rholds00 (b : Int) (vb : Value) (bs : List Tri) (t : Tri) {G : Ghost} (hb1 : -1 ≤ b) (hb : SlL G vb 3 triL z3 bs) (w : World) (hG : Has G w) :
  Calls Try.prog 79 #[Value.agg #[Value.int .i64 0, Value.int .i64 b, Value.int .i64 0], vb, kT t] w (Ret fun r w' => r = Value.bool (holdsT (0, b, 0) bs t) ∧ Since nX w w') := by
 refine enter (args := [_, _, _]) (X := nX) (G := G) (l := [(0, Value.agg #[Value.int .i64 0, Value.int .i64 b, Value.int .i64 0]), (1, vb), (2, kT t)]) Try.func79 rfl Try.ntmps79 hG ⟨rfl, rfl, rfl, trivial⟩ (Nat.le_of_ble_eq_true rfl) ?_
 refine c_seq ?_
 refine c_region ?_
 refine r_box .none rfl rfl (IsRow.lit _) (fun b_1 => ?_)
 refine r_box .none rfl rfl (IsRow.lit _) (fun b_2 => ?_)
 refine r_val .none rfl (p_assign rfl) ?_
 refine r_nil ?_
 refine e_next ?_
 refine c_seq ?_
 refine c_seq ?_
 refine c_region ?_
 refine r_val .none rfl (p_field Try.underlying140 rfl sz3 rfl) ?_
 refine r_val .none rfl (p_ld (k := 1) Try.underlying3 rfl rfl rfl (by first | exact of_decide_eq_true rfl | omega) (rfl : _ = Value.int _ _)) ?_
 refine r_val .none rfl (p_eq rfl rfl) ?_
 refine r_nil ?_
 refine e_next ?_
 refine c_splitd (d := 9) rfl (fun h_1 => ?_) (fun h_1 => ?_)
 ·
  first
   | (exfalso; omega)
   | (
    refine c_cond_t rfl ?_
    refine c_seq ?_
    refine c_region_q mixed (by kernel_rfl) ?_
    refine q_val .none rfl (p_field Try.underlying140 rfl sz3 rfl) ?_
    refine q_val .none rfl (p_ld (k := 1) Try.underlying3 rfl rfl rfl (by first | exact of_decide_eq_true rfl | omega) (rfl : _ = Value.int _ _)) ?_
    refine q_val .none rfl (p_iaddr (k := 0) Try.underlying105 sz3 rfl rfl (by first | exact of_decide_eq_true rfl | omega)) ?_
    refine q_val .none rfl (p_ld (k := 0) Try.underlying3 rfl rfl rfl (by first | exact of_decide_eq_true rfl | omega) (rfl : _ = Value.int _ _)) ?_
    refine q_val .none rfl (p_field Try.underlying140 rfl sz3 rfl) ?_
    refine q_val .none rfl (p_ld (k := 1) Try.underlying3 rfl rfl rfl (by first | exact of_decide_eq_true rfl | omega) (rfl : _ = Value.int _ _)) ?_
    refine q_val .none rfl (p_iaddr (k := 0) Try.underlying105 sz3 rfl rfl (by first | exact of_decide_eq_true rfl | omega)) ?_
    refine q_val .none rfl (p_ld (k := 0) Try.underlying3 rfl rfl rfl (by first | exact of_decide_eq_true rfl | omega) (rfl : _ = Value.int _ _)) ?_
    refine q_val .none rfl (p_eq rfl rfl) ?_
    refine q_val .none rfl (p_assign rfl) ?_
    refine q_nil ?_
    refine e_next ?_
    refine c_ret ?_
    refine e_ret_then ?_
    refine e_ret1 Try.results79 (.tmp rfl .nil) (fun w hm => ⟨?_, hm.since⟩)
    first
    | (rw [holds_out (by omega)]; done)
    | (rw [holds_back (by omega)]; rfl)
    | (rw [holds_own (by omega)]; rfl)
    )
 ·
  first
   | (exfalso; omega)
   | (
    refine c_cond_f rfl ?_
    refine c_skip ?_
    refine e_next ?_
    refine c_seq ?_
    refine c_seq ?_
    refine c_region ?_
    refine r_val .none rfl (p_field Try.underlying140 rfl sz3 rfl) ?_
    refine r_val .none rfl (p_ld (k := 1) Try.underlying3 rfl rfl rfl (by first | exact of_decide_eq_true rfl | omega) (rfl : _ = Value.int _ _)) ?_
    refine r_val .none rfl (p_lt rfl rfl) ?_
    refine r_val .none rfl (p_move rfl) ?_
    refine r_splitd (d := 22) rfl (fun h_2 => ?_) (fun h_2 => ?_)
    ·
     first
      | (exfalso; omega)
      | (
       refine r_skip rfl (.no rfl rfl) ?_
       refine r_skip rfl (.no rfl rfl) ?_
       refine r_skip rfl (.no rfl rfl) ?_
       refine r_skip rfl (.no rfl rfl) ?_
       refine r_skip rfl (.no rfl rfl) ?_
       refine r_val .none rfl (p_pick_t rfl rfl) ?_
       refine r_nil ?_
       refine e_next ?_
       refine c_cond_t rfl ?_
       refine c_seq ?_
       refine c_region ?_
       refine r_val .none rfl (p_assign rfl) ?_
       refine r_nil ?_
       refine e_next ?_
       refine c_ret ?_
       refine e_ret_then ?_
       refine e_ret1 Try.results79 (.tmp rfl .nil) (fun w hm => ⟨?_, hm.since⟩)
       first
       | (rw [holds_out (by omega)]; done)
       | (rw [holds_back (by omega)]; rfl)
       | (rw [holds_own (by omega)]; rfl)
       )
    ·
     first
      | (exfalso; omega)
      | (
       refine r_val (.some rfl rfl) rfl (p_field Try.underlying140 rfl sz3 rfl) ?_
       refine r_val (.some rfl rfl) rfl (p_ld (k := 1) Try.underlying3 rfl rfl rfl (by first | exact of_decide_eq_true rfl | omega) (rfl : _ = Value.int _ _)) ?_
       refine r_val (.some rfl rfl) rfl (p_move rfl) ?_
       refine r_val (.some rfl rfl) rfl (p_leng Try.underlying153 rfl hb) ?_
       have bd_3 := (hb).bound
       refine r_val (.some rfl rfl) rfl (p_ge rfl rfl) ?_
       refine r_val .none rfl (p_pick_f rfl rfl) ?_
       refine r_nil ?_
       refine e_next ?_
       refine c_splitd (d := 28) rfl (fun h_4 => ?_) (fun h_4 => ?_)
       ·
        first
         | (exfalso; omega)
         | (
          refine c_cond_t rfl ?_
          refine c_seq ?_
          refine c_region ?_
          refine r_val .none rfl (p_assign rfl) ?_
          refine r_nil ?_
          refine e_next ?_
          refine c_ret ?_
          refine e_ret_then ?_
          refine e_ret1 Try.results79 (.tmp rfl .nil) (fun w hm => ⟨?_, hm.since⟩)
          first
          | (rw [holds_out (by omega)]; done)
          | (rw [holds_back (by omega)]; rfl)
          | (rw [holds_own (by omega)]; rfl)
          )
       ·
        first
         | (exfalso; omega)
         | (
          refine c_cond_f rfl ?_
          refine c_skip ?_
          refine e_next ?_
          refine c_seq ?_
          refine c_region_q mixed (by kernel_rfl) ?_
          refine q_val .none rfl (p_field Try.underlying140 rfl sz3 rfl) ?_
          obtain ⟨bn, rfl⟩ : ∃ bn : Nat, b = (bn : Int) := ⟨b.toNat, by omega⟩
          refine q_val .none rfl (p_ld (k := 1) Try.underlying3 rfl rfl rfl (by first | exact of_decide_eq_true rfl | omega) (rfl : _ = Value.int _ _)) ?_
          refine q_val .none rfl (p_iaddr (k := 0) Try.underlying105 sz3 rfl rfl (by first | exact of_decide_eq_true rfl | omega)) ?_
          refine q_val .none rfl (p_ld (k := 0) Try.underlying3 rfl rfl rfl (by first | exact of_decide_eq_true rfl | omega) (rfl : _ = Value.int _ _)) ?_
          refine q_val .none rfl (p_move rfl) ?_
          refine q_val .none rfl (p_field Try.underlying140 rfl sz3 rfl) ?_
          refine q_val .none rfl (p_ld (k := 1) Try.underlying3 rfl rfl rfl (by first | exact of_decide_eq_true rfl | omega) (rfl : _ = Value.int _ _)) ?_
          refine q_val .none rfl (p_field Try.underlying140 rfl sz3 rfl) ?_
          refine q_val .none rfl (p_ld (k := 1) Try.underlying3 rfl rfl rfl (by first | exact of_decide_eq_true rfl | omega) (rfl : _ = Value.int _ _)) ?_
          refine q_iaddr_g .none rfl Try.underlying153 sz105 rfl hb rfl (by first | exact of_decide_eq_true rfl | omega) (fun p_6 o_7 R_5 => ?_)
          refine q_val .none rfl (p_iaddr (k := 0) Try.underlying105 sz3 rfl rfl (by first | exact of_decide_eq_true rfl | omega)) ?_
          have R_8 := RowAt.sub (j := 0 * 1) (m := 1) (RowAt.sub (j := 0) (m := 3) R_5 (by decide)) (by omega)
          refine q_val .none rfl (p_ldg0 Try.underlying3 rfl rfl R_8 (by first | exact of_decide_eq_true rfl | omega) (rfl : _ = Value.int _ _)) ?_
          refine q_val .none rfl (p_eq rfl rfl) ?_
          refine q_val .none rfl (p_assign rfl) ?_
          refine q_nil ?_
          refine e_next ?_
          refine c_ret ?_
          refine e_ret1 Try.results79 (.tmp rfl .nil) (fun w hm => ⟨?_, hm.since⟩)
          first
          | (rw [holds_out (by omega)]; done)
          | (rw [holds_back (by omega)]; rfl)
          | (rw [holds_own (by omega)]; rfl)
          )
       )
    )
theorem c_rholds01 (b : Int) (vb : Value) (bs : List Tri) (t : Tri) {G : Ghost} (hb1 : -1 ≤ b) (hb : SlL G vb 3 triL z3 bs) (w : World) (hG : Has G w) :
  Calls Try.prog 79 #[Value.agg #[Value.int .i64 0, Value.int .i64 b, Value.int .i64 1], vb, kT t] w (Ret fun r w' => r = Value.bool (holdsT (0, b, 1) bs t) ∧ Since nX w w') := by
 refine enter (args := [_, _, _]) (X := nX) (G := G) (l := [(0, Value.agg #[Value.int .i64 0, Value.int .i64 b, Value.int .i64 1]), (1, vb), (2, kT t)]) Try.func79 rfl Try.ntmps79 hG ⟨rfl, rfl, rfl, trivial⟩ (Nat.le_of_ble_eq_true rfl) ?_
 refine c_seq ?_
 refine c_region ?_
 refine r_box .none rfl rfl (IsRow.lit _) (fun b_1 => ?_)
 refine r_box .none rfl rfl (IsRow.lit _) (fun b_2 => ?_)
 refine r_val .none rfl (p_assign rfl) ?_
 refine r_nil ?_
 refine e_next ?_
 refine c_seq ?_
 refine c_seq ?_
 refine c_region ?_
 refine r_val .none rfl (p_field Try.underlying140 rfl sz3 rfl) ?_
 refine r_val .none rfl (p_ld (k := 1) Try.underlying3 rfl rfl rfl (by first | exact of_decide_eq_true rfl | omega) (rfl : _ = Value.int _ _)) ?_
 refine r_val .none rfl (p_eq rfl rfl) ?_
 refine r_nil ?_
 refine e_next ?_
 refine c_splitd (d := 9) rfl (fun h_1 => ?_) (fun h_1 => ?_)
 ·
  first
   | (exfalso; omega)
   | (
    refine c_cond_t rfl ?_
    refine c_seq ?_
    refine c_region_q mixed (by kernel_rfl) ?_
    refine q_val .none rfl (p_field Try.underlying140 rfl sz3 rfl) ?_
    refine q_val .none rfl (p_ld (k := 1) Try.underlying3 rfl rfl rfl (by first | exact of_decide_eq_true rfl | omega) (rfl : _ = Value.int _ _)) ?_
    refine q_val .none rfl (p_iaddr (k := 0) Try.underlying105 sz3 rfl rfl (by first | exact of_decide_eq_true rfl | omega)) ?_
    refine q_val .none rfl (p_ld (k := 0) Try.underlying3 rfl rfl rfl (by first | exact of_decide_eq_true rfl | omega) (rfl : _ = Value.int _ _)) ?_
    refine q_val .none rfl (p_field Try.underlying140 rfl sz3 rfl) ?_
    refine q_val .none rfl (p_ld (k := 1) Try.underlying3 rfl rfl rfl (by first | exact of_decide_eq_true rfl | omega) (rfl : _ = Value.int _ _)) ?_
    refine q_val .none rfl (p_iaddr (k := 1) Try.underlying105 sz3 rfl rfl (by first | exact of_decide_eq_true rfl | omega)) ?_
    refine q_val .none rfl (p_ld (k := 0) Try.underlying3 rfl rfl rfl (by first | exact of_decide_eq_true rfl | omega) (rfl : _ = Value.int _ _)) ?_
    refine q_val .none rfl (p_eq rfl rfl) ?_
    refine q_val .none rfl (p_assign rfl) ?_
    refine q_nil ?_
    refine e_next ?_
    refine c_ret ?_
    refine e_ret_then ?_
    refine e_ret1 Try.results79 (.tmp rfl .nil) (fun w hm => ⟨?_, hm.since⟩)
    first
    | (rw [holds_out (by omega)]; done)
    | (rw [holds_back (by omega)]; rfl)
    | (rw [holds_own (by omega)]; rfl)
    )
 ·
  first
   | (exfalso; omega)
   | (
    refine c_cond_f rfl ?_
    refine c_skip ?_
    refine e_next ?_
    refine c_seq ?_
    refine c_seq ?_
    refine c_region ?_
    refine r_val .none rfl (p_field Try.underlying140 rfl sz3 rfl) ?_
    refine r_val .none rfl (p_ld (k := 1) Try.underlying3 rfl rfl rfl (by first | exact of_decide_eq_true rfl | omega) (rfl : _ = Value.int _ _)) ?_
    refine r_val .none rfl (p_lt rfl rfl) ?_
    refine r_val .none rfl (p_move rfl) ?_
    refine r_splitd (d := 22) rfl (fun h_2 => ?_) (fun h_2 => ?_)
    ·
     first
      | (exfalso; omega)
      | (
       refine r_skip rfl (.no rfl rfl) ?_
       refine r_skip rfl (.no rfl rfl) ?_
       refine r_skip rfl (.no rfl rfl) ?_
       refine r_skip rfl (.no rfl rfl) ?_
       refine r_skip rfl (.no rfl rfl) ?_
       refine r_val .none rfl (p_pick_t rfl rfl) ?_
       refine r_nil ?_
       refine e_next ?_
       refine c_cond_t rfl ?_
       refine c_seq ?_
       refine c_region ?_
       refine r_val .none rfl (p_assign rfl) ?_
       refine r_nil ?_
       refine e_next ?_
       refine c_ret ?_
       refine e_ret_then ?_
       refine e_ret1 Try.results79 (.tmp rfl .nil) (fun w hm => ⟨?_, hm.since⟩)
       first
       | (rw [holds_out (by omega)]; done)
       | (rw [holds_back (by omega)]; rfl)
       | (rw [holds_own (by omega)]; rfl)
       )
    ·
     first
      | (exfalso; omega)
      | (
       refine r_val (.some rfl rfl) rfl (p_field Try.underlying140 rfl sz3 rfl) ?_
       refine r_val (.some rfl rfl) rfl (p_ld (k := 1) Try.underlying3 rfl rfl rfl (by first | exact of_decide_eq_true rfl | omega) (rfl : _ = Value.int _ _)) ?_
       refine r_val (.some rfl rfl) rfl (p_move rfl) ?_
       refine r_val (.some rfl rfl) rfl (p_leng Try.underlying153 rfl hb) ?_
       have bd_3 := (hb).bound
       refine r_val (.some rfl rfl) rfl (p_ge rfl rfl) ?_
       refine r_val .none rfl (p_pick_f rfl rfl) ?_
       refine r_nil ?_
       refine e_next ?_
       refine c_splitd (d := 28) rfl (fun h_4 => ?_) (fun h_4 => ?_)
       ·
        first
         | (exfalso; omega)
         | (
          refine c_cond_t rfl ?_
          refine c_seq ?_
          refine c_region ?_
          refine r_val .none rfl (p_assign rfl) ?_
          refine r_nil ?_
          refine e_next ?_
          refine c_ret ?_
          refine e_ret_then ?_
          refine e_ret1 Try.results79 (.tmp rfl .nil) (fun w hm => ⟨?_, hm.since⟩)
          first
          | (rw [holds_out (by omega)]; done)
          | (rw [holds_back (by omega)]; rfl)
          | (rw [holds_own (by omega)]; rfl)
          )
       ·
        first
         | (exfalso; omega)
         | (
          refine c_cond_f rfl ?_
          refine c_skip ?_
          refine e_next ?_
          refine c_seq ?_
          refine c_region_q mixed (by kernel_rfl) ?_
          refine q_val .none rfl (p_field Try.underlying140 rfl sz3 rfl) ?_
          obtain ⟨bn, rfl⟩ : ∃ bn : Nat, b = (bn : Int) := ⟨b.toNat, by omega⟩
          refine q_val .none rfl (p_ld (k := 1) Try.underlying3 rfl rfl rfl (by first | exact of_decide_eq_true rfl | omega) (rfl : _ = Value.int _ _)) ?_
          refine q_val .none rfl (p_iaddr (k := 0) Try.underlying105 sz3 rfl rfl (by first | exact of_decide_eq_true rfl | omega)) ?_
          refine q_val .none rfl (p_ld (k := 0) Try.underlying3 rfl rfl rfl (by first | exact of_decide_eq_true rfl | omega) (rfl : _ = Value.int _ _)) ?_
          refine q_val .none rfl (p_move rfl) ?_
          refine q_val .none rfl (p_field Try.underlying140 rfl sz3 rfl) ?_
          refine q_val .none rfl (p_ld (k := 1) Try.underlying3 rfl rfl rfl (by first | exact of_decide_eq_true rfl | omega) (rfl : _ = Value.int _ _)) ?_
          refine q_val .none rfl (p_field Try.underlying140 rfl sz3 rfl) ?_
          refine q_val .none rfl (p_ld (k := 1) Try.underlying3 rfl rfl rfl (by first | exact of_decide_eq_true rfl | omega) (rfl : _ = Value.int _ _)) ?_
          refine q_iaddr_g .none rfl Try.underlying153 sz105 rfl hb rfl (by first | exact of_decide_eq_true rfl | omega) (fun p_6 o_7 R_5 => ?_)
          refine q_val .none rfl (p_iaddr (k := 1) Try.underlying105 sz3 rfl rfl (by first | exact of_decide_eq_true rfl | omega)) ?_
          have R_8 := RowAt.sub (j := 1 * 1) (m := 1) (RowAt.sub (j := 0) (m := 3) R_5 (by decide)) (by omega)
          refine q_val .none rfl (p_ldg0 Try.underlying3 rfl rfl R_8 (by first | exact of_decide_eq_true rfl | omega) (rfl : _ = Value.int _ _)) ?_
          refine q_val .none rfl (p_eq rfl rfl) ?_
          refine q_val .none rfl (p_assign rfl) ?_
          refine q_nil ?_
          refine e_next ?_
          refine c_ret ?_
          refine e_ret1 Try.results79 (.tmp rfl .nil) (fun w hm => ⟨?_, hm.since⟩)
          first
          | (rw [holds_out (by omega)]; done)
          | (rw [holds_back (by omega)]; rfl)
          | (rw [holds_own (by omega)]; rfl)
          )
       )
    )
theorem c_rholds02 (b : Int) (vb : Value) (bs : List Tri) (t : Tri) {G : Ghost} (hb1 : -1 ≤ b) (hb : SlL G vb 3 triL z3 bs) (w : World) (hG : Has G w) :
  Calls Try.prog 79 #[Value.agg #[Value.int .i64 0, Value.int .i64 b, Value.int .i64 2], vb, kT t] w (Ret fun r w' => r = Value.bool (holdsT (0, b, 2) bs t) ∧ Since nX w w') := by
 refine enter (args := [_, _, _]) (X := nX) (G := G) (l := [(0, Value.agg #[Value.int .i64 0, Value.int .i64 b, Value.int .i64 2]), (1, vb), (2, kT t)]) Try.func79 rfl Try.ntmps79 hG ⟨rfl, rfl, rfl, trivial⟩ (Nat.le_of_ble_eq_true rfl) ?_
 refine c_seq ?_
 refine c_region ?_
 refine r_box .none rfl rfl (IsRow.lit _) (fun b_1 => ?_)
 refine r_box .none rfl rfl (IsRow.lit _) (fun b_2 => ?_)
 refine r_val .none rfl (p_assign rfl) ?_
 refine r_nil ?_
 refine e_next ?_
 refine c_seq ?_
 refine c_seq ?_
 refine c_region ?_
 refine r_val .none rfl (p_field Try.underlying140 rfl sz3 rfl) ?_
 refine r_val .none rfl (p_ld (k := 1) Try.underlying3 rfl rfl rfl (by first | exact of_decide_eq_true rfl | omega) (rfl : _ = Value.int _ _)) ?_
 refine r_val .none rfl (p_eq rfl rfl) ?_
 refine r_nil ?_
 refine e_next ?_
 refine c_splitd (d := 9) rfl (fun h_1 => ?_) (fun h_1 => ?_)
 ·
  first
   | (exfalso; omega)
   | (
    refine c_cond_t rfl ?_
    refine c_seq ?_
    refine c_region_q mixed (by kernel_rfl) ?_
    refine q_val .none rfl (p_field Try.underlying140 rfl sz3 rfl) ?_
    refine q_val .none rfl (p_ld (k := 1) Try.underlying3 rfl rfl rfl (by first | exact of_decide_eq_true rfl | omega) (rfl : _ = Value.int _ _)) ?_
    refine q_val .none rfl (p_iaddr (k := 0) Try.underlying105 sz3 rfl rfl (by first | exact of_decide_eq_true rfl | omega)) ?_
    refine q_val .none rfl (p_ld (k := 0) Try.underlying3 rfl rfl rfl (by first | exact of_decide_eq_true rfl | omega) (rfl : _ = Value.int _ _)) ?_
    refine q_val .none rfl (p_field Try.underlying140 rfl sz3 rfl) ?_
    refine q_val .none rfl (p_ld (k := 1) Try.underlying3 rfl rfl rfl (by first | exact of_decide_eq_true rfl | omega) (rfl : _ = Value.int _ _)) ?_
    refine q_val .none rfl (p_iaddr (k := 2) Try.underlying105 sz3 rfl rfl (by first | exact of_decide_eq_true rfl | omega)) ?_
    refine q_val .none rfl (p_ld (k := 0) Try.underlying3 rfl rfl rfl (by first | exact of_decide_eq_true rfl | omega) (rfl : _ = Value.int _ _)) ?_
    refine q_val .none rfl (p_eq rfl rfl) ?_
    refine q_val .none rfl (p_assign rfl) ?_
    refine q_nil ?_
    refine e_next ?_
    refine c_ret ?_
    refine e_ret_then ?_
    refine e_ret1 Try.results79 (.tmp rfl .nil) (fun w hm => ⟨?_, hm.since⟩)
    first
    | (rw [holds_out (by omega)]; done)
    | (rw [holds_back (by omega)]; rfl)
    | (rw [holds_own (by omega)]; rfl)
    )
 ·
  first
   | (exfalso; omega)
   | (
    refine c_cond_f rfl ?_
    refine c_skip ?_
    refine e_next ?_
    refine c_seq ?_
    refine c_seq ?_
    refine c_region ?_
    refine r_val .none rfl (p_field Try.underlying140 rfl sz3 rfl) ?_
    refine r_val .none rfl (p_ld (k := 1) Try.underlying3 rfl rfl rfl (by first | exact of_decide_eq_true rfl | omega) (rfl : _ = Value.int _ _)) ?_
    refine r_val .none rfl (p_lt rfl rfl) ?_
    refine r_val .none rfl (p_move rfl) ?_
    refine r_splitd (d := 22) rfl (fun h_2 => ?_) (fun h_2 => ?_)
    ·
     first
      | (exfalso; omega)
      | (
       refine r_skip rfl (.no rfl rfl) ?_
       refine r_skip rfl (.no rfl rfl) ?_
       refine r_skip rfl (.no rfl rfl) ?_
       refine r_skip rfl (.no rfl rfl) ?_
       refine r_skip rfl (.no rfl rfl) ?_
       refine r_val .none rfl (p_pick_t rfl rfl) ?_
       refine r_nil ?_
       refine e_next ?_
       refine c_cond_t rfl ?_
       refine c_seq ?_
       refine c_region ?_
       refine r_val .none rfl (p_assign rfl) ?_
       refine r_nil ?_
       refine e_next ?_
       refine c_ret ?_
       refine e_ret_then ?_
       refine e_ret1 Try.results79 (.tmp rfl .nil) (fun w hm => ⟨?_, hm.since⟩)
       first
       | (rw [holds_out (by omega)]; done)
       | (rw [holds_back (by omega)]; rfl)
       | (rw [holds_own (by omega)]; rfl)
       )
    ·
     first
      | (exfalso; omega)
      | (
       refine r_val (.some rfl rfl) rfl (p_field Try.underlying140 rfl sz3 rfl) ?_
       refine r_val (.some rfl rfl) rfl (p_ld (k := 1) Try.underlying3 rfl rfl rfl (by first | exact of_decide_eq_true rfl | omega) (rfl : _ = Value.int _ _)) ?_
       refine r_val (.some rfl rfl) rfl (p_move rfl) ?_
       refine r_val (.some rfl rfl) rfl (p_leng Try.underlying153 rfl hb) ?_
       have bd_3 := (hb).bound
       refine r_val (.some rfl rfl) rfl (p_ge rfl rfl) ?_
       refine r_val .none rfl (p_pick_f rfl rfl) ?_
       refine r_nil ?_
       refine e_next ?_
       refine c_splitd (d := 28) rfl (fun h_4 => ?_) (fun h_4 => ?_)
       ·
        first
         | (exfalso; omega)
         | (
          refine c_cond_t rfl ?_
          refine c_seq ?_
          refine c_region ?_
          refine r_val .none rfl (p_assign rfl) ?_
          refine r_nil ?_
          refine e_next ?_
          refine c_ret ?_
          refine e_ret_then ?_
          refine e_ret1 Try.results79 (.tmp rfl .nil) (fun w hm => ⟨?_, hm.since⟩)
          first
          | (rw [holds_out (by omega)]; done)
          | (rw [holds_back (by omega)]; rfl)
          | (rw [holds_own (by omega)]; rfl)
          )
       ·
        first
         | (exfalso; omega)
         | (
          refine c_cond_f rfl ?_
          refine c_skip ?_
          refine e_next ?_
          refine c_seq ?_
          refine c_region_q mixed (by kernel_rfl) ?_
          refine q_val .none rfl (p_field Try.underlying140 rfl sz3 rfl) ?_
          obtain ⟨bn, rfl⟩ : ∃ bn : Nat, b = (bn : Int) := ⟨b.toNat, by omega⟩
          refine q_val .none rfl (p_ld (k := 1) Try.underlying3 rfl rfl rfl (by first | exact of_decide_eq_true rfl | omega) (rfl : _ = Value.int _ _)) ?_
          refine q_val .none rfl (p_iaddr (k := 0) Try.underlying105 sz3 rfl rfl (by first | exact of_decide_eq_true rfl | omega)) ?_
          refine q_val .none rfl (p_ld (k := 0) Try.underlying3 rfl rfl rfl (by first | exact of_decide_eq_true rfl | omega) (rfl : _ = Value.int _ _)) ?_
          refine q_val .none rfl (p_move rfl) ?_
          refine q_val .none rfl (p_field Try.underlying140 rfl sz3 rfl) ?_
          refine q_val .none rfl (p_ld (k := 1) Try.underlying3 rfl rfl rfl (by first | exact of_decide_eq_true rfl | omega) (rfl : _ = Value.int _ _)) ?_
          refine q_val .none rfl (p_field Try.underlying140 rfl sz3 rfl) ?_
          refine q_val .none rfl (p_ld (k := 1) Try.underlying3 rfl rfl rfl (by first | exact of_decide_eq_true rfl | omega) (rfl : _ = Value.int _ _)) ?_
          refine q_iaddr_g .none rfl Try.underlying153 sz105 rfl hb rfl (by first | exact of_decide_eq_true rfl | omega) (fun p_6 o_7 R_5 => ?_)
          refine q_val .none rfl (p_iaddr (k := 2) Try.underlying105 sz3 rfl rfl (by first | exact of_decide_eq_true rfl | omega)) ?_
          have R_8 := RowAt.sub (j := 2 * 1) (m := 1) (RowAt.sub (j := 0) (m := 3) R_5 (by decide)) (by omega)
          refine q_val .none rfl (p_ldg0 Try.underlying3 rfl rfl R_8 (by first | exact of_decide_eq_true rfl | omega) (rfl : _ = Value.int _ _)) ?_
          refine q_val .none rfl (p_eq rfl rfl) ?_
          refine q_val .none rfl (p_assign rfl) ?_
          refine q_nil ?_
          refine e_next ?_
          refine c_ret ?_
          refine e_ret1 Try.results79 (.tmp rfl .nil) (fun w hm => ⟨?_, hm.since⟩)
          first
          | (rw [holds_out (by omega)]; done)
          | (rw [holds_back (by omega)]; rfl)
          | (rw [holds_own (by omega)]; rfl)
          )
       )
    )
theorem c_rholds10 (b : Int) (vb : Value) (bs : List Tri) (t : Tri) {G : Ghost} (hb1 : -1 ≤ b) (hb : SlL G vb 3 triL z3 bs) (w : World) (hG : Has G w) :
  Calls Try.prog 79 #[Value.agg #[Value.int .i64 1, Value.int .i64 b, Value.int .i64 0], vb, kT t] w (Ret fun r w' => r = Value.bool (holdsT (1, b, 0) bs t) ∧ Since nX w w') := by
 refine enter (args := [_, _, _]) (X := nX) (G := G) (l := [(0, Value.agg #[Value.int .i64 1, Value.int .i64 b, Value.int .i64 0]), (1, vb), (2, kT t)]) Try.func79 rfl Try.ntmps79 hG ⟨rfl, rfl, rfl, trivial⟩ (Nat.le_of_ble_eq_true rfl) ?_
 refine c_seq ?_
 refine c_region ?_
 refine r_box .none rfl rfl (IsRow.lit _) (fun b_1 => ?_)
 refine r_box .none rfl rfl (IsRow.lit _) (fun b_2 => ?_)
 refine r_val .none rfl (p_assign rfl) ?_
 refine r_nil ?_
 refine e_next ?_
 refine c_seq ?_
 refine c_seq ?_
 refine c_region ?_
 refine r_val .none rfl (p_field Try.underlying140 rfl sz3 rfl) ?_
 refine r_val .none rfl (p_ld (k := 1) Try.underlying3 rfl rfl rfl (by first | exact of_decide_eq_true rfl | omega) (rfl : _ = Value.int _ _)) ?_
 refine r_val .none rfl (p_eq rfl rfl) ?_
 refine r_nil ?_
 refine e_next ?_
 refine c_splitd (d := 9) rfl (fun h_1 => ?_) (fun h_1 => ?_)
 ·
  first
   | (exfalso; omega)
   | (
    refine c_cond_t rfl ?_
    refine c_seq ?_
    refine c_region_q mixed (by kernel_rfl) ?_
    refine q_val .none rfl (p_field Try.underlying140 rfl sz3 rfl) ?_
    refine q_val .none rfl (p_ld (k := 1) Try.underlying3 rfl rfl rfl (by first | exact of_decide_eq_true rfl | omega) (rfl : _ = Value.int _ _)) ?_
    refine q_val .none rfl (p_iaddr (k := 1) Try.underlying105 sz3 rfl rfl (by first | exact of_decide_eq_true rfl | omega)) ?_
    refine q_val .none rfl (p_ld (k := 0) Try.underlying3 rfl rfl rfl (by first | exact of_decide_eq_true rfl | omega) (rfl : _ = Value.int _ _)) ?_
    refine q_val .none rfl (p_field Try.underlying140 rfl sz3 rfl) ?_
    refine q_val .none rfl (p_ld (k := 1) Try.underlying3 rfl rfl rfl (by first | exact of_decide_eq_true rfl | omega) (rfl : _ = Value.int _ _)) ?_
    refine q_val .none rfl (p_iaddr (k := 0) Try.underlying105 sz3 rfl rfl (by first | exact of_decide_eq_true rfl | omega)) ?_
    refine q_val .none rfl (p_ld (k := 0) Try.underlying3 rfl rfl rfl (by first | exact of_decide_eq_true rfl | omega) (rfl : _ = Value.int _ _)) ?_
    refine q_val .none rfl (p_eq rfl rfl) ?_
    refine q_val .none rfl (p_assign rfl) ?_
    refine q_nil ?_
    refine e_next ?_
    refine c_ret ?_
    refine e_ret_then ?_
    refine e_ret1 Try.results79 (.tmp rfl .nil) (fun w hm => ⟨?_, hm.since⟩)
    first
    | (rw [holds_out (by omega)]; done)
    | (rw [holds_back (by omega)]; rfl)
    | (rw [holds_own (by omega)]; rfl)
    )
 ·
  first
   | (exfalso; omega)
   | (
    refine c_cond_f rfl ?_
    refine c_skip ?_
    refine e_next ?_
    refine c_seq ?_
    refine c_seq ?_
    refine c_region ?_
    refine r_val .none rfl (p_field Try.underlying140 rfl sz3 rfl) ?_
    refine r_val .none rfl (p_ld (k := 1) Try.underlying3 rfl rfl rfl (by first | exact of_decide_eq_true rfl | omega) (rfl : _ = Value.int _ _)) ?_
    refine r_val .none rfl (p_lt rfl rfl) ?_
    refine r_val .none rfl (p_move rfl) ?_
    refine r_splitd (d := 22) rfl (fun h_2 => ?_) (fun h_2 => ?_)
    ·
     first
      | (exfalso; omega)
      | (
       refine r_skip rfl (.no rfl rfl) ?_
       refine r_skip rfl (.no rfl rfl) ?_
       refine r_skip rfl (.no rfl rfl) ?_
       refine r_skip rfl (.no rfl rfl) ?_
       refine r_skip rfl (.no rfl rfl) ?_
       refine r_val .none rfl (p_pick_t rfl rfl) ?_
       refine r_nil ?_
       refine e_next ?_
       refine c_cond_t rfl ?_
       refine c_seq ?_
       refine c_region ?_
       refine r_val .none rfl (p_assign rfl) ?_
       refine r_nil ?_
       refine e_next ?_
       refine c_ret ?_
       refine e_ret_then ?_
       refine e_ret1 Try.results79 (.tmp rfl .nil) (fun w hm => ⟨?_, hm.since⟩)
       first
       | (rw [holds_out (by omega)]; done)
       | (rw [holds_back (by omega)]; rfl)
       | (rw [holds_own (by omega)]; rfl)
       )
    ·
     first
      | (exfalso; omega)
      | (
       refine r_val (.some rfl rfl) rfl (p_field Try.underlying140 rfl sz3 rfl) ?_
       refine r_val (.some rfl rfl) rfl (p_ld (k := 1) Try.underlying3 rfl rfl rfl (by first | exact of_decide_eq_true rfl | omega) (rfl : _ = Value.int _ _)) ?_
       refine r_val (.some rfl rfl) rfl (p_move rfl) ?_
       refine r_val (.some rfl rfl) rfl (p_leng Try.underlying153 rfl hb) ?_
       have bd_3 := (hb).bound
       refine r_val (.some rfl rfl) rfl (p_ge rfl rfl) ?_
       refine r_val .none rfl (p_pick_f rfl rfl) ?_
       refine r_nil ?_
       refine e_next ?_
       refine c_splitd (d := 28) rfl (fun h_4 => ?_) (fun h_4 => ?_)
       ·
        first
         | (exfalso; omega)
         | (
          refine c_cond_t rfl ?_
          refine c_seq ?_
          refine c_region ?_
          refine r_val .none rfl (p_assign rfl) ?_
          refine r_nil ?_
          refine e_next ?_
          refine c_ret ?_
          refine e_ret_then ?_
          refine e_ret1 Try.results79 (.tmp rfl .nil) (fun w hm => ⟨?_, hm.since⟩)
          first
          | (rw [holds_out (by omega)]; done)
          | (rw [holds_back (by omega)]; rfl)
          | (rw [holds_own (by omega)]; rfl)
          )
       ·
        first
         | (exfalso; omega)
         | (
          refine c_cond_f rfl ?_
          refine c_skip ?_
          refine e_next ?_
          refine c_seq ?_
          refine c_region_q mixed (by kernel_rfl) ?_
          refine q_val .none rfl (p_field Try.underlying140 rfl sz3 rfl) ?_
          obtain ⟨bn, rfl⟩ : ∃ bn : Nat, b = (bn : Int) := ⟨b.toNat, by omega⟩
          refine q_val .none rfl (p_ld (k := 1) Try.underlying3 rfl rfl rfl (by first | exact of_decide_eq_true rfl | omega) (rfl : _ = Value.int _ _)) ?_
          refine q_val .none rfl (p_iaddr (k := 1) Try.underlying105 sz3 rfl rfl (by first | exact of_decide_eq_true rfl | omega)) ?_
          refine q_val .none rfl (p_ld (k := 0) Try.underlying3 rfl rfl rfl (by first | exact of_decide_eq_true rfl | omega) (rfl : _ = Value.int _ _)) ?_
          refine q_val .none rfl (p_move rfl) ?_
          refine q_val .none rfl (p_field Try.underlying140 rfl sz3 rfl) ?_
          refine q_val .none rfl (p_ld (k := 1) Try.underlying3 rfl rfl rfl (by first | exact of_decide_eq_true rfl | omega) (rfl : _ = Value.int _ _)) ?_
          refine q_val .none rfl (p_field Try.underlying140 rfl sz3 rfl) ?_
          refine q_val .none rfl (p_ld (k := 1) Try.underlying3 rfl rfl rfl (by first | exact of_decide_eq_true rfl | omega) (rfl : _ = Value.int _ _)) ?_
          refine q_iaddr_g .none rfl Try.underlying153 sz105 rfl hb rfl (by first | exact of_decide_eq_true rfl | omega) (fun p_6 o_7 R_5 => ?_)
          refine q_val .none rfl (p_iaddr (k := 0) Try.underlying105 sz3 rfl rfl (by first | exact of_decide_eq_true rfl | omega)) ?_
          have R_8 := RowAt.sub (j := 0 * 1) (m := 1) (RowAt.sub (j := 0) (m := 3) R_5 (by decide)) (by omega)
          refine q_val .none rfl (p_ldg0 Try.underlying3 rfl rfl R_8 (by first | exact of_decide_eq_true rfl | omega) (rfl : _ = Value.int _ _)) ?_
          refine q_val .none rfl (p_eq rfl rfl) ?_
          refine q_val .none rfl (p_assign rfl) ?_
          refine q_nil ?_
          refine e_next ?_
          refine c_ret ?_
          refine e_ret1 Try.results79 (.tmp rfl .nil) (fun w hm => ⟨?_, hm.since⟩)
          first
          | (rw [holds_out (by omega)]; done)
          | (rw [holds_back (by omega)]; rfl)
          | (rw [holds_own (by omega)]; rfl)
          )
       )
    )
theorem c_rholds11 (b : Int) (vb : Value) (bs : List Tri) (t : Tri) {G : Ghost} (hb1 : -1 ≤ b) (hb : SlL G vb 3 triL z3 bs) (w : World) (hG : Has G w) :
  Calls Try.prog 79 #[Value.agg #[Value.int .i64 1, Value.int .i64 b, Value.int .i64 1], vb, kT t] w (Ret fun r w' => r = Value.bool (holdsT (1, b, 1) bs t) ∧ Since nX w w') := by
 refine enter (args := [_, _, _]) (X := nX) (G := G) (l := [(0, Value.agg #[Value.int .i64 1, Value.int .i64 b, Value.int .i64 1]), (1, vb), (2, kT t)]) Try.func79 rfl Try.ntmps79 hG ⟨rfl, rfl, rfl, trivial⟩ (Nat.le_of_ble_eq_true rfl) ?_
 refine c_seq ?_
 refine c_region ?_
 refine r_box .none rfl rfl (IsRow.lit _) (fun b_1 => ?_)
 refine r_box .none rfl rfl (IsRow.lit _) (fun b_2 => ?_)
 refine r_val .none rfl (p_assign rfl) ?_
 refine r_nil ?_
 refine e_next ?_
 refine c_seq ?_
 refine c_seq ?_
 refine c_region ?_
 refine r_val .none rfl (p_field Try.underlying140 rfl sz3 rfl) ?_
 refine r_val .none rfl (p_ld (k := 1) Try.underlying3 rfl rfl rfl (by first | exact of_decide_eq_true rfl | omega) (rfl : _ = Value.int _ _)) ?_
 refine r_val .none rfl (p_eq rfl rfl) ?_
 refine r_nil ?_
 refine e_next ?_
 refine c_splitd (d := 9) rfl (fun h_1 => ?_) (fun h_1 => ?_)
 ·
  first
   | (exfalso; omega)
   | (
    refine c_cond_t rfl ?_
    refine c_seq ?_
    refine c_region_q mixed (by kernel_rfl) ?_
    refine q_val .none rfl (p_field Try.underlying140 rfl sz3 rfl) ?_
    refine q_val .none rfl (p_ld (k := 1) Try.underlying3 rfl rfl rfl (by first | exact of_decide_eq_true rfl | omega) (rfl : _ = Value.int _ _)) ?_
    refine q_val .none rfl (p_iaddr (k := 1) Try.underlying105 sz3 rfl rfl (by first | exact of_decide_eq_true rfl | omega)) ?_
    refine q_val .none rfl (p_ld (k := 0) Try.underlying3 rfl rfl rfl (by first | exact of_decide_eq_true rfl | omega) (rfl : _ = Value.int _ _)) ?_
    refine q_val .none rfl (p_field Try.underlying140 rfl sz3 rfl) ?_
    refine q_val .none rfl (p_ld (k := 1) Try.underlying3 rfl rfl rfl (by first | exact of_decide_eq_true rfl | omega) (rfl : _ = Value.int _ _)) ?_
    refine q_val .none rfl (p_iaddr (k := 1) Try.underlying105 sz3 rfl rfl (by first | exact of_decide_eq_true rfl | omega)) ?_
    refine q_val .none rfl (p_ld (k := 0) Try.underlying3 rfl rfl rfl (by first | exact of_decide_eq_true rfl | omega) (rfl : _ = Value.int _ _)) ?_
    refine q_val .none rfl (p_eq rfl rfl) ?_
    refine q_val .none rfl (p_assign rfl) ?_
    refine q_nil ?_
    refine e_next ?_
    refine c_ret ?_
    refine e_ret_then ?_
    refine e_ret1 Try.results79 (.tmp rfl .nil) (fun w hm => ⟨?_, hm.since⟩)
    first
    | (rw [holds_out (by omega)]; done)
    | (rw [holds_back (by omega)]; rfl)
    | (rw [holds_own (by omega)]; rfl)
    )
 ·
  first
   | (exfalso; omega)
   | (
    refine c_cond_f rfl ?_
    refine c_skip ?_
    refine e_next ?_
    refine c_seq ?_
    refine c_seq ?_
    refine c_region ?_
    refine r_val .none rfl (p_field Try.underlying140 rfl sz3 rfl) ?_
    refine r_val .none rfl (p_ld (k := 1) Try.underlying3 rfl rfl rfl (by first | exact of_decide_eq_true rfl | omega) (rfl : _ = Value.int _ _)) ?_
    refine r_val .none rfl (p_lt rfl rfl) ?_
    refine r_val .none rfl (p_move rfl) ?_
    refine r_splitd (d := 22) rfl (fun h_2 => ?_) (fun h_2 => ?_)
    ·
     first
      | (exfalso; omega)
      | (
       refine r_skip rfl (.no rfl rfl) ?_
       refine r_skip rfl (.no rfl rfl) ?_
       refine r_skip rfl (.no rfl rfl) ?_
       refine r_skip rfl (.no rfl rfl) ?_
       refine r_skip rfl (.no rfl rfl) ?_
       refine r_val .none rfl (p_pick_t rfl rfl) ?_
       refine r_nil ?_
       refine e_next ?_
       refine c_cond_t rfl ?_
       refine c_seq ?_
       refine c_region ?_
       refine r_val .none rfl (p_assign rfl) ?_
       refine r_nil ?_
       refine e_next ?_
       refine c_ret ?_
       refine e_ret_then ?_
       refine e_ret1 Try.results79 (.tmp rfl .nil) (fun w hm => ⟨?_, hm.since⟩)
       first
       | (rw [holds_out (by omega)]; done)
       | (rw [holds_back (by omega)]; rfl)
       | (rw [holds_own (by omega)]; rfl)
       )
    ·
     first
      | (exfalso; omega)
      | (
       refine r_val (.some rfl rfl) rfl (p_field Try.underlying140 rfl sz3 rfl) ?_
       refine r_val (.some rfl rfl) rfl (p_ld (k := 1) Try.underlying3 rfl rfl rfl (by first | exact of_decide_eq_true rfl | omega) (rfl : _ = Value.int _ _)) ?_
       refine r_val (.some rfl rfl) rfl (p_move rfl) ?_
       refine r_val (.some rfl rfl) rfl (p_leng Try.underlying153 rfl hb) ?_
       have bd_3 := (hb).bound
       refine r_val (.some rfl rfl) rfl (p_ge rfl rfl) ?_
       refine r_val .none rfl (p_pick_f rfl rfl) ?_
       refine r_nil ?_
       refine e_next ?_
       refine c_splitd (d := 28) rfl (fun h_4 => ?_) (fun h_4 => ?_)
       ·
        first
         | (exfalso; omega)
         | (
          refine c_cond_t rfl ?_
          refine c_seq ?_
          refine c_region ?_
          refine r_val .none rfl (p_assign rfl) ?_
          refine r_nil ?_
          refine e_next ?_
          refine c_ret ?_
          refine e_ret_then ?_
          refine e_ret1 Try.results79 (.tmp rfl .nil) (fun w hm => ⟨?_, hm.since⟩)
          first
          | (rw [holds_out (by omega)]; done)
          | (rw [holds_back (by omega)]; rfl)
          | (rw [holds_own (by omega)]; rfl)
          )
       ·
        first
         | (exfalso; omega)
         | (
          refine c_cond_f rfl ?_
          refine c_skip ?_
          refine e_next ?_
          refine c_seq ?_
          refine c_region_q mixed (by kernel_rfl) ?_
          refine q_val .none rfl (p_field Try.underlying140 rfl sz3 rfl) ?_
          obtain ⟨bn, rfl⟩ : ∃ bn : Nat, b = (bn : Int) := ⟨b.toNat, by omega⟩
          refine q_val .none rfl (p_ld (k := 1) Try.underlying3 rfl rfl rfl (by first | exact of_decide_eq_true rfl | omega) (rfl : _ = Value.int _ _)) ?_
          refine q_val .none rfl (p_iaddr (k := 1) Try.underlying105 sz3 rfl rfl (by first | exact of_decide_eq_true rfl | omega)) ?_
          refine q_val .none rfl (p_ld (k := 0) Try.underlying3 rfl rfl rfl (by first | exact of_decide_eq_true rfl | omega) (rfl : _ = Value.int _ _)) ?_
          refine q_val .none rfl (p_move rfl) ?_
          refine q_val .none rfl (p_field Try.underlying140 rfl sz3 rfl) ?_
          refine q_val .none rfl (p_ld (k := 1) Try.underlying3 rfl rfl rfl (by first | exact of_decide_eq_true rfl | omega) (rfl : _ = Value.int _ _)) ?_
          refine q_val .none rfl (p_field Try.underlying140 rfl sz3 rfl) ?_
          refine q_val .none rfl (p_ld (k := 1) Try.underlying3 rfl rfl rfl (by first | exact of_decide_eq_true rfl | omega) (rfl : _ = Value.int _ _)) ?_
          refine q_iaddr_g .none rfl Try.underlying153 sz105 rfl hb rfl (by first | exact of_decide_eq_true rfl | omega) (fun p_6 o_7 R_5 => ?_)
          refine q_val .none rfl (p_iaddr (k := 1) Try.underlying105 sz3 rfl rfl (by first | exact of_decide_eq_true rfl | omega)) ?_
          have R_8 := RowAt.sub (j := 1 * 1) (m := 1) (RowAt.sub (j := 0) (m := 3) R_5 (by decide)) (by omega)
          refine q_val .none rfl (p_ldg0 Try.underlying3 rfl rfl R_8 (by first | exact of_decide_eq_true rfl | omega) (rfl : _ = Value.int _ _)) ?_
          refine q_val .none rfl (p_eq rfl rfl) ?_
          refine q_val .none rfl (p_assign rfl) ?_
          refine q_nil ?_
          refine e_next ?_
          refine c_ret ?_
          refine e_ret1 Try.results79 (.tmp rfl .nil) (fun w hm => ⟨?_, hm.since⟩)
          first
          | (rw [holds_out (by omega)]; done)
          | (rw [holds_back (by omega)]; rfl)
          | (rw [holds_own (by omega)]; rfl)
          )
       )
    )
theorem c_rholds12 (b : Int) (vb : Value) (bs : List Tri) (t : Tri) {G : Ghost} (hb1 : -1 ≤ b) (hb : SlL G vb 3 triL z3 bs) (w : World) (hG : Has G w) :
  Calls Try.prog 79 #[Value.agg #[Value.int .i64 1, Value.int .i64 b, Value.int .i64 2], vb, kT t] w (Ret fun r w' => r = Value.bool (holdsT (1, b, 2) bs t) ∧ Since nX w w') := by
 refine enter (args := [_, _, _]) (X := nX) (G := G) (l := [(0, Value.agg #[Value.int .i64 1, Value.int .i64 b, Value.int .i64 2]), (1, vb), (2, kT t)]) Try.func79 rfl Try.ntmps79 hG ⟨rfl, rfl, rfl, trivial⟩ (Nat.le_of_ble_eq_true rfl) ?_
 refine c_seq ?_
 refine c_region ?_
 refine r_box .none rfl rfl (IsRow.lit _) (fun b_1 => ?_)
 refine r_box .none rfl rfl (IsRow.lit _) (fun b_2 => ?_)
 refine r_val .none rfl (p_assign rfl) ?_
 refine r_nil ?_
 refine e_next ?_
 refine c_seq ?_
 refine c_seq ?_
 refine c_region ?_
 refine r_val .none rfl (p_field Try.underlying140 rfl sz3 rfl) ?_
 refine r_val .none rfl (p_ld (k := 1) Try.underlying3 rfl rfl rfl (by first | exact of_decide_eq_true rfl | omega) (rfl : _ = Value.int _ _)) ?_
 refine r_val .none rfl (p_eq rfl rfl) ?_
 refine r_nil ?_
 refine e_next ?_
 refine c_splitd (d := 9) rfl (fun h_1 => ?_) (fun h_1 => ?_)
 ·
  first
   | (exfalso; omega)
   | (
    refine c_cond_t rfl ?_
    refine c_seq ?_
    refine c_region_q mixed (by kernel_rfl) ?_
    refine q_val .none rfl (p_field Try.underlying140 rfl sz3 rfl) ?_
    refine q_val .none rfl (p_ld (k := 1) Try.underlying3 rfl rfl rfl (by first | exact of_decide_eq_true rfl | omega) (rfl : _ = Value.int _ _)) ?_
    refine q_val .none rfl (p_iaddr (k := 1) Try.underlying105 sz3 rfl rfl (by first | exact of_decide_eq_true rfl | omega)) ?_
    refine q_val .none rfl (p_ld (k := 0) Try.underlying3 rfl rfl rfl (by first | exact of_decide_eq_true rfl | omega) (rfl : _ = Value.int _ _)) ?_
    refine q_val .none rfl (p_field Try.underlying140 rfl sz3 rfl) ?_
    refine q_val .none rfl (p_ld (k := 1) Try.underlying3 rfl rfl rfl (by first | exact of_decide_eq_true rfl | omega) (rfl : _ = Value.int _ _)) ?_
    refine q_val .none rfl (p_iaddr (k := 2) Try.underlying105 sz3 rfl rfl (by first | exact of_decide_eq_true rfl | omega)) ?_
    refine q_val .none rfl (p_ld (k := 0) Try.underlying3 rfl rfl rfl (by first | exact of_decide_eq_true rfl | omega) (rfl : _ = Value.int _ _)) ?_
    refine q_val .none rfl (p_eq rfl rfl) ?_
    refine q_val .none rfl (p_assign rfl) ?_
    refine q_nil ?_
    refine e_next ?_
    refine c_ret ?_
    refine e_ret_then ?_
    refine e_ret1 Try.results79 (.tmp rfl .nil) (fun w hm => ⟨?_, hm.since⟩)
    first
    | (rw [holds_out (by omega)]; done)
    | (rw [holds_back (by omega)]; rfl)
    | (rw [holds_own (by omega)]; rfl)
    )
 ·
  first
   | (exfalso; omega)
   | (
    refine c_cond_f rfl ?_
    refine c_skip ?_
    refine e_next ?_
    refine c_seq ?_
    refine c_seq ?_
    refine c_region ?_
    refine r_val .none rfl (p_field Try.underlying140 rfl sz3 rfl) ?_
    refine r_val .none rfl (p_ld (k := 1) Try.underlying3 rfl rfl rfl (by first | exact of_decide_eq_true rfl | omega) (rfl : _ = Value.int _ _)) ?_
    refine r_val .none rfl (p_lt rfl rfl) ?_
    refine r_val .none rfl (p_move rfl) ?_
    refine r_splitd (d := 22) rfl (fun h_2 => ?_) (fun h_2 => ?_)
    ·
     first
      | (exfalso; omega)
      | (
       refine r_skip rfl (.no rfl rfl) ?_
       refine r_skip rfl (.no rfl rfl) ?_
       refine r_skip rfl (.no rfl rfl) ?_
       refine r_skip rfl (.no rfl rfl) ?_
       refine r_skip rfl (.no rfl rfl) ?_
       refine r_val .none rfl (p_pick_t rfl rfl) ?_
       refine r_nil ?_
       refine e_next ?_
       refine c_cond_t rfl ?_
       refine c_seq ?_
       refine c_region ?_
       refine r_val .none rfl (p_assign rfl) ?_
       refine r_nil ?_
       refine e_next ?_
       refine c_ret ?_
       refine e_ret_then ?_
       refine e_ret1 Try.results79 (.tmp rfl .nil) (fun w hm => ⟨?_, hm.since⟩)
       first
       | (rw [holds_out (by omega)]; done)
       | (rw [holds_back (by omega)]; rfl)
       | (rw [holds_own (by omega)]; rfl)
       )
    ·
     first
      | (exfalso; omega)
      | (
       refine r_val (.some rfl rfl) rfl (p_field Try.underlying140 rfl sz3 rfl) ?_
       refine r_val (.some rfl rfl) rfl (p_ld (k := 1) Try.underlying3 rfl rfl rfl (by first | exact of_decide_eq_true rfl | omega) (rfl : _ = Value.int _ _)) ?_
       refine r_val (.some rfl rfl) rfl (p_move rfl) ?_
       refine r_val (.some rfl rfl) rfl (p_leng Try.underlying153 rfl hb) ?_
       have bd_3 := (hb).bound
       refine r_val (.some rfl rfl) rfl (p_ge rfl rfl) ?_
       refine r_val .none rfl (p_pick_f rfl rfl) ?_
       refine r_nil ?_
       refine e_next ?_
       refine c_splitd (d := 28) rfl (fun h_4 => ?_) (fun h_4 => ?_)
       ·
        first
         | (exfalso; omega)
         | (
          refine c_cond_t rfl ?_
          refine c_seq ?_
          refine c_region ?_
          refine r_val .none rfl (p_assign rfl) ?_
          refine r_nil ?_
          refine e_next ?_
          refine c_ret ?_
          refine e_ret_then ?_
          refine e_ret1 Try.results79 (.tmp rfl .nil) (fun w hm => ⟨?_, hm.since⟩)
          first
          | (rw [holds_out (by omega)]; done)
          | (rw [holds_back (by omega)]; rfl)
          | (rw [holds_own (by omega)]; rfl)
          )
       ·
        first
         | (exfalso; omega)
         | (
          refine c_cond_f rfl ?_
          refine c_skip ?_
          refine e_next ?_
          refine c_seq ?_
          refine c_region_q mixed (by kernel_rfl) ?_
          refine q_val .none rfl (p_field Try.underlying140 rfl sz3 rfl) ?_
          obtain ⟨bn, rfl⟩ : ∃ bn : Nat, b = (bn : Int) := ⟨b.toNat, by omega⟩
          refine q_val .none rfl (p_ld (k := 1) Try.underlying3 rfl rfl rfl (by first | exact of_decide_eq_true rfl | omega) (rfl : _ = Value.int _ _)) ?_
          refine q_val .none rfl (p_iaddr (k := 1) Try.underlying105 sz3 rfl rfl (by first | exact of_decide_eq_true rfl | omega)) ?_
          refine q_val .none rfl (p_ld (k := 0) Try.underlying3 rfl rfl rfl (by first | exact of_decide_eq_true rfl | omega) (rfl : _ = Value.int _ _)) ?_
          refine q_val .none rfl (p_move rfl) ?_
          refine q_val .none rfl (p_field Try.underlying140 rfl sz3 rfl) ?_
          refine q_val .none rfl (p_ld (k := 1) Try.underlying3 rfl rfl rfl (by first | exact of_decide_eq_true rfl | omega) (rfl : _ = Value.int _ _)) ?_
          refine q_val .none rfl (p_field Try.underlying140 rfl sz3 rfl) ?_
          refine q_val .none rfl (p_ld (k := 1) Try.underlying3 rfl rfl rfl (by first | exact of_decide_eq_true rfl | omega) (rfl : _ = Value.int _ _)) ?_
          refine q_iaddr_g .none rfl Try.underlying153 sz105 rfl hb rfl (by first | exact of_decide_eq_true rfl | omega) (fun p_6 o_7 R_5 => ?_)
          refine q_val .none rfl (p_iaddr (k := 2) Try.underlying105 sz3 rfl rfl (by first | exact of_decide_eq_true rfl | omega)) ?_
          have R_8 := RowAt.sub (j := 2 * 1) (m := 1) (RowAt.sub (j := 0) (m := 3) R_5 (by decide)) (by omega)
          refine q_val .none rfl (p_ldg0 Try.underlying3 rfl rfl R_8 (by first | exact of_decide_eq_true rfl | omega) (rfl : _ = Value.int _ _)) ?_
          refine q_val .none rfl (p_eq rfl rfl) ?_
          refine q_val .none rfl (p_assign rfl) ?_
          refine q_nil ?_
          refine e_next ?_
          refine c_ret ?_
          refine e_ret1 Try.results79 (.tmp rfl .nil) (fun w hm => ⟨?_, hm.since⟩)
          first
          | (rw [holds_out (by omega)]; done)
          | (rw [holds_back (by omega)]; rfl)
          | (rw [holds_own (by omega)]; rfl)
          )
       )
    )
theorem c_rholds20 (b : Int) (vb : Value) (bs : List Tri) (t : Tri) {G : Ghost} (hb1 : -1 ≤ b) (hb : SlL G vb 3 triL z3 bs) (w : World) (hG : Has G w) :
  Calls Try.prog 79 #[Value.agg #[Value.int .i64 2, Value.int .i64 b, Value.int .i64 0], vb, kT t] w (Ret fun r w' => r = Value.bool (holdsT (2, b, 0) bs t) ∧ Since nX w w') := by
 refine enter (args := [_, _, _]) (X := nX) (G := G) (l := [(0, Value.agg #[Value.int .i64 2, Value.int .i64 b, Value.int .i64 0]), (1, vb), (2, kT t)]) Try.func79 rfl Try.ntmps79 hG ⟨rfl, rfl, rfl, trivial⟩ (Nat.le_of_ble_eq_true rfl) ?_
 refine c_seq ?_
 refine c_region ?_
 refine r_box .none rfl rfl (IsRow.lit _) (fun b_1 => ?_)
 refine r_box .none rfl rfl (IsRow.lit _) (fun b_2 => ?_)
 refine r_val .none rfl (p_assign rfl) ?_
 refine r_nil ?_
 refine e_next ?_
 refine c_seq ?_
 refine c_seq ?_
 refine c_region ?_
 refine r_val .none rfl (p_field Try.underlying140 rfl sz3 rfl) ?_
 refine r_val .none rfl (p_ld (k := 1) Try.underlying3 rfl rfl rfl (by first | exact of_decide_eq_true rfl | omega) (rfl : _ = Value.int _ _)) ?_
 refine r_val .none rfl (p_eq rfl rfl) ?_
 refine r_nil ?_
 refine e_next ?_
 refine c_splitd (d := 9) rfl (fun h_1 => ?_) (fun h_1 => ?_)
 ·
  first
   | (exfalso; omega)
   | (
    refine c_cond_t rfl ?_
    refine c_seq ?_
    refine c_region_q mixed (by kernel_rfl) ?_
    refine q_val .none rfl (p_field Try.underlying140 rfl sz3 rfl) ?_
    refine q_val .none rfl (p_ld (k := 1) Try.underlying3 rfl rfl rfl (by first | exact of_decide_eq_true rfl | omega) (rfl : _ = Value.int _ _)) ?_
    refine q_val .none rfl (p_iaddr (k := 2) Try.underlying105 sz3 rfl rfl (by first | exact of_decide_eq_true rfl | omega)) ?_
    refine q_val .none rfl (p_ld (k := 0) Try.underlying3 rfl rfl rfl (by first | exact of_decide_eq_true rfl | omega) (rfl : _ = Value.int _ _)) ?_
    refine q_val .none rfl (p_field Try.underlying140 rfl sz3 rfl) ?_
    refine q_val .none rfl (p_ld (k := 1) Try.underlying3 rfl rfl rfl (by first | exact of_decide_eq_true rfl | omega) (rfl : _ = Value.int _ _)) ?_
    refine q_val .none rfl (p_iaddr (k := 0) Try.underlying105 sz3 rfl rfl (by first | exact of_decide_eq_true rfl | omega)) ?_
    refine q_val .none rfl (p_ld (k := 0) Try.underlying3 rfl rfl rfl (by first | exact of_decide_eq_true rfl | omega) (rfl : _ = Value.int _ _)) ?_
    refine q_val .none rfl (p_eq rfl rfl) ?_
    refine q_val .none rfl (p_assign rfl) ?_
    refine q_nil ?_
    refine e_next ?_
    refine c_ret ?_
    refine e_ret_then ?_
    refine e_ret1 Try.results79 (.tmp rfl .nil) (fun w hm => ⟨?_, hm.since⟩)
    first
    | (rw [holds_out (by omega)]; done)
    | (rw [holds_back (by omega)]; rfl)
    | (rw [holds_own (by omega)]; rfl)
    )
 ·
  first
   | (exfalso; omega)
   | (
    refine c_cond_f rfl ?_
    refine c_skip ?_
    refine e_next ?_
    refine c_seq ?_
    refine c_seq ?_
    refine c_region ?_
    refine r_val .none rfl (p_field Try.underlying140 rfl sz3 rfl) ?_
    refine r_val .none rfl (p_ld (k := 1) Try.underlying3 rfl rfl rfl (by first | exact of_decide_eq_true rfl | omega) (rfl : _ = Value.int _ _)) ?_
    refine r_val .none rfl (p_lt rfl rfl) ?_
    refine r_val .none rfl (p_move rfl) ?_
    refine r_splitd (d := 22) rfl (fun h_2 => ?_) (fun h_2 => ?_)
    ·
     first
      | (exfalso; omega)
      | (
       refine r_skip rfl (.no rfl rfl) ?_
       refine r_skip rfl (.no rfl rfl) ?_
       refine r_skip rfl (.no rfl rfl) ?_
       refine r_skip rfl (.no rfl rfl) ?_
       refine r_skip rfl (.no rfl rfl) ?_
       refine r_val .none rfl (p_pick_t rfl rfl) ?_
       refine r_nil ?_
       refine e_next ?_
       refine c_cond_t rfl ?_
       refine c_seq ?_
       refine c_region ?_
       refine r_val .none rfl (p_assign rfl) ?_
       refine r_nil ?_
       refine e_next ?_
       refine c_ret ?_
       refine e_ret_then ?_
       refine e_ret1 Try.results79 (.tmp rfl .nil) (fun w hm => ⟨?_, hm.since⟩)
       first
       | (rw [holds_out (by omega)]; done)
       | (rw [holds_back (by omega)]; rfl)
       | (rw [holds_own (by omega)]; rfl)
       )
    ·
     first
      | (exfalso; omega)
      | (
       refine r_val (.some rfl rfl) rfl (p_field Try.underlying140 rfl sz3 rfl) ?_
       refine r_val (.some rfl rfl) rfl (p_ld (k := 1) Try.underlying3 rfl rfl rfl (by first | exact of_decide_eq_true rfl | omega) (rfl : _ = Value.int _ _)) ?_
       refine r_val (.some rfl rfl) rfl (p_move rfl) ?_
       refine r_val (.some rfl rfl) rfl (p_leng Try.underlying153 rfl hb) ?_
       have bd_3 := (hb).bound
       refine r_val (.some rfl rfl) rfl (p_ge rfl rfl) ?_
       refine r_val .none rfl (p_pick_f rfl rfl) ?_
       refine r_nil ?_
       refine e_next ?_
       refine c_splitd (d := 28) rfl (fun h_4 => ?_) (fun h_4 => ?_)
       ·
        first
         | (exfalso; omega)
         | (
          refine c_cond_t rfl ?_
          refine c_seq ?_
          refine c_region ?_
          refine r_val .none rfl (p_assign rfl) ?_
          refine r_nil ?_
          refine e_next ?_
          refine c_ret ?_
          refine e_ret_then ?_
          refine e_ret1 Try.results79 (.tmp rfl .nil) (fun w hm => ⟨?_, hm.since⟩)
          first
          | (rw [holds_out (by omega)]; done)
          | (rw [holds_back (by omega)]; rfl)
          | (rw [holds_own (by omega)]; rfl)
          )
       ·
        first
         | (exfalso; omega)
         | (
          refine c_cond_f rfl ?_
          refine c_skip ?_
          refine e_next ?_
          refine c_seq ?_
          refine c_region_q mixed (by kernel_rfl) ?_
          refine q_val .none rfl (p_field Try.underlying140 rfl sz3 rfl) ?_
          obtain ⟨bn, rfl⟩ : ∃ bn : Nat, b = (bn : Int) := ⟨b.toNat, by omega⟩
          refine q_val .none rfl (p_ld (k := 1) Try.underlying3 rfl rfl rfl (by first | exact of_decide_eq_true rfl | omega) (rfl : _ = Value.int _ _)) ?_
          refine q_val .none rfl (p_iaddr (k := 2) Try.underlying105 sz3 rfl rfl (by first | exact of_decide_eq_true rfl | omega)) ?_
          refine q_val .none rfl (p_ld (k := 0) Try.underlying3 rfl rfl rfl (by first | exact of_decide_eq_true rfl | omega) (rfl : _ = Value.int _ _)) ?_
          refine q_val .none rfl (p_move rfl) ?_
          refine q_val .none rfl (p_field Try.underlying140 rfl sz3 rfl) ?_
          refine q_val .none rfl (p_ld (k := 1) Try.underlying3 rfl rfl rfl (by first | exact of_decide_eq_true rfl | omega) (rfl : _ = Value.int _ _)) ?_
          refine q_val .none rfl (p_field Try.underlying140 rfl sz3 rfl) ?_
          refine q_val .none rfl (p_ld (k := 1) Try.underlying3 rfl rfl rfl (by first | exact of_decide_eq_true rfl | omega) (rfl : _ = Value.int _ _)) ?_
          refine q_iaddr_g .none rfl Try.underlying153 sz105 rfl hb rfl (by first | exact of_decide_eq_true rfl | omega) (fun p_6 o_7 R_5 => ?_)
          refine q_val .none rfl (p_iaddr (k := 0) Try.underlying105 sz3 rfl rfl (by first | exact of_decide_eq_true rfl | omega)) ?_
          have R_8 := RowAt.sub (j := 0 * 1) (m := 1) (RowAt.sub (j := 0) (m := 3) R_5 (by decide)) (by omega)
          refine q_val .none rfl (p_ldg0 Try.underlying3 rfl rfl R_8 (by first | exact of_decide_eq_true rfl | omega) (rfl : _ = Value.int _ _)) ?_
          refine q_val .none rfl (p_eq rfl rfl) ?_
          refine q_val .none rfl (p_assign rfl) ?_
          refine q_nil ?_
          refine e_next ?_
          refine c_ret ?_
          refine e_ret1 Try.results79 (.tmp rfl .nil) (fun w hm => ⟨?_, hm.since⟩)
          first
          | (rw [holds_out (by omega)]; done)
          | (rw [holds_back (by omega)]; rfl)
          | (rw [holds_own (by omega)]; rfl)
          )
       )
    )
theorem c_rholds21 (b : Int) (vb : Value) (bs : List Tri) (t : Tri) {G : Ghost} (hb1 : -1 ≤ b) (hb : SlL G vb 3 triL z3 bs) (w : World) (hG : Has G w) :
  Calls Try.prog 79 #[Value.agg #[Value.int .i64 2, Value.int .i64 b, Value.int .i64 1], vb, kT t] w (Ret fun r w' => r = Value.bool (holdsT (2, b, 1) bs t) ∧ Since nX w w') := by
 refine enter (args := [_, _, _]) (X := nX) (G := G) (l := [(0, Value.agg #[Value.int .i64 2, Value.int .i64 b, Value.int .i64 1]), (1, vb), (2, kT t)]) Try.func79 rfl Try.ntmps79 hG ⟨rfl, rfl, rfl, trivial⟩ (Nat.le_of_ble_eq_true rfl) ?_
 refine c_seq ?_
 refine c_region ?_
 refine r_box .none rfl rfl (IsRow.lit _) (fun b_1 => ?_)
 refine r_box .none rfl rfl (IsRow.lit _) (fun b_2 => ?_)
 refine r_val .none rfl (p_assign rfl) ?_
 refine r_nil ?_
 refine e_next ?_
 refine c_seq ?_
 refine c_seq ?_
 refine c_region ?_
 refine r_val .none rfl (p_field Try.underlying140 rfl sz3 rfl) ?_
 refine r_val .none rfl (p_ld (k := 1) Try.underlying3 rfl rfl rfl (by first | exact of_decide_eq_true rfl | omega) (rfl : _ = Value.int _ _)) ?_
 refine r_val .none rfl (p_eq rfl rfl) ?_
 refine r_nil ?_
 refine e_next ?_
 refine c_splitd (d := 9) rfl (fun h_1 => ?_) (fun h_1 => ?_)
 ·
  first
   | (exfalso; omega)
   | (
    refine c_cond_t rfl ?_
    refine c_seq ?_
    refine c_region_q mixed (by kernel_rfl) ?_
    refine q_val .none rfl (p_field Try.underlying140 rfl sz3 rfl) ?_
    refine q_val .none rfl (p_ld (k := 1) Try.underlying3 rfl rfl rfl (by first | exact of_decide_eq_true rfl | omega) (rfl : _ = Value.int _ _)) ?_
    refine q_val .none rfl (p_iaddr (k := 2) Try.underlying105 sz3 rfl rfl (by first | exact of_decide_eq_true rfl | omega)) ?_
    refine q_val .none rfl (p_ld (k := 0) Try.underlying3 rfl rfl rfl (by first | exact of_decide_eq_true rfl | omega) (rfl : _ = Value.int _ _)) ?_
    refine q_val .none rfl (p_field Try.underlying140 rfl sz3 rfl) ?_
    refine q_val .none rfl (p_ld (k := 1) Try.underlying3 rfl rfl rfl (by first | exact of_decide_eq_true rfl | omega) (rfl : _ = Value.int _ _)) ?_
    refine q_val .none rfl (p_iaddr (k := 1) Try.underlying105 sz3 rfl rfl (by first | exact of_decide_eq_true rfl | omega)) ?_
    refine q_val .none rfl (p_ld (k := 0) Try.underlying3 rfl rfl rfl (by first | exact of_decide_eq_true rfl | omega) (rfl : _ = Value.int _ _)) ?_
    refine q_val .none rfl (p_eq rfl rfl) ?_
    refine q_val .none rfl (p_assign rfl) ?_
    refine q_nil ?_
    refine e_next ?_
    refine c_ret ?_
    refine e_ret_then ?_
    refine e_ret1 Try.results79 (.tmp rfl .nil) (fun w hm => ⟨?_, hm.since⟩)
    first
    | (rw [holds_out (by omega)]; done)
    | (rw [holds_back (by omega)]; rfl)
    | (rw [holds_own (by omega)]; rfl)
    )
 ·
  first
   | (exfalso; omega)
   | (
    refine c_cond_f rfl ?_
    refine c_skip ?_
    refine e_next ?_
    refine c_seq ?_
    refine c_seq ?_
    refine c_region ?_
    refine r_val .none rfl (p_field Try.underlying140 rfl sz3 rfl) ?_
    refine r_val .none rfl (p_ld (k := 1) Try.underlying3 rfl rfl rfl (by first | exact of_decide_eq_true rfl | omega) (rfl : _ = Value.int _ _)) ?_
    refine r_val .none rfl (p_lt rfl rfl) ?_
    refine r_val .none rfl (p_move rfl) ?_
    refine r_splitd (d := 22) rfl (fun h_2 => ?_) (fun h_2 => ?_)
    ·
     first
      | (exfalso; omega)
      | (
       refine r_skip rfl (.no rfl rfl) ?_
       refine r_skip rfl (.no rfl rfl) ?_
       refine r_skip rfl (.no rfl rfl) ?_
       refine r_skip rfl (.no rfl rfl) ?_
       refine r_skip rfl (.no rfl rfl) ?_
       refine r_val .none rfl (p_pick_t rfl rfl) ?_
       refine r_nil ?_
       refine e_next ?_
       refine c_cond_t rfl ?_
       refine c_seq ?_
       refine c_region ?_
       refine r_val .none rfl (p_assign rfl) ?_
       refine r_nil ?_
       refine e_next ?_
       refine c_ret ?_
       refine e_ret_then ?_
       refine e_ret1 Try.results79 (.tmp rfl .nil) (fun w hm => ⟨?_, hm.since⟩)
       first
       | (rw [holds_out (by omega)]; done)
       | (rw [holds_back (by omega)]; rfl)
       | (rw [holds_own (by omega)]; rfl)
       )
    ·
     first
      | (exfalso; omega)
      | (
       refine r_val (.some rfl rfl) rfl (p_field Try.underlying140 rfl sz3 rfl) ?_
       refine r_val (.some rfl rfl) rfl (p_ld (k := 1) Try.underlying3 rfl rfl rfl (by first | exact of_decide_eq_true rfl | omega) (rfl : _ = Value.int _ _)) ?_
       refine r_val (.some rfl rfl) rfl (p_move rfl) ?_
       refine r_val (.some rfl rfl) rfl (p_leng Try.underlying153 rfl hb) ?_
       have bd_3 := (hb).bound
       refine r_val (.some rfl rfl) rfl (p_ge rfl rfl) ?_
       refine r_val .none rfl (p_pick_f rfl rfl) ?_
       refine r_nil ?_
       refine e_next ?_
       refine c_splitd (d := 28) rfl (fun h_4 => ?_) (fun h_4 => ?_)
       ·
        first
         | (exfalso; omega)
         | (
          refine c_cond_t rfl ?_
          refine c_seq ?_
          refine c_region ?_
          refine r_val .none rfl (p_assign rfl) ?_
          refine r_nil ?_
          refine e_next ?_
          refine c_ret ?_
          refine e_ret_then ?_
          refine e_ret1 Try.results79 (.tmp rfl .nil) (fun w hm => ⟨?_, hm.since⟩)
          first
          | (rw [holds_out (by omega)]; done)
          | (rw [holds_back (by omega)]; rfl)
          | (rw [holds_own (by omega)]; rfl)
          )
       ·
        first
         | (exfalso; omega)
         | (
          refine c_cond_f rfl ?_
          refine c_skip ?_
          refine e_next ?_
          refine c_seq ?_
          refine c_region_q mixed (by kernel_rfl) ?_
          refine q_val .none rfl (p_field Try.underlying140 rfl sz3 rfl) ?_
          obtain ⟨bn, rfl⟩ : ∃ bn : Nat, b = (bn : Int) := ⟨b.toNat, by omega⟩
          refine q_val .none rfl (p_ld (k := 1) Try.underlying3 rfl rfl rfl (by first | exact of_decide_eq_true rfl | omega) (rfl : _ = Value.int _ _)) ?_
          refine q_val .none rfl (p_iaddr (k := 2) Try.underlying105 sz3 rfl rfl (by first | exact of_decide_eq_true rfl | omega)) ?_
          refine q_val .none rfl (p_ld (k := 0) Try.underlying3 rfl rfl rfl (by first | exact of_decide_eq_true rfl | omega) (rfl : _ = Value.int _ _)) ?_
          refine q_val .none rfl (p_move rfl) ?_
          refine q_val .none rfl (p_field Try.underlying140 rfl sz3 rfl) ?_
          refine q_val .none rfl (p_ld (k := 1) Try.underlying3 rfl rfl rfl (by first | exact of_decide_eq_true rfl | omega) (rfl : _ = Value.int _ _)) ?_
          refine q_val .none rfl (p_field Try.underlying140 rfl sz3 rfl) ?_
          refine q_val .none rfl (p_ld (k := 1) Try.underlying3 rfl rfl rfl (by first | exact of_decide_eq_true rfl | omega) (rfl : _ = Value.int _ _)) ?_
          refine q_iaddr_g .none rfl Try.underlying153 sz105 rfl hb rfl (by first | exact of_decide_eq_true rfl | omega) (fun p_6 o_7 R_5 => ?_)
          refine q_val .none rfl (p_iaddr (k := 1) Try.underlying105 sz3 rfl rfl (by first | exact of_decide_eq_true rfl | omega)) ?_
          have R_8 := RowAt.sub (j := 1 * 1) (m := 1) (RowAt.sub (j := 0) (m := 3) R_5 (by decide)) (by omega)
          refine q_val .none rfl (p_ldg0 Try.underlying3 rfl rfl R_8 (by first | exact of_decide_eq_true rfl | omega) (rfl : _ = Value.int _ _)) ?_
          refine q_val .none rfl (p_eq rfl rfl) ?_
          refine q_val .none rfl (p_assign rfl) ?_
          refine q_nil ?_
          refine e_next ?_
          refine c_ret ?_
          refine e_ret1 Try.results79 (.tmp rfl .nil) (fun w hm => ⟨?_, hm.since⟩)
          first
          | (rw [holds_out (by omega)]; done)
          | (rw [holds_back (by omega)]; rfl)
          | (rw [holds_own (by omega)]; rfl)
          )
       )
    )
theorem c_rholds22 (b : Int) (vb : Value) (bs : List Tri) (t : Tri) {G : Ghost} (hb1 : -1 ≤ b) (hb : SlL G vb 3 triL z3 bs) (w : World) (hG : Has G w) :
  Calls Try.prog 79 #[Value.agg #[Value.int .i64 2, Value.int .i64 b, Value.int .i64 2], vb, kT t] w (Ret fun r w' => r = Value.bool (holdsT (2, b, 2) bs t) ∧ Since nX w w') := by
 refine enter (args := [_, _, _]) (X := nX) (G := G) (l := [(0, Value.agg #[Value.int .i64 2, Value.int .i64 b, Value.int .i64 2]), (1, vb), (2, kT t)]) Try.func79 rfl Try.ntmps79 hG ⟨rfl, rfl, rfl, trivial⟩ (Nat.le_of_ble_eq_true rfl) ?_
 refine c_seq ?_
 refine c_region ?_
 refine r_box .none rfl rfl (IsRow.lit _) (fun b_1 => ?_)
 refine r_box .none rfl rfl (IsRow.lit _) (fun b_2 => ?_)
 refine r_val .none rfl (p_assign rfl) ?_
 refine r_nil ?_
 refine e_next ?_
 refine c_seq ?_
 refine c_seq ?_
 refine c_region ?_
 refine r_val .none rfl (p_field Try.underlying140 rfl sz3 rfl) ?_
 refine r_val .none rfl (p_ld (k := 1) Try.underlying3 rfl rfl rfl (by first | exact of_decide_eq_true rfl | omega) (rfl : _ = Value.int _ _)) ?_
 refine r_val .none rfl (p_eq rfl rfl) ?_
 refine r_nil ?_
 refine e_next ?_
 refine c_splitd (d := 9) rfl (fun h_1 => ?_) (fun h_1 => ?_)
 ·
  first
   | (exfalso; omega)
   | (
    refine c_cond_t rfl ?_
    refine c_seq ?_
    refine c_region_q mixed (by kernel_rfl) ?_
    refine q_val .none rfl (p_field Try.underlying140 rfl sz3 rfl) ?_
    refine q_val .none rfl (p_ld (k := 1) Try.underlying3 rfl rfl rfl (by first | exact of_decide_eq_true rfl | omega) (rfl : _ = Value.int _ _)) ?_
    refine q_val .none rfl (p_iaddr (k := 2) Try.underlying105 sz3 rfl rfl (by first | exact of_decide_eq_true rfl | omega)) ?_
    refine q_val .none rfl (p_ld (k := 0) Try.underlying3 rfl rfl rfl (by first | exact of_decide_eq_true rfl | omega) (rfl : _ = Value.int _ _)) ?_
    refine q_val .none rfl (p_field Try.underlying140 rfl sz3 rfl) ?_
    refine q_val .none rfl (p_ld (k := 1) Try.underlying3 rfl rfl rfl (by first | exact of_decide_eq_true rfl | omega) (rfl : _ = Value.int _ _)) ?_
    refine q_val .none rfl (p_iaddr (k := 2) Try.underlying105 sz3 rfl rfl (by first | exact of_decide_eq_true rfl | omega)) ?_
    refine q_val .none rfl (p_ld (k := 0) Try.underlying3 rfl rfl rfl (by first | exact of_decide_eq_true rfl | omega) (rfl : _ = Value.int _ _)) ?_
    refine q_val .none rfl (p_eq rfl rfl) ?_
    refine q_val .none rfl (p_assign rfl) ?_
    refine q_nil ?_
    refine e_next ?_
    refine c_ret ?_
    refine e_ret_then ?_
    refine e_ret1 Try.results79 (.tmp rfl .nil) (fun w hm => ⟨?_, hm.since⟩)
    first
    | (rw [holds_out (by omega)]; done)
    | (rw [holds_back (by omega)]; rfl)
    | (rw [holds_own (by omega)]; rfl)
    )
 ·
  first
   | (exfalso; omega)
   | (
    refine c_cond_f rfl ?_
    refine c_skip ?_
    refine e_next ?_
    refine c_seq ?_
    refine c_seq ?_
    refine c_region ?_
    refine r_val .none rfl (p_field Try.underlying140 rfl sz3 rfl) ?_
    refine r_val .none rfl (p_ld (k := 1) Try.underlying3 rfl rfl rfl (by first | exact of_decide_eq_true rfl | omega) (rfl : _ = Value.int _ _)) ?_
    refine r_val .none rfl (p_lt rfl rfl) ?_
    refine r_val .none rfl (p_move rfl) ?_
    refine r_splitd (d := 22) rfl (fun h_2 => ?_) (fun h_2 => ?_)
    ·
     first
      | (exfalso; omega)
      | (
       refine r_skip rfl (.no rfl rfl) ?_
       refine r_skip rfl (.no rfl rfl) ?_
       refine r_skip rfl (.no rfl rfl) ?_
       refine r_skip rfl (.no rfl rfl) ?_
       refine r_skip rfl (.no rfl rfl) ?_
       refine r_val .none rfl (p_pick_t rfl rfl) ?_
       refine r_nil ?_
       refine e_next ?_
       refine c_cond_t rfl ?_
       refine c_seq ?_
       refine c_region ?_
       refine r_val .none rfl (p_assign rfl) ?_
       refine r_nil ?_
       refine e_next ?_
       refine c_ret ?_
       refine e_ret_then ?_
       refine e_ret1 Try.results79 (.tmp rfl .nil) (fun w hm => ⟨?_, hm.since⟩)
       first
       | (rw [holds_out (by omega)]; done)
       | (rw [holds_back (by omega)]; rfl)
       | (rw [holds_own (by omega)]; rfl)
       )
    ·
     first
      | (exfalso; omega)
      | (
       refine r_val (.some rfl rfl) rfl (p_field Try.underlying140 rfl sz3 rfl) ?_
       refine r_val (.some rfl rfl) rfl (p_ld (k := 1) Try.underlying3 rfl rfl rfl (by first | exact of_decide_eq_true rfl | omega) (rfl : _ = Value.int _ _)) ?_
       refine r_val (.some rfl rfl) rfl (p_move rfl) ?_
       refine r_val (.some rfl rfl) rfl (p_leng Try.underlying153 rfl hb) ?_
       have bd_3 := (hb).bound
       refine r_val (.some rfl rfl) rfl (p_ge rfl rfl) ?_
       refine r_val .none rfl (p_pick_f rfl rfl) ?_
       refine r_nil ?_
       refine e_next ?_
       refine c_splitd (d := 28) rfl (fun h_4 => ?_) (fun h_4 => ?_)
       ·
        first
         | (exfalso; omega)
         | (
          refine c_cond_t rfl ?_
          refine c_seq ?_
          refine c_region ?_
          refine r_val .none rfl (p_assign rfl) ?_
          refine r_nil ?_
          refine e_next ?_
          refine c_ret ?_
          refine e_ret_then ?_
          refine e_ret1 Try.results79 (.tmp rfl .nil) (fun w hm => ⟨?_, hm.since⟩)
          first
          | (rw [holds_out (by omega)]; done)
          | (rw [holds_back (by omega)]; rfl)
          | (rw [holds_own (by omega)]; rfl)
          )
       ·
        first
         | (exfalso; omega)
         | (
          refine c_cond_f rfl ?_
          refine c_skip ?_
          refine e_next ?_
          refine c_seq ?_
          refine c_region_q mixed (by kernel_rfl) ?_
          refine q_val .none rfl (p_field Try.underlying140 rfl sz3 rfl) ?_
          obtain ⟨bn, rfl⟩ : ∃ bn : Nat, b = (bn : Int) := ⟨b.toNat, by omega⟩
          refine q_val .none rfl (p_ld (k := 1) Try.underlying3 rfl rfl rfl (by first | exact of_decide_eq_true rfl | omega) (rfl : _ = Value.int _ _)) ?_
          refine q_val .none rfl (p_iaddr (k := 2) Try.underlying105 sz3 rfl rfl (by first | exact of_decide_eq_true rfl | omega)) ?_
          refine q_val .none rfl (p_ld (k := 0) Try.underlying3 rfl rfl rfl (by first | exact of_decide_eq_true rfl | omega) (rfl : _ = Value.int _ _)) ?_
          refine q_val .none rfl (p_move rfl) ?_
          refine q_val .none rfl (p_field Try.underlying140 rfl sz3 rfl) ?_
          refine q_val .none rfl (p_ld (k := 1) Try.underlying3 rfl rfl rfl (by first | exact of_decide_eq_true rfl | omega) (rfl : _ = Value.int _ _)) ?_
          refine q_val .none rfl (p_field Try.underlying140 rfl sz3 rfl) ?_
          refine q_val .none rfl (p_ld (k := 1) Try.underlying3 rfl rfl rfl (by first | exact of_decide_eq_true rfl | omega) (rfl : _ = Value.int _ _)) ?_
          refine q_iaddr_g .none rfl Try.underlying153 sz105 rfl hb rfl (by first | exact of_decide_eq_true rfl | omega) (fun p_6 o_7 R_5 => ?_)
          refine q_val .none rfl (p_iaddr (k := 2) Try.underlying105 sz3 rfl rfl (by first | exact of_decide_eq_true rfl | omega)) ?_
          have R_8 := RowAt.sub (j := 2 * 1) (m := 1) (RowAt.sub (j := 0) (m := 3) R_5 (by decide)) (by omega)
          refine q_val .none rfl (p_ldg0 Try.underlying3 rfl rfl R_8 (by first | exact of_decide_eq_true rfl | omega) (rfl : _ = Value.int _ _)) ?_
          refine q_val .none rfl (p_eq rfl rfl) ?_
          refine q_val .none rfl (p_assign rfl) ?_
          refine q_nil ?_
          refine e_next ?_
          refine c_ret ?_
          refine e_ret1 Try.results79 (.tmp rfl .nil) (fun w hm => ⟨?_, hm.since⟩)
          first
          | (rw [holds_out (by omega)]; done)
          | (rw [holds_back (by omega)]; rfl)
          | (rw [holds_own (by omega)]; rfl)
          )
       )
    )
theorem c_rholds (x : TD) (vb : Value) (bs : List Tri) (t : Tri) {G : Ghost} (hx : OkT x) (hb : SlL G vb 3 triL z3 bs) (w : World) (hG : Has G w) : Calls Try.prog 79 #[Value.agg #[Value.int .i64 x.1, Value.int .i64 x.2.1, Value.int .i64 x.2.2], vb, kT t] w (Ret fun r w' => r = Value.bool (holdsT x bs t) ∧ Since nX w w') := by
 obtain ⟨f, b, o⟩ := x
 obtain ⟨hf, hbb, ho⟩ := hx
 dsimp only at hf hbb ho ⊢
 rcases hf with rfl | rfl | rfl <;> rcases ho with rfl | rfl | rfl
 · exact c_rholds00 b vb bs t hbb.1 hb w hG
 · exact c_rholds01 b vb bs t hbb.1 hb w hG
 · exact c_rholds02 b vb bs t hbb.1 hb w hG
 · exact c_rholds10 b vb bs t hbb.1 hb w hG
 · exact c_rholds11 b vb bs t hbb.1 hb w hG
 · exact c_rholds12 b vb bs t hbb.1 hb w hG
 · exact c_rholds20 b vb bs t hbb.1 hb w hG
 · exact c_rholds21 b vb bs t hbb.1 hb w hG
 · exact c_rholds22 b vb bs t hbb.1 hb w hG
theorem c_rmeets (k : Int) (key : Tri) (ts : List TD) (tv uv : Value) (vb : Value) (bs : List Tri) (t : Tri) {G : Ghost} (hok : ∀ x ∈ ts, OkT x) (ht : SlL G tv 3 tC t0 ts) (hb : SlL G vb 3 triL z3 bs) (w : World) (hG : Has G w) :
  Calls Try.prog 64 #[Value.agg #[Value.int .i64 k, Value.int .i64 key.1, Value.int .i64 key.2.1, Value.int .i64 key.2.2, tv, uv], vb, kT t] w (Ret fun r w' => r = Value.bool (meets k key ts bs t) ∧ Since nX w w') := by
 refine enter (args := [_, _, _]) (X := nX) (G := G) (l := [(0, Value.agg #[Value.int .i64 k, Value.int .i64 key.1, Value.int .i64 key.2.1, Value.int .i64 key.2.2, tv, uv]), (1, vb), (2, kT t)]) Try.func64 rfl Try.ntmps64 hG ⟨rfl, rfl, rfl, trivial⟩ (Nat.le_of_ble_eq_true rfl) ?_
 refine c_seq ?_
 refine c_region ?_
 refine r_box .none rfl rfl (IsRow.lit _) (fun b_1 => ?_)
 refine r_box .none rfl rfl (IsRow.lit _) (fun b_2 => ?_)
 refine r_val .none rfl (p_assign rfl) ?_
 refine r_nil ?_
 refine e_next ?_
 refine c_seq ?_
 refine c_seq ?_
 refine c_region ?_
 refine r_val .none rfl (p_field Try.underlying116 rfl sz3 rfl) ?_
 refine r_val .none rfl (p_ld (k := 1) Try.underlying3 rfl rfl rfl (by first | exact of_decide_eq_true rfl | omega) (rfl : _ = Value.int _ _)) ?_
 refine r_val .none rfl (p_eq rfl rfl) ?_
 refine r_val .none rfl (p_move rfl) ?_
 refine' r_or (c := 12) (d := 18) [_, _, _, _, _, _] rfl (fun h_1 Q_2 hQ_3 => ?_) (fun h_1 Q_2 hQ_3 => ?_) ?_
 rotate_left 1
 ·
  replace h_1 := of_decide_eq_false h_1
  refine r_val (.some rfl rfl) rfl (p_ldw (k := 0) Try.underlying105 rfl sz105 rfl rfl (rfl : _ = Value.agg #[_, _, _])) ?_
  refine r_val (.some rfl rfl) rfl (p_field Try.underlying116 rfl sz105 rfl) ?_
  refine r_val (.some rfl rfl) rfl (p_lda (k := 1) Try.underlying105 rfl sz105 rfl rfl (by first | exact of_decide_eq_true rfl | omega) (rfl : _ = Value.agg #[_, _, _])) ?_
  refine r_call (vs := [_, _]) (.some rfl rfl) rfl cl78 rfl (fun w hw => c_rhas7 t key w) ?_
  refine r_val (.some rfl rfl) rfl (p_not rfl) ?_
  refine r_val .none rfl (p_pick_f rfl rfl) ?_
  refine r_nil (e_fin (d := 18) hQ_3 rfl (by repeat (first | exact .refl | refine .put rfl ?_ | refine .say rfl ?_ | refine .say2 rfl (by first | assumption | simp_all) ?_)))
 ·
  repeat (first | refine r_skip rfl (.no rfl rfl) ?_ | refine r_skip rfl (.un rfl rfl) ?_)
  refine r_val (by first | exact .none | exact .some rfl rfl) rfl (p_pick_t rfl rfl) ?_
  refine r_nil (e_fin (d := 18) hQ_3 rfl (by repeat (first | exact .refl | refine .put rfl ?_ | refine .say rfl ?_ | refine .say2 rfl (by first | assumption | simp_all) ?_)))
 refine r_nil ?_
 refine e_next ?_
 refine c_split (d := 18) rfl (fun h_5 => ?_) (fun h_5 => ?_)
 ·
  try simp only [norms] at h_5
  have hC := h_5
  first
   | (exfalso; omega)
   | (
    refine c_cond_t rfl ?_
    refine c_seq ?_
    refine c_region ?_
    refine r_val .none rfl (p_assign rfl) ?_
    refine r_nil ?_
    refine e_next ?_
    refine c_ret ?_
    refine e_ret_then ?_
    refine e_ret1 Try.results64 (.tmp rfl .nil) (fun w hm => ⟨?_, hm.since⟩)
    unfold meets
    first
    | (rw [if_pos hC]; done)
    | (rw [if_neg (by rintro (h | h); exact hC.1 h; rw [hC.2] at h; cases h), ← hphi.2, all_drop (k := j) (by omega), hE]; rfl)
    | (rw [if_neg (by rintro (h | h); exact hC.1 h; rw [hC.2] at h; cases h), ← hphi.2, List.drop_eq_nil_of_le (by omega)]; rfl)
    )
 ·
  try simp only [norms] at h_5
  have hC := h_5
  first
   | (exfalso; omega)
   | (
    refine c_cond_f rfl ?_
    refine c_skip ?_
    refine e_next ?_
    refine c_seq ?_
    refine c_seq ?_
    refine c_region ?_
    refine r_val .none rfl (p_field Try.underlying116 rfl sz114 rfl) ?_
    refine r_val .none rfl (p_ld (k := 1) Try.underlying114 rfl rfl rfl (by first | exact of_decide_eq_true rfl | omega) rfl) ?_
    refine r_val .none rfl (p_leng Try.underlying114 rfl ht) ?_
    have bd_6 := (ht).bound
    refine r_val .none rfl (p_move rfl) ?_
    refine r_nil ?_
    refine e_next ?_
    refine c_block ?_
    refine c_name (d := 1) rfl (fun u_7 hu_7 => ?_)
    refine c_name (d := 5) rfl (fun u_8 hu_8 => ?_)
    refine c_name (d := 20) rfl (fun u_9 hu_9 => ?_)
    refine c_name (d := 21) rfl (fun u_10 hu_10 => ?_)
    refine c_nameL (k := 0) rfl (fun A_11 hA_11 => ?_)
    refine c_nameL (k := 1) rfl (fun A_12 hA_12 => ?_)
    refine c_loop (σ := Nat) (fun j => [(22, Value.int .i64 (j : Nat)), (1, u_7), (5, u_8), (20, u_9), (21, u_10)]) (fun j => [A_11, A_12]) (fun _ => _) (fun j => j ≤ ts.length ∧ (ts.drop j).all (fun x => holdsT x bs t) = ts.all fun x => holdsT x bs t) (fun j => ts.length - j) (0) ⟨Nat.zero_le _, rfl⟩ rfl ⟨rfl, rfl, rfl, rfl, rfl, trivial⟩ (.keep (fun _ _ h => h) (.keep (fun _ _ h => h) (.nil))) (fun j hphi => ?_)
    subst hu_7
    subst hu_8
    subst hu_9
    subst hu_10
    subst hA_11
    subst hA_12
    refine c_seq ?_
    refine c_region ?_
    refine r_val .none rfl (p_lt rfl rfl) ?_
    refine r_nil ?_
    refine e_next ?_
    refine c_seq ?_
    refine c_splitd (d := 23) rfl (fun h_13 => ?_) (fun h_13 => ?_)
    ·
     first
      | (exfalso; omega)
      | (
       refine c_cond_t rfl ?_
       refine c_skip ?_
       refine e_next ?_
       refine c_seq ?_
       refine c_block ?_
       refine c_seq ?_
       refine c_region ?_
       refine r_iaddr_g .none rfl Try.underlying114 sz140 rfl ht rfl (by first | exact of_decide_eq_true rfl | omega) (fun p_15 o_16 R_14 => ?_)
       refine r_val .none rfl (p_ldga0 Try.underlying140 rfl sz140 rfl R_14 (by first | exact of_decide_eq_true rfl | omega) (rfl : _ = Value.agg #[_, _, _])) ?_
       refine r_alloc .none rfl zr140 (IsRow.lit _) (fun b_3 => ?_)
       refine r_stw (k := 0) .none sz140 rfl rfl (IsRow.lit _) (one_lit rfl rfl) rfl ?_
       refine r_nil ?_
       refine e_next ?_
       refine c_seq ?_
       refine c_region ?_
       refine r_val .none rfl (p_ldw (k := 0) Try.underlying140 rfl sz140 rfl rfl (rfl : _ = Value.agg #[_, _, _])) ?_
       refine r_val .none rfl (p_move rfl) ?_
       refine r_val .none rfl (p_ldw (k := 1) Try.underlying105 rfl sz105 rfl rfl (rfl : _ = Value.agg #[_, _, _])) ?_
       refine r_call (vs := [_, _, _]) .none rfl cl79 rfl (fun w hw => c_rholds _ _ _ _ (hok _ (getD_mem (d := t0) (by omega))) hb w hw) ?_
       refine r_val .none rfl (p_not rfl) ?_
       refine r_nil ?_
       refine e_next ?_
       refine c_splitn (d := 30) rfl (fun h_17 => ?_) (fun h_17 => ?_)
       ·
        have hE : holdsT (ts.getD j t0) bs t = false := h_17
        first
         | (exfalso; omega)
         | (
          refine c_cond_t rfl ?_
          refine c_seq ?_
          refine c_region ?_
          refine r_val .none rfl (p_assign rfl) ?_
          refine r_nil ?_
          refine e_next ?_
          refine c_ret ?_
          refine e_ret_block ?_
          refine e_ret_then ?_
          refine e_ret_then ?_
          refine e_ret_block ?_
          refine e_ret_then ?_
          refine e_ret1 Try.results64 (.tmp rfl .nil) (fun w hm => ⟨?_, hm.since⟩)
          unfold meets
          first
          | (rw [if_pos hC]; done)
          | (rw [if_neg (by rintro (h | h); exact hC.1 h; rw [hC.2] at h; cases h), ← hphi.2, all_drop (k := j) (by omega), hE]; rfl)
          | (rw [if_neg (by rintro (h | h); exact hC.1 h; rw [hC.2] at h; cases h), ← hphi.2, List.drop_eq_nil_of_le (by omega)]; rfl)
          )
       ·
        have hE : holdsT (ts.getD j t0) bs t = true := h_17
        first
         | (exfalso; omega)
         | (
          refine c_cond_f rfl ?_
          refine c_skip ?_
          refine e_norm_block ?_
          refine e_next ?_
          refine c_region ?_
          refine r_val .none rfl (p_add rfl rfl (by omega)) ?_
          refine r_val .none rfl (p_move rfl) ?_
          refine r_nil ?_
          refine e_round (j + 1) ⟨⟨by omega, by rw [← hphi.2, all_drop (k := j) (by omega), hE, Bool.true_and]⟩, by omega⟩ rfl ⟨rfl, rfl, rfl, rfl, rfl, trivial⟩ (.drop (.keep (fun _ _ h => h) (.keep (fun _ _ h => h) (.nil))))
          )
       )
    ·
     first
      | (exfalso; omega)
      | (
       refine c_cond_f rfl ?_
       refine c_exit ?_
       refine e_exit_then ?_
       refine e_exit_then ?_
       refine e_exit_block ?_
       refine e_next ?_
       refine c_seq ?_
       refine c_region ?_
       refine r_val .none rfl (p_assign rfl) ?_
       refine r_nil ?_
       refine e_next ?_
       refine c_ret ?_
       refine e_ret1 Try.results64 (.tmp rfl .nil) (fun w hm => ⟨?_, hm.since⟩)
       unfold meets
       first
       | (rw [if_pos hC]; done)
       | (rw [if_neg (by rintro (h | h); exact hC.1 h; rw [hC.2] at h; cases h), ← hphi.2, all_drop (k := j) (by omega), hE]; rfl)
       | (rw [if_neg (by rintro (h | h); exact hC.1 h; rw [hC.2] at h; cases h), ← hphi.2, List.drop_eq_nil_of_le (by omega)]; rfl)
       )
    )
end Go.Proofs.Ytpadfgomhojjnaa

/- Plain laws for the walk of the matches by steps; no program in sight. -/
namespace Go.Gx.T14
open Go.Gx Go.Gx.T3 Go.Gx.T4 Go.Gx.T6 Go.Gx.T8 Go.Gx.T13
mutual
/-- Kinds are 1, 2 or 3, at any depth. -/
def kdS : ST → Prop
  | .mk h s => (h.k = 1 ∨ h.k = 2 ∨ h.k = 3) ∧ kdL s
def kdL : List ST → Prop
  | [] => True
  | c :: t => kdS c ∧ kdL t
end
theorem kdS_eq (c : ST) : kdS c = ((c.h.k = 1 ∨ c.h.k = 2 ∨ c.h.k = 3) ∧ kdL c.subs) := by cases c; rw [kdS]; rfl
theorem kdL_cons {c : ST} {t : List ST} (h : kdL (c :: t)) : ((c.h.k = 1 ∨ c.h.k = 2 ∨ c.h.k = 3) ∧ kdL c.subs) ∧ kdL t := by
  rw [kdL, kdS_eq] at h; exact h
theorem kdL_take : ∀ {l : List ST} (k : Nat), kdL l → kdL (l.take k)
  | [], k, h => by simpa using h
  | c :: t, 0, _ => by rw [List.take_zero, kdL]; trivial
  | c :: t, k + 1, h => by
    rw [kdL] at h
    rw [List.take_succ_cons, kdL]
    exact ⟨h.1, kdL_take k h.2⟩
mutual
def spC : ST → Nat
  | .mk _ s => spL s
def spL : List ST → Nat
  | [] => 0
  | c :: t => (if c.h.k = 1 then 1 else 0) + spC c + spL t
end
theorem spC_eq (c : ST) : spC c = spL c.subs := by cases c; rw [spC]; rfl
theorem spL_cons (c : ST) (t : List ST) : spL (c :: t) = (if c.h.k = 1 then 1 else 0) + spL c.subs + spL t := by rw [spL, spC_eq]
theorem sPos_sp : ∀ l : List ST, sPos l ≤ spL l
  | [] => by rw [sPos]; omega
  | c :: t => by
    have := sPos_sp t
    rw [sPos, spL_cons]; omega
theorem spL_take : ∀ (l : List ST) (k : Nat), spL (l.take k) ≤ spL l
  | [], k => by simp
  | c :: t, 0 => by rw [List.take_zero, spL]; omega
  | c :: t, k + 1 => by
    rw [List.take_succ_cons, spL_cons, spL_cons]
    have := spL_take t k
    omega
mutual
theorem spC_step : ∀ (c : CT) (ch : List CT), spL (stepOf ch c).subs ≤ posL c.subs
  | .mk h s, ch => by
    by_cases e : h.k = 3
    · rw [stepOf_ncc (c := .mk h s) e]
      exact spL_steps s ch
    · rw [stepOf_other (c := .mk h s) e]
      show spL [] ≤ _
      rw [spL]; omega
theorem spL_steps : ∀ (l ch : List CT), spL (stepsOf ch l) ≤ posL l
  | [], ch => by rw [stepsOf, spL]; omega
  | c :: t, ch => by
    have h1 := spC_step c ch
    have h2 := spL_steps t (ch ++ [c])
    have hk : (stepOf ch c).h.k = c.h.k := by
      by_cases h : c.h.k = 3
      · rw [stepOf_ncc h]; rfl
      · rw [stepOf_other h]; rfl
    rw [stepsOf, spL_cons, posL_cons, hk]
    omega
end
mutual
theorem kdS_step : ∀ (c : CT) (ch : List CT) (d : Int), check c d = 0 → kdS (stepOf ch c)
  | .mk h s, ch, d, hc => by
    rw [kdS_eq]
    rcases check_right hc with ⟨h3, hcs⟩ | ⟨h12, _, _⟩
    · rw [stepOf_ncc (c := .mk h s) h3]
      exact ⟨.inr (.inr h3), kdL_steps s ch _ hcs⟩
    · rw [stepOf_other (c := .mk h s) (by show h.k ≠ 3; omega)]
      exact ⟨h12.elim .inl (fun h => .inr (.inl h)), by show kdL []; rw [kdL]; trivial⟩
theorem kdL_steps : ∀ (l ch : List CT) (d : Int), checkL l d = 0 → kdL (stepsOf ch l)
  | [], ch, d, _ => by rw [stepsOf, kdL]; trivial
  | c :: t, ch, d, hc => by
    have h := checkL_right hc
    rw [stepsOf, kdL]
    exact ⟨kdS_step c ch d h.1, kdL_steps t (ch ++ [c]) d h.2⟩
end
theorem spow_rest {n : Nat} {c : ST} {t : List ST} (h : (n + 1) ^ spL (c :: t) ≤ 3000) : (n + 1) ^ spL t ≤ 3000 := Nat.le_trans (Nat.pow_le_pow_right (by omega) (by rw [spL_cons]; omega)) h
theorem spow_subs {n : Nat} {c : ST} {t : List ST} (h : (n + 1) ^ spL (c :: t) ≤ 3000) : (n + 1) ^ spL c.subs ≤ 3000 := Nat.le_trans (Nat.pow_le_pow_right (by omega) (by rw [spL_cons]; omega)) h
theorem gm_spow {fs : List FD} {l : List ST} {m : MT} (h : (fs.length + 1) ^ spL l ≤ 3000) : (gm fs l m).length ≤ 3000 := Nat.le_trans (gm_len fs l m) (Nat.le_trans (Nat.pow_le_pow_right (by omega) (sPos_sp l)) h)
theorem gmTo_small {fs : List FD} {c : ST} {rest : List ST} {m : MT} {k : Nat} (h1 : c.h.k = 1) (hk : k ≤ fs.length) (h : (fs.length + 1) ^ spL (c :: rest) ≤ 3000) : (gmTo fs c rest m k).length ≤ 3000 := Nat.le_trans (gmTo_len hk h1) (gm_spow h)
abbrev mch (ch : List FD) : MT := (ch.map Prod.fst, ch.map Prod.snd)
theorem mch_snoc (ch : List FD) (f : FD) : mch (ch ++ [f]) = mw (mch ch) f := by unfold mch mw; rw [List.map_append, List.map_append]; rfl
abbrev mt (c : ST) (m : MT) (f : FD) : Bool := meets c.h.k (sKey c.h) c.h.ts m.2 f.2
theorem mt_ncc {c : ST} {m : MT} {f : FD} (h : c.h.k = 3) : mt c m f = false := by unfold mt; rw [h]; exact meets_ncc
theorem mfst {ch : List FD} {k : Nat} (hk : k < ch.length) : (ch.take (k + 1)).map Prod.fst = (ch.take k).map Prod.fst ++ [(ch.getD k f0).1] := by
  have e : ch.getD k f0 = ch[k] := by simp [List.getD, hk]
  rw [List.take_succ_eq_append_getElem hk, List.map_append, e]; rfl
theorem msnd {ch : List FD} {k : Nat} (hk : k < ch.length) : (ch.take (k + 1)).map Prod.snd = (ch.take k).map Prod.snd ++ [(ch.getD k f0).2] := by
  have e : ch.getD k f0 = ch[k] := by simp [List.getD, hk]
  rw [List.take_succ_eq_append_getElem hk, List.map_append, e]; rfl
theorem no_step {fs : List FD} {c : ST} {m : MT} {k : Nat} (hk : k < fs.length) (hw : ((fs.take k).any fun f => mt c m f) = false) (h : mt c m (fs.getD k f0) = false) : ((fs.take (k + 1)).any fun f => mt c m f) = false := by
  have e : fs.getD k f0 = fs[k] := by simp [List.getD, hk]
  rw [e] at h
  rw [List.take_succ_eq_append_getElem hk, List.any_append, hw, Bool.false_or, List.any_cons, h]; rfl
theorem gm_hit {fs : List FD} {c : ST} {rest : List ST} {m : MT} {k : Nat} (h2 : c.h.k = 2) (hk : k < fs.length) (h : mt c m (fs.getD k f0) = true) : gm fs (c :: rest) m = [] := by
  refine gm_neg_no h2 (fun h0 => ?_)
  have e : fs.getD k f0 = fs[k] := by simp [List.getD, hk]
  rw [e] at h
  have h1 := List.any_eq_false.1 (which_any.1 h0) _ (List.getElem_mem hk)
  exact h1 h
theorem gm_pass {fs : List FD} {c : ST} {rest : List ST} {m : MT} {k : Nat} (h2 : c.h.k = 2) (hk : fs.length ≤ k) (hw : ((fs.take k).any fun f => mt c m f) = false) : gm fs (c :: rest) m = gm fs rest m := by
  rw [List.take_of_length_le hk] at hw
  exact gm_neg h2 (which_any.2 hw)
theorem gm_nccN {fs : List FD} {c : ST} {rest : List ST} {m : MT} (h : c.h.k = 3) (hw : 0 < (gm fs c.subs m).length) : gm fs (c :: rest) m = [] := by
  refine gm_ncc_no (by omega) (by omega) ?_
  cases e : gm fs c.subs m with
  | nil => rw [e] at hw; simp at hw
  | cons a t => rfl
theorem gm_nccY {fs : List FD} {c : ST} {rest : List ST} {m : MT} (h : c.h.k = 3) (hw : ¬ 0 < (gm fs c.subs m).length) : gm fs (c :: rest) m = gm fs rest m := by
  refine gm_ncc (by omega) (by omega) ?_
  cases e : gm fs c.subs m with
  | nil => rfl
  | cons a t => rw [e] at hw; simp at hw
theorem gm_end {fs : List FD} {c : ST} {rest : List ST} {m : MT} {k : Nat} (h : c.h.k = 1) (hk : k = fs.length) : gm fs (c :: rest) m = gmTo fs c rest m k := by rw [hk]; exact gm_pos h
end Go.Gx.T14

/- Walks: what Go functions of this chapter come to, each as a function on plain data; no condition but those that each theorem names. Printed by a program of this work (gen.py). -/
namespace Go.Proofs.Ytpadfgomhojjnaa
open Go.Gx Go.Gx.T13 Go.Gx.T8 Go.Gx.T4 Go.Gx.T3 Go.Gx.T14 Go.Gx.T13 Go.Gx.T8 Go.Gx.T6 Go.Gx.T4 Go.Gx.T3 Go.Gx.T3 Go.Gx.T4 Go.Gx.T3 Go.Gx.T5 Go.Gx.T1 Go.Gx.T8 Go.Gx.T6 Go.Gx.T4 Go.Gx.T3 Go.Gx.T6 Go.Gx.T8 Go.Gx.T4 Go.Gx.T3 Go.Gx.T8 Go.Gx.T4 Go.Gx.T3 Go.Gx.T8 Go.Gx.T6 Go.Gx.T4 Go.Gx.T3
theorem cl45 : Callable Try.prog 45 := callable Try.func45 (by kernel_rfl) rfl
theorem cl64 : Callable Try.prog 64 := callable Try.func64 (by kernel_rfl) rfl
theorem bs105_10a3 (a0 a1 a2 : Value) : Instr.fill (fun i => some (i * 3, 3)) ((Array.range (1 * 3)).map ((Value.agg #[Value.int .i64 0, Value.int .i64 0, Value.int .i64 0]).cells[· % (Value.agg #[Value.int .i64 0, Value.int .i64 0, Value.int .i64 0]).cells.size]!)) [(0, Value.agg #[a0, a1, a2])] = some #[a0, a1, a2] := by
 kernel_rfl
theorem el105 : ElemIs Try.prog 105 3 24 (Value.agg #[Value.int .i64 0, Value.int .i64 0, Value.int .i64 0]) := by
 unfold ElemIs
 kernel_rfl
def RStepsIs (n : Nat) : Prop := ∀ (vf vl vc : Value) (fs : List FD) (l : List ST) (ch : List FD) (G : Ghost) (w : World), SizeOf.sizeOf l ≤ n → fs.length ≤ 12 → ch.length + sszL l ≤ 1100 → okSL l → kdL l → (fs.length + 1) ^ spL l ≤ 3000 → SlL G vf 4 fC f0 fs → Ss G vl l → SlL G vc 4 fC f0 ch → Has G w → Calls Try.prog 45 #[vf, vl, vc] w (Ret fun r w' => ∃ G', GNew w nX G G' ∧ Has G' w' ∧ LI G' r ((gm fs l (mch ch)).map Prod.fst) ∧ Since nX w w')
theorem c_rsteps_s (n : Nat) (ih : RStepsIs n) (vf vl vc : Value) (fs : List FD) (l : List ST) (ch : List FD) {G : Ghost} (hz : SizeOf.sizeOf l ≤ n + 1) (hfl : fs.length ≤ 12) (hsz : ch.length + sszL l ≤ 1100) (hok : okSL l) (hkd : kdL l) (hpw : (fs.length + 1) ^ spL l ≤ 3000) (hf : SlL G vf 4 fC f0 fs) (hs : Ss G vl l) (hc : SlL G vc 4 fC f0 ch) (w : World) (hG : Has G w) :
  Calls Try.prog 45 #[vf, vl, vc] w (Ret fun r w' => ∃ G', GNew w nX G G' ∧ Has G' w' ∧ LI G' r ((gm fs l (mch ch)).map Prod.fst) ∧ Since nX w w') := by
 refine enter (args := [_, _, _]) (X := nX) (G := G) (l := [(0, vf), (1, vl), (2, vc)]) Try.func45 rfl Try.ntmps45 hG ⟨rfl, rfl, rfl, trivial⟩ (Nat.le_of_ble_eq_true rfl) ?_
 obtain ⟨rs, hr, hpt, hps, hl⟩ := hs.inv
 have hlr : l.length = rs.length := by rw [hl]; simp
 have hll := sszL_len l
 refine c_seq ?_
 refine c_region ?_
 refine r_val .none rfl (p_assign rfl) ?_
 refine r_nil ?_
 refine e_next ?_
 refine c_seq ?_
 refine c_region ?_
 refine r_val .none rfl (p_assign rfl) ?_
 refine r_nil ?_
 refine e_next ?_
 refine c_seq ?_
 refine c_region ?_
 refine r_val .none rfl (p_assign rfl) ?_
 refine r_nil ?_
 refine e_next ?_
 refine c_seq ?_
 refine c_seq ?_
 refine c_region ?_
 refine r_val .none rfl (p_move rfl) ?_
 refine r_val .none rfl (p_leng Try.underlying87 rfl hc) ?_
 have bd_1 := (hc).bound
 refine r_val .none rfl (p_move rfl) ?_
 refine r_nil ?_
 refine e_next ?_
 refine c_block ?_
 refine c_nilrow 105 3 ?_
 refine c_nilrow 3 1 ?_
 refine c_name (d := 0) rfl (fun u_2 hu_2 => ?_)
 refine c_name (d := 1) rfl (fun u_3 hu_3 => ?_)
 refine c_name (d := 2) rfl (fun u_4 hu_4 => ?_)
 refine c_name (d := 6) rfl (fun u_5 hu_5 => ?_)
 refine c_name (d := 16) rfl (fun u_6 hu_6 => ?_)
 refine c_name (d := 17) rfl (fun u_7 hu_7 => ?_)
 refine c_loop (σ := Nat × Value × Value) (fun s => [(18, Value.int .i64 (s.1 : Nat)), (7, s.2.1), (8, s.2.2), (0, u_2), (1, u_3), (2, u_4), (6, u_5), (16, u_6), (17, u_7)]) (fun s => [rowA (s.2.2) 3 1 (((ch.take s.1).map Prod.fst)).length ((((ch.take s.1).map Prod.fst)).flatMap cI), rowA (s.2.1) 105 3 (((ch.take s.1).map Prod.snd)).length ((((ch.take s.1).map Prod.snd)).flatMap triL)]) (fun _ => _) (fun s => s.1 ≤ ch.length) (fun s => ch.length - s.1) ((0, _, _)) (Nat.zero_le _) rfl ⟨rfl, rfl, rfl, rfl, rfl, rfl, rfl, rfl, rfl, trivial⟩ (.keep (fun _ _ h => rowA_nil rfl _ _ h) (.keep (fun _ _ h => rowA_nil rfl _ _ h) (.nil))) (fun s hphi => ?_)
 subst hu_2
 subst hu_3
 subst hu_4
 subst hu_5
 subst hu_6
 subst hu_7
 obtain ⟨k, v1, v2⟩ := s
 dsimp only at hphi ⊢
 refine c_seq ?_
 refine c_region ?_
 refine r_val .none rfl (p_lt rfl rfl) ?_
 refine r_nil ?_
 refine e_next ?_
 refine c_seq ?_
 refine c_splitd (d := 19) rfl (fun h_8 => ?_) (fun h_8 => ?_)
 ·
  first
   | (exfalso; omega)
   | (
    refine c_cond_t rfl ?_
    refine c_skip ?_
    refine e_next ?_
    refine c_seq ?_
    refine c_block ?_
    refine c_seq ?_
    refine c_region ?_
    refine r_iaddr_g .none rfl Try.underlying87 sz145 rfl hc rfl (by first | exact of_decide_eq_true rfl | omega) (fun p_10 o_11 R_9 => ?_)
    refine r_val .none rfl (p_ldga0 Try.underlying145 rfl sz145 rfl R_9 (by first | exact of_decide_eq_true rfl | omega) (rfl : _ = Value.agg #[_, _, _, _])) ?_
    refine r_alloc .none rfl zr145 (IsRow.lit _) (fun b_1 => ?_)
    refine r_stw (k := 0) .none sz145 rfl rfl (IsRow.lit _) (one_lit rfl rfl) rfl ?_
    refine r_nil ?_
    refine e_next ?_
    refine c_seq ?_
    refine c_region ?_
    refine r_val .none rfl (p_move rfl) ?_
    refine r_val .none rfl (p_field Try.underlying145 rfl sz105 rfl) ?_
    refine r_val .none rfl (p_lda (k := 0) Try.underlying105 rfl sz105 rfl rfl (by first | exact of_decide_eq_true rfl | omega) (rfl : _ = Value.agg #[_, _, _])) ?_
    refine r_bslice (vs := [(0, Value.agg #[_, _, _])]) (c := #[_, _, _]) .none rfl Try.underlying153 el105 rfl rfl rfl (bs105_10a3 _ _ _) (IsRow.lit _) (fun b_2 => ?_)
    refine r_append (k := 3) (k2 := 0) .none rfl Try.underlying153 el105 rfl (by decide) rfl rfl rfl rfl rfl (one_lit rfl rfl) (by rw [List.length_map, List.length_take]; simp only [maxLen]; omega) (by rw [List.length_map, List.length_take]; omega) (fun v_12 => ?_)
    refine r_row1 (k := 3) rfl (fun o_13 => ?_)
    refine r_val .none rfl (p_assign rfl) ?_
    refine r_nil ?_
    refine e_next ?_
    refine c_region ?_
    refine r_val .none rfl (p_move rfl) ?_
    refine r_val .none rfl (p_field Try.underlying145 rfl sz3 rfl) ?_
    refine r_val .none rfl (p_ld (k := 1) Try.underlying3 rfl rfl rfl (by first | exact of_decide_eq_true rfl | omega) (rfl : _ = Value.int _ _)) ?_
    refine r_bslice (vs := [(0, Value.int _ _)]) (c := #[_]) .none rfl Try.underlying22 el3 rfl rfl rfl (bs3_10i2 _ _) (IsRow.lit _) (fun b_3 => ?_)
    refine r_append (k := 3) (k2 := 0) .none rfl Try.underlying22 el3 rfl (by decide) rfl rfl rfl rfl rfl (one_lit rfl rfl) (by rw [List.length_map, List.length_take]; simp only [maxLen]; omega) (by rw [List.length_map, List.length_take]; omega) (fun v_14 => ?_)
    refine r_row1 (k := 3) rfl (fun o_15 => ?_)
    refine r_val .none rfl (p_assign rfl) ?_
    refine r_nil ?_
    refine e_norm_block ?_
    refine e_next ?_
    refine c_region ?_
    refine r_val .none rfl (p_add rfl rfl (by omega)) ?_
    refine r_val .none rfl (p_move rfl) ?_
    refine r_nil ?_
    refine e_round ((k + 1, _, _)) ⟨by dsimp only; omega, by dsimp only; omega⟩ rfl ⟨rfl, rfl, rfl, rfl, rfl, rfl, rfl, rfl, rfl, trivial⟩ (.drop (.drop (.drop (.keep (fun _ _ h => rowA_snoc (mfst (by omega)) rfl rfl rfl _ _ h) (.keep (fun _ _ h => rowA_snoc (msnd (by omega)) rfl rfl rfl _ _ h) (.nil))))))
    )
 ·
  first
   | (exfalso; omega)
   | (
    refine c_cond_f rfl ?_
    refine c_exit ?_
    refine e_exit_then ?_
    refine e_exit_then ?_
    refine e_exit_block ?_
    refine e_next ?_
    refine c_seq ?_
    refine c_seq ?_
    refine c_region ?_
    have hk8 : ch.take k = ch := List.take_of_length_le (by omega)
    refine r_freeze (k := 1) rfl (fun G_16 hn_17 hs_18 => ?_)
    replace hf := hf.mono hn_17.le
    replace hr := hr.mono hn_17.le
    replace hc := hc.mono hn_17.le
    replace hpt := fun p hm0 => (hpt p hm0).mono hn_17.le
    replace hps := fun p hm0 => (hps p hm0).mono hn_17.le
    have hbk : SlL G_16 v1 3 triL z3 (ch.map Prod.snd) := SlL.of2 z3 (fun _ => rfl) (by rw [hk8]) (by rw [hk8]) hs_18
    refine r_freeze (k := 0) rfl (fun G_19 hn_20 hs_21 => ?_)
    replace hf := hf.mono hn_20.le
    replace hr := hr.mono hn_20.le
    replace hc := hc.mono hn_20.le
    replace hpt := fun p hm0 => (hpt p hm0).mono hn_20.le
    replace hps := fun p hm0 => (hps p hm0).mono hn_20.le
    replace hbk := hbk.mono hn_20.le
    have hid : SlL G_19 v2 1 cI 0 (ch.map Prod.fst) := SlL.of2 0 (fun _ => rfl) (by rw [hk8]) (by rw [hk8]) hs_21
    obtain ⟨ai, ci, rfl⟩ := SlG.len hid
    refine r_val .none rfl (p_move rfl) ?_
    refine r_val .none rfl (p_leng Try.underlying83 rfl hr) ?_
    have bd_22 := (hr).bound
    refine r_val .none rfl (p_eq rfl rfl) ?_
    refine r_nil ?_
    refine e_next ?_
    refine c_splitd (d := 35) rfl (fun h_23 => ?_) (fun h_23 => ?_)
    ·
     first
      | (exfalso; omega)
      | (
       refine c_cond_t rfl ?_
       refine c_seq ?_
       refine c_region ?_
       refine r_val .none rfl (p_move rfl) ?_
       refine r_bslice (vs := [(0, Value.slice _ _ _)]) (c := #[_]) .none rfl Try.underlying79 el22 rfl rfl rfl (bs22_10s3 _ _ _) (IsRow.lit _) (fun b_4 => ?_)
       refine r_freezeB (k := 0) 1 1 rfl rfl (by decide) (fun G_24 hn_25 hs_26 => ?_)
       replace hf := hf.mono hn_25.le
       replace hr := hr.mono hn_25.le
       replace hc := hc.mono hn_25.le
       replace hpt := fun p hm0 => (hpt p hm0).mono hn_25.le
       replace hps := fun p hm0 => (hps p hm0).mono hn_25.le
       replace hbk := hbk.mono hn_25.le
       replace hid := hid.mono hn_25.le
       have h37 : SlL G_24 (Value.slice (some ⟨b_4, 0, none⟩) 1 1) 1 lC (([] : List Int), Value.slice none 0 0) [((ch.map Prod.fst), Value.slice ai (ch.map Prod.fst).length ci)] := SlG.congr hs_26 (fun i hi j hj => by match i, hi with | 0, _ => (match j, hj with | 0, _ => rfl))
       have Lh37 : LI G_24 (Value.slice (some ⟨b_4, 0, none⟩) 1 1) [(ch.map Prod.fst)] := Ls.mk _ h37 (by intro p hm0; simp only [List.mem_cons, List.not_mem_nil, or_false] at hm0; subst hm0; exact hid)
       refine r_val .none rfl (p_assign rfl) ?_
       refine r_nil ?_
       refine e_next ?_
       refine c_ret ?_
       refine e_ret_then ?_
       refine e_ret1 Try.results45 (.tmp rfl .nil) (fun w hm => ⟨_, ((hn_17.trans hn_20).trans hn_25), hm.has, ?_, hm.since⟩)
       have hl9 : l = [] := by rw [hl, List.eq_nil_of_length_eq_zero (show rs.length = 0 by omega)]; rfl
       rw [hl9, gm]
       exact Lh37
       )
    ·
     have hl0 : 0 < rs.length := by omega
     have hcons : l = (rs.getD 0 s0).1 :: ((rs.drop 1).map Prod.fst) := ss_cons hl hl0
     have hok2 := okSL_cons (by rw [← hcons]; exact hok)
     have hkd2 := kdL_cons (by rw [← hcons]; exact hkd)
     have hsq : sszL l = ssz (rs.getD 0 s0).1 + sszL ((rs.drop 1).map Prod.fst) := by rw [hcons, sszL]
     have hsx := ssz_eq (rs.getD 0 s0).1
     have hpw1 : (fs.length + 1) ^ spL ((rs.getD 0 s0).1 :: ((rs.drop 1).map Prod.fst)) ≤ 3000 := by rw [← hcons]; exact hpw
     have hpr := spow_rest hpw1
     have hpx := spow_subs hpw1
     have hzr : SizeOf.sizeOf ((rs.drop 1).map Prod.fst) ≤ n := by have := drop_lt hl0; rw [← hl] at this; omega
     have hzs : SizeOf.sizeOf (rs.getD 0 s0).1.subs ≤ n := by have q1 := s_subs (rs.getD 0 s0).1; have q2 := List.sizeOf_lt_of_mem (show (rs.getD 0 s0).1 ∈ l by rw [hcons]; simp); omega
     have hk9 := hkd2.1.1
     first
      | (exfalso; omega)
      | (
       refine c_cond_f rfl ?_
       refine c_skip ?_
       refine e_next ?_
       refine c_seq ?_
       refine c_region ?_
       refine r_val .none rfl (p_move rfl) ?_
       refine r_iaddr_g (i := 0) .none rfl Try.underlying83 sz116 rfl hr rfl (by first | exact of_decide_eq_true rfl | omega) (fun p_28 o_29 R_27 => ?_)
       have ht_30 := hpt _ (getD_mem (i := 0) (d := s0) (by omega))
       have hc_31 := hps _ (getD_mem (i := 0) (d := s0) (by omega))
       refine r_val .none rfl (p_ldga0 Try.underlying116 rfl sz116 rfl R_27 (by first | exact of_decide_eq_true rfl | omega) (rfl : _ = Value.agg #[_, _, _, _, _, _])) ?_
       refine r_alloc .none rfl zr116 (IsRow.lit _) (fun b_5 => ?_)
       refine r_stw (k := 0) .none sz116 rfl rfl (IsRow.lit _) (one_lit rfl (all_cons rfl (all_cons rfl (all_cons rfl (all_cons rfl (all_cons (ht_30).one (all_cons (hc_31).one rfl))))))) rfl ?_
       refine r_nil ?_
       refine e_next ?_
       refine c_seq ?_
       refine c_region ?_
       refine r_val .none rfl (p_assign rfl) ?_
       refine r_nil ?_
       refine e_next ?_
       refine c_seq ?_
       refine c_seq ?_
       refine c_region ?_
       refine r_val .none rfl (p_move rfl) ?_
       refine r_val .none rfl (p_leng Try.underlying87 rfl hf) ?_
       have bd_32 := (hf).bound
       refine r_val .none rfl (p_move rfl) ?_
       refine r_nil ?_
       refine e_next ?_
       refine c_block ?_
       refine c_nilrow 22 1 ?_
       refine c_name (d := 0) rfl (fun u_33 hu_33 => ?_)
       refine c_name (d := 1) rfl (fun u_34 hu_34 => ?_)
       refine c_name (d := 2) rfl (fun u_35 hu_35 => ?_)
       refine c_name (d := 7) rfl (fun u_36 hu_36 => ?_)
       refine c_name (d := 11) rfl (fun u_37 hu_37 => ?_)
       refine c_name (d := 41) rfl (fun u_38 hu_38 => ?_)
       refine c_name (d := 42) rfl (fun u_39 hu_39 => ?_)
       refine c_nameL (k := 1) rfl (fun A_40 hA_40 => ?_)
       refine c_loop (σ := Nat × Value × List (List Int × Value) × Ghost) (fun s => [(43, Value.int .i64 (s.1 : Nat)), (12, s.2.1), (0, u_33), (1, u_34), (2, u_35), (7, u_36), (11, u_37), (41, u_38), (42, u_39)]) (fun s => [rowA (s.2.1) 22 1 (s.2.2.1).length ((s.2.2.1).flatMap lC), A_40]) (fun s => s.2.2.2) (fun s => s.1 ≤ fs.length ∧ s.2.2.1.map Prod.fst = (gmTo fs (rs.getD 0 s0).1 ((rs.drop 1).map Prod.fst) (mch ch) s.1).map Prod.fst ∧ ((rs.getD 0 s0).1.h.k = 2 → ((fs.take s.1).any fun f => mt (rs.getD 0 s0).1 (mch ch) f) = false) ∧ (∀ q ∈ s.2.2.1, SlL s.2.2.2 q.2 1 cI 0 q.1) ∧ GNew w nX G_19 s.2.2.2) (fun s => fs.length - s.1) ((0, _, [], _)) ⟨Nat.zero_le _, rfl, by simp, by simp, GNew.refl _ _ _⟩ rfl ⟨rfl, rfl, rfl, rfl, rfl, rfl, rfl, rfl, rfl, trivial⟩ (.keep (fun _ _ h => rowA_nil rfl _ _ h) (.keep (fun _ _ h => h) (.nil))) (fun s hphi => ?_)
       subst hu_33
       subst hu_34
       subst hu_35
       subst hu_36
       subst hu_37
       subst hu_38
       subst hu_39
       subst hA_40
       obtain ⟨k, v, z, H⟩ := s
       obtain ⟨hk, hzq, hany, hzc, hgn⟩ := hphi
       dsimp only at hk hzq hany hzc hgn ⊢
       replace hf := hf.mono hgn.le
       replace hr := hr.mono hgn.le
       replace hc := hc.mono hgn.le
       replace hpt := fun p hm0 => (hpt p hm0).mono hgn.le
       replace hps := fun p hm0 => (hps p hm0).mono hgn.le
       replace hbk := hbk.mono hgn.le
       replace hid := hid.mono hgn.le
       replace R_27 := R_27.mono hgn.le
       replace ht_30 := ht_30.mono hgn.le
       replace hc_31 := hc_31.mono hgn.le
       refine c_seq ?_
       refine c_region ?_
       refine r_val .none rfl (p_lt rfl rfl) ?_
       refine r_nil ?_
       refine e_next ?_
       refine c_seq ?_
       refine c_splitd (d := 44) rfl (fun h_41 => ?_) (fun h_41 => ?_)
       ·
        first
         | (exfalso; omega)
         | (
          refine c_cond_t rfl ?_
          refine c_skip ?_
          refine e_next ?_
          refine c_seq ?_
          refine c_block ?_
          refine c_seq ?_
          refine c_region ?_
          refine r_iaddr_g .none rfl Try.underlying87 sz145 rfl hf rfl (by first | exact of_decide_eq_true rfl | omega) (fun p_43 o_44 R_42 => ?_)
          refine r_val .none rfl (p_ldga0 Try.underlying145 rfl sz145 rfl R_42 (by first | exact of_decide_eq_true rfl | omega) (rfl : _ = Value.agg #[_, _, _, _])) ?_
          refine r_alloc .none rfl zr145 (IsRow.lit _) (fun b_6 => ?_)
          refine r_stw (k := 0) .none sz145 rfl rfl (IsRow.lit _) (one_lit rfl rfl) rfl ?_
          refine r_nil ?_
          refine e_next ?_
          refine c_seq ?_
          refine c_seq ?_
          refine c_region ?_
          refine r_val .none rfl (p_field Try.underlying116 rfl sz3 rfl) ?_
          refine r_val .none rfl (p_ld (k := 2) Try.underlying3 rfl rfl rfl (by first | exact of_decide_eq_true rfl | omega) (rfl : _ = Value.int _ _)) ?_
          refine r_val .none rfl (p_eq rfl rfl) ?_
          refine r_val .none rfl (p_move rfl) ?_
          refine r_splitd (d := 50) rfl (fun h_45 => ?_) (fun h_45 => ?_)
          ·
           have hk3 := h_45
           have hM : mt (rs.getD 0 s0).1 (mch ch) (fs.getD k f0) = false := mt_ncc hk3
           first
            | (exfalso; omega)
            | (
             refine r_skip rfl (.no rfl rfl) ?_
             refine r_skip rfl (.no rfl rfl) ?_
             refine r_skip rfl (.no rfl rfl) ?_
             refine r_skip rfl (.no rfl rfl) ?_
             refine r_skip rfl (.no rfl rfl) ?_
             refine r_skip rfl (.no rfl rfl) ?_
             refine r_val .none rfl (p_pick_t rfl rfl) ?_
             refine r_nil ?_
             refine e_next ?_
             refine c_cond_t rfl ?_
             refine c_exit ?_
             refine e_exit_then ?_
             refine e_exit_block ?_
             refine e_next ?_
             refine c_region ?_
             refine r_val .none rfl (p_add rfl rfl (by omega)) ?_
             refine r_val .none rfl (p_move rfl) ?_
             refine r_nil ?_
             refine e_round ((k + 1, _, z, _)) ⟨⟨by dsimp only; omega, by rw [gmTo_no (by omega) hM, hzq], (fun h2 => no_step (by omega) (hany h2) hM), hzc, hgn⟩, by dsimp only; omega⟩ rfl ⟨rfl, rfl, rfl, rfl, rfl, rfl, rfl, rfl, rfl, trivial⟩ (.drop (.keep (fun _ _ h => h) (.keep (fun _ _ h => h) (.nil))))
             )
          ·
           have hk3 := h_45
           first
            | (exfalso; omega)
            | (
             refine r_val (.some rfl rfl) rfl (p_ldw (k := 2) Try.underlying116 rfl sz116 rfl rfl (rfl : _ = Value.agg #[_, _, _, _, _, _])) ?_
             refine r_val (.some rfl rfl) rfl (p_move rfl) ?_
             refine r_val (.some rfl rfl) rfl (p_field Try.underlying145 rfl sz105 rfl) ?_
             refine r_val (.some rfl rfl) rfl (p_lda (k := 0) Try.underlying105 rfl sz105 rfl rfl (by first | exact of_decide_eq_true rfl | omega) (rfl : _ = Value.agg #[_, _, _])) ?_
             refine r_call (vs := [_, _, _]) (.some rfl rfl) rfl cl64 rfl (fun w hw => c_rmeets (rs.getD 0 s0).1.h.k (sKey (rs.getD 0 s0).1.h) (rs.getD 0 s0).1.h.ts _ _ _ (ch.map Prod.snd) (fs.getD k f0).2 hok2.1.1 ht_30 hbk w hw) ?_
             refine r_val (.some rfl rfl) rfl (p_not rfl) ?_
             refine r_val .none rfl (p_pick_f rfl rfl) ?_
             refine r_nil ?_
             refine e_next ?_
             refine c_splitn (d := 57) rfl (fun h_46 => ?_) (fun h_46 => ?_)
             ·
              have hM : mt (rs.getD 0 s0).1 (mch ch) (fs.getD k f0) = false := h_46
              first
               | (exfalso; omega)
               | (
                refine c_cond_t rfl ?_
                refine c_exit ?_
                refine e_exit_then ?_
                refine e_exit_block ?_
                refine e_next ?_
                refine c_region ?_
                refine r_val .none rfl (p_add rfl rfl (by omega)) ?_
                refine r_val .none rfl (p_move rfl) ?_
                refine r_nil ?_
                refine e_round ((k + 1, _, z, _)) ⟨⟨by dsimp only; omega, by rw [gmTo_no (by omega) hM, hzq], (fun h2 => no_step (by omega) (hany h2) hM), hzc, hgn⟩, by dsimp only; omega⟩ rfl ⟨rfl, rfl, rfl, rfl, rfl, rfl, rfl, rfl, rfl, trivial⟩ (.drop (.keep (fun _ _ h => h) (.keep (fun _ _ h => h) (.nil))))
                )
             ·
              have hM : mt (rs.getD 0 s0).1 (mch ch) (fs.getD k f0) = true := h_46
              first
               | (exfalso; omega)
               | (
                refine c_cond_f rfl ?_
                refine c_skip ?_
                refine e_next ?_
                refine c_seq ?_
                refine c_seq ?_
                refine c_region ?_
                refine r_val .none rfl (p_field Try.underlying116 rfl sz3 rfl) ?_
                refine r_val .none rfl (p_ld (k := 2) Try.underlying3 rfl rfl rfl (by first | exact of_decide_eq_true rfl | omega) (rfl : _ = Value.int _ _)) ?_
                refine r_val .none rfl (p_eq rfl rfl) ?_
                refine r_nil ?_
                refine e_next ?_
                refine c_splitd (d := 60) rfl (fun h_47 => ?_) (fun h_47 => ?_)
                ·
                 have hk2 := h_47
                 skip
                 first
                  | (exfalso; omega)
                  | (
                   refine c_cond_t rfl ?_
                   refine c_seq ?_
                   refine c_region ?_
                   refine r_val .none rfl (p_assign rfl) ?_
                   refine r_nil ?_
                   refine e_next ?_
                   refine c_ret ?_
                   refine e_ret_then ?_
                   refine e_ret_block ?_
                   refine e_ret_then ?_
                   refine e_ret_then ?_
                   refine e_ret_block ?_
                   refine e_ret_then ?_
                   refine e_ret1 Try.results45 (.tmp rfl .nil) (fun w hm => ⟨_, ((hn_17.trans hn_20).trans hgn), hm.has, ?_, hm.since⟩)
                   rw [hcons, gm_hit (k := k) hk2 (by omega) hM]
                   exact li_nil
                   )
                ·
                 have hk2 := h_47
                 have hk1 : (rs.getD 0 s0).1.h.k = 1 := by omega
                 have hzn : z.length ≤ 3000 := by have q := gmTo_small (m := mch ch) (k := k) hk1 (by omega) hpw1; have q2 := congrArg List.length hzq; rw [List.length_map, List.length_map] at q2; omega
                 skip
                 first
                  | (exfalso; omega)
                  | (
                   refine c_cond_f rfl ?_
                   refine c_skip ?_
                   refine e_next ?_
                   refine c_seq ?_
                   refine c_region ?_
                   refine r_val .none rfl (p_assign rfl) ?_
                   refine r_nil ?_
                   refine e_next ?_
                   refine c_seq ?_
                   refine c_region ?_
                   refine r_val .none rfl (p_move rfl) ?_
                   refine r_val .none rfl (p_move rfl) ?_
                   refine r_nilrow 145 4 ?_
                   refine r_append_g (k := 0) .none rfl Try.underlying87 el145 rfl (by decide) rfl rfl rfl hc (fun _ _ _ hj => one_lit rfl rfl _ hj) (by simp only [maxLen]; omega) (by omega) (fun v_48 => ?_)
                   refine r_row1 (k := 0) rfl (fun o_49 => ?_)
                   refine r_conv (B := rowA v_48 _ 4 ch.length (ch.flatMap fC)) (k := 0) rfl (fun _ _ h => rowA_congr (by simp) (by rw [List.nil_append, flat_all (cells := fC) (fun _ => rfl)]) _ _ h) ?_
                   refine r_val .none rfl (p_assign rfl) ?_
                   refine r_nil ?_
                   refine e_next ?_
                   refine c_seq ?_
                   refine c_region ?_
                   refine r_val .none rfl (p_move rfl) ?_
                   refine r_val .none rfl (p_ldw (k := 1) Try.underlying145 rfl sz145 rfl rfl (rfl : _ = Value.agg #[_, _, _, _])) ?_
                   refine r_bslice (vs := [(0, Value.agg #[_, _, _, _])]) (c := #[_, _, _, _]) .none rfl Try.underlying87 el145 rfl rfl rfl (bs145_10a4 _ _ _ _) (IsRow.lit _) (fun b_7 => ?_)
                   refine r_append (k := 1) (k2 := 0) .none rfl Try.underlying87 el145 rfl (by decide) rfl rfl rfl rfl rfl (one_lit rfl rfl) (by simp only [maxLen]; omega) (by omega) (fun v_50 => ?_)
                   refine r_row1 (k := 1) rfl (fun o_51 => ?_)
                   refine r_val .none rfl (p_assign rfl) ?_
                   refine r_nil ?_
                   refine e_next ?_
                   refine c_region ?_
                   refine r_freeze (k := 1) rfl (fun G_52 hn_53 hs_54 => ?_)
                   replace hf := hf.mono hn_53.le
                   replace hr := hr.mono hn_53.le
                   replace hc := hc.mono hn_53.le
                   replace hpt := fun p hm0 => (hpt p hm0).mono hn_53.le
                   replace hps := fun p hm0 => (hps p hm0).mono hn_53.le
                   replace hbk := hbk.mono hn_53.le
                   replace hid := hid.mono hn_53.le
                   replace R_27 := R_27.mono hn_53.le
                   replace ht_30 := ht_30.mono hn_53.le
                   replace hc_31 := hc_31.mono hn_53.le
                   replace hzc := fun p hm0 => (hzc p hm0).mono hn_53.le
                   replace R_42 := R_42.mono hn_53.le
                   have hnx : SlL G_52 v_50 4 fC f0 (ch ++ [(fs.getD k f0)]) := SlL.of2 f0 (fun _ => rfl) (by simp) (by rw [List.flatMap_append, List.flatMap_cons, List.flatMap_nil, List.append_nil]; rfl) hs_54
                   refine r_val .none rfl (p_move rfl) ?_
                   refine r_val .none rfl (p_move rfl) ?_
                   refine r_val .none rfl (p_move rfl) ?_
                   refine r_slice (1) (_) (q' := .i64) .none rfl Try.underlying83 sz116 rfl hr rfl rfl (by first | exact of_decide_eq_true rfl | omega) (by first | exact of_decide_eq_true rfl | omega) (fun v_55 hs_56 => ?_)
                   have hR_58 := ss_drop hs_56 hpt hps
                   refine r_val .none rfl (p_move rfl) ?_
                   refine r_callm (vs := [_, _, _]) .none rfl cl45 rfl (fun w hw => ih _ _ _ fs ((rs.drop 1).map Prod.fst) (ch ++ [(fs.getD k f0)]) _ w hzr hfl (by rw [List.length_append, List.length_singleton]; omega) hok2.2 hkd2.2 hpr hf hR_58 hnx hw) (fun G_59 v_62 hn_60 hr_61 => ?_)
                   replace hf := hf.mono hn_60.le
                   replace hr := hr.mono hn_60.le
                   replace hc := hc.mono hn_60.le
                   replace hpt := fun p hm0 => (hpt p hm0).mono hn_60.le
                   replace hps := fun p hm0 => (hps p hm0).mono hn_60.le
                   replace hbk := hbk.mono hn_60.le
                   replace hid := hid.mono hn_60.le
                   replace R_27 := R_27.mono hn_60.le
                   replace ht_30 := ht_30.mono hn_60.le
                   replace hc_31 := hc_31.mono hn_60.le
                   replace hzc := fun p hm0 => (hzc p hm0).mono hn_60.le
                   replace R_42 := R_42.mono hn_60.le
                   replace hnx := hnx.mono hn_60.le
                   replace hs_56 := hs_56.mono hn_60.le
                   replace hR_58 := hR_58.mono hn_60.le
                   rw [mch_snoc] at hr_61
                   obtain ⟨ws, hws, hwp, hwl⟩ := hr_61
                   have hwn : ws.length ≤ 3000 := by have q := gm_spow (m := mw (mch ch) (fs.getD k f0)) hpr; have q2 := congrArg List.length hwl; rw [List.length_map, List.length_map] at q2; omega
                   refine r_append_g (k := 2) .none rfl Try.underlying79 el22 rfl (by decide) rfl rfl rfl hws (li_ones hwp) (by simp only [maxLen]; omega) (by omega) (fun v_64 => ?_)
                   refine r_row1 (k := 2) rfl (fun o_65 => ?_)
                   refine r_conv (B := rowA v_64 _ 1 (z ++ ws).length ((z ++ ws).flatMap lC)) (k := 2) rfl (fun _ _ h => rowA_congr (by simp) (by rw [flat_all (cells := lC) (fun _ => rfl), List.flatMap_append]) _ _ h) ?_
                   refine r_val .none rfl (p_assign rfl) ?_
                   refine r_nil ?_
                   refine e_norm_block ?_
                   refine e_next ?_
                   refine c_region ?_
                   refine r_val .none rfl (p_add rfl rfl (by omega)) ?_
                   refine r_val .none rfl (p_move rfl) ?_
                   refine r_nil ?_
                   refine e_round ((k + 1, _, z ++ ws, _)) ⟨⟨by dsimp only; omega, by rw [gmTo_yes (by omega) hM, List.map_append, List.map_append, hzq, hwl], (fun h2 => absurd h2 (by omega)), li_app hzc hwp, ((hgn.trans hn_53).trans hn_60)⟩, by dsimp only; omega⟩ rfl ⟨rfl, rfl, rfl, rfl, rfl, rfl, rfl, rfl, rfl, trivial⟩ (.drop (.drop (.keep (fun _ _ h => h) (.keep (fun _ _ h => h) (.nil)))))
                   )
                )
             )
          )
       ·
        first
         | (exfalso; omega)
         | (
          refine c_cond_f rfl ?_
          refine c_exit ?_
          refine e_exit_then ?_
          refine e_exit_then ?_
          refine e_exit_block ?_
          refine e_next ?_
          refine c_seq ?_
          refine c_seq ?_
          refine c_region ?_
          refine r_val .none rfl (p_field Try.underlying116 rfl sz3 rfl) ?_
          refine r_val .none rfl (p_ld (k := 1) Try.underlying3 rfl rfl rfl (by first | exact of_decide_eq_true rfl | omega) (rfl : _ = Value.int _ _)) ?_
          refine r_val .none rfl (p_eq rfl rfl) ?_
          refine r_nil ?_
          refine e_next ?_
          refine c_splitd (d := 78) rfl (fun h_66 => ?_) (fun h_66 => ?_)
          ·
           have hk1 := h_66
           first
            | (exfalso; omega)
            | (
             refine c_cond_t rfl ?_
             refine c_seq ?_
             refine c_region ?_
             refine r_val .none rfl (p_move rfl) ?_
             refine r_val .none rfl (p_assign rfl) ?_
             refine r_nil ?_
             refine e_next ?_
             refine c_ret ?_
             refine e_ret_then ?_
             refine e_freeze (k := 0) rfl (fun G_67 hn_68 hs_69 => ?_)
             replace hf := hf.mono hn_68.le
             replace hr := hr.mono hn_68.le
             replace hc := hc.mono hn_68.le
             replace hpt := fun p hm0 => (hpt p hm0).mono hn_68.le
             replace hps := fun p hm0 => (hps p hm0).mono hn_68.le
             replace hbk := hbk.mono hn_68.le
             replace hid := hid.mono hn_68.le
             replace R_27 := R_27.mono hn_68.le
             replace ht_30 := ht_30.mono hn_68.le
             replace hc_31 := hc_31.mono hn_68.le
             replace hzc := fun p hm0 => (hzc p hm0).mono hn_68.le
             refine e_ret1 Try.results45 (.tmp rfl .nil) (fun w hm => ⟨_, (((hn_17.trans hn_20).trans hgn).trans hn_68), hm.has, ?_, hm.since⟩)
             rw [hcons, gm_end (k := k) hk1 (by omega), ← hzq]
             exact Ls.mk z (SlL.of (([] : List Int), Value.slice none 0 0) (fun _ => rfl) rfl hs_69) hzc
             )
          ·
           have hk1 := h_66
           first
            | (exfalso; omega)
            | (
             refine c_cond_f rfl ?_
             refine c_skip ?_
             refine e_next ?_
             refine c_seq ?_
             refine c_seq ?_
             refine c_region ?_
             refine r_val .none rfl (p_field Try.underlying116 rfl sz3 rfl) ?_
             refine r_val .none rfl (p_ld (k := 1) Try.underlying3 rfl rfl rfl (by first | exact of_decide_eq_true rfl | omega) (rfl : _ = Value.int _ _)) ?_
             refine r_val .none rfl (p_eq rfl rfl) ?_
             refine r_val .none rfl (p_move rfl) ?_
             refine r_splitd (d := 83) rfl (fun h_70 => ?_) (fun h_70 => ?_)
             ·
              have hk3 := h_70
              skip
              first
               | (exfalso; omega)
               | (
                refine r_val (.some rfl rfl) rfl (p_move rfl) ?_
                refine r_val (.some rfl rfl) rfl (p_field Try.underlying116 rfl sz83 rfl) ?_
                refine r_val (.some rfl rfl) rfl (p_ld (k := 1) Try.underlying83 rfl rfl rfl (by first | exact of_decide_eq_true rfl | omega) rfl) ?_
                refine r_val (.some rfl rfl) rfl (p_move rfl) ?_
                refine r_callm (vs := [_, _, _]) (.some rfl rfl) rfl cl45 rfl (fun w hw => ih _ _ _ fs (rs.getD 0 s0).1.subs ch _ w hzs hfl (by omega) hok2.1.2 hkd2.1.2 hpx hf hc_31 hc hw) (fun G_71 v_74 hn_72 hr_73 => ?_)
                replace hf := hf.mono hn_72.le
                replace hr := hr.mono hn_72.le
                replace hc := hc.mono hn_72.le
                replace hpt := fun p hm0 => (hpt p hm0).mono hn_72.le
                replace hps := fun p hm0 => (hps p hm0).mono hn_72.le
                replace hbk := hbk.mono hn_72.le
                replace hid := hid.mono hn_72.le
                replace R_27 := R_27.mono hn_72.le
                replace ht_30 := ht_30.mono hn_72.le
                replace hc_31 := hc_31.mono hn_72.le
                replace hzc := fun p hm0 => (hzc p hm0).mono hn_72.le
                obtain ⟨ws, hws, hwp, hwl⟩ := hr_73
                have hwn := congrArg List.length hwl
                rw [List.length_map, List.length_map] at hwn
                refine r_val (.some rfl rfl) rfl (p_leng Try.underlying79 rfl hws) ?_
                have bd_76 := (hws).bound
                refine r_val (.some rfl rfl) rfl (p_gt rfl rfl) ?_
                refine r_val .none rfl (p_pick_t rfl rfl) ?_
                refine r_nil ?_
                refine e_next ?_
                refine c_splitd (d := 91) rfl (fun h_77 => ?_) (fun h_77 => ?_)
                ·
                 have hw9 := h_77
                 skip
                 first
                  | (exfalso; omega)
                  | (
                   refine c_cond_t rfl ?_
                   refine c_seq ?_
                   refine c_region ?_
                   refine r_val .none rfl (p_assign rfl) ?_
                   refine r_nil ?_
                   refine e_next ?_
                   refine c_ret ?_
                   refine e_ret_then ?_
                   refine e_ret1 Try.results45 (.tmp rfl .nil) (fun w hm => ⟨_, (((hn_17.trans hn_20).trans hgn).trans hn_72), hm.has, ?_, hm.since⟩)
                   rw [hcons, gm_nccN hk3 (by omega)]
                   exact li_nil
                   )
                ·
                 have hw9 := h_77
                 first
                  | (exfalso; omega)
                  | (
                   refine c_cond_f rfl ?_
                   refine c_skip ?_
                   refine e_next ?_
                   refine c_seq ?_
                   refine c_region ?_
                   refine r_val .none rfl (p_move rfl) ?_
                   refine r_val .none rfl (p_move rfl) ?_
                   refine r_slice (1) (_) (q' := .i64) .none rfl Try.underlying83 sz116 rfl hr rfl rfl (by first | exact of_decide_eq_true rfl | omega) (by first | exact of_decide_eq_true rfl | omega) (fun v_78 hs_79 => ?_)
                   have hR_81 := ss_drop hs_79 hpt hps
                   refine r_val .none rfl (p_move rfl) ?_
                   refine r_callm (vs := [_, _, _]) .none rfl cl45 rfl (fun w hw => ih _ _ _ fs ((rs.drop 1).map Prod.fst) ch _ w hzr hfl (by omega) hok2.2 hkd2.2 hpr hf hR_81 hc hw) (fun G_82 v_85 hn_83 hr_84 => ?_)
                   replace hf := hf.mono hn_83.le
                   replace hr := hr.mono hn_83.le
                   replace hc := hc.mono hn_83.le
                   replace hpt := fun p hm0 => (hpt p hm0).mono hn_83.le
                   replace hps := fun p hm0 => (hps p hm0).mono hn_83.le
                   replace hbk := hbk.mono hn_83.le
                   replace hid := hid.mono hn_83.le
                   replace R_27 := R_27.mono hn_83.le
                   replace ht_30 := ht_30.mono hn_83.le
                   replace hc_31 := hc_31.mono hn_83.le
                   replace hzc := fun p hm0 => (hzc p hm0).mono hn_83.le
                   replace hws := hws.mono hn_83.le
                   replace hs_79 := hs_79.mono hn_83.le
                   replace hR_81 := hR_81.mono hn_83.le
                   have u_86 := hr_84
                   refine r_val .none rfl (p_assign rfl) ?_
                   refine r_nil ?_
                   refine e_next ?_
                   refine c_ret ?_
                   refine e_ret1 Try.results45 (.tmp rfl .nil) (fun w hm => ⟨_, ((((hn_17.trans hn_20).trans hgn).trans hn_72).trans hn_83), hm.has, ?_, hm.since⟩)
                   rw [hcons, gm_nccY hk3 (by omega)]
                   exact u_86
                   )
                )
             ·
              have hk3 := h_70
              first
               | (exfalso; omega)
               | (
                refine r_skip rfl (.no rfl rfl) ?_
                refine r_skip rfl (.no rfl rfl) ?_
                refine r_skip rfl (.no rfl rfl) ?_
                refine r_skip rfl (.no rfl rfl) ?_
                refine r_skip rfl (.no rfl rfl) ?_
                refine r_skip rfl (.no rfl rfl) ?_
                refine r_skip rfl (.no rfl rfl) ?_
                refine r_val .none rfl (p_pick_f rfl rfl) ?_
                refine r_nil ?_
                refine e_next ?_
                refine c_cond_f rfl ?_
                refine c_skip ?_
                refine e_next ?_
                refine c_seq ?_
                refine c_region ?_
                refine r_val .none rfl (p_move rfl) ?_
                refine r_val .none rfl (p_move rfl) ?_
                refine r_slice (1) (_) (q' := .i64) .none rfl Try.underlying83 sz116 rfl hr rfl rfl (by first | exact of_decide_eq_true rfl | omega) (by first | exact of_decide_eq_true rfl | omega) (fun v_87 hs_88 => ?_)
                have hR_90 := ss_drop hs_88 hpt hps
                refine r_val .none rfl (p_move rfl) ?_
                refine r_callm (vs := [_, _, _]) .none rfl cl45 rfl (fun w hw => ih _ _ _ fs ((rs.drop 1).map Prod.fst) ch _ w hzr hfl (by omega) hok2.2 hkd2.2 hpr hf hR_90 hc hw) (fun G_91 v_94 hn_92 hr_93 => ?_)
                replace hf := hf.mono hn_92.le
                replace hr := hr.mono hn_92.le
                replace hc := hc.mono hn_92.le
                replace hpt := fun p hm0 => (hpt p hm0).mono hn_92.le
                replace hps := fun p hm0 => (hps p hm0).mono hn_92.le
                replace hbk := hbk.mono hn_92.le
                replace hid := hid.mono hn_92.le
                replace R_27 := R_27.mono hn_92.le
                replace ht_30 := ht_30.mono hn_92.le
                replace hc_31 := hc_31.mono hn_92.le
                replace hzc := fun p hm0 => (hzc p hm0).mono hn_92.le
                replace hs_88 := hs_88.mono hn_92.le
                replace hR_90 := hR_90.mono hn_92.le
                have u_95 := hr_93
                refine r_val .none rfl (p_assign rfl) ?_
                refine r_nil ?_
                refine e_next ?_
                refine c_ret ?_
                refine e_ret1 Try.results45 (.tmp rfl .nil) (fun w hm => ⟨_, (((hn_17.trans hn_20).trans hgn).trans hn_92), hm.has, ?_, hm.since⟩)
                rw [hcons, gm_pass (k := k) (by omega) (by omega) (hany (by omega))]
                exact u_95
                )
             )
          )
       )
    )
theorem c_rsteps_n : ∀ n, RStepsIs n
 | 0 => fun vf vl vc fs l ch G w hz _ _ _ _ _ _ _ _ _ => absurd hz (by cases l <;> simp)
 | n + 1 => fun vf vl vc fs l ch G w hz hfl hsz hok hkd hpw hf hs hc hG => c_rsteps_s n (c_rsteps_n n) vf vl vc fs l ch hz hfl hsz hok hkd hpw hf hs hc w hG
end Go.Proofs.Ytpadfgomhojjnaa

/- Plain laws: whether a match goes on; no program in sight. -/
namespace Go.Gx.T14
open Go.Gx Go.Gx.T3 Go.Gx.T4 Go.Gx.T6 Go.Gx.T8 Go.Gx.T13
abbrev pfS (p : SVal) : Bool := decide (p.1.h.k = 1)
abbrev pfT (c : ST) : Bool := decide (c.h.k = 1)
/-- The steps behind so many Pos. -/
def skip : Nat → List ST → Option (List ST)
  | 0, S => some S
  | n + 1, S => (skip n S).bind fun T => if 0 ≤ idxF pfT T 0 then some (T.drop ((idxF pfT T 0).toNat + 1)) else none
def anyR (fs : List FD) (l : List ST) (bs : List FD) : Bool := match skip bs.length l with
  | some S => !(gm fs S (mch bs)).isEmpty
  | none => false
theorem any_some {fs : List FD} {l S : List ST} {bs : List FD} {k : Nat} (h : skip k l = some S) (hk : k = bs.length) : anyR fs l bs = !(gm fs S (mch bs)).isEmpty := by
  unfold anyR
  rw [← hk, h]
/-! ### the law -/
theorem gm_mlen (fs : List FD) : ∀ (l : List ST) (m : MT), ∀ x ∈ gm fs l m, x.1.length = m.1.length + sPos l
  | [], m, x, hx => by rw [gm] at hx; rw [List.mem_singleton.1 hx, sPos]; rfl
  | c :: t, m, x, hx => by
    rw [gm] at hx
    rw [sPos]
    split at hx
    · rename_i h1
      obtain ⟨f, _, hf⟩ := List.mem_flatMap.1 hx
      have := gm_mlen fs t (mw m f) x hf
      rw [if_pos h1, this]
      show (m.1 ++ [f.1]).length + _ = _
      rw [List.length_append, List.length_singleton]; omega
    · rename_i h1
      rw [if_neg h1]
      split at hx
      · split at hx
        · rw [gm_mlen fs t m x hx]; omega
        · cases hx
      · split at hx
        · rw [gm_mlen fs t m x hx]; omega
        · cases hx
end Go.Gx.T14

/- Walks: what Go functions of this chapter come to, each as a function on plain data; no condition but those that each theorem names. Printed by a program of this work (gen.py). -/
namespace Go.Proofs.Ytpadfgomhojjnaa
open Go.Gx Go.Gx.T13 Go.Gx.T8 Go.Gx.T4 Go.Gx.T3 Go.Gx.T14 Go.Gx.T13 Go.Gx.T8 Go.Gx.T6 Go.Gx.T4 Go.Gx.T3 Go.Gx.T3 Go.Gx.T4 Go.Gx.T3 Go.Gx.T5 Go.Gx.T1 Go.Gx.T8 Go.Gx.T6 Go.Gx.T4 Go.Gx.T3 Go.Gx.T6 Go.Gx.T8 Go.Gx.T4 Go.Gx.T3 Go.Gx.T8 Go.Gx.T4 Go.Gx.T3 Go.Gx.T8 Go.Gx.T6 Go.Gx.T4 Go.Gx.T3
end Go.Proofs.Ytpadfgomhojjnaa

/- Plain laws of the statement whether there is a match that begins so; no program in sight. -/
namespace Go.Gx.T14
open Go.Gx Go.Gx.T3 Go.Gx.T4 Go.Gx.T6 Go.Gx.T8 Go.Gx.T13
theorem cost_sp {fs : List FD} {l : List CT} {f : Nat} (hc : costB f l = true) (hf : fs.length = f) : (fs.length + 1) ^ spL (stepsOf [] l) ≤ 3000 := by
  unfold costB at hc
  rw [hf]
  exact Nat.le_trans (Nat.pow_le_pow_right (by omega) (spL_steps l [])) (of_decide_eq_true hc)
def pick (t : List Tri) (id : Int) : FD := (fTo t 1 t.length).getD (id - 1).toNat f0
theorem sPos_take : ∀ (l : List ST) (k : Nat), sPos (l.take k) ≤ l.length
  | [], k => by simp [sPos]
  | c :: t, 0 => by rw [List.take_zero, sPos]; omega
  | c :: t, k + 1 => by
    have := sPos_take t k
    rw [List.take_succ_cons, sPos, List.length_cons]
    split <;> omega
end Go.Gx.T14

/- Walks: what Go functions of this chapter come to, each as a function on plain data; no condition but those that each theorem names. Printed by a program of this work (gen.py). -/
namespace Go.Proofs.Ytpadfgomhojjnaa
open Go.Gx Go.Gx.T13 Go.Gx.T8 Go.Gx.T4 Go.Gx.T3 Go.Gx.T14 Go.Gx.T13 Go.Gx.T8 Go.Gx.T6 Go.Gx.T4 Go.Gx.T3 Go.Gx.T3 Go.Gx.T4 Go.Gx.T3 Go.Gx.T5 Go.Gx.T1 Go.Gx.T8 Go.Gx.T6 Go.Gx.T4 Go.Gx.T3 Go.Gx.T6 Go.Gx.T8 Go.Gx.T4 Go.Gx.T3 Go.Gx.T8 Go.Gx.T4 Go.Gx.T3 Go.Gx.T8 Go.Gx.T6 Go.Gx.T4 Go.Gx.T3
end Go.Proofs.Ytpadfgomhojjnaa

/- Walks: what Go functions of this chapter come to, each as a function on plain data; no condition but those that each theorem names. Printed by a program of this work (gen.py). -/
namespace Go.Proofs.Ytpadfgomhojjnaa
open Go.Gx Go.Gx.T13 Go.Gx.T8 Go.Gx.T4 Go.Gx.T3 Go.Gx.T14 Go.Gx.T13 Go.Gx.T8 Go.Gx.T6 Go.Gx.T4 Go.Gx.T3 Go.Gx.T3 Go.Gx.T4 Go.Gx.T3 Go.Gx.T5 Go.Gx.T1 Go.Gx.T8 Go.Gx.T6 Go.Gx.T4 Go.Gx.T3 Go.Gx.T6 Go.Gx.T8 Go.Gx.T4 Go.Gx.T3 Go.Gx.T8 Go.Gx.T4 Go.Gx.T3 Go.Gx.T8 Go.Gx.T6 Go.Gx.T4 Go.Gx.T3
end Go.Proofs.Ytpadfgomhojjnaa

/- Plain laws of chains and of blockers; no program in sight. -/
namespace Go.Gx.T14
open Go.Gx Go.Gx.T3 Go.Gx.T4 Go.Gx.T6 Go.Gx.T8 Go.Gx.T13
/-! ### what holds of steps holds of their chains -/
theorem okSL_app : ∀ {a b : List ST}, okSL a → okSL b → okSL (a ++ b)
  | [], _, _, h => h
  | c :: t, b, h1, h2 => by
    rw [okSL] at h1
    rw [List.cons_append, okSL]
    exact ⟨h1.1, okSL_app h1.2 h2⟩
theorem kdL_app : ∀ {a b : List ST}, kdL a → kdL b → kdL (a ++ b)
  | [], _, _, h => h
  | c :: t, b, h1, h2 => by
    rw [kdL] at h1
    rw [List.cons_append, kdL]
    exact ⟨h1.1, kdL_app h1.2 h2⟩
theorem spL_app : ∀ (a b : List ST), spL (a ++ b) = spL a + spL b
  | [], b => by rw [spL]; simp
  | c :: t, b => by rw [List.cons_append, spL_cons, spL_cons, spL_app t b]; omega
theorem ch_ok : ∀ (n : Nat) (l ah : List ST), SizeOf.sizeOf l ≤ n → okSL ah → okSL l → kdL ah → kdL l → ∀ x ∈ schains ah l, okSL x ∧ kdL x ∧ spL x ≤ spL ah + spL l ∧ 1 ≤ x.length
  | 0, l, _, hz, _, _, _, _ => absurd hz (by cases l <;> simp)
  | _ + 1, [], ah, _, _, _, _, _ => by intro x hx; rw [schains] at hx; cases hx
  | n + 1, c :: t, ah, hz, h1, h2, h3, h4 => by
    intro x hx
    have ht : SizeOf.sizeOf t ≤ n := by simp at hz; omega
    have hs : SizeOf.sizeOf c.subs ≤ n := by have := s_subs c; simp at hz; omega
    have o2 := okSL_cons h2
    have k2 := kdL_cons h4
    have hoc : okSL [c] := by rw [okSL, okS_eq]; exact ⟨o2.1, by rw [okSL]; trivial⟩
    have hkc : kdL [c] := by rw [kdL, kdS_eq]; exact ⟨k2.1, by rw [kdL]; trivial⟩
    have hsp : spL [c] = (if c.h.k = 1 then 1 else 0) + spL c.subs := by rw [spL_cons]; rw [spL]; omega
    rw [spL_cons]
    rw [schains] at hx
    have one : okSL (ah ++ [c]) ∧ kdL (ah ++ [c]) ∧ spL (ah ++ [c]) ≤ spL ah + ((if c.h.k = 1 then 1 else 0) + spL c.subs + spL t) ∧ 1 ≤ (ah ++ [c]).length := ⟨okSL_app h1 hoc, kdL_app h3 hkc, by rw [spL_app, hsp]; omega, by simp⟩
    rcases List.mem_append.1 hx with hx | hx
    · by_cases h : c.h.k = 3
      · rw [schain1_ncc h] at hx
        rcases List.mem_append.1 hx with hx | hx
        · obtain ⟨a, b, d, e⟩ := ch_ok n c.subs ah hs h1 o2.1.2 h3 k2.1.2 x hx
          exact ⟨a, b, by omega, e⟩
        · rw [List.mem_singleton.1 hx]; exact one
      · rw [schain1_other h] at hx
        rw [List.mem_singleton.1 hx]; exact one
    · obtain ⟨a, b, d, e⟩ := ch_ok n t (ah ++ [c]) ht (okSL_app h1 hoc) o2.2 (kdL_app h3 hkc) k2.2 x hx
      rw [spL_app, hsp] at d
      exact ⟨a, b, by omega, e⟩
theorem ch_all {S : List ST} {fs : List FD} {qs : List (List ST × Value)} {j : Nat} (hok : okSL S) (hkd : kdL S) (hpw : (fs.length + 1) ^ spL S ≤ 3000) (hq : schains [] S = qs.map Prod.fst) (hj : j < qs.length) :
    okSL (qs.getD j ([], .slice none 0 0)).1 ∧ kdL (qs.getD j ([], .slice none 0 0)).1 ∧ (fs.length + 1) ^ spL (qs.getD j ([], .slice none 0 0)).1 ≤ 3000 ∧ 1 ≤ (qs.getD j ([], .slice none 0 0)).1.length ∧ sszL (qs.getD j ([], .slice none 0 0)).1 ≤ sszL S := by
  have hm : (qs.getD j ([], .slice none 0 0)).1 ∈ schains [] S := by rw [hq]; exact List.mem_map_of_mem (getD_mem hj)
  obtain ⟨a, b, d, e⟩ := ch_ok _ S [] (Nat.le_refl _) (by rw [okSL]; trivial) hok (by rw [kdL]; trivial) hkd _ hm
  have z := schains_size S [] _ hm
  rw [sszL] at z
  rw [spL] at d
  exact ⟨a, b, Nat.le_trans (Nat.pow_le_pow_right (by omega) (by omega)) hpw, e, by omega⟩
/-! ### joins -/
def jnTo (fs : List FD) (l : List ST) (k : Nat) : List Int := (List.range k).map fun (i : Nat) => ((gm fs (l.take (i + 1)) ([], [])).length : Int)
theorem jnTo_len (fs : List FD) (l : List ST) (k : Nat) : (jnTo fs l k).length = k := by simp [jnTo]
theorem jnTo_succ (fs : List FD) (l : List ST) (k : Nat) : jnTo fs l (k + 1) = jnTo fs l k ++ [((gm fs (l.take (k + 1)) ([], [])).length : Int)] := by simp [jnTo, List.range_succ]
theorem jnTo_last {fs : List FD} {l : List ST} (h : 1 ≤ l.length) : (jnTo fs l l.length).getD (l.length - 1) 0 = ((gm fs l ([], [])).length : Int) := by
  have h1 : l.length - 1 < l.length := by omega
  simp [jnTo, List.getD, h1]
  rw [show l.length - 1 + 1 = l.length by omega, List.take_length]
theorem gm_tk {fs : List FD} {l : List ST} {m : MT} {k : Nat} (h : (fs.length + 1) ^ spL l ≤ 3000) : (gm fs (l.take k) m).length ≤ 3000 := gm_spow (Nat.le_trans (Nat.pow_le_pow_right (by omega) (spL_take l k)) h)
theorem sp_tk {fs : List FD} {l : List ST} {k : Nat} (h : (fs.length + 1) ^ spL l ≤ 3000) : (fs.length + 1) ^ spL (l.take k) ≤ 3000 := Nat.le_trans (Nat.pow_le_pow_right (by omega) (spL_take l k)) h
/-! ### blockers -/
def bsum (fs : List FD) (k : Int) (key : Tri) (ts : List TD) (Ms : List MT) : Nat := (Ms.map fun m => (which k key ts m.2 fs).length).sum
theorem bsum_snoc (fs : List FD) (k : Int) (key : Tri) (ts : List TD) (Ms : List MT) (m : MT) : bsum fs k key ts (Ms ++ [m]) = bsum fs k key ts Ms + (which k key ts m.2 fs).length := by simp [bsum]
theorem bsum_le (fs : List FD) (k : Int) (key : Tri) (ts : List TD) : ∀ Ms : List MT, bsum fs k key ts Ms ≤ Ms.length * fs.length
  | [] => by simp [bsum]
  | m :: t => by
    have h1 := which_len k key ts m.2 fs
    have h2 := bsum_le fs k key ts t
    have e : bsum fs k key ts (m :: t) = (which k key ts m.2 fs).length + bsum fs k key ts t := by simp [bsum]
    rw [e, List.length_cons, Nat.add_mul, Nat.one_mul]
    omega
theorem bsum_small {fs : List FD} {k : Int} {key : Tri} {ts : List TD} {Ms : List MT} (h1 : Ms.length ≤ 5000) (h2 : fs.length ≤ 12) : bsum fs k key ts Ms ≤ 60000 := Nat.le_trans (bsum_le fs k key ts Ms) (Nat.le_trans (Nat.mul_le_mul h1 h2) (by decide))
/-- The triples of some ids. -/
def bk (fs : List FD) (ids : List Int) : List Tri := ids.flatMap fun i => (fs.filter fun f => decide (f.1 = i)).map Prod.snd
def bkTo (fs : List FD) (i : Int) (q : Nat) : List Tri := ((fs.take q).filter fun f => decide (f.1 = i)).map Prod.snd
theorem bkTo_yes {fs : List FD} {i : Int} {q : Nat} (hq : q < fs.length) (h : (fs.getD q f0).1 = i) : bkTo fs i (q + 1) = bkTo fs i q ++ [(fs.getD q f0).2] := by
  have e : fs.getD q f0 = fs[q] := by simp [List.getD, hq]
  rw [e] at h ⊢
  unfold bkTo
  rw [List.take_succ_eq_append_getElem hq, List.filter_append, List.map_append]
  simp [h]
theorem bkTo_no {fs : List FD} {i : Int} {q : Nat} (hq : q < fs.length) (h : ¬ (fs.getD q f0).1 = i) : bkTo fs i (q + 1) = bkTo fs i q := by
  have e : fs.getD q f0 = fs[q] := by simp [List.getD, hq]
  rw [e] at h
  unfold bkTo
  rw [List.take_succ_eq_append_getElem hq, List.filter_append, List.map_append]
  simp [h]
theorem bk_next {fs : List FD} {m : List Int} {i q : Nat} (hi : i < m.length) (hq : fs.length ≤ q) : bk fs (m.take (i + 1)) = bk fs (m.take i) ++ bkTo fs (m.getD i 0) q := by
  have e : m.getD i 0 = m[i] := by simp [List.getD, hi]
  unfold bk bkTo
  rw [List.take_succ_eq_append_getElem hi, List.flatMap_append, List.flatMap_cons, List.flatMap_nil, List.append_nil, e, List.take_of_length_le hq]
theorem bkTo_le (fs : List FD) (i : Int) (q : Nat) : (bkTo fs i q).length ≤ fs.length := by
  unfold bkTo
  rw [List.length_map]
  refine Nat.le_trans (List.length_filter_le _ _) ?_
  rw [List.length_take]; omega
theorem bk_le (fs : List FD) : ∀ m : List Int, (bk fs m).length ≤ m.length * fs.length
  | [] => by simp [bk]
  | i :: t => by
    have h1 := bk_le fs t
    have h2 : ((fs.filter fun f => decide (f.1 = i)).map Prod.snd).length ≤ fs.length := by rw [List.length_map]; exact List.length_filter_le _ _
    have e : bk fs (i :: t) = (fs.filter fun f => decide (f.1 = i)).map Prod.snd ++ bk fs t := by unfold bk; rw [List.flatMap_cons]
    rw [e, List.length_append, List.length_cons, Nat.add_mul, Nat.one_mul]
    omega
theorem bk_app (fs : List FD) (a b : List Int) : bk fs (a ++ b) = bk fs a ++ bk fs b := by unfold bk; rw [List.flatMap_append]
theorem gm_bk {fs : List FD} (hu : ∀ f ∈ fs, (fs.filter fun g => decide (g.1 = f.1)).map Prod.snd = [f.2]) : ∀ (l : List ST) (m : MT), bk fs m.1 = m.2 → ∀ x ∈ gm fs l m, bk fs x.1 = x.2
  | [], m, hm, x, hx => by rw [gm] at hx; rw [List.mem_singleton.1 hx]; exact hm
  | c :: t, m, hm, x, hx => by
    rw [gm] at hx
    split at hx
    · obtain ⟨f, hf, hx⟩ := List.mem_flatMap.1 hx
      refine gm_bk hu t (mw m f) ?_ x hx
      show bk fs (m.1 ++ [f.1]) = m.2 ++ [f.2]
      have e : bk fs [f.1] = [f.2] := by
        unfold bk
        rw [List.flatMap_cons, List.flatMap_nil, List.append_nil]
        exact hu f (List.mem_filter.1 hf).1
      rw [bk_app, hm, e]
    · split at hx
      · split at hx
        · exact gm_bk hu t m hm x hx
        · cases hx
      · split at hx
        · exact gm_bk hu t m hm x hx
        · cases hx
theorem fTo_uni (t : List Tri) : ∀ (n : Nat) (i : Nat), i < n → (fTo t 1 n).filter (fun g => decide (g.1 = 1 + (i : Int) * 1)) = [((1 + (i : Int) * 1, t.getD i z3) : FD)]
  | 0, i, h => by omega
  | n + 1, i, h => by
    rw [fTo_succ, List.filter_append]
    by_cases e : i = n
    · subst e
      have h0 : (fTo t 1 i).filter (fun g => decide (g.1 = 1 + (i : Int) * 1)) = [] := by
        rw [List.filter_eq_nil_iff]
        intro g hg
        obtain ⟨j, hj, rfl⟩ := List.mem_map.1 hg
        have := List.mem_range.1 hj
        simp; omega
      rw [h0, List.nil_append]
      simp
    · rw [fTo_uni t n i (by omega)]
      have h0 : ([((1 + (n : Int) * 1, t.getD n z3) : FD)].filter fun g => decide (g.1 = 1 + (i : Int) * 1)) = [] := by
        rw [List.filter_eq_nil_iff]
        intro g hg
        rw [List.mem_singleton.1 hg]
        simp; omega
      rw [h0, List.append_nil]
theorem fTo_hu (t : List Tri) (n : Nat) : ∀ f ∈ fTo t 1 n, ((fTo t 1 n).filter fun g => decide (g.1 = f.1)).map Prod.snd = [f.2] := by
  intro f hf
  obtain ⟨i, hi, rfl⟩ := List.mem_map.1 hf
  rw [fTo_uni t n i (List.mem_range.1 hi)]; rfl
def rsum (fs : List FD) (k : Int) (key : Tri) (ts : List TD) (A : List (List Int)) : Nat := (A.map fun m => (which k key ts (bk fs m) fs).length).sum
theorem rsum_zero (fs : List FD) (k : Int) (key : Tri) (ts : List TD) (A : List (List Int)) : rsum fs k key ts (A.take 0) = 0 := by simp [rsum]
theorem rsum_next {fs : List FD} {k : Int} {key : Tri} {ts : List TD} {A : List (List Int)} {qs : List (List Int × Value)} {j : Nat} (hA : A = qs.map Prod.fst) (hj : j < qs.length) : rsum fs k key ts (A.take (j + 1)) = rsum fs k key ts (A.take j) + (which k key ts (bk fs (qs.getD j es14).1) fs).length := by
  have hlt : j < A.length := by rw [hA, List.length_map]; exact hj
  have e : A[j] = (qs.getD j es14).1 := by rw [← fst_getD, ← hA]; simp [List.getD, hlt]
  unfold rsum
  rw [List.take_succ_eq_append_getElem hlt, List.map_append, List.sum_append, e]; simp
theorem sum_congr {f g : MT → Nat} : ∀ {l : List MT}, (∀ x ∈ l, f x = g x) → (l.map f).sum = (l.map g).sum
  | [], _ => rfl
  | a :: t, h => by rw [List.map_cons, List.map_cons, List.sum_cons, List.sum_cons, h a (by simp), sum_congr (fun x hx => h x (by simp [hx]))]
theorem rsum_bsum {t : List Tri} {k : Int} {key : Tri} {ts : List TD} {l : List ST} : rsum (fTo t 1 t.length) k key ts ((gm (fTo t 1 t.length) l ([], [])).map Prod.fst) = bsum (fTo t 1 t.length) k key ts (gm (fTo t 1 t.length) l ([], [])) := by
  unfold rsum bsum
  rw [List.map_map]
  refine sum_congr (fun x hx => ?_)
  show (which k key ts (bk _ x.1) _).length = _
  rw [gm_bk (fTo_hu t _) l ([], []) rfl x hx]
theorem rsum_le (fs : List FD) (k : Int) (key : Tri) (ts : List TD) : ∀ A : List (List Int), rsum fs k key ts A ≤ A.length * fs.length
  | [] => by simp [rsum]
  | m :: t => by
    have h1 := which_len k key ts (bk fs m) fs
    have h2 := rsum_le fs k key ts t
    have e : rsum fs k key ts (m :: t) = (which k key ts (bk fs m) fs).length + rsum fs k key ts t := by simp [rsum]
    rw [e, List.length_cons, Nat.add_mul, Nat.one_mul]
    omega
theorem wh_yes {k : Int} {key : Tri} {ts : List TD} {bs : List Tri} {fs : List FD} {j : Nat} (hj : j < fs.length) (h : meets k key ts bs (fs.getD j f0).2 = true) : (which k key ts bs (fs.take (j + 1))).length = (which k key ts bs (fs.take j)).length + 1 := by rw [which_yes hj h]; simp
theorem wh_no {k : Int} {key : Tri} {ts : List TD} {bs : List Tri} {fs : List FD} {j : Nat} (hj : j < fs.length) (h : meets k key ts bs (fs.getD j f0).2 = false) : (which k key ts bs (fs.take (j + 1))).length = (which k key ts bs (fs.take j)).length := by rw [which_no hj h]
theorem rsum_small {fs : List FD} {k : Int} {key : Tri} {ts : List TD} {A : List (List Int)} {j : Nat} (hA : A.length ≤ 3000) (hf : fs.length ≤ 12) : rsum fs k key ts (A.take j) ≤ 36000 :=
  Nat.le_trans (rsum_le fs k key ts _) (Nat.le_trans (Nat.mul_le_mul (show (A.take j).length ≤ 3000 by rw [List.length_take]; omega) hf) (by decide))
theorem bk_small {fs : List FD} {m : List Int} {i : Nat} (hm : m.length ≤ 1000) (hf : fs.length ≤ 12) : (bk fs (m.take i)).length ≤ 12000 :=
  Nat.le_trans (bk_le fs _) (Nat.le_trans (Nat.mul_le_mul (show (m.take i).length ≤ 1000 by rw [List.length_take]; omega) hf) (by decide))
theorem ml_of {fs : List FD} {S : List ST} {qs : List (List Int × Value)} {j : Nat} (hq : (gm fs S ([], [])).map Prod.fst = qs.map Prod.fst) (hj : j < qs.length) : (qs.getD j es14).1.length ≤ S.length := by
  have hm : (qs.getD j es14).1 ∈ qs.map Prod.fst := List.mem_map_of_mem (getD_mem hj)
  rw [← hq] at hm
  obtain ⟨x, hx, e⟩ := List.mem_map.1 hm
  rw [← e, gm_mlen _ _ _ x hx]
  have := sPos_take S S.length
  rw [List.take_length] at this
  simpa using this
theorem last_eq {X : List ST} {qA qC : List SVal} {n : Nat} (hA : X = qA.map Prod.fst) (hC : X = qC.map Prod.fst) (hn : n < X.length) : (qC.getD n s0).1 = (qA.getD n s0).1 := by
  have h1 : n < qA.length := by rw [hA, List.length_map] at hn; exact hn
  have h2 : n < qC.length := by rw [hC, List.length_map] at hn; exact hn
  have e1 : X[n]? = some (qA.getD n s0).1 := by rw [hA]; simp [List.getD, h1]
  have e2 : X[n]? = some (qC.getD n s0).1 := by rw [hC]; simp [List.getD, h2]
  rw [e1] at e2
  exact (Option.some.inj e2).symm
theorem okSL_mem : ∀ {l : List ST} {c : ST}, okSL l → c ∈ l → ∀ x ∈ c.h.ts, OkT x
  | d :: t, c, h, hm => by
    have h2 := okSL_cons h
    rcases List.mem_cons.1 hm with rfl | hm
    · exact h2.1.1
    · exact okSL_mem h2.2 hm
theorem ok_at {X : List ST} {qA : List SVal} {n : Nat} (h : okSL X) (hA : X = qA.map Prod.fst) (hn : n < qA.length) : ∀ x ∈ (qA.getD n s0).1.h.ts, OkT x := okSL_mem h (by rw [hA]; exact List.mem_map_of_mem (getD_mem hn))
end Go.Gx.T14

/- Walks: what Go functions of this chapter come to, each as a function on plain data; no condition but those that each theorem names. Printed by a program of this work (gen.py). -/
namespace Go.Proofs.Ytpadfgomhojjnaa
open Go.Gx Go.Gx.T13 Go.Gx.T8 Go.Gx.T4 Go.Gx.T3 Go.Gx.T14 Go.Gx.T13 Go.Gx.T8 Go.Gx.T6 Go.Gx.T4 Go.Gx.T3 Go.Gx.T3 Go.Gx.T4 Go.Gx.T3 Go.Gx.T5 Go.Gx.T1 Go.Gx.T8 Go.Gx.T6 Go.Gx.T4 Go.Gx.T3 Go.Gx.T6 Go.Gx.T8 Go.Gx.T4 Go.Gx.T3 Go.Gx.T8 Go.Gx.T4 Go.Gx.T3 Go.Gx.T8 Go.Gx.T6 Go.Gx.T4 Go.Gx.T3
theorem cl65 : Callable Try.prog 65 := callable Try.func65 (by kernel_rfl) rfl
def BlS (pn ps pf : Nat) (k : Int) (key : Tri) (ts : List TD) (tv uv vf : Value) (fs : List FD) (G : Ghost) (Ms : List MT) (z : Nat) : Prop := RowAt G ps 0 6 (at_ [Value.int .i64 k, Value.int .i64 key.1, Value.int .i64 key.2.1, Value.int .i64 key.2.2, tv, uv]) ∧ RowAt G pf 0 1 (at_ [vf]) ∧ SlL G tv 3 tC t0 ts ∧ SlL G vf 4 fC f0 fs ∧ z = bsum fs k key ts Ms
theorem BlS.mono {pn ps pf : Nat} {k : Int} {key : Tri} {ts : List TD} {tv uv vf : Value} {fs : List FD} {G G' : Ghost} {Ms : List MT} {z : Nat} (h : BlS pn ps pf k key ts tv uv vf fs G Ms z) (hle : GLe G G') : BlS pn ps pf k key ts tv uv vf fs G' Ms z := ⟨h.1.mono hle, h.2.1.mono hle, h.2.2.1.mono hle, h.2.2.2.1.mono hle, h.2.2.2.2⟩
theorem c_joins (vf vl : Value) (fs : List FD) (l : List ST) {G : Ghost} (hfl : fs.length ≤ 12) (hsz : sszL l ≤ 1000) (hok : okSL l) (hpw : (fs.length + 1) ^ spL l ≤ 3000) (hf : SlL G vf 4 fC f0 fs) (hs : Ss G vl l) (w : World) (hG : Has G w) :
  Calls Try.prog 46 #[vf, vl] w (Ret fun r w' => ∃ G', GNew w nX G G' ∧ Has G' w' ∧ SlL G' r 1 cI 0 (jnTo fs l l.length) ∧ Since nX w w') := by
 refine enter (args := [_, _]) (X := nX) (G := G) (l := [(0, vf), (1, vl)]) Try.func46 rfl Try.ntmps46 hG ⟨rfl, rfl, trivial⟩ (Nat.le_of_ble_eq_true rfl) ?_
 obtain ⟨qS, hS, hSt, hSs, hSl⟩ := hs.inv
 have hlq : l.length = qS.length := by rw [hSl]; simp
 have hll := sszL_len l
 refine c_seq ?_
 refine c_region ?_
 refine r_val .none rfl (p_assign rfl) ?_
 refine r_nil ?_
 refine e_next ?_
 refine c_seq ?_
 refine c_region ?_
 refine r_val .none rfl (p_assign rfl) ?_
 refine r_nil ?_
 refine e_next ?_
 refine c_seq ?_
 refine c_seq ?_
 refine c_region ?_
 refine r_val .none rfl (p_move rfl) ?_
 refine r_val .none rfl (p_leng Try.underlying81 rfl hS) ?_
 have bd_1 := (hS).bound
 refine r_val .none rfl (p_move rfl) ?_
 refine r_nil ?_
 refine e_next ?_
 refine c_block ?_
 refine c_nilrow 3 1 ?_
 refine c_name (d := 0) rfl (fun u_2 hu_2 => ?_)
 refine c_name (d := 1) rfl (fun u_3 hu_3 => ?_)
 refine c_name (d := 4) rfl (fun u_4 hu_4 => ?_)
 refine c_name (d := 8) rfl (fun u_5 hu_5 => ?_)
 refine c_loop (σ := Nat × Value × Ghost) (fun s => [(9, Value.int .i64 (s.1 : Nat)), (5, s.2.1), (0, u_2), (1, u_3), (4, u_4), (8, u_5)]) (fun s => [rowA (s.2.1) 3 1 ((jnTo fs l s.1)).length (((jnTo fs l s.1)).flatMap cI)]) (fun s => s.2.2) (fun s => s.1 ≤ qS.length ∧ GNew w nX G s.2.2) (fun s => qS.length - s.1) ((0, _, _)) ⟨Nat.zero_le _, GNew.refl _ _ _⟩ rfl ⟨rfl, rfl, rfl, rfl, rfl, rfl, trivial⟩ (.keep (fun _ _ h => rowA_nil rfl _ _ h) (.nil)) (fun s hphi => ?_)
 subst hu_2
 subst hu_3
 subst hu_4
 subst hu_5
 obtain ⟨i, v, H⟩ := s
 obtain ⟨hi, hgn⟩ := hphi
 dsimp only at hi hgn ⊢
 have hjl := jnTo_len fs l i
 replace hf := hf.mono hgn.le
 replace hS := hS.mono hgn.le
 replace hSt := fun p hm0 => (hSt p hm0).mono hgn.le
 replace hSs := fun p hm0 => (hSs p hm0).mono hgn.le
 refine c_seq ?_
 refine c_region ?_
 refine r_val .none rfl (p_lt rfl rfl) ?_
 refine r_nil ?_
 refine e_next ?_
 refine c_seq ?_
 refine c_splitd (d := 10) rfl (fun h_6 => ?_) (fun h_6 => ?_)
 ·
  first
   | (exfalso; omega)
   | (
    refine c_cond_t rfl ?_
    refine c_skip ?_
    refine e_next ?_
    refine c_seq ?_
    refine c_block ?_
    refine c_seq ?_
    refine c_region ?_
    refine r_val .none rfl (p_move rfl) ?_
    refine r_val .none rfl (p_assign rfl) ?_
    refine r_nil ?_
    refine e_next ?_
    refine c_region ?_
    refine r_val .none rfl (p_move rfl) ?_
    refine r_val .none rfl (p_move rfl) ?_
    refine r_val .none rfl (p_move rfl) ?_
    refine r_val .none rfl (p_move rfl) ?_
    refine r_val .none rfl (p_add rfl rfl (by omega)) ?_
    refine r_say (d := 16) (v := Value.int .i64 ((i + 1 : Nat) : Int)) (congrArg (fun x => some (Value.int .i64 x)) (by omega)) ?_
    refine r_slice0 ((i + 1)) .none rfl Try.underlying81 sz109 rfl hS rfl (by first | exact of_decide_eq_true rfl | omega) (fun v_7 hs_8 => ?_)
    have hT := T14.ss_take (by omega) hs_8 hSt hSs
    rw [← hSl] at hT
    refine r_callm (vs := [_, _]) .none rfl cl34 rfl (fun w hw => c_partial _ _ fs (l.take (i + 1)) ⟨by omega, Nat.le_trans (T8.sszL_take_le _ _) hsz⟩ (okSL_take _ hok) (Nat.le_trans (gm_tk hpw) (by decide)) hf hT w hw) (fun G_10 v_13 hn_11 hr_12 => ?_)
    replace hf := hf.mono hn_11.le
    replace hS := hS.mono hn_11.le
    replace hSt := fun p hm0 => (hSt p hm0).mono hn_11.le
    replace hSs := fun p hm0 => (hSs p hm0).mono hn_11.le
    replace hs_8 := hs_8.mono hn_11.le
    replace hT := hT.mono hn_11.le
    obtain ⟨qs, hq, hqp, hql⟩ := hr_12
    have hqn : (gm fs (l.take (i + 1)) ([], [])).length = qs.length := by have h := congrArg List.length hql; rwa [List.length_map, List.length_map] at h
    refine r_val .none rfl (p_leng Try.underlying79 rfl hq) ?_
    have bd_15 := (hq).bound
    refine r_bslice (vs := [(0, Value.int _ _)]) (c := #[_]) .none rfl Try.underlying22 el3 rfl rfl rfl (bs3_10i2 _ _) (IsRow.lit _) (fun b_1 => ?_)
    refine r_append (k := 1) (k2 := 0) .none rfl Try.underlying22 el3 rfl (by decide) rfl rfl rfl rfl rfl (one_lit rfl rfl) (by rw [hjl]; simp only [maxLen]; omega) (by rw [hjl]; omega) (fun v_16 => ?_)
    refine r_row1 (k := 1) rfl (fun o_17 => ?_)
    refine r_val .none rfl (p_assign rfl) ?_
    refine r_nil ?_
    refine e_norm_block ?_
    refine e_next ?_
    refine c_region ?_
    refine r_val .none rfl (p_add rfl rfl (by omega)) ?_
    refine r_val .none rfl (p_move rfl) ?_
    refine r_nil ?_
    refine e_round ((i + 1, _, _)) ⟨⟨by dsimp only; omega, (hgn.trans hn_11)⟩, by dsimp only; omega⟩ rfl ⟨rfl, rfl, rfl, rfl, rfl, rfl, trivial⟩ (.drop (.keep (fun _ _ h => rowA_snoc (by rw [jnTo_succ, hqn]) rfl rfl rfl _ _ h) (.nil)))
    )
 ·
  first
   | (exfalso; omega)
   | (
    refine c_cond_f rfl ?_
    refine c_exit ?_
    refine e_exit_then ?_
    refine e_exit_then ?_
    refine e_exit_block ?_
    refine e_next ?_
    refine c_seq ?_
    refine c_region ?_
    refine r_val .none rfl (p_move rfl) ?_
    refine r_val .none rfl (p_assign rfl) ?_
    refine r_nil ?_
    refine e_next ?_
    refine c_ret ?_
    refine e_freeze (k := 0) rfl (fun G_18 hn_19 hs_20 => ?_)
    replace hf := hf.mono hn_19.le
    replace hS := hS.mono hn_19.le
    replace hSt := fun p hm0 => (hSt p hm0).mono hn_19.le
    replace hSs := fun p hm0 => (hSs p hm0).mono hn_19.le
    refine e_ret1 Try.results46 (.tmp rfl .nil) (fun w hm => ⟨_, (hgn.trans hn_19), hm.has, ?_, hm.since⟩)
    have hi9 : i = l.length := by omega
    rw [← hi9]
    exact SlL.of (0 : Int) (fun _ => rfl) rfl hs_20
    )
theorem c_blkcl (pn ps pf : Nat) (k : Int) (key : Tri) (ts : List TD) (tv uv vf : Value) (fs : List FD) (m : MT) (vi vb : Value) (Ms : List MT) (z : Nat) {G : Ghost} {F : Nat → Prop} (hok : ∀ x ∈ ts, OkT x) (hfl : fs.length ≤ 12) (hlz : Ms.length ≤ 5000) (hi : SlL G vi 1 cI 0 m.1) (hb : SlL G vb 3 triL z3 m.2) (hS : BlS pn ps pf k key ts tv uv vf fs G Ms z) (w : World) (hG : Has G w) (hA : (box pn 1 3 (at_ [Value.int .i64 ((z : Nat) : Int)])).holds w F) (hFG : ∀ b, F b → G b = none) :
  Calls Try.prog 65 #[Value.agg #[vi, vb], Value.pointer (some ⟨pn, 0, none⟩), Value.pointer (some ⟨ps, 0, none⟩), Value.pointer (some ⟨pf, 0, none⟩)] w (Ret fun r w' => ∃ G' z', GNew w F G G' ∧ Has G' w' ∧ (r = .bool true ∧ BlS pn ps pf k key ts tv uv vf fs G' (Ms ++ [m]) z') ∧ KeptG (box pn 1 3 (at_ [Value.int .i64 ((z' : Nat) : Int)])) F G' w w') := by
 refine enterO (args := [_, _, _, _]) (G := G) (A := box pn 1 3 (at_ [Value.int .i64 ((z : Nat) : Int)])) (l := [(0, Value.agg #[vi, vb]), (1, Value.pointer (some ⟨pn, 0, none⟩)), (2, Value.pointer (some ⟨ps, 0, none⟩)), (3, Value.pointer (some ⟨pf, 0, none⟩))]) Try.func65 rfl Try.ntmps65 hG hA hFG ⟨rfl, rfl, rfl, rfl, trivial⟩ (Nat.le_of_ble_eq_true rfl) ?_
 obtain ⟨hR1, hR2, ht, hf, hz⟩ := hS
 obtain ⟨af, cf, rfl⟩ := SlG.len hf
 have hbs := bsum_small (k := k) (key := key) (ts := ts) hlz hfl
 have hwl := which_len k key ts m.2 fs
 refine c_seq ?_
 refine c_region ?_
 refine r_box .none rfl rfl (IsRow.lit _) (fun b_1 => ?_)
 refine r_val .none rfl (p_assign rfl) ?_
 refine r_nil ?_
 refine e_next ?_
 refine c_seq ?_
 refine c_region_d (fun j => [8].contains j) _ mixed (.keep (fun _ _ h => h) (.keep (fun _ _ h => h) (.nil))) ?_
 refine d_val1 0 rfl rfl (by kernel_rfl) (fun j hj => by have h : 8 < j := (Nat.lt_of_lt_of_le (by decide : 8 < 9) hj); simp; omega) .none rfl (p_ld (k := 1) Try.underlying3 rfl rfl rfl (by first | exact of_decide_eq_true rfl | omega) (rfl : _ = Value.int _ _)) ?_
 refine d_val1 1 rfl rfl (by kernel_rfl) (fun j hj => by have h : 8 < j := (Nat.lt_of_lt_of_le (by decide : 8 < 9) hj); simp; omega) .none rfl (p_ldga0 Try.underlying109 rfl sz109 rfl hR1 (by first | exact of_decide_eq_true rfl | omega) (rfl : _ = Value.agg #[_, _, _, _, _, _])) ?_
 refine d_val1 2 rfl rfl (by kernel_rfl) (fun j hj => by have h : 8 < j := (Nat.lt_of_lt_of_le (by decide : 8 < 9) hj); simp; omega) .none rfl (p_field Try.underlying137 rfl sz70 rfl) ?_
 refine d_val1 3 rfl rfl (by kernel_rfl) (fun j hj => by have h : 8 < j := (Nat.lt_of_lt_of_le (by decide : 8 < 9) hj); simp; omega) .none rfl (p_ld (k := 0) Try.underlying70 rfl rfl rfl (by first | exact of_decide_eq_true rfl | omega) rfl) ?_
 refine d_val1 4 rfl rfl (by kernel_rfl) (fun j hj => by have h : 8 < j := (Nat.lt_of_lt_of_le (by decide : 8 < 9) hj); simp; omega) .none rfl (p_ldg0 Try.underlying72 rfl rfl hR2 (by first | exact of_decide_eq_true rfl | omega) (rfl : _ = Value.slice _ _ _)) ?_
 refine d_eff 5 rfl (by kernel_rfl) (fun K_1 hKK_1 hcK_1 => ?_)
 refine r_callm (vs := [_, _, _]) .none rfl cl66 rfl (fun w hw => c_which k key ts _ _ _ m.2 _ fs (by omega) hok ht hb hf w hw) (fun G_2 v_5 hn_3 hr_4 => ?_)
 replace hi := hi.mono hn_3.le
 replace hb := hb.mono hn_3.le
 replace hR1 := hR1.mono hn_3.le
 replace hR2 := hR2.mono hn_3.le
 replace ht := ht.mono hn_3.le
 replace hf := hf.mono hn_3.le
 have u_6 := hr_4
 refine r_nil (e_d (i := 5) (brk := (fun j => [8].contains j)) (ph' := true) hKK_1 hcK_1 rfl (fun _ => hn_3.le) (fun _ => .keep (fun _ _ h => h) (.keep (fun _ _ h => h) (.nil))) ?_)
 clear hKK_1 hcK_1 K_1
 refine d_val1 6 rfl rfl (by kernel_rfl) (fun j hj => by have h : 8 < j := (Nat.lt_of_lt_of_le (by decide : 8 < 9) hj); simp; omega) .none rfl (p_lengx Try.underlying22 rfl u_6) ?_
 have bd_7 := (u_6).bound
 refine d_val1 7 rfl rfl (by kernel_rfl) (fun j hj => by have h : 8 < j := (Nat.lt_of_lt_of_le (by decide : 8 < 9) hj); simp; omega) .none rfl (p_add rfl rfl (by omega)) ?_
 refine d_eff 8 rfl (by kernel_rfl) (fun K_8 hKK_8 hcK_8 => ?_)
 refine r_st (k := 1) .none sz3 rfl rfl rfl rfl (by first | exact of_decide_eq_true rfl | omega) ?_
 refine r_nil (e_d (i := 8) (brk := (fun j => [8].contains j)) (ph' := false) hKK_8 hcK_8 rfl (fun h => by cases h) (fun h => by cases h) ?_)
 clear hKK_8 hcK_8 K_8
 refine d_nil (by kernel_rfl) ?_
 refine e_next ?_
 refine c_seq ?_
 refine c_region ?_
 refine r_val .none rfl (p_assign rfl) ?_
 refine r_nil ?_
 refine e_next ?_
 refine c_ret ?_
 refine e_ret1 Try.results65 (.tmp rfl .nil) (fun w hm => ⟨_, (z + (which k key ts m.2 fs).length), hn_3, hm.has, ⟨?_, ?_⟩, hm.keptG [box pn 1 3 (at_ [Value.int .i64 (((z + (which k key ts m.2 fs).length) : Nat) : Int)])] (.drop (.keep (fun _ _ h => box_congr (fun i hi => by match i, hi with | 0, _ => rfl) _ _ h) (.nil))) (box pn 1 3 (at_ [Value.int .i64 (((z + (which k key ts m.2 fs).length) : Nat) : Int)])) (fun F' h => starL_one h)⟩)
 · rfl
 · exact ⟨hR1, hR2, ht, hf, by rw [bsum_snoc, hz]⟩
theorem c_blkOk (pn ps pf : Nat) (k : Int) (key : Tri) (ts : List TD) (tv uv vf : Value) (fs : List FD) (hok : ∀ x ∈ ts, OkT x) (hfl : fs.length ≤ 12) : YieldOk (fun z : Nat => box pn 1 3 (at_ [Value.int .i64 ((z : Nat) : Int)])) true (fun G Ms z => BlS pn ps pf k key ts tv uv vf fs G Ms z) 65 [Value.pointer (some ⟨pn, 0, none⟩), Value.pointer (some ⟨ps, 0, none⟩), Value.pointer (some ⟨pf, 0, none⟩)] := by
 refine ⟨cl65, fun _ _ _ _ h hle => h.mono hle, ?_⟩
 intro m vi vb Ms z G F w hlim hi hb hS hG hA hFG
 exact c_blkcl pn ps pf k key ts tv uv vf fs m vi vb Ms z hok hfl (hlim rfl) hi hb hS w hG hA hFG
end Go.Proofs.Ytpadfgomhojjnaa

/- Walks: what Go functions of this chapter come to, each as a function on plain data; no condition but those that each theorem names. Printed by a program of this work (gen.py). -/
namespace Go.Proofs.Ytpadfgomhojjnaa
open Go.Gx Go.Gx.T13 Go.Gx.T8 Go.Gx.T4 Go.Gx.T3 Go.Gx.T14 Go.Gx.T13 Go.Gx.T8 Go.Gx.T6 Go.Gx.T4 Go.Gx.T3 Go.Gx.T3 Go.Gx.T4 Go.Gx.T3 Go.Gx.T5 Go.Gx.T1 Go.Gx.T8 Go.Gx.T6 Go.Gx.T4 Go.Gx.T3 Go.Gx.T6 Go.Gx.T8 Go.Gx.T4 Go.Gx.T3 Go.Gx.T8 Go.Gx.T4 Go.Gx.T3 Go.Gx.T8 Go.Gx.T6 Go.Gx.T4 Go.Gx.T3

theorem c_blockers (vf vl : Value) (fs : List FD) (l : List ST) (k : Int) (key : Tri) (ts : List TD) (tv uv : Value) {G : Ghost} (hfl : fs.length ≤ 12) (hsz : sszL l ≤ 900) (hokl : okSL l) (hok : ∀ x ∈ ts, OkT x) (hpw : (fs.length + 1) ^ spL l ≤ 3000) (hf : SlL G vf 4 fC f0 fs) (hs : Ss G vl l) (ht : SlL G tv 3 tC t0 ts) (w : World) (hG : Has G w) :
  Calls Try.prog 47 #[vf, vl, Value.agg #[Value.int .i64 k, Value.int .i64 key.1, Value.int .i64 key.2.1, Value.int .i64 key.2.2, tv, uv]] w (Ret fun r w' => r = Value.int .i64 (bsum fs k key ts (gm fs l ([], [])) : Nat) ∧ Since nX w w') := by
 refine enter (args := [_, _, _]) (X := nX) (G := G) (l := [(0, vf), (1, vl), (2, Value.agg #[Value.int .i64 k, Value.int .i64 key.1, Value.int .i64 key.2.1, Value.int .i64 key.2.2, tv, uv])]) Try.func47 rfl Try.ntmps47 hG ⟨rfl, rfl, rfl, trivial⟩ (Nat.le_of_ble_eq_true rfl) ?_
 obtain ⟨af, cf, rfl⟩ := SlG.len hf
 refine c_seq ?_
 refine c_region ?_
 refine r_box .none rfl rfl (IsRow.lit [_]) (fun b_1 => ?_)
 refine r_box .none rfl rfl (IsRow.lit _) (fun b_2 => ?_)
 refine r_val .none rfl (p_assign rfl) ?_
 refine r_nil ?_
 refine e_next ?_
 refine c_seq ?_
 refine c_region ?_
 refine r_alloc .none rfl zr3 (IsRow.lit [_]) (fun b_3 => ?_)
 refine r_st (k := 0) .none sz3 rfl rfl rfl rfl (by first | exact of_decide_eq_true rfl | omega) ?_
 refine r_nil ?_
 refine e_next ?_
 refine c_seq ?_
 refine c_region ?_
 refine r_val .none rfl (p_ld (k := 2) Try.underlying72 rfl rfl rfl (by first | exact of_decide_eq_true rfl | omega) rfl) ?_
 refine r_val .none rfl (p_move rfl) ?_
 refine r_val .none rfl (p_build (vs := []) rfl (bl137_ )) ?_
 refine r_freezeX (k := 1) rfl (fun G_1 hn_2 hR_3 => ?_)
 replace hf := hf.mono hn_2.le
 replace hs := hs.mono hn_2.le
 replace ht := ht.mono hn_2.le
 have hR_4 : RowAt G_1 b_2 0 6 (at_ [Value.int .i64 k, Value.int .i64 key.1, Value.int .i64 key.2.1, Value.int .i64 key.2.2, tv, uv]) := RowAt.congr hR_3 (fun i hi => by match i, hi with | 0, _ => rfl | 1, _ => rfl | 2, _ => rfl | 3, _ => rfl | 4, _ => rfl | 5, _ => rfl)
 refine r_freezeX (k := 1) rfl (fun G_5 hn_6 hR_7 => ?_)
 replace hf := hf.mono hn_6.le
 replace hs := hs.mono hn_6.le
 replace ht := ht.mono hn_6.le
 replace hR_4 := hR_4.mono hn_6.le
 have hR_8 : RowAt G_5 b_1 0 1 (at_ [Value.slice af fs.length cf]) := RowAt.congr hR_7 (fun i hi => by match i, hi with | 0, _ => rfl)
 refine r_val .none rfl (p_mkfunc (vs := [_, _, _]) rfl) ?_
 refine r_callox (k := 0) (vs := [_, _, _, _]) .none rfl cl55 rfl rfl (fun w F hw hA hFG => c_growP_n _ Nat (fun z => box b_3 1 3 (at_ [Value.int .i64 ((z : Nat) : Int)])) true (fun G Ms z => BlS b_3 _ _ k key ts tv uv _ fs G Ms z) _ _ (c_blkOk b_3 _ _ k key ts tv uv _ fs hok hfl) _ _ _ _ fs l ([], []) [] 0 _ F w (Nat.le_refl _) ⟨by omega, by rw [List.length_nil]; omega, by rw [List.length_nil]; omega⟩ hokl (fun _ => by rw [List.length_nil, Nat.zero_add]; exact Nat.le_trans (gm_spow hpw) (by decide)) hf hs (SlG.nil _ _ _) (SlG.nil _ _ _) ⟨hR_4, hR_8, ht, hf, rfl⟩ hw (box_congr (fun i hi => by match i, hi with | 0, _ => rfl) _ _ hA) hFG) (fun G_9 v_12 z_14 hn_10 hr_11 => ?_)
 replace hf := hf.mono hn_10.le
 replace hs := hs.mono hn_10.le
 replace ht := ht.mono hn_10.le
 replace hR_4 := hR_4.mono hn_10.le
 replace hR_8 := hR_8.mono hn_10.le
 obtain ⟨rfl, u_13s⟩ := hr_11
 refine r_nil ?_
 refine e_next ?_
 refine c_seq ?_
 refine c_region ?_
 refine r_val .none rfl (p_ld (k := 0) Try.underlying3 rfl rfl rfl (by first | exact of_decide_eq_true rfl | omega) (rfl : _ = Value.int _ _)) ?_
 refine r_val .none rfl (p_assign rfl) ?_
 refine r_nil ?_
 refine e_next ?_
 refine c_ret ?_
 refine e_ret1 Try.results47 (.tmp rfl .nil) (fun w hm => ⟨?_, hm.since⟩)
 exact congrArg (fun n : Nat => Value.int .i64 (n : Int)) u_13s.2.2.2.2
theorem c_rblockers (vf vl : Value) (fs : List FD) (l : List ST) (k : Int) (key : Tri) (ts : List TD) (tv uv : Value) {G : Ghost} (hfl : fs.length ≤ 12) (hsz : sszL l ≤ 1000) (hokl : okSL l) (hkd : kdL l) (hok : ∀ x ∈ ts, OkT x) (hpw : (fs.length + 1) ^ spL l ≤ 3000) (hf : SlL G vf 4 fC f0 fs) (hs : Ss G vl l) (ht : SlL G tv 3 tC t0 ts) (w : World) (hG : Has G w) :
  Calls Try.prog 48 #[vf, vl, Value.agg #[Value.int .i64 k, Value.int .i64 key.1, Value.int .i64 key.2.1, Value.int .i64 key.2.2, tv, uv]] w (Ret fun r w' => r = Value.int .i64 (rsum fs k key ts ((gm fs l ([], [])).map Prod.fst) : Nat) ∧ Since nX w w') := by
 refine enter (args := [_, _, _]) (X := nX) (G := G) (l := [(0, vf), (1, vl), (2, Value.agg #[Value.int .i64 k, Value.int .i64 key.1, Value.int .i64 key.2.1, Value.int .i64 key.2.2, tv, uv])]) Try.func48 rfl Try.ntmps48 hG ⟨rfl, rfl, rfl, trivial⟩ (Nat.le_of_ble_eq_true rfl) ?_
 have hll := sszL_len l
 refine c_seq ?_
 refine c_region ?_
 refine r_box .none rfl rfl (IsRow.lit _) (fun b_1 => ?_)
 refine r_val .none rfl (p_assign rfl) ?_
 refine r_nil ?_
 refine e_next ?_
 refine c_seq ?_
 refine c_region ?_
 refine r_val .none rfl (p_assign rfl) ?_
 refine r_nil ?_
 refine e_next ?_
 refine c_seq ?_
 refine c_seq ?_
 refine c_region ?_
 refine r_val .none rfl (p_move rfl) ?_
 refine r_val .none rfl (p_move rfl) ?_
 refine r_callm (vs := [_, _, _]) .none rfl cl45 rfl (fun w hw => c_rsteps_n _ _ _ _ fs l [] _ w (Nat.le_refl _) hfl (by rw [List.length_nil]; omega) hokl hkd hpw hf hs (SlG.nil _ _ _) hw) (fun G_1 v_4 hn_2 hr_3 => ?_)
 replace hf := hf.mono hn_2.le
 replace hs := hs.mono hn_2.le
 replace ht := ht.mono hn_2.le
 obtain ⟨qs, hq, hqp, hql⟩ := hr_3
 replace hql : ((gm fs l ([], [])).map Prod.fst) = qs.map Prod.fst := hql
 have hqn : ((gm fs l ([], [])).map Prod.fst).length ≤ 3000 := by rw [List.length_map]; exact gm_spow hpw
 refine r_val .none rfl (p_leng Try.underlying79 rfl hq) ?_
 have bd_6 := (hq).bound
 refine r_val .none rfl (p_move rfl) ?_
 refine r_nil ?_
 refine e_next ?_
 refine c_block ?_
 refine c_name (d := 0) rfl (fun u_7 hu_7 => ?_)
 refine c_name (d := 5) rfl (fun u_8 hu_8 => ?_)
 refine c_name (d := 6) rfl (fun u_9 hu_9 => ?_)
 refine c_name (d := 19) rfl (fun u_10 hu_10 => ?_)
 refine c_name (d := 20) rfl (fun u_11 hu_11 => ?_)
 refine c_nameL (k := 0) rfl (fun A_12 hA_12 => ?_)
 refine c_loop (σ := Nat × Ghost) (fun s => [(21, Value.int .i64 (s.1 : Nat)), (7, Value.int .i64 ((rsum fs k key ts (((gm fs l ([], [])).map Prod.fst).take s.1)) : Nat)), (0, u_7), (5, u_8), (6, u_9), (19, u_10), (20, u_11)]) (fun s => [A_12]) (fun s => s.2) (fun s => s.1 ≤ qs.length ∧ GNew w nX G_1 s.2) (fun s => qs.length - s.1) ((0, _)) ⟨Nat.zero_le _, GNew.refl _ _ _⟩ rfl ⟨rfl, (congrArg (fun z => some (Value.int .i64 z)) (by rw [rsum_zero]; rfl)), rfl, rfl, rfl, rfl, rfl, trivial⟩ (.keep (fun _ _ h => h) (.nil)) (fun s hphi => ?_)
 subst hu_7
 subst hu_8
 subst hu_9
 subst hu_10
 subst hu_11
 subst hA_12
 obtain ⟨j, H⟩ := s
 obtain ⟨hj, hgn⟩ := hphi
 dsimp only at hj hgn ⊢
 have hrs := rsum_small (k := k) (key := key) (ts := ts) (j := j) hqn hfl
 replace hf := hf.mono hgn.le
 replace hs := hs.mono hgn.le
 replace ht := ht.mono hgn.le
 replace hq := hq.mono hgn.le
 replace hqp := fun p hm0 => (hqp p hm0).mono hgn.le
 refine c_seq ?_
 refine c_region ?_
 refine r_val .none rfl (p_lt rfl rfl) ?_
 refine r_nil ?_
 refine e_next ?_
 refine c_seq ?_
 refine c_splitd (d := 22) rfl (fun h_13 => ?_) (fun h_13 => ?_)
 ·
  first
   | (exfalso; omega)
   | (
    refine c_cond_t rfl ?_
    refine c_skip ?_
    refine e_next ?_
    refine c_seq ?_
    refine c_block ?_
    refine c_seq ?_
    refine c_region ?_
    refine r_iaddr_g .none rfl Try.underlying79 sz22 rfl hq rfl (by first | exact of_decide_eq_true rfl | omega) (fun p_15 o_16 R_14 => ?_)
    have hq_17 := hqp _ (getD_mem (i := j) (d := es14) (by omega))
    refine r_val .none rfl (p_ldg0 Try.underlying22 rfl rfl R_14 (by first | exact of_decide_eq_true rfl | omega) rfl) ?_
    have hml := ml_of hql (j := j) (by omega)
    refine r_val .none rfl (p_assign rfl) ?_
    refine r_nil ?_
    refine e_next ?_
    refine c_seq ?_
    refine c_region ?_
    refine r_val .none rfl (p_assign rfl) ?_
    refine r_nil ?_
    refine e_next ?_
    refine c_seq ?_
    refine c_seq ?_
    refine c_region ?_
    refine r_val .none rfl (p_move rfl) ?_
    refine r_val .none rfl (p_leng Try.underlying22 rfl hq_17) ?_
    have bd_18 := (hq_17).bound
    refine r_val .none rfl (p_move rfl) ?_
    refine r_nil ?_
    refine e_next ?_
    refine c_block ?_
    refine c_nilrow 105 3 ?_
    refine c_name (d := 0) rfl (fun u_19 hu_19 => ?_)
    refine c_name (d := 5) rfl (fun u_20 hu_20 => ?_)
    refine c_name (d := 6) rfl (fun u_21 hu_21 => ?_)
    refine c_name (d := 7) rfl (fun u_22 hu_22 => ?_)
    refine c_name (d := 9) rfl (fun u_23 hu_23 => ?_)
    refine c_name (d := 19) rfl (fun u_24 hu_24 => ?_)
    refine c_name (d := 20) rfl (fun u_25 hu_25 => ?_)
    refine c_name (d := 21) rfl (fun u_26 hu_26 => ?_)
    refine c_name (d := 22) rfl (fun u_27 hu_27 => ?_)
    refine c_name (d := 23) rfl (fun u_28 hu_28 => ?_)
    refine c_name (d := 24) rfl (fun u_29 hu_29 => ?_)
    refine c_name (d := 25) rfl (fun u_30 hu_30 => ?_)
    refine c_name (d := 26) rfl (fun u_31 hu_31 => ?_)
    refine c_nameL (k := 1) rfl (fun A_32 hA_32 => ?_)
    refine c_loop (σ := Nat × Value) (fun s => [(27, Value.int .i64 (s.1 : Nat)), (10, s.2), (0, u_19), (5, u_20), (6, u_21), (7, u_22), (9, u_23), (19, u_24), (20, u_25), (21, u_26), (22, u_27), (23, u_28), (24, u_29), (25, u_30), (26, u_31)]) (fun s => [rowA (s.2) 105 3 ((bk fs ((qs.getD j es14).1.take s.1))).length (((bk fs ((qs.getD j es14).1.take s.1))).flatMap triL), A_32]) (fun _ => _) (fun s => s.1 ≤ (qs.getD j es14).1.length) (fun s => (qs.getD j es14).1.length - s.1) ((0, _)) (Nat.zero_le _) rfl ⟨rfl, rfl, rfl, rfl, rfl, rfl, rfl, rfl, rfl, rfl, rfl, rfl, rfl, rfl, rfl, trivial⟩ (.keep (fun _ _ h => rowA_nil rfl _ _ h) (.keep (fun _ _ h => h) (.nil))) (fun s hphi => ?_)
    subst hu_19
    subst hu_20
    subst hu_21
    subst hu_22
    subst hu_23
    subst hu_24
    subst hu_25
    subst hu_26
    subst hu_27
    subst hu_28
    subst hu_29
    subst hu_30
    subst hu_31
    subst hA_32
    obtain ⟨i, bv⟩ := s
    dsimp only at hphi ⊢
    have hbs := bk_small (i := i) (show (qs.getD j es14).1.length ≤ 1000 by omega) hfl
    refine c_seq ?_
    refine c_region ?_
    refine r_val .none rfl (p_lt rfl rfl) ?_
    refine r_nil ?_
    refine e_next ?_
    refine c_seq ?_
    refine c_splitd (d := 28) rfl (fun h_33 => ?_) (fun h_33 => ?_)
    ·
     first
      | (exfalso; omega)
      | (
       refine c_cond_t rfl ?_
       refine c_skip ?_
       refine e_next ?_
       refine c_seq ?_
       refine c_block ?_
       refine c_seq ?_
       refine c_region ?_
       refine r_iaddr_g .none rfl Try.underlying22 sz3 rfl hq_17 rfl (by first | exact of_decide_eq_true rfl | omega) (fun p_35 o_36 R_34 => ?_)
       refine r_val .none rfl (p_ldg0 Try.underlying3 rfl rfl R_34 (by first | exact of_decide_eq_true rfl | omega) (rfl : _ = Value.int _ _)) ?_
       refine r_val .none rfl (p_assign rfl) ?_
       refine r_nil ?_
       refine e_next ?_
       refine c_seq ?_
       refine c_region ?_
       refine r_val .none rfl (p_move rfl) ?_
       refine r_val .none rfl (p_leng Try.underlying87 rfl hf) ?_
       have bd_37 := (hf).bound
       refine r_val .none rfl (p_move rfl) ?_
       refine r_nil ?_
       refine e_next ?_
       refine c_block ?_
       refine c_name (d := 0) rfl (fun u_38 hu_38 => ?_)
       refine c_name (d := 5) rfl (fun u_39 hu_39 => ?_)
       refine c_name (d := 6) rfl (fun u_40 hu_40 => ?_)
       refine c_name (d := 7) rfl (fun u_41 hu_41 => ?_)
       refine c_name (d := 9) rfl (fun u_42 hu_42 => ?_)
       refine c_name (d := 12) rfl (fun u_43 hu_43 => ?_)
       refine c_name (d := 19) rfl (fun u_44 hu_44 => ?_)
       refine c_name (d := 20) rfl (fun u_45 hu_45 => ?_)
       refine c_name (d := 21) rfl (fun u_46 hu_46 => ?_)
       refine c_name (d := 22) rfl (fun u_47 hu_47 => ?_)
       refine c_name (d := 23) rfl (fun u_48 hu_48 => ?_)
       refine c_name (d := 24) rfl (fun u_49 hu_49 => ?_)
       refine c_name (d := 25) rfl (fun u_50 hu_50 => ?_)
       refine c_name (d := 26) rfl (fun u_51 hu_51 => ?_)
       refine c_name (d := 27) rfl (fun u_52 hu_52 => ?_)
       refine c_name (d := 28) rfl (fun u_53 hu_53 => ?_)
       refine c_name (d := 29) rfl (fun u_54 hu_54 => ?_)
       refine c_name (d := 30) rfl (fun u_55 hu_55 => ?_)
       refine c_name (d := 31) rfl (fun u_56 hu_56 => ?_)
       refine c_name (d := 32) rfl (fun u_57 hu_57 => ?_)
       refine c_nameL (k := 1) rfl (fun A_58 hA_58 => ?_)
       refine c_loop (σ := Nat × Value) (fun s => [(33, Value.int .i64 (s.1 : Nat)), (10, s.2), (0, u_38), (5, u_39), (6, u_40), (7, u_41), (9, u_42), (12, u_43), (19, u_44), (20, u_45), (21, u_46), (22, u_47), (23, u_48), (24, u_49), (25, u_50), (26, u_51), (27, u_52), (28, u_53), (29, u_54), (30, u_55), (31, u_56), (32, u_57)]) (fun s => [rowA (s.2) 105 3 ((bk fs ((qs.getD j es14).1.take i) ++ bkTo fs ((qs.getD j es14).1.getD i 0) s.1)).length (((bk fs ((qs.getD j es14).1.take i) ++ bkTo fs ((qs.getD j es14).1.getD i 0) s.1)).flatMap triL), A_58]) (fun _ => _) (fun s => s.1 ≤ fs.length) (fun s => fs.length - s.1) ((0, bv)) (Nat.zero_le _) rfl ⟨rfl, rfl, rfl, rfl, rfl, rfl, rfl, rfl, rfl, rfl, rfl, rfl, rfl, rfl, rfl, rfl, rfl, rfl, rfl, rfl, rfl, rfl, trivial⟩ (.keep (fun _ _ h => rowA_same (by simp [bkTo]) _ _ h) (.keep (fun _ _ h => h) (.nil))) (fun s hphi => ?_)
       subst hu_38
       subst hu_39
       subst hu_40
       subst hu_41
       subst hu_42
       subst hu_43
       subst hu_44
       subst hu_45
       subst hu_46
       subst hu_47
       subst hu_48
       subst hu_49
       subst hu_50
       subst hu_51
       subst hu_52
       subst hu_53
       subst hu_54
       subst hu_55
       subst hu_56
       subst hu_57
       subst hA_58
       obtain ⟨q, bw⟩ := s
       dsimp only at hphi ⊢
       have hbt := bkTo_le fs ((qs.getD j es14).1.getD i 0) q
       refine c_seq ?_
       refine c_region ?_
       refine r_val .none rfl (p_lt rfl rfl) ?_
       refine r_nil ?_
       refine e_next ?_
       refine c_seq ?_
       refine c_splitd (d := 34) rfl (fun h_59 => ?_) (fun h_59 => ?_)
       ·
        first
         | (exfalso; omega)
         | (
          refine c_cond_t rfl ?_
          refine c_skip ?_
          refine e_next ?_
          refine c_seq ?_
          refine c_block ?_
          refine c_seq ?_
          refine c_region ?_
          refine r_iaddr_g .none rfl Try.underlying87 sz145 rfl hf rfl (by first | exact of_decide_eq_true rfl | omega) (fun p_61 o_62 R_60 => ?_)
          refine r_val .none rfl (p_ldga0 Try.underlying145 rfl sz145 rfl R_60 (by first | exact of_decide_eq_true rfl | omega) (rfl : _ = Value.agg #[_, _, _, _])) ?_
          refine r_alloc .none rfl zr145 (IsRow.lit _) (fun b_2 => ?_)
          refine r_stw (k := 0) .none sz145 rfl rfl (IsRow.lit _) (one_lit rfl rfl) rfl ?_
          refine r_nil ?_
          refine e_next ?_
          refine c_seq ?_
          refine c_region ?_
          refine r_val .none rfl (p_field Try.underlying145 rfl sz3 rfl) ?_
          refine r_val .none rfl (p_ld (k := 0) Try.underlying3 rfl rfl rfl (by first | exact of_decide_eq_true rfl | omega) (rfl : _ = Value.int _ _)) ?_
          refine r_val .none rfl (p_move rfl) ?_
          refine r_val .none rfl (p_eq rfl rfl) ?_
          refine r_nil ?_
          refine e_next ?_
          refine c_splitd (d := 40) rfl (fun h_63 => ?_) (fun h_63 => ?_)
          ·
           have hE := h_63
           first
            | (exfalso; omega)
            | (
             refine c_cond_t rfl ?_
             refine c_region ?_
             refine r_val .none rfl (p_move rfl) ?_
             refine r_val .none rfl (p_field Try.underlying145 rfl sz105 rfl) ?_
             refine r_val .none rfl (p_lda (k := 0) Try.underlying105 rfl sz105 rfl rfl (by first | exact of_decide_eq_true rfl | omega) (rfl : _ = Value.agg #[_, _, _])) ?_
             refine r_bslice (vs := [(0, Value.agg #[_, _, _])]) (c := #[_, _, _]) .none rfl Try.underlying153 el105 rfl rfl rfl (bs105_10a3 _ _ _) (IsRow.lit _) (fun b_3 => ?_)
             refine r_append (k := 2) (k2 := 0) .none rfl Try.underlying153 el105 rfl (by decide) rfl rfl rfl rfl rfl (one_lit rfl rfl) (by rw [List.length_append]; simp only [maxLen]; omega) (by rw [List.length_append]; omega) (fun v_64 => ?_)
             refine r_row1 (k := 2) rfl (fun o_65 => ?_)
             refine r_val .none rfl (p_assign rfl) ?_
             refine r_nil ?_
             refine e_norm_block ?_
             refine e_next ?_
             refine c_region ?_
             refine r_val .none rfl (p_add rfl rfl (by omega)) ?_
             refine r_val .none rfl (p_move rfl) ?_
             refine r_nil ?_
             refine e_round ((q + 1, _)) ⟨by dsimp only; omega, by dsimp only; omega⟩ rfl ⟨rfl, rfl, rfl, rfl, rfl, rfl, rfl, rfl, rfl, rfl, rfl, rfl, rfl, rfl, rfl, rfl, rfl, rfl, rfl, rfl, rfl, rfl, trivial⟩ (.drop (.drop (.keep (fun _ _ h => rowA_snoc (by rw [bkTo_yes (by omega) hE, ← List.append_assoc]) rfl rfl rfl _ _ h) (.keep (fun _ _ h => h) (.nil)))))
             )
          ·
           have hE := h_63
           first
            | (exfalso; omega)
            | (
             refine c_cond_f rfl ?_
             refine c_skip ?_
             refine e_norm_block ?_
             refine e_next ?_
             refine c_region ?_
             refine r_val .none rfl (p_add rfl rfl (by omega)) ?_
             refine r_val .none rfl (p_move rfl) ?_
             refine r_nil ?_
             refine e_round ((q + 1, _)) ⟨by dsimp only; omega, by dsimp only; omega⟩ rfl ⟨rfl, rfl, rfl, rfl, rfl, rfl, rfl, rfl, rfl, rfl, rfl, rfl, rfl, rfl, rfl, rfl, rfl, rfl, rfl, rfl, rfl, rfl, trivial⟩ (.drop (.keep (fun _ _ h => rowA_same (by rw [bkTo_no (by omega) hE]) _ _ h) (.keep (fun _ _ h => h) (.nil))))
             )
          )
       ·
        first
         | (exfalso; omega)
         | (
          refine c_cond_f rfl ?_
          refine c_exit ?_
          refine e_exit_then ?_
          refine e_exit_then ?_
          refine e_exit_block ?_
          refine e_norm_block ?_
          refine e_next ?_
          refine c_region ?_
          refine r_val .none rfl (p_add rfl rfl (by omega)) ?_
          refine r_val .none rfl (p_move rfl) ?_
          refine r_nil ?_
          refine e_round ((i + 1, _)) ⟨by dsimp only; omega, by dsimp only; omega⟩ rfl ⟨rfl, rfl, rfl, rfl, rfl, rfl, rfl, rfl, rfl, rfl, rfl, rfl, rfl, rfl, rfl, trivial⟩ (.keep (fun _ _ h => rowA_same (bk_next (by omega) (by omega)) _ _ h) (.keep (fun _ _ h => h) (.nil)))
          )
       )
    ·
     first
      | (exfalso; omega)
      | (
       refine c_cond_f rfl ?_
       refine c_exit ?_
       refine e_exit_then ?_
       refine e_exit_then ?_
       refine e_exit_block ?_
       refine e_next ?_
       refine c_seq ?_
       refine c_region ?_
       have hi8 : (qs.getD j es14).1.take i = (qs.getD j es14).1 := List.take_of_length_le (by omega)
       refine r_freeze (k := 0) rfl (fun G_66 hn_67 hs_68 => ?_)
       replace hf := hf.mono hn_67.le
       replace hs := hs.mono hn_67.le
       replace ht := ht.mono hn_67.le
       replace hq := hq.mono hn_67.le
       replace hqp := fun p hm0 => (hqp p hm0).mono hn_67.le
       replace R_14 := R_14.mono hn_67.le
       replace hq_17 := hq_17.mono hn_67.le
       have hbk : SlL G_66 bv 3 triL z3 (bk fs (qs.getD j es14).1) := SlL.of2 z3 (fun _ => rfl) (by rw [hi8]) (by rw [hi8]) hs_68
       refine r_val .none rfl (p_move rfl) ?_
       refine r_val .none rfl (p_leng Try.underlying87 rfl hf) ?_
       have bd_69 := (hf).bound
       refine r_val .none rfl (p_move rfl) ?_
       refine r_nil ?_
       refine e_next ?_
       refine c_block ?_
       refine c_name (d := 0) rfl (fun u_70 hu_70 => ?_)
       refine c_name (d := 5) rfl (fun u_71 hu_71 => ?_)
       refine c_name (d := 6) rfl (fun u_72 hu_72 => ?_)
       refine c_name (d := 9) rfl (fun u_73 hu_73 => ?_)
       refine c_name (d := 10) rfl (fun u_74 hu_74 => ?_)
       refine c_name (d := 19) rfl (fun u_75 hu_75 => ?_)
       refine c_name (d := 20) rfl (fun u_76 hu_76 => ?_)
       refine c_name (d := 21) rfl (fun u_77 hu_77 => ?_)
       refine c_name (d := 22) rfl (fun u_78 hu_78 => ?_)
       refine c_name (d := 23) rfl (fun u_79 hu_79 => ?_)
       refine c_name (d := 24) rfl (fun u_80 hu_80 => ?_)
       refine c_name (d := 25) rfl (fun u_81 hu_81 => ?_)
       refine c_name (d := 26) rfl (fun u_82 hu_82 => ?_)
       refine c_name (d := 27) rfl (fun u_83 hu_83 => ?_)
       refine c_name (d := 28) rfl (fun u_84 hu_84 => ?_)
       refine c_name (d := 48) rfl (fun u_85 hu_85 => ?_)
       refine c_name (d := 49) rfl (fun u_86 hu_86 => ?_)
       refine c_nameL (k := 0) rfl (fun A_87 hA_87 => ?_)
       refine c_loop (σ := Nat) (fun q => [(50, Value.int .i64 (q : Nat)), (7, Value.int .i64 (((rsum fs k key ts (((gm fs l ([], [])).map Prod.fst).take j)) + (which k key ts (bk fs (qs.getD j es14).1) (fs.take q)).length : Nat) : Int)), (0, u_70), (5, u_71), (6, u_72), (9, u_73), (10, u_74), (19, u_75), (20, u_76), (21, u_77), (22, u_78), (23, u_79), (24, u_80), (25, u_81), (26, u_82), (27, u_83), (28, u_84), (48, u_85), (49, u_86)]) (fun q => [A_87]) (fun _ => _) (fun q => q ≤ fs.length) (fun q => fs.length - q) (0) (Nat.zero_le _) rfl ⟨rfl, (congrArg (fun z => some (Value.int .i64 z)) (by simp [which])), rfl, rfl, rfl, rfl, rfl, rfl, rfl, rfl, rfl, rfl, rfl, rfl, rfl, rfl, rfl, rfl, rfl, trivial⟩ (.keep (fun _ _ h => h) (.nil)) (fun q hphi => ?_)
       subst hu_70
       subst hu_71
       subst hu_72
       subst hu_73
       subst hu_74
       subst hu_75
       subst hu_76
       subst hu_77
       subst hu_78
       subst hu_79
       subst hu_80
       subst hu_81
       subst hu_82
       subst hu_83
       subst hu_84
       subst hu_85
       subst hu_86
       subst hA_87
       have hwq := which_len k key ts (bk fs (qs.getD j es14).1) (fs.take q)
       rw [List.length_take] at hwq
       refine c_seq ?_
       refine c_region ?_
       refine r_val .none rfl (p_lt rfl rfl) ?_
       refine r_nil ?_
       refine e_next ?_
       refine c_seq ?_
       refine c_splitd (d := 51) rfl (fun h_88 => ?_) (fun h_88 => ?_)
       ·
        first
         | (exfalso; omega)
         | (
          refine c_cond_t rfl ?_
          refine c_skip ?_
          refine e_next ?_
          refine c_seq ?_
          refine c_block ?_
          refine c_seq ?_
          refine c_region ?_
          refine r_iaddr_g .none rfl Try.underlying87 sz145 rfl hf rfl (by first | exact of_decide_eq_true rfl | omega) (fun p_90 o_91 R_89 => ?_)
          refine r_val .none rfl (p_ldga0 Try.underlying145 rfl sz145 rfl R_89 (by first | exact of_decide_eq_true rfl | omega) (rfl : _ = Value.agg #[_, _, _, _])) ?_
          refine r_alloc .none rfl zr145 (IsRow.lit _) (fun b_4 => ?_)
          refine r_stw (k := 0) .none sz145 rfl rfl (IsRow.lit _) (one_lit rfl rfl) rfl ?_
          refine r_nil ?_
          refine e_next ?_
          refine c_seq ?_
          refine c_region ?_
          refine r_val .none rfl (p_ldw (k := 1) Try.underlying116 rfl sz116 rfl rfl (rfl : _ = Value.agg #[_, _, _, _, _, _])) ?_
          refine r_val .none rfl (p_move rfl) ?_
          refine r_val .none rfl (p_field Try.underlying145 rfl sz105 rfl) ?_
          refine r_val .none rfl (p_lda (k := 0) Try.underlying105 rfl sz105 rfl rfl (by first | exact of_decide_eq_true rfl | omega) (rfl : _ = Value.agg #[_, _, _])) ?_
          refine r_call (vs := [_, _, _]) .none rfl cl64 rfl (fun w hw => c_rmeets k key ts _ _ _ (bk fs (qs.getD j es14).1) (fs.getD q f0).2 hok ht hbk w hw) ?_
          refine r_nil ?_
          refine e_next ?_
          refine c_split (d := 58) rfl (fun h_92 => ?_) (fun h_92 => ?_)
          ·
           have hM := h_92
           first
            | (exfalso; omega)
            | (
             refine c_cond_t rfl ?_
             refine c_region ?_
             refine r_val .none rfl (p_move rfl) ?_
             refine r_val .none rfl (p_add rfl rfl (by omega)) ?_
             refine r_val .none rfl (p_assign rfl) ?_
             refine r_nil ?_
             refine e_norm_block ?_
             refine e_next ?_
             refine c_region ?_
             refine r_val .none rfl (p_add rfl rfl (by omega)) ?_
             refine r_val .none rfl (p_move rfl) ?_
             refine r_nil ?_
             refine e_round (q + 1) ⟨by omega, by omega⟩ rfl ⟨rfl, (congrArg (fun z => some (Value.int .i64 z)) (by first | (rw [wh_yes (by omega) hM]; omega) | (rw [wh_no (by omega) hM]))), rfl, rfl, rfl, rfl, rfl, rfl, rfl, rfl, rfl, rfl, rfl, rfl, rfl, rfl, rfl, rfl, rfl, trivial⟩ (.drop (.keep (fun _ _ h => h) (.nil)))
             )
          ·
           have hM := h_92
           first
            | (exfalso; omega)
            | (
             refine c_cond_f rfl ?_
             refine c_skip ?_
             refine e_norm_block ?_
             refine e_next ?_
             refine c_region ?_
             refine r_val .none rfl (p_add rfl rfl (by omega)) ?_
             refine r_val .none rfl (p_move rfl) ?_
             refine r_nil ?_
             refine e_round (q + 1) ⟨by omega, by omega⟩ rfl ⟨rfl, (congrArg (fun z => some (Value.int .i64 z)) (by first | (rw [wh_yes (by omega) hM]; omega) | (rw [wh_no (by omega) hM]))), rfl, rfl, rfl, rfl, rfl, rfl, rfl, rfl, rfl, rfl, rfl, rfl, rfl, rfl, rfl, rfl, rfl, trivial⟩ (.drop (.keep (fun _ _ h => h) (.nil)))
             )
          )
       ·
        first
         | (exfalso; omega)
         | (
          refine c_cond_f rfl ?_
          refine c_exit ?_
          refine e_exit_then ?_
          refine e_exit_then ?_
          refine e_exit_block ?_
          refine e_norm_block ?_
          refine e_next ?_
          refine c_region ?_
          refine r_val .none rfl (p_add rfl rfl (by omega)) ?_
          refine r_val .none rfl (p_move rfl) ?_
          refine r_nil ?_
          refine e_round ((j + 1, _)) ⟨⟨by dsimp only; omega, (hgn.trans hn_67)⟩, by dsimp only; omega⟩ rfl ⟨rfl, (congrArg (fun z => some (Value.int .i64 z)) (by dsimp only; rw [rsum_next hql (by omega), show fs.take q = fs from List.take_of_length_le (by omega)])), rfl, rfl, rfl, rfl, rfl, trivial⟩ (.keep (fun _ _ h => h) (.nil))
          )
       )
    )
 ·
  first
   | (exfalso; omega)
   | (
    refine c_cond_f rfl ?_
    refine c_exit ?_
    refine e_exit_then ?_
    refine e_exit_then ?_
    refine e_exit_block ?_
    refine e_next ?_
    refine c_seq ?_
    refine c_region ?_
    refine r_val .none rfl (p_move rfl) ?_
    refine r_val .none rfl (p_assign rfl) ?_
    refine r_nil ?_
    refine e_next ?_
    refine c_ret ?_
    refine e_ret1 Try.results48 (.tmp rfl .nil) (fun w hm => ⟨?_, hm.since⟩)
    exact congrArg (fun n : Nat => Value.int .i64 (n : Int)) (by rw [List.take_of_length_le (by rw [hql, List.length_map]; omega)])
    )
end Go.Proofs.Ytpadfgomhojjnaa

/- Walks: what Go functions of this chapter come to, each as a function on plain data; no condition but those that each theorem names. Printed by a program of this work (gen.py). -/
namespace Go.Proofs.Ytpadfgomhojjnaa
open Go.Gx Go.Gx.T4 Go.Gx.T3 Go.Gx.T6 Go.Gx.T8 Go.Gx.T4 Go.Gx.T3 Go.Gx.T8 Go.Gx.T4 Go.Gx.T3 Go.Gx.T8 Go.Gx.T6 Go.Gx.T4 Go.Gx.T3
theorem cl44 : Callable Try.prog 44 := callable Try.func44 (by kernel_rfl) rfl
theorem bs83_10s3 (a0 : Option Addr) (a1 a2 : Nat) : Instr.fill (fun i => some (i * 1, 1)) ((Array.range (1 * 1)).map ((Value.slice none 0 0).cells[· % (Value.slice none 0 0).cells.size]!)) [(0, Value.slice a0 a1 a2)] = some #[Value.slice a0 a1 a2] := by
 kernel_rfl
theorem el83 : ElemIs Try.prog 83 1 24 (Value.slice none 0 0) := by
 unfold ElemIs
 kernel_rfl
def RchSIs (n : Nat) : Prop := ∀ (va vl : Value) (es : List SVal) (l : List ST) (G : Ghost) (F : Nat → Prop) (w : World), SizeOf.sizeOf l ≤ n → es.length + sszL l ≤ 5000 → (∀ p ∈ es, SlL G p.2.1 3 tC t0 p.1.h.ts) → (∀ p ∈ es, Ss G p.2.2 p.1.subs) → Ss G vl l → Has G w → (rowA va 116 6 es.length (es.flatMap sC)).holds w F → (∀ b, F b → G b = none) → Calls Try.prog 44 #[va, vl] w (Ret fun r w' => ∃ G', GNew w F G G' ∧ Has G' w' ∧ Ls (fun G v l => Ss G v l) ([] : List ST) G' r (schains (es.map Prod.fst) l) ∧ KeptG (rowA va 116 6 es.length (es.flatMap sC)) F G' w w')
theorem c_rchS_s (n : Nat) (ih : RchSIs n) (va vl : Value) (es : List SVal) (l : List ST) {G : Ghost} {F : Nat → Prop} (hz : SizeOf.sizeOf l ≤ n + 1) (hsz : es.length + sszL l ≤ 5000) (het : ∀ p ∈ es, SlL G p.2.1 3 tC t0 p.1.h.ts) (hes : ∀ p ∈ es, Ss G p.2.2 p.1.subs) (hs : Ss G vl l) (w : World) (hG : Has G w) (hA : (rowA va 116 6 es.length (es.flatMap sC)).holds w F) (hFG : ∀ b, F b → G b = none) :
  Calls Try.prog 44 #[va, vl] w (Ret fun r w' => ∃ G', GNew w F G G' ∧ Has G' w' ∧ Ls (fun G v l => Ss G v l) ([] : List ST) G' r (schains (es.map Prod.fst) l) ∧ KeptG (rowA va 116 6 es.length (es.flatMap sC)) F G' w w') := by
 refine enterO (args := [_, _]) (G := G) (A := rowA va 116 6 es.length (es.flatMap sC)) (l := [(0, va), (1, vl)]) Try.func44 rfl Try.ntmps44 hG hA hFG ⟨rfl, rfl, trivial⟩ (Nat.le_of_ble_eq_true rfl) ?_
 obtain ⟨rs, hr, hpt, hps, rfl⟩ := hs.inv
 have hbd := hr.bound
 refine c_seq ?_
 refine c_region ?_
 refine r_val .none rfl (p_assign rfl) ?_
 refine r_nil ?_
 refine e_next ?_
 refine c_seq ?_
 refine c_region ?_
 refine r_val .none rfl (p_assign rfl) ?_
 refine r_nil ?_
 refine e_next ?_
 refine c_seq ?_
 refine c_seq ?_
 refine c_region ?_
 refine r_val .none rfl (p_move rfl) ?_
 refine r_val .none rfl (p_leng Try.underlying83 rfl hr) ?_
 have bd_1 := (hr).bound
 refine r_val .none rfl (p_move rfl) ?_
 refine r_nil ?_
 refine e_next ?_
 refine c_block ?_
 refine c_nilrow 83 1 ?_
 refine c_name (d := 0) rfl (fun u_2 hu_2 => ?_)
 refine c_name (d := 1) rfl (fun u_3 hu_3 => ?_)
 refine c_name (d := 4) rfl (fun u_4 hu_4 => ?_)
 refine c_name (d := 9) rfl (fun u_5 hu_5 => ?_)
 refine c_name (d := 10) rfl (fun u_6 hu_6 => ?_)
 refine c_nameL (k := 1) rfl (fun A_7 hA_7 => ?_)
 refine c_loop (σ := Nat × Value × List (List ST × Value) × Ghost) (fun s => [(11, Value.int .i64 (s.1 : Nat)), (5, s.2.1), (0, u_2), (1, u_3), (4, u_4), (9, u_5), (10, u_6)]) (fun s => [rowA (s.2.1) 83 1 (s.2.2.1).length ((s.2.2.1).flatMap lC), A_7]) (fun s => s.2.2.2) (fun s => s.1 ≤ rs.length ∧ s.2.2.1.map Prod.fst = schains (es.map Prod.fst) ((rs.map Prod.fst).take s.1) ∧ StC s.2.2.2 s.2.2.1 ∧ GNew w F G s.2.2.2) (fun s => rs.length - s.1) ((0, _, [], _)) ⟨Nat.zero_le _, by simp [schains], by simp [StC], GNew.refl _ _ _⟩ rfl ⟨rfl, rfl, rfl, rfl, rfl, rfl, rfl, trivial⟩ (.keep (fun _ _ h => rowA_nil rfl _ _ h) (.keep (fun _ _ h => h) (.nil))) (fun s hphi => ?_)
 subst hu_2
 subst hu_3
 subst hu_4
 subst hu_5
 subst hu_6
 subst hA_7
 obtain ⟨k, v, z, H⟩ := s
 obtain ⟨hk, hzq, hzc, hgn⟩ := hphi
 dsimp only at hk hzq hzc hgn ⊢
 have hzl : z.length = (schains (es.map Prod.fst) ((rs.map Prod.fst).take k)).length := by have := congrArg List.length hzq; simpa using this
 have hcl := schains_len ((rs.map Prod.fst).take k) (es.map Prod.fst)
 have hst0 := sszL_take_le (rs.map Prod.fst) k
 have hll := sszL_len (rs.map Prod.fst)
 rw [List.length_map] at hll
 have hm9 : (es ++ rs.take k).map Prod.fst = es.map Prod.fst ++ (rs.map Prod.fst).take k := by rw [List.map_append, List.map_take]
 refine c_row1 (k := 0) rfl (fun ov => ?_)
 refine c_rowlen (k := 0) rfl (fun l63 => ?_)
 replace hr := hr.mono hgn.le
 replace hpt := fun p hm0 => (hpt p hm0).mono hgn.le
 replace hps := fun p hm0 => (hps p hm0).mono hgn.le
 replace het := fun p hm0 => (het p hm0).mono hgn.le
 replace hes := fun p hm0 => (hes p hm0).mono hgn.le
 refine c_seq ?_
 refine c_region ?_
 refine r_val .none rfl (p_lt rfl rfl) ?_
 refine r_nil ?_
 refine e_next ?_
 refine c_seq ?_
 refine c_splitd (d := 12) rfl (fun h_8 => ?_) (fun h_8 => ?_)
 ·
  first
   | (exfalso; omega)
   | (
    refine c_cond_t rfl ?_
    refine c_skip ?_
    refine e_next ?_
    refine c_seq ?_
    refine c_block ?_
    refine c_seq ?_
    refine c_region ?_
    refine r_val .none rfl (p_move rfl) ?_
    refine r_iaddr_g .none rfl Try.underlying83 sz116 rfl hr rfl (by first | exact of_decide_eq_true rfl | omega) (fun p_10 o_11 R_9 => ?_)
    have ht_12 := hpt _ (getD_mem (i := k) (d := s0) (by omega))
    have hc_13 := hps _ (getD_mem (i := k) (d := s0) (by omega))
    have hkl := sszL_len ((rs.map Prod.fst).take k)
    rw [List.length_take, List.length_map] at hkl
    have hsk := sszL_take (rs := rs) (k := k) (by omega)
    have hsk2 := sszL_take_le (rs.map Prod.fst) (k + 1)
    have hsq := ssz_eq (rs.getD k s0).1
    refine r_val .none rfl (p_ldga0 Try.underlying116 rfl sz116 rfl R_9 (by first | exact of_decide_eq_true rfl | omega) (rfl : _ = Value.agg #[_, _, _, _, _, _])) ?_
    refine r_alloc .none rfl zr116 (IsRow.lit _) (fun b_1 => ?_)
    refine r_val .none rfl (p_assign rfl) ?_
    refine r_stw (k := 0) .none sz116 rfl rfl (IsRow.lit _) (one_lit rfl (all_cons rfl (all_cons rfl (all_cons rfl (all_cons rfl (all_cons (ht_12).one (all_cons (hc_13).one rfl))))))) rfl ?_
    refine r_nil ?_
    refine e_next ?_
    refine c_seq ?_
    refine c_region ?_
    refine r_val .none rfl (p_assign rfl) ?_
    refine r_nil ?_
    refine e_next ?_
    refine c_seq ?_
    refine c_region ?_
    refine r_val .none rfl (p_move rfl) ?_
    refine r_val .none rfl (p_move rfl) ?_
    refine r_nilrow 116 6 ?_
    refine r_append_o (k := 0) (k2 := 3) .none rfl Try.underlying83 el116 rfl (by decide) rfl rfl rfl rfl (ss_all het hes) (by simp only [maxLen]; omega) (by omega) (fun v_15 => ?_)
    refine r_row1 (k := 0) rfl (fun o_16 => ?_)
    refine r_val .none rfl (p_assign rfl) ?_
    refine r_nil ?_
    refine e_next ?_
    refine c_seq ?_
    refine c_region ?_
    refine r_val .none rfl (p_move rfl) ?_
    refine r_val .none rfl (p_move rfl) ?_
    refine r_val .none rfl (p_move rfl) ?_
    refine r_slice0 (k) .none rfl Try.underlying83 sz116 rfl hr rfl (by first | exact of_decide_eq_true rfl | omega) (fun v_17 hs_18 => ?_)
    have hpt9_20 := ss_take (by omega) hs_18
    refine r_append_g (k := 0) .none rfl Try.underlying83 el116 rfl (by decide) rfl rfl rfl hpt9_20 (ss_ones (fun p hm0 => hpt p (List.mem_of_mem_take hm0)) (fun p hm0 => hps p (List.mem_of_mem_take hm0))) (by rw [List.length_take]; simp only [maxLen]; omega) (by rw [List.length_take]; omega) (fun v_21 => ?_)
    refine r_row1 (k := 0) rfl (fun o_22 => ?_)
    refine r_conv (B := rowA v_21 _ 6 (es ++ rs.take k).length ((es ++ rs.take k).flatMap sC)) (k := 0) rfl (fun _ _ h => rowA_congr (by simp) (by rw [List.nil_append, flat_all (cells := sC) (fun _ => rfl), List.flatMap_append]) _ _ h) ?_
    refine r_val .none rfl (p_assign rfl) ?_
    refine r_nil ?_
    refine e_next ?_
    refine c_seq ?_
    refine c_seq ?_
    refine c_region ?_
    refine r_val .none rfl (p_field Try.underlying116 rfl sz3 rfl) ?_
    refine r_val .none rfl (p_ld (k := 1) Try.underlying3 rfl rfl rfl (by first | exact of_decide_eq_true rfl | omega) (rfl : _ = Value.int _ _)) ?_
    refine r_val .none rfl (p_eq rfl rfl) ?_
    refine r_nil ?_
    refine e_next ?_
    refine c_splitd (d := 26) rfl (fun h_23 => ?_) (fun h_23 => ?_)
    ·
     have hk3 := h_23
     first
      | (exfalso; omega)
      | (
       refine c_cond_t rfl ?_
       refine c_region ?_
       refine r_val .none rfl (p_move rfl) ?_
       refine r_val .none rfl (p_move rfl) ?_
       refine r_val .none rfl (p_field Try.underlying116 rfl sz83 rfl) ?_
       refine r_val .none rfl (p_ld (k := 1) Try.underlying83 rfl rfl rfl (by first | exact of_decide_eq_true rfl | omega) rfl) ?_
       refine r_callom (k := 0) (vs := [_, _]) .none rfl cl44 rfl rfl (fun w F hw hA hFG => ih _ _ _ _ _ _ w (Nat.le_of_lt_succ (Nat.lt_of_lt_of_le (ssub_size (by omega)) hz)) (by rw [List.length_append, List.length_take]; omega) (fun p hm0 => by rcases List.mem_append.1 hm0 with h | h; exact het p h; exact hpt p (List.mem_of_mem_take h)) (fun p hm0 => by rcases List.mem_append.1 hm0 with h | h; exact hes p h; exact hps p (List.mem_of_mem_take h)) hc_13 hw hA hFG) (fun G_24 v_27 hn_25 hr_26 => ?_)
       replace hr := hr.mono hn_25.le
       replace hpt := fun p hm0 => (hpt p hm0).mono hn_25.le
       replace hps := fun p hm0 => (hps p hm0).mono hn_25.le
       replace het := fun p hm0 => (het p hm0).mono hn_25.le
       replace hes := fun p hm0 => (hes p hm0).mono hn_25.le
       replace hzc := StC.mono hzc hn_25.le
       replace R_9 := R_9.mono hn_25.le
       replace ht_12 := ht_12.mono hn_25.le
       replace hc_13 := hc_13.mono hn_25.le
       replace hs_18 := hs_18.mono hn_25.le
       replace hpt9_20 := hpt9_20.mono hn_25.le
       obtain ⟨u_28z, u_28h, u_28p, u_28q⟩ := hr_26
       rw [hm9] at u_28q
       refine r_append_g (k := 2) .none rfl Try.underlying110 el83 rfl (by decide) rfl rfl rfl u_28h (ss_one1 u_28p) (by have h9 := congrArg List.length u_28q; rw [List.length_map] at h9; have h8 := schains_len (rs.getD k s0).1.subs (es.map Prod.fst ++ (rs.map Prod.fst).take k); simp only [maxLen]; omega) (by have h9 := congrArg List.length u_28q; rw [List.length_map] at h9; have h8 := schains_len (rs.getD k s0).1.subs (es.map Prod.fst ++ (rs.map Prod.fst).take k); omega) (fun v_29 => ?_)
       refine r_row1 (k := 2) rfl (fun o_30 => ?_)
       refine r_conv (B := rowA v_29 _ 1 (z ++ u_28z).length ((z ++ u_28z).flatMap lC)) (k := 2) rfl (fun _ _ h => rowA_congr (by simp) (by rw [flat_all (cells := lC) (fun _ => rfl), List.flatMap_append]) _ _ h) ?_
       refine r_val .none rfl (p_assign rfl) ?_
       refine r_nil ?_
       refine e_next ?_
       refine c_seq ?_
       refine c_region ?_
       refine r_val .none rfl (p_move rfl) ?_
       refine r_val .none rfl (p_ldw (k := 1) Try.underlying116 rfl sz116 rfl rfl (rfl : _ = Value.agg #[_, _, _, _, _, _])) ?_
       refine r_bslice (vs := [(0, Value.agg #[_, _, _, _, _, _])]) (c := #[_, _, _, _, _, _]) .none rfl Try.underlying83 el116 rfl rfl rfl (bs116_10a6 _ _ _ _ _ _) (IsRow.lit _) (fun b_2 => ?_)
       refine r_append (k := 1) (k2 := 0) .none rfl Try.underlying83 el116 rfl (by decide) rfl rfl rfl rfl rfl (one_lit rfl (all_cons rfl (all_cons rfl (all_cons rfl (all_cons rfl (all_cons (ht_12).one (all_cons (hc_13).one rfl))))))) (by rw [List.length_append, List.length_take]; simp only [maxLen]; omega) (by rw [List.length_append, List.length_take]; omega) (fun v_31 => ?_)
       refine r_row1 (k := 1) rfl (fun o_32 => ?_)
       refine r_val .none rfl (p_assign rfl) ?_
       refine r_nil ?_
       refine e_next ?_
       refine c_region ?_
       refine r_val .none rfl (p_move rfl) ?_
       refine r_val .none rfl (p_move rfl) ?_
       refine r_freeze (k := 1) rfl (fun G_33 hn_34 hs_35 => ?_)
       replace hr := hr.mono hn_34.le
       replace hpt := fun p hm0 => (hpt p hm0).mono hn_34.le
       replace hps := fun p hm0 => (hps p hm0).mono hn_34.le
       replace het := fun p hm0 => (het p hm0).mono hn_34.le
       replace hes := fun p hm0 => (hes p hm0).mono hn_34.le
       replace hzc := StC.mono hzc hn_34.le
       replace R_9 := R_9.mono hn_34.le
       replace ht_12 := ht_12.mono hn_34.le
       replace hc_13 := hc_13.mono hn_34.le
       replace hs_18 := hs_18.mono hn_34.le
       replace hpt9_20 := hpt9_20.mono hn_34.le
       replace u_28h := u_28h.mono hn_34.le
       replace u_28p := StC.mono u_28p hn_34.le
       have hs2 : SlL G_33 v_31 6 sC s0 ((es ++ rs.take k) ++ [rs.getD k s0]) := SlL.of2 s0 (fun _ => rfl) (by simp [Nat.add_assoc]) (by rw [List.flatMap_append (xs := es ++ rs.take k), List.flatMap_cons, List.flatMap_nil, List.append_nil]; rfl) hs_35
       have hva2 : Ss G_33 v_31 (es.map Prod.fst ++ (rs.map Prod.fst).take k ++ [(rs.getD k s0).1]) := by have h := Ss.mk _ hs2 (fun p hm0 => by rcases List.mem_append.1 hm0 with h | h; rcases List.mem_append.1 h with h | h; exact het p h; exact hpt p (List.mem_of_mem_take h); rw [List.mem_singleton.1 h]; exact ht_12) (fun p hm0 => by rcases List.mem_append.1 hm0 with h | h; rcases List.mem_append.1 h with h | h; exact hes p h; exact hps p (List.mem_of_mem_take h); rw [List.mem_singleton.1 h]; exact hc_13); rw [List.map_append, hm9] at h; exact h
       obtain ⟨a_36, c_37, rfl⟩ := SlG.len hs2
       refine r_bslice (vs := [(0, Value.slice _ _ _)]) (c := #[_]) .none rfl Try.underlying110 el83 rfl rfl rfl (bs83_10s3 _ _ _) (IsRow.lit _) (fun b_3 => ?_)
       refine r_append (k := 3) (k2 := 0) .none rfl Try.underlying110 el83 rfl (by decide) rfl rfl rfl rfl rfl (one_lit rfl rfl) (by first | (simp only [maxLen]; omega) | (have h9 := congrArg List.length u_28q; rw [List.length_map] at h9; have h8 := schains_len (rs.getD k s0).1.subs (es.map Prod.fst ++ (rs.map Prod.fst).take k); rw [List.length_append]; simp only [maxLen]; omega)) (by first | omega | (have h9 := congrArg List.length u_28q; rw [List.length_map] at h9; have h8 := schains_len (rs.getD k s0).1.subs (es.map Prod.fst ++ (rs.map Prod.fst).take k); rw [List.length_append]; omega)) (fun v_38 => ?_)
       refine r_row1 (k := 3) rfl (fun o_39 => ?_)
       refine r_val .none rfl (p_assign rfl) ?_
       refine r_nil ?_
       refine e_norm_block ?_
       refine e_next ?_
       refine c_region ?_
       refine r_val .none rfl (p_add rfl rfl (by omega)) ?_
       refine r_val .none rfl (p_move rfl) ?_
       refine r_nil ?_
       refine e_round ((k + 1, _, (z ++ u_28z) ++ [(es.map Prod.fst ++ (rs.map Prod.fst).take k ++ [(rs.getD k s0).1], Value.slice a_36 ((es ++ rs.take k) ++ [rs.getD k s0]).length c_37)], _)) ⟨⟨by dsimp only; omega, by rw [schains_take (by omega), schain1_ncc hk3, List.map_append, List.map_append, hzq, ← u_28q, List.append_assoc]; rfl, StC.snoc (StC.app hzc u_28p) hva2, ((hgn.trans hn_25).trans hn_34)⟩, by dsimp only; omega⟩ rfl ⟨rfl, rfl, rfl, rfl, rfl, rfl, rfl, trivial⟩ (.drop (.drop (.drop (.keep (fun _ _ h => rowA_snoc (l := (z ++ u_28z)) (x := (es.map Prod.fst ++ (rs.map Prod.fst).take k ++ [(rs.getD k s0).1], Value.slice a_36 ((es ++ rs.take k) ++ [rs.getD k s0]).length c_37)) rfl rfl rfl rfl _ _ h) (.keep (fun _ _ h => h) (.nil))))))
       )
    ·
     have hk3 := h_23
     first
      | (exfalso; omega)
      | (
       refine c_cond_f rfl ?_
       refine c_skip ?_
       refine e_next ?_
       refine c_seq ?_
       refine c_region ?_
       refine r_val .none rfl (p_move rfl) ?_
       refine r_val .none rfl (p_ldw (k := 1) Try.underlying116 rfl sz116 rfl rfl (rfl : _ = Value.agg #[_, _, _, _, _, _])) ?_
       refine r_bslice (vs := [(0, Value.agg #[_, _, _, _, _, _])]) (c := #[_, _, _, _, _, _]) .none rfl Try.underlying83 el116 rfl rfl rfl (bs116_10a6 _ _ _ _ _ _) (IsRow.lit _) (fun b_4 => ?_)
       refine r_append (k := 1) (k2 := 0) .none rfl Try.underlying83 el116 rfl (by decide) rfl rfl rfl rfl rfl (one_lit rfl (all_cons rfl (all_cons rfl (all_cons rfl (all_cons rfl (all_cons (ht_12).one (all_cons (hc_13).one rfl))))))) (by rw [List.length_append, List.length_take]; simp only [maxLen]; omega) (by rw [List.length_append, List.length_take]; omega) (fun v_40 => ?_)
       refine r_row1 (k := 1) rfl (fun o_41 => ?_)
       refine r_val .none rfl (p_assign rfl) ?_
       refine r_nil ?_
       refine e_next ?_
       refine c_region ?_
       refine r_val .none rfl (p_move rfl) ?_
       refine r_val .none rfl (p_move rfl) ?_
       refine r_freeze (k := 1) rfl (fun G_42 hn_43 hs_44 => ?_)
       replace hr := hr.mono hn_43.le
       replace hpt := fun p hm0 => (hpt p hm0).mono hn_43.le
       replace hps := fun p hm0 => (hps p hm0).mono hn_43.le
       replace het := fun p hm0 => (het p hm0).mono hn_43.le
       replace hes := fun p hm0 => (hes p hm0).mono hn_43.le
       replace hzc := StC.mono hzc hn_43.le
       replace R_9 := R_9.mono hn_43.le
       replace ht_12 := ht_12.mono hn_43.le
       replace hc_13 := hc_13.mono hn_43.le
       replace hs_18 := hs_18.mono hn_43.le
       replace hpt9_20 := hpt9_20.mono hn_43.le
       have hs2 : SlL G_42 v_40 6 sC s0 ((es ++ rs.take k) ++ [rs.getD k s0]) := SlL.of2 s0 (fun _ => rfl) (by simp [Nat.add_assoc]) (by rw [List.flatMap_append (xs := es ++ rs.take k), List.flatMap_cons, List.flatMap_nil, List.append_nil]; rfl) hs_44
       have hva2 : Ss G_42 v_40 (es.map Prod.fst ++ (rs.map Prod.fst).take k ++ [(rs.getD k s0).1]) := by have h := Ss.mk _ hs2 (fun p hm0 => by rcases List.mem_append.1 hm0 with h | h; rcases List.mem_append.1 h with h | h; exact het p h; exact hpt p (List.mem_of_mem_take h); rw [List.mem_singleton.1 h]; exact ht_12) (fun p hm0 => by rcases List.mem_append.1 hm0 with h | h; rcases List.mem_append.1 h with h | h; exact hes p h; exact hps p (List.mem_of_mem_take h); rw [List.mem_singleton.1 h]; exact hc_13); rw [List.map_append, hm9] at h; exact h
       obtain ⟨a_45, c_46, rfl⟩ := SlG.len hs2
       refine r_bslice (vs := [(0, Value.slice _ _ _)]) (c := #[_]) .none rfl Try.underlying110 el83 rfl rfl rfl (bs83_10s3 _ _ _) (IsRow.lit _) (fun b_5 => ?_)
       refine r_append (k := 3) (k2 := 0) .none rfl Try.underlying110 el83 rfl (by decide) rfl rfl rfl rfl rfl (one_lit rfl rfl) (by first | (simp only [maxLen]; omega) | (have h9 := congrArg List.length q; rw [List.length_map] at h9; have h8 := schains_len (rs.getD k s0).1.subs (es.map Prod.fst ++ (rs.map Prod.fst).take k); rw [List.length_append]; simp only [maxLen]; omega)) (by first | omega | (have h9 := congrArg List.length q; rw [List.length_map] at h9; have h8 := schains_len (rs.getD k s0).1.subs (es.map Prod.fst ++ (rs.map Prod.fst).take k); rw [List.length_append]; omega)) (fun v_47 => ?_)
       refine r_row1 (k := 3) rfl (fun o_48 => ?_)
       refine r_val .none rfl (p_assign rfl) ?_
       refine r_nil ?_
       refine e_norm_block ?_
       refine e_next ?_
       refine c_region ?_
       refine r_val .none rfl (p_add rfl rfl (by omega)) ?_
       refine r_val .none rfl (p_move rfl) ?_
       refine r_nil ?_
       refine e_round ((k + 1, _, z ++ [(es.map Prod.fst ++ (rs.map Prod.fst).take k ++ [(rs.getD k s0).1], Value.slice a_45 ((es ++ rs.take k) ++ [rs.getD k s0]).length c_46)], _)) ⟨⟨by dsimp only; omega, by rw [schains_take (by omega), schain1_other hk3, List.map_append, hzq]; rfl, StC.snoc hzc hva2, (hgn.trans hn_43)⟩, by dsimp only; omega⟩ rfl ⟨rfl, rfl, rfl, rfl, rfl, rfl, rfl, trivial⟩ (.drop (.drop (.drop (.keep (fun _ _ h => rowA_snoc (l := z) (x := (es.map Prod.fst ++ (rs.map Prod.fst).take k ++ [(rs.getD k s0).1], Value.slice a_45 ((es ++ rs.take k) ++ [rs.getD k s0]).length c_46)) rfl rfl rfl rfl _ _ h) (.keep (fun _ _ h => h) (.nil))))))
       )
    )
 ·
  first
   | (exfalso; omega)
   | (
    refine c_cond_f rfl ?_
    refine c_exit ?_
    refine e_exit_then ?_
    refine e_exit_then ?_
    refine e_exit_block ?_
    refine e_next ?_
    refine c_seq ?_
    refine c_region ?_
    refine r_val .none rfl (p_move rfl) ?_
    refine r_val .none rfl (p_assign rfl) ?_
    refine r_nil ?_
    refine e_next ?_
    refine c_ret ?_
    refine e_freeze (k := 0) rfl (fun G_49 hn_50 hs_51 => ?_)
    replace hr := hr.mono hn_50.le
    replace hpt := fun p hm0 => (hpt p hm0).mono hn_50.le
    replace hps := fun p hm0 => (hps p hm0).mono hn_50.le
    replace het := fun p hm0 => (het p hm0).mono hn_50.le
    replace hes := fun p hm0 => (hes p hm0).mono hn_50.le
    replace hzc := StC.mono hzc hn_50.le
    refine e_ret1 Try.results44 (.tmp rfl .nil) (fun w hm => ⟨_, (hgn.trans hn_50), hm.has, ?_, hm.keptG [rowA _ 116 6 es.length (es.flatMap sC)] (.keep (fun _ _ h => h) (.nil)) _ (fun F' h => starL_one h)⟩)
    rw [show schains (es.map Prod.fst) (rs.map Prod.fst) = z.map Prod.fst by rw [hzq, List.take_of_length_le (by simp; omega)]]
    exact Ls.mk z (SlL.of (([] : List ST), Value.slice none 0 0) (fun _ => rfl) rfl hs_51) hzc
    )
theorem c_rchS_n : ∀ n, RchSIs n
 | 0 => fun va vl es l G F w hz _ _ _ _ _ _ _ => absurd hz (by cases l <;> simp)
 | n + 1 => fun va vl es l G F w hz hsz het hes hs hG hA hFG => c_rchS_s n (c_rchS_n n) va vl es l hz hsz het hes hs w hG hA hFG
theorem c_rchS (va vl : Value) (es : List SVal) (l : List ST) {G : Ghost} {F : Nat → Prop} (hsz : es.length + sszL l ≤ 5000) (het : ∀ p ∈ es, SlL G p.2.1 3 tC t0 p.1.h.ts) (hes : ∀ p ∈ es, Ss G p.2.2 p.1.subs) (hs : Ss G vl l) (w : World) (hG : Has G w) (hA : (rowA va 116 6 es.length (es.flatMap sC)).holds w F) (hFG : ∀ b, F b → G b = none) : Calls Try.prog 44 #[va, vl] w (Ret fun r w' => ∃ G', GNew w F G G' ∧ Has G' w' ∧ Ls (fun G v l => Ss G v l) ([] : List ST) G' r (schains (es.map Prod.fst) l) ∧ KeptG (rowA va 116 6 es.length (es.flatMap sC)) F G' w w') := c_rchS_n _ va vl es l G F w (Nat.le_refl _) hsz het hes hs hG hA hFG
end Go.Proofs.Ytpadfgomhojjnaa

/- Walks: what Go functions of this chapter come to, each as a function on plain data; no condition but those that each theorem names. Printed by a program of this work (gen.py). -/
namespace Go.Proofs.Ytpadfgomhojjnaa
open Go.Gx Go.Gx.T13 Go.Gx.T8 Go.Gx.T4 Go.Gx.T3 Go.Gx.T14 Go.Gx.T13 Go.Gx.T8 Go.Gx.T6 Go.Gx.T4 Go.Gx.T3 Go.Gx.T3 Go.Gx.T4 Go.Gx.T3 Go.Gx.T5 Go.Gx.T1 Go.Gx.T8 Go.Gx.T6 Go.Gx.T4 Go.Gx.T3 Go.Gx.T6 Go.Gx.T8 Go.Gx.T4 Go.Gx.T3 Go.Gx.T8 Go.Gx.T4 Go.Gx.T3 Go.Gx.T8 Go.Gx.T6 Go.Gx.T4 Go.Gx.T3
theorem cl46 : Callable Try.prog 46 := callable Try.func46 (by kernel_rfl) rfl
theorem cl47 : Callable Try.prog 47 := callable Try.func47 (by kernel_rfl) rfl
theorem cl48 : Callable Try.prog 48 := callable Try.func48 (by kernel_rfl) rfl
theorem c_PlainSteps (nm : ByteArray) (cv : Value) (l : List CT) (vt : Value) (t : List Tri) {G : Ghost} (hs : Cs G cv l) (ht : SlL G vt 3 triL z3 t) (w : World) (hG : Has G w) :
  Calls Try.prog 10 #[Value.agg #[Value.string nm, cv], vt] w (Ret fun r w' => r = Value.bool true ∧ Since nX w w') := by
 refine enter (args := [_, _]) (X := nX) (G := G) (l := [(0, Value.agg #[Value.string nm, cv]), (1, vt)]) Try.func10 rfl Try.ntmps10 hG ⟨rfl, rfl, trivial⟩ (Nat.le_of_ble_eq_true rfl) ?_
 refine c_seq ?_
 refine c_region ?_
 refine r_box .none rfl rfl (IsRow.lit _) (fun b_1 => ?_)
 refine r_val .none rfl (p_assign rfl) ?_
 refine r_nil ?_
 refine e_next ?_
 refine c_seq ?_
 refine c_seq ?_
 refine c_region ?_
 refine r_val .none rfl (p_ldw (k := 0) Try.underlying69 rfl sz69 rfl rfl (rfl : _ = Value.agg #[_, _])) ?_
 refine r_val .none rfl (p_move rfl) ?_
 refine r_val .none rfl (p_leng Try.underlying70 rfl ht) ?_
 have bd_1 := (ht).bound
 refine r_call (vs := [_, _]) .none rfl cl30 rfl (fun w hw => c_fine14 nm _ l t.length hs w hw) ?_
 refine r_val .none rfl (p_not rfl) ?_
 refine r_nil ?_
 refine e_next ?_
 refine c_splitn (d := 18) rfl (fun h_2 => ?_) (fun h_2 => ?_)
 ·
  first
   | (exfalso; first | omega | assumption)
   | (
    refine c_cond_t rfl ?_
    refine c_seq ?_
    refine c_region ?_
    refine r_call (vs := []) .none rfl cl31 rfl (fun w hw => c_awake14 w) ?_
    refine r_val .none rfl (p_assign rfl) ?_
    refine r_nil ?_
    refine e_next ?_
    refine c_ret ?_
    refine e_ret_then ?_
    refine e_ret1 Try.results10 (.tmp rfl .nil) (fun w hm => ⟨?_, hm.since⟩)
    rfl
    )
 ·
  have hfy := fine14_yes (h_2)
  have hsz : sizeL l ≤ 1000 := by omega
  have hcost := hfy.2.2.1
  have hss : sszL (stepsOf [] l) ≤ 1000 := Nat.le_trans (sszL_of l []) (by omega)
  have hoks : okSL (stepsOf [] l) := okSL_of l [] (by simp; omega)
  have hss2 : sszL (stepsOf [] l) ≤ 200 := Nat.le_trans (sszL_of l []) (by omega)
  have hkdl : kdL (stepsOf [] l) := kdL_steps l [] 1 (T5.chk_zero hfy.2.2.2).2.2.1
  first
   | (exfalso; first | omega | assumption)
   | (
    refine c_cond_f rfl ?_
    refine c_skip ?_
    refine e_next ?_
    refine c_seq ?_
    refine c_region ?_
    refine r_val .none rfl (p_move rfl) ?_
    refine r_callm (vs := [_, _]) .none rfl cl32 rfl (fun w hw => c_facts _ t 1 (by omega) (by decide) ht w hw) (fun G_3 v_6 hn_4 hr_5 => ?_)
    replace ht := ht.mono hn_4.le
    replace hs := hs.mono hn_4.le
    obtain ⟨fv, rfl, hF⟩ := hr_5
    refine r_val .none rfl (p_move rfl) ?_
    refine r_val .none rfl (p_extract rfl rfl) ?_
    refine r_val .none rfl (p_extract rfl rfl) ?_
    refine r_val .none rfl (p_assign rfl) ?_
    refine r_val .none rfl (p_assign rfl) ?_
    refine r_nil ?_
    refine e_next ?_
    refine c_seq ?_
    refine c_seq ?_
    refine c_region ?_
    refine r_val .none rfl (p_move rfl) ?_
    refine r_val .none rfl (p_not rfl) ?_
    refine r_nil ?_
    refine e_next ?_
    refine c_splitn (d := 26) rfl (fun h_8 => ?_) (fun h_8 => ?_)
    ·
     first
      | (exfalso; first | omega | assumption)
      | (
       refine c_cond_t rfl ?_
       refine c_seq ?_
       refine c_region ?_
       refine r_call (vs := []) .none rfl cl31 rfl (fun w hw => c_awake14 w) ?_
       refine r_val .none rfl (p_assign rfl) ?_
       refine r_nil ?_
       refine e_next ?_
       refine c_ret ?_
       refine e_ret_then ?_
       refine e_ret1 Try.results10 (.tmp rfl .nil) (fun w hm => ⟨?_, hm.since⟩)
       rfl
       )
    ·
     have hall : allOk t = true := h_8
     rw [fcts_yes hall] at hF
     have hfl := fTo_len t 1 t.length
     first
      | (exfalso; first | omega | assumption)
      | (
       refine c_cond_f rfl ?_
       refine c_skip ?_
       refine e_next ?_
       refine c_seq ?_
       refine c_region ?_
       refine r_val .none rfl (p_move rfl) ?_
       refine r_callm (vs := [_]) .none rfl cl39 rfl (fun w hw => c_ref12 _ (fTo t 1 t.length) (by rw [fTo_len]; omega) hF w hw) (fun G_9 v_12 hn_10 hr_11 => ?_)
       replace ht := ht.mono hn_10.le
       replace hs := hs.mono hn_10.le
       replace hF := hF.mono hn_10.le
       have hFr := hr_11
       refine r_val .none rfl (p_assign rfl) ?_
       refine r_nil ?_
       refine e_next ?_
       refine c_seq ?_
       refine c_seq ?_
       refine c_region ?_
       refine r_val .none rfl (p_ldw (k := 0) Try.underlying69 rfl sz69 rfl rfl (rfl : _ = Value.agg #[_, _])) ?_
       refine r_callm (vs := [_]) .none rfl cl33 rfl (fun w hw => c_ref5 nm _ l hsz hs w hw) (fun G_14 v_17 hn_15 hr_16 => ?_)
       replace ht := ht.mono hn_15.le
       replace hs := hs.mono hn_15.le
       replace hF := hF.mono hn_15.le
       replace hFr := hFr.mono hn_15.le
       obtain ⟨u_18, rfl, u_18s⟩ := hr_16
       obtain ⟨u_18a, u_18c, rfl⟩ := Tr.len u_18s
       refine r_val .none rfl (p_field1 Try.underlying77 rfl Try.underlying75 rfl sz75 rfl (IsRow.lit _) rfl (by first | exact of_decide_eq_true rfl | omega) (rfl : _ = Value.slice _ _ _)) ?_
       refine r_callm (vs := [_]) .none rfl cl36 rfl (fun w hw => c_compile _ l hsz u_18s w hw) (fun G_19 v_22 hn_20 hr_21 => ?_)
       replace ht := ht.mono hn_20.le
       replace hs := hs.mono hn_20.le
       replace hF := hF.mono hn_20.le
       replace hFr := hFr.mono hn_20.le
       replace u_18s := u_18s.mono hn_20.le
       have hSS := hr_21
       refine r_nilrow 116 6 ?_
       refine r_callom (k := 0) (vs := [_, _]) .none rfl cl44 rfl rfl (fun w F hw hA hFG => c_rchS _ _ [] (stepsOf [] l) (by simp; omega) (by simp) (by simp) hSS w hw hA hFG) (fun G_24 v_27 hn_25 hr_26 => ?_)
       replace ht := ht.mono hn_25.le
       replace hs := hs.mono hn_25.le
       replace hF := hF.mono hn_25.le
       replace hFr := hFr.mono hn_25.le
       replace u_18s := u_18s.mono hn_25.le
       replace hSS := hSS.mono hn_25.le
       obtain ⟨qc, hqc, hpc, hlc⟩ := hr_26
       have hqcl : qc.length ≤ 200 := by have q := schains_len (stepsOf [] l) []; have q2 := congrArg List.length hlc; rw [List.length_map] at q2; simp only [List.map_nil] at q2; omega
       refine r_val .none rfl (p_leng Try.underlying110 rfl hqc) ?_
       have bd_29 := (hqc).bound
       refine r_val .none rfl (p_move rfl) ?_
       refine r_nil ?_
       refine e_next ?_
       refine c_block ?_
       refine c_name (d := 5) rfl (fun u_30 hu_30 => ?_)
       refine c_name (d := 7) rfl (fun u_31 hu_31 => ?_)
       refine c_name (d := 34) rfl (fun u_32 hu_32 => ?_)
       refine c_name (d := 35) rfl (fun u_33 hu_33 => ?_)
       refine c_nameL (k := 0) rfl (fun A_34 hA_34 => ?_)
       refine c_nameL (k := 1) rfl (fun A_35 hA_35 => ?_)
       refine c_loop (σ := Nat × Ghost) (fun s => [(36, Value.int .i64 (s.1 : Nat)), (5, u_30), (7, u_31), (34, u_32), (35, u_33)]) (fun s => [A_34, A_35]) (fun s => s.2) (fun s => s.1 ≤ qc.length ∧ GNew w nX G_24 s.2) (fun s => qc.length - s.1) ((0, _)) ⟨Nat.zero_le _, GNew.refl _ _ _⟩ rfl ⟨rfl, rfl, rfl, rfl, rfl, trivial⟩ (.keep (fun _ _ h => h) (.keep (fun _ _ h => h) (.nil))) (fun s hphi => ?_)
       subst hu_30
       subst hu_31
       subst hu_32
       subst hu_33
       subst hA_34
       subst hA_35
       obtain ⟨j, H⟩ := s
       obtain ⟨hj, hgn⟩ := hphi
       dsimp only at hj hgn ⊢
       replace ht := ht.mono hgn.le
       replace hs := hs.mono hgn.le
       replace hF := hF.mono hgn.le
       replace hFr := hFr.mono hgn.le
       replace u_18s := u_18s.mono hgn.le
       replace hSS := hSS.mono hgn.le
       replace hqc := hqc.mono hgn.le
       replace hpc := fun p hm0 => (hpc p hm0).mono hgn.le
       refine c_seq ?_
       refine c_region ?_
       refine r_val .none rfl (p_lt rfl rfl) ?_
       refine r_nil ?_
       refine e_next ?_
       refine c_seq ?_
       refine c_splitd (d := 37) rfl (fun h_36 => ?_) (fun h_36 => ?_)
       ·
        first
         | (exfalso; first | omega | assumption)
         | (
          refine c_cond_t rfl ?_
          refine c_skip ?_
          refine e_next ?_
          refine c_seq ?_
          refine c_block ?_
          refine c_seq ?_
          refine c_region ?_
          refine r_iaddr_g .none rfl Try.underlying110 sz83 rfl hqc rfl (by first | exact of_decide_eq_true rfl | omega) (fun p_38 o_39 R_37 => ?_)
          have hc_40 := hpc _ (getD_mem (i := j) (d := ([], Value.slice none 0 0)) (by omega))
          refine r_val .none rfl (p_ldg0 Try.underlying83 rfl rfl R_37 (by first | exact of_decide_eq_true rfl | omega) rfl) ?_
          obtain ⟨a_41, c_42, e_43⟩ := Ss.len hc_40
          refine r_say (d := 39) (v := Value.slice a_41 (qc.getD j ([], Value.slice none 0 0)).1.length c_42) (congrArg some e_43) ?_
          rw [e_43] at hc_40
          have hca := ch_all (fs := (fTo t 1 t.length)) hoks hkdl (cost_sp hcost (fTo_len _ _ _)) hlc (j := j) (by omega)
          have hXs := hc_40
          obtain ⟨qC, hC, hCt, hCs, hCl⟩ := (hc_40).inv
          have hqC : (qc.getD j ([], Value.slice none 0 0)).1.length = qC.length := (congrArg List.length hCl).trans (List.length_map _)
          have hXl := sszL_len (qc.getD j ([], Value.slice none 0 0)).1
          refine r_val .none rfl (p_assign rfl) ?_
          refine r_nil ?_
          refine e_next ?_
          refine c_seq ?_
          refine c_region ?_
          refine r_val .none rfl (p_move rfl) ?_
          refine r_callm (vs := [_]) .none rfl cl35 rfl (fun w hw => c_steps _ (qc.getD j ([], Value.slice none 0 0)).1 (by omega) hXs w hw) (fun G_44 v_47 hn_45 hr_46 => ?_)
          replace ht := ht.mono hn_45.le
          replace hs := hs.mono hn_45.le
          replace hF := hF.mono hn_45.le
          replace hFr := hFr.mono hn_45.le
          replace u_18s := u_18s.mono hn_45.le
          replace hSS := hSS.mono hn_45.le
          replace hqc := hqc.mono hn_45.le
          replace hpc := fun p hm0 => (hpc p hm0).mono hn_45.le
          replace R_37 := R_37.mono hn_45.le
          replace hc_40 := hc_40.mono hn_45.le
          replace hXs := hXs.mono hn_45.le
          replace hC := hC.mono hn_45.le
          replace hCt := fun p hm0 => (hCt p hm0).mono hn_45.le
          replace hCs := fun p hm0 => (hCs p hm0).mono hn_45.le
          obtain ⟨qA, hA9, hAt, hAs, hAl⟩ := (hr_46).inv
          have hAA := hr_46
          have hqA : (qc.getD j ([], Value.slice none 0 0)).1.length = qA.length := (congrArg List.length hAl).trans (List.length_map _)
          refine r_val .none rfl (p_assign rfl) ?_
          refine r_nil ?_
          refine e_next ?_
          refine c_seq ?_
          refine c_region ?_
          refine r_val .none rfl (p_move rfl) ?_
          refine r_val .none rfl (p_move rfl) ?_
          refine r_callm (vs := [_, _, _]) .none rfl cl45 rfl (fun w hw => c_rsteps_n _ _ _ _ (fTo t 1 t.length) (qc.getD j ([], Value.slice none 0 0)).1 [] _ w (Nat.le_refl _) (by rw [fTo_len]; omega) (by rw [List.length_nil]; omega) hca.1 hca.2.1 hca.2.2.1 hFr hXs (SlG.nil _ _ _) hw) (fun G_49 v_52 hn_50 hr_51 => ?_)
          replace ht := ht.mono hn_50.le
          replace hs := hs.mono hn_50.le
          replace hF := hF.mono hn_50.le
          replace hFr := hFr.mono hn_50.le
          replace u_18s := u_18s.mono hn_50.le
          replace hSS := hSS.mono hn_50.le
          replace hqc := hqc.mono hn_50.le
          replace hpc := fun p hm0 => (hpc p hm0).mono hn_50.le
          replace R_37 := R_37.mono hn_50.le
          replace hc_40 := hc_40.mono hn_50.le
          replace hXs := hXs.mono hn_50.le
          replace hC := hC.mono hn_50.le
          replace hCt := fun p hm0 => (hCt p hm0).mono hn_50.le
          replace hCs := fun p hm0 => (hCs p hm0).mono hn_50.le
          replace hA9 := hA9.mono hn_50.le
          replace hAt := fun p hm0 => (hAt p hm0).mono hn_50.le
          replace hAs := fun p hm0 => (hAs p hm0).mono hn_50.le
          replace hAA := hAA.mono hn_50.le
          have hLW := hr_51
          obtain ⟨ws, hws, hwp, hwl⟩ := hr_51
          refine r_val .none rfl (p_assign rfl) ?_
          refine r_nil ?_
          refine e_next ?_
          refine c_seq ?_
          refine c_seq ?_
          refine c_region ?_
          refine r_val .none rfl (p_move rfl) ?_
          refine r_val .none rfl (p_move rfl) ?_
          refine r_callm (vs := [_, _]) .none rfl cl34 rfl (fun w hw => c_partial _ _ (fTo t 1 t.length) (qc.getD j ([], Value.slice none 0 0)).1 ⟨by rw [fTo_len]; omega, by omega⟩ hca.1 (Nat.le_trans (gm_spow hca.2.2.1) (by decide)) hF hAA w hw) (fun G_54 v_57 hn_55 hr_56 => ?_)
          replace ht := ht.mono hn_55.le
          replace hs := hs.mono hn_55.le
          replace hF := hF.mono hn_55.le
          replace hFr := hFr.mono hn_55.le
          replace u_18s := u_18s.mono hn_55.le
          replace hSS := hSS.mono hn_55.le
          replace hqc := hqc.mono hn_55.le
          replace hpc := fun p hm0 => (hpc p hm0).mono hn_55.le
          replace R_37 := R_37.mono hn_55.le
          replace hc_40 := hc_40.mono hn_55.le
          replace hXs := hXs.mono hn_55.le
          replace hC := hC.mono hn_55.le
          replace hCt := fun p hm0 => (hCt p hm0).mono hn_55.le
          replace hCs := fun p hm0 => (hCs p hm0).mono hn_55.le
          replace hA9 := hA9.mono hn_55.le
          replace hAt := fun p hm0 => (hAt p hm0).mono hn_55.le
          replace hAs := fun p hm0 => (hAs p hm0).mono hn_55.le
          replace hAA := hAA.mono hn_55.le
          replace hLW := LI.mono hLW hn_55.le
          replace hws := hws.mono hn_55.le
          have hLP := hr_56
          refine r_val .none rfl (p_move rfl) ?_
          refine r_call (vs := [_, _]) .none rfl cl37 rfl (fun w hw => c_same14_t _ _ _ _ rfl hLP hLW w hw) ?_
          refine r_val .none rfl (p_not rfl) ?_
          refine r_say (d := 50) (v := Value.bool false) rfl ?_
          refine r_nil ?_
          refine e_next ?_
          refine c_cond_f rfl ?_
          refine c_skip ?_
          refine e_next ?_
          refine c_seq ?_
          refine c_region ?_
          refine r_val .none rfl (p_move rfl) ?_
          refine r_val .none rfl (p_move rfl) ?_
          refine r_callm (vs := [_, _]) .none rfl cl46 rfl (fun w hw => c_joins _ _ (fTo t 1 t.length) (qc.getD j ([], Value.slice none 0 0)).1 (by rw [fTo_len]; omega) (by omega) hca.1 hca.2.2.1 hF hAA w hw) (fun G_59 v_62 hn_60 hr_61 => ?_)
          replace ht := ht.mono hn_60.le
          replace hs := hs.mono hn_60.le
          replace hF := hF.mono hn_60.le
          replace hFr := hFr.mono hn_60.le
          replace u_18s := u_18s.mono hn_60.le
          replace hSS := hSS.mono hn_60.le
          replace hqc := hqc.mono hn_60.le
          replace hpc := fun p hm0 => (hpc p hm0).mono hn_60.le
          replace R_37 := R_37.mono hn_60.le
          replace hc_40 := hc_40.mono hn_60.le
          replace hXs := hXs.mono hn_60.le
          replace hC := hC.mono hn_60.le
          replace hCt := fun p hm0 => (hCt p hm0).mono hn_60.le
          replace hCs := fun p hm0 => (hCs p hm0).mono hn_60.le
          replace hA9 := hA9.mono hn_60.le
          replace hAt := fun p hm0 => (hAt p hm0).mono hn_60.le
          replace hAs := fun p hm0 => (hAs p hm0).mono hn_60.le
          replace hAA := hAA.mono hn_60.le
          replace hLW := LI.mono hLW hn_60.le
          replace hws := hws.mono hn_60.le
          replace hLP := LI.mono hLP hn_60.le
          have hJ := hr_61
          have hJl := jnTo_len (fTo t 1 t.length) (qc.getD j ([], Value.slice none 0 0)).1 (qc.getD j ([], Value.slice none 0 0)).1.length
          have hJ9 : (jnTo (fTo t 1 t.length) (qc.getD j ([], Value.slice none 0 0)).1 (qc.getD j ([], Value.slice none 0 0)).1.length).getD ((qc.getD j ([], Value.slice none 0 0)).1.length - 1) 0 = (ws.length : Int) := by rw [jnTo_last hca.2.2.2.1]; have q := congrArg List.length hwl; rw [List.length_map, List.length_map] at q; exact congrArg (fun n : Nat => (n : Int)) q
          refine r_val .none rfl (p_assign rfl) ?_
          refine r_nil ?_
          refine e_next ?_
          refine c_seq ?_
          refine c_seq ?_
          refine c_region ?_
          refine r_val .none rfl (p_move rfl) ?_
          have hX1 := hca.2.2.2.1
          refine r_val .none rfl (p_leng Try.underlying22 rfl hJ) ?_
          have bd_64 := (hJ).bound
          refine r_val .none rfl (p_move rfl) ?_
          refine r_val .none rfl (p_leng Try.underlying81 rfl hA9) ?_
          have bd_65 := (hA9).bound
          refine r_val .none rfl (p_ne rfl rfl) ?_
          refine r_val .none rfl (p_move rfl) ?_
          refine r_splitd (d := 59) rfl (fun h_66 => ?_) (fun h_66 => ?_)
          ·
           first
            | (exfalso; first | omega | assumption)
            | (
             refine r_skip rfl (.no rfl rfl) ?_
             refine r_skip rfl (.no rfl rfl) ?_
             refine r_skip rfl (.no rfl rfl) ?_
             refine r_skip rfl (.no rfl rfl) ?_
             refine r_skip rfl (.no rfl rfl) ?_
             refine r_skip rfl (.no rfl rfl) ?_
             refine r_skip rfl (.no rfl rfl) ?_
             refine r_skip rfl (.no rfl rfl) ?_
             refine r_skip rfl (.no rfl rfl) ?_
             refine r_val .none rfl (p_pick_t rfl rfl) ?_
             refine r_nil ?_
             refine e_next ?_
             refine c_cond_t rfl ?_
             refine c_seq ?_
             refine c_region ?_
             refine r_val .none rfl (p_assign rfl) ?_
             refine r_nil ?_
             refine e_next ?_
             refine c_ret ?_
             refine e_ret_then ?_
             refine e_ret_block ?_
             refine e_ret_then ?_
             refine e_ret_then ?_
             refine e_ret_block ?_
             refine e_ret_then ?_
             refine e_ret1 Try.results10 (.tmp rfl .nil) (fun w hm => ⟨?_, hm.since⟩)
             rfl
             )
          ·
           first
            | (exfalso; first | omega | assumption)
            | (
             refine r_val (.some rfl rfl) rfl (p_move rfl) ?_
             refine r_val (.some rfl rfl) rfl (p_move rfl) ?_
             refine r_val (.some rfl rfl) rfl (p_leng Try.underlying22 rfl hJ) ?_
             have bd_67 := (hJ).bound
             refine r_val (.some rfl rfl) rfl (p_sub rfl rfl (by omega)) ?_
             refine r_say (d := 63) (v := Value.int .i64 (((qc.getD j ([], Value.slice none 0 0)).1.length - 1 : Nat) : Int)) (congrArg (fun x => some (Value.int .i64 x)) (by have := hca.2.2.2.1; omega)) ?_
             refine r_iaddr_g (.some rfl rfl) rfl Try.underlying22 sz3 rfl hJ rfl (by first | exact of_decide_eq_true rfl | omega) (fun p_69 o_70 R_68 => ?_)
             refine r_val (.some rfl rfl) rfl (p_ldg0 Try.underlying3 rfl rfl R_68 (by first | exact of_decide_eq_true rfl | omega) (rfl : _ = Value.int _ _)) ?_
             refine r_val (.some rfl rfl) rfl (p_move rfl) ?_
             refine r_val (.some rfl rfl) rfl (p_leng Try.underlying79 rfl hws) ?_
             have bd_71 := (hws).bound
             refine r_val (.some rfl rfl) rfl (p_ne rfl rfl) ?_
             refine r_val .none rfl (p_pick_f rfl rfl) ?_
             refine r_nil ?_
             refine e_next ?_
             refine c_splitd (d := 69) rfl (fun h_72 => ?_) (fun h_72 => ?_)
             ·
              first
               | (exfalso; first | omega | assumption)
               | (
                refine c_cond_t rfl ?_
                refine c_seq ?_
                refine c_region ?_
                refine r_val .none rfl (p_assign rfl) ?_
                refine r_nil ?_
                refine e_next ?_
                refine c_ret ?_
                refine e_ret_then ?_
                refine e_ret_block ?_
                refine e_ret_then ?_
                refine e_ret_then ?_
                refine e_ret_block ?_
                refine e_ret_then ?_
                refine e_ret1 Try.results10 (.tmp rfl .nil) (fun w hm => ⟨?_, hm.since⟩)
                rfl
                )
             ·
              first
               | (exfalso; first | omega | assumption)
               | (
                refine c_cond_f rfl ?_
                refine c_skip ?_
                refine e_next ?_
                refine c_seq ?_
                refine c_region ?_
                refine r_val .none rfl (p_move rfl) ?_
                refine r_val .none rfl (p_leng Try.underlying83 rfl hC) ?_
                have bd_73 := (hC).bound
                refine r_val .none rfl (p_sub rfl rfl (by omega)) ?_
                obtain ⟨n, hn⟩ : ∃ n : Nat, n + 1 = (qc.getD j ([], Value.slice none 0 0)).1.length := ⟨(qc.getD j ([], Value.slice none 0 0)).1.length - 1, by have := hca.2.2.2.1; omega⟩
                refine r_say (d := 72) (v := Value.int .i64 ((n : Nat) : Int)) (congrArg (fun x => some (Value.int .i64 x)) (by omega)) ?_
                refine r_val .none rfl (p_assign rfl) ?_
                refine r_nil ?_
                refine e_next ?_
                refine c_seq ?_
                refine c_region_q mixed (by kernel_rfl) ?_
                refine q_val .none rfl (p_move rfl) ?_
                refine q_val .none rfl (p_move rfl) ?_
                refine q_iaddr_g .none rfl Try.underlying83 sz116 rfl hC rfl (by first | exact of_decide_eq_true rfl | omega) (fun p_75 o_76 R_74 => ?_)
                have ht_77 := hCt _ (getD_mem (i := n) (d := s0) (by omega))
                have hc_78 := hCs _ (getD_mem (i := n) (d := s0) (by omega))
                refine q_val .none rfl (p_field Try.underlying116 rfl sz3 rfl) ?_
                refine q_val .none rfl (p_ldg (j := 0) Try.underlying3 rfl rfl R_74 (by first | exact of_decide_eq_true rfl | omega) (rfl : _ = Value.int _ _)) ?_
                refine q_val .none rfl (p_eq rfl rfl) ?_
                refine q_val .none rfl (p_move rfl) ?_
                refine q_splitd (d := 79) rfl (fun h_79 => ?_) (fun h_79 => ?_)
                ·
                 first
                  | (exfalso; first | omega | assumption)
                  | (
                   refine q_val (.some rfl rfl) rfl (p_move rfl) ?_
                   refine q_val (.some rfl rfl) rfl (p_move rfl) ?_
                   refine q_val (.some rfl rfl) rfl (p_move rfl) ?_
                   refine q_slice0 (n) (.some rfl rfl) rfl Try.underlying81 sz109 rfl hA9 rfl (by first | exact of_decide_eq_true rfl | omega) (fun v_80 hs_81 => ?_)
                   have hTA := T14.ss_take (by omega) hs_81 hAt hAs
                   rw [← hAl] at hTA
                   refine q_val (.some rfl rfl) rfl (p_move rfl) ?_
                   refine q_val (.some rfl rfl) rfl (p_move rfl) ?_
                   refine q_iaddr_g (.some rfl rfl) rfl Try.underlying81 sz109 rfl hA9 rfl (by first | exact of_decide_eq_true rfl | omega) (fun p_84 o_85 R_83 => ?_)
                   have ht_86 := hAt _ (getD_mem (i := n) (d := s0) (by omega))
                   have hc_87 := hAs _ (getD_mem (i := n) (d := s0) (by omega))
                   refine q_val (.some rfl rfl) rfl (p_ldga0 Try.underlying109 rfl sz109 rfl R_83 (by first | exact of_decide_eq_true rfl | omega) (rfl : _ = Value.agg #[_, _, _, _, _, _])) ?_
                   refine q_call (vs := [_, _, _]) (.some rfl rfl) rfl cl47 rfl (fun w hw => c_blockers _ _ (fTo t 1 t.length) ((qc.getD j ([], Value.slice none 0 0)).1.take n) (qA.getD n s0).1.h.k (sKey (qA.getD n s0).1.h) (qA.getD n s0).1.h.ts _ _ (by rw [fTo_len]; omega) (by have := T8.sszL_take_le (qc.getD j ([], Value.slice none 0 0)).1 n; omega) (okSL_take _ hca.1) (ok_at hca.1 hAl (by omega)) (sp_tk hca.2.2.1) hF hTA ht_86 w hw) ?_
                   refine q_val (.some rfl rfl) rfl (p_move rfl) ?_
                   refine q_val (.some rfl rfl) rfl (p_move rfl) ?_
                   refine q_val (.some rfl rfl) rfl (p_move rfl) ?_
                   refine q_slice0 (n) (.some rfl rfl) rfl Try.underlying83 sz116 rfl hC rfl (by first | exact of_decide_eq_true rfl | omega) (fun v_88 hs_89 => ?_)
                   have hTC := T14.ss_take (by omega) hs_89 hCt hCs
                   rw [← hCl] at hTC
                   refine q_val (.some rfl rfl) rfl (p_move rfl) ?_
                   refine q_val (.some rfl rfl) rfl (p_move rfl) ?_
                   refine q_iaddr_g (.some rfl rfl) rfl Try.underlying83 sz116 rfl hC rfl (by first | exact of_decide_eq_true rfl | omega) (fun p_92 o_93 R_91 => ?_)
                   have ht_94 := hCt _ (getD_mem (i := n) (d := s0) (by omega))
                   have hc_95 := hCs _ (getD_mem (i := n) (d := s0) (by omega))
                   refine q_val (.some rfl rfl) rfl (p_ldga0 Try.underlying116 rfl sz116 rfl R_91 (by first | exact of_decide_eq_true rfl | omega) (rfl : _ = Value.agg #[_, _, _, _, _, _])) ?_
                   refine q_call (vs := [_, _, _]) (.some rfl rfl) rfl cl48 rfl (fun w hw => c_rblockers _ _ (fTo t 1 t.length) ((qc.getD j ([], Value.slice none 0 0)).1.take n) (qC.getD n s0).1.h.k (sKey (qC.getD n s0).1.h) (qC.getD n s0).1.h.ts _ _ (by rw [fTo_len]; omega) (by have := T8.sszL_take_le (qc.getD j ([], Value.slice none 0 0)).1 n; omega) (okSL_take _ hca.1) (kdL_take _ hca.2.1) (ok_at hca.1 hCl (by omega)) (sp_tk hca.2.2.1) hFr hTC ht_94 w hw) ?_
                   have hBE : rsum (fTo t 1 t.length) (qC.getD n s0).1.h.k (sKey (qC.getD n s0).1.h) (qC.getD n s0).1.h.ts ((gm (fTo t 1 t.length) ((qc.getD j ([], Value.slice none 0 0)).1.take n) ([], [])).map Prod.fst) = bsum (fTo t 1 t.length) (qA.getD n s0).1.h.k (sKey (qA.getD n s0).1.h) (qA.getD n s0).1.h.ts (gm (fTo t 1 t.length) ((qc.getD j ([], Value.slice none 0 0)).1.take n) ([], [])) := by rw [last_eq hAl hCl (by omega)]; exact rsum_bsum
                   refine q_val (.some rfl rfl) rfl (p_ne rfl rfl) ?_
                   refine q_val .none rfl (p_pick_t rfl rfl) ?_
                   refine q_nil ?_
                   refine e_next ?_
                   refine c_splitd (d := 99) rfl (fun h_96 => ?_) (fun h_96 => ?_)
                   ·
                    first
                     | (exfalso; first | omega | assumption)
                     | (
                      refine c_cond_t rfl ?_
                      refine c_seq ?_
                      refine c_region ?_
                      refine r_val .none rfl (p_assign rfl) ?_
                      refine r_nil ?_
                      refine e_next ?_
                      refine c_ret ?_
                      refine e_ret_block ?_
                      refine e_ret_then ?_
                      refine e_ret_then ?_
                      refine e_ret_block ?_
                      refine e_ret_then ?_
                      refine e_ret1 Try.results10 (.tmp rfl .nil) (fun w hm => ⟨?_, hm.since⟩)
                      rfl
                      )
                   ·
                    first
                     | (exfalso; first | omega | assumption)
                     | (
                      refine c_cond_f rfl ?_
                      refine c_skip ?_
                      refine e_norm_block ?_
                      refine e_next ?_
                      refine c_region ?_
                      refine r_val .none rfl (p_add rfl rfl (by omega)) ?_
                      refine r_val .none rfl (p_move rfl) ?_
                      refine r_nil ?_
                      refine e_round ((j + 1, _)) ⟨⟨by dsimp only; omega, ((((hgn.trans hn_45).trans hn_50).trans hn_55).trans hn_60)⟩, by dsimp only; omega⟩ rfl ⟨rfl, rfl, rfl, rfl, rfl, trivial⟩ (.keep (fun _ _ h => h) (.keep (fun _ _ h => h) (.nil)))
                      )
                   )
                ·
                 first
                  | (exfalso; first | omega | assumption)
                  | (
                   refine q_skip rfl (.no rfl rfl) ?_
                   refine q_skip rfl (.no rfl rfl) ?_
                   refine q_skip rfl (.no rfl rfl) ?_
                   refine q_skip rfl (.no rfl rfl) ?_
                   refine q_skip rfl (.no rfl rfl) ?_
                   refine q_skip rfl (.no rfl rfl) ?_
                   refine q_skip rfl (.no rfl rfl) ?_
                   refine q_skip rfl (.no rfl rfl) ?_
                   refine q_skip rfl (.no rfl rfl) ?_
                   refine q_skip rfl (.no rfl rfl) ?_
                   refine q_skip rfl (.no rfl rfl) ?_
                   refine q_skip rfl (.no rfl rfl) ?_
                   refine q_skip rfl (.no rfl rfl) ?_
                   refine q_skip rfl (.no rfl rfl) ?_
                   refine q_skip rfl (.no rfl rfl) ?_
                   refine q_skip rfl (.no rfl rfl) ?_
                   refine q_skip rfl (.no rfl rfl) ?_
                   refine q_skip rfl (.no rfl rfl) ?_
                   refine q_skip rfl (.no rfl rfl) ?_
                   refine q_val .none rfl (p_pick_f rfl rfl) ?_
                   refine q_nil ?_
                   refine e_next ?_
                   refine c_cond_f rfl ?_
                   refine c_skip ?_
                   refine e_norm_block ?_
                   refine e_next ?_
                   refine c_region ?_
                   refine r_val .none rfl (p_add rfl rfl (by omega)) ?_
                   refine r_val .none rfl (p_move rfl) ?_
                   refine r_nil ?_
                   refine e_round ((j + 1, _)) ⟨⟨by dsimp only; omega, ((((hgn.trans hn_45).trans hn_50).trans hn_55).trans hn_60)⟩, by dsimp only; omega⟩ rfl ⟨rfl, rfl, rfl, rfl, rfl, trivial⟩ (.keep (fun _ _ h => h) (.keep (fun _ _ h => h) (.nil)))
                   )
                )
             )
          )
       ·
        first
         | (exfalso; first | omega | assumption)
         | (
          refine c_cond_f rfl ?_
          refine c_exit ?_
          refine e_exit_then ?_
          refine e_exit_then ?_
          refine e_exit_block ?_
          refine e_next ?_
          refine c_seq ?_
          refine c_region ?_
          refine r_call (vs := []) .none rfl cl31 rfl (fun w hw => c_awake14 w) ?_
          refine r_val .none rfl (p_assign rfl) ?_
          refine r_nil ?_
          refine e_next ?_
          refine c_ret ?_
          refine e_ret1 Try.results10 (.tmp rfl .nil) (fun w hm => ⟨?_, hm.since⟩)
          rfl
          )
       )
    )
end Go.Proofs.Ytpadfgomhojjnaa

/- Walks: what Go functions of this chapter come to, each as a function on plain data; no condition but those that each theorem names. Printed by a program of this work (gen.py). -/
namespace Go.Proofs.Ytpadfgomhojjnaa
open Go.Gx Go.Gx.T3 Go.Gx.T4 Go.Gx.T3 Go.ChangeShapes Go.WideShapes Go.ChangeAt Go.RowKit

theorem open_cond_l : leafT Try.prog 10 97 = some [3, 4, 3, 4, 3, 4, 3, 67] := by kernel_rfl
theorem open_cond_n {H : Type} {enc : TypeId × Value → H} {W : World} {base : Nat} {sp : Nat → Bool} {held : Bool} : ∀ (B n : Nat) (cs : List Value) (x : DataW H × List MemPlace), n ≤ B → DataW.trod enc Try.prog W base sp held n 97 cs = some x → ∃ a : CT × Value, cs = cvC a ∧ Cs (GW W) a.2 a.1.subs
 | 0, n, cs, x, hn, h => by
  obtain rfl : n = 0 := by omega
  simp [DataW.trod] at h
 | B + 1, n, cs, x, hn, h => by
  obtain ⟨n', rfl, hl⟩ := leavesB_struct 9 Try.underlying97 open_cond_l h
  obtain ⟨x0, r0, e0, f0, g0⟩ := hl.inv
  obtain ⟨a0, rfl, _⟩ := f0.leaf.int Try.underlying3
  obtain ⟨x1, r1, e1, f1, g1⟩ := g0.inv
  obtain ⟨a1, rfl⟩ := f1.leaf.bool Try.underlying4
  obtain ⟨x2, r2, e2, f2, g2⟩ := g1.inv
  obtain ⟨a2, rfl, _⟩ := f2.leaf.int Try.underlying3
  obtain ⟨x3, r3, e3, f3, g3⟩ := g2.inv
  obtain ⟨a3, rfl⟩ := f3.leaf.bool Try.underlying4
  obtain ⟨x4, r4, e4, f4, g4⟩ := g3.inv
  obtain ⟨a4, rfl, _⟩ := f4.leaf.int Try.underlying3
  obtain ⟨x5, r5, e5, f5, g5⟩ := g4.inv
  obtain ⟨a5, rfl⟩ := f5.leaf.bool Try.underlying4
  obtain ⟨x6, r6, e6, f6, g6⟩ := g5.inv
  obtain ⟨a6, rfl, _⟩ := f6.leaf.int Try.underlying3
  obtain ⟨x7, r7, e7, f7, g7⟩ := g6.inv
  have z := g7.inv0
  obtain ⟨l, h1, h2⟩ := open_slB (cells := cvC) (Qa := fun a => Cs (GW W) a.2 a.1.subs) d0 Try.underlying67 (show Program.cellsOf Try.prog 97 = 8 by kernel_rfl) (by decide) (fun m cs' y hm hy => open_cond_n B m cs' y (by omega) hy) f7
  refine ⟨(CT.mk ⟨a0, a1, a2, a3, a4, a5, a6⟩ (l.map Prod.fst), x7), ?_, Tr.mk l h1 h2⟩
  rw [e0, e1, e2, e3, e4, e5, e6, e7, z]; rfl
end Go.Proofs.Ytpadfgomhojjnaa

/- Walks: what Go functions of this chapter come to, each as a function on plain data; no condition but those that each theorem names. Printed by a program of this work (gen.py). -/
namespace Go.Proofs.Ytpadfgomhojjnaa
open Go.Gx Go.Gx.T1 Go.Gx.T3 Go.Gx.T4 Go.Gx.T3 Go.Gx.T5 Go.Gx.T1 Go.Gx.T8 Go.Gx.T6 Go.Gx.T4 Go.Gx.T3 Go.Gx.T6 Go.Gx.T8 Go.Gx.T4 Go.Gx.T3 Go.Gx.T8 Go.Gx.T4 Go.Gx.T3 Go.Gx.T8 Go.Gx.T6 Go.Gx.T4 Go.Gx.T3

theorem open_rule_l : leafT Try.prog 10 69 = some [9, 67] := by kernel_rfl
set_option maxRecDepth 100000 in
theorem open_rule {H : Type} {enc : TypeId × Value → H} {W : World} {base : Nat} {sp : Nat → Bool} {held : Bool} {r : Reach} {b0 : Nat} {v : Value} {y : DataW H} {ps : List MemPlace} (hv : Value.okWide Try.prog W r b0 69 v) (h : DataW.Trod enc Try.prog W base sp held 69 v y ps) : ∃ (nm : ByteArray) (cv : Value) (l : List CT), v = Value.agg #[Value.string nm, cv] ∧ Cs (GW W) cv l := by
 obtain ⟨cs, rfl⟩ := agg_of_wide Try.underlying69 rfl hv
 obtain ⟨fuel, hf⟩ := h
 cases fuel with
 | zero => simp [DataW.trod] at hf
 | succ B =>
  obtain ⟨n', _, hl⟩ := leavesB_struct 9 Try.underlying69 open_rule_l hf
  obtain ⟨x0, r0, e0, f0, g0⟩ := hl.inv
  obtain ⟨a0, rfl, _⟩ := f0.leaf.string Try.underlying9
  obtain ⟨x1, r1, e1, f1, g1⟩ := g0.inv
  have z := g1.inv0
  obtain ⟨l, h1, h2⟩ := open_slB (cells := cvC) (Qa := fun a => Cs (GW W) a.2 a.1.subs) d0 Try.underlying67 (show Program.cellsOf Try.prog 97 = 8 by kernel_rfl) (by decide) (fun m cs' y hm hy => open_cond_n m m cs' y (Nat.le_refl _) hy) f1
  refine ⟨a0, x1, l.map Prod.fst, ?_, Tr.mk l h1 h2⟩
  have : cs = #[Value.string a0, x1] := by apply Array.ext'; rw [show (Value.agg cs).cells.toList = cs.toList from rfl] at e0; rw [e0, e1, z]
  rw [this]
end Go.Proofs.Ytpadfgomhojjnaa
