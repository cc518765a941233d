/- Texts of this work, laid together: a logic of steps, plain laws, and walks of Go functions, each without a condition but those that its theorems name. -/
import Derived.Test.YtpadfgomhojjnaaKPlainAny5
import Derived.Test.YtpadfgomhojjnaaRows
/- Walks: what Go functions of this chapter come to, each as a function on plain data; no condition but those that each theorem names. Printed by a program of this work (gen.py). -/
namespace Go.Proofs.Ytpadfgomhojjnaa
open Go.Gx Go.Gx.T13 Go.Gx.T8 Go.Gx.T4 Go.Gx.T3 Go.Gx.T14 Go.Gx.T13 Go.Gx.T8 Go.Gx.T6 Go.Gx.T4 Go.Gx.T3 Go.Gx.T3 Go.Gx.T4 Go.Gx.T3 Go.Gx.T5 Go.Gx.T1 Go.Gx.T8 Go.Gx.T6 Go.Gx.T4 Go.Gx.T3 Go.Gx.T6 Go.Gx.T8 Go.Gx.T4 Go.Gx.T3 Go.Gx.T8 Go.Gx.T4 Go.Gx.T3 Go.Gx.T8 Go.Gx.T6 Go.Gx.T4 Go.Gx.T3
theorem cl78 : Callable Try.prog 78 := callable Try.func78 (by kernel_rfl) rfl
theorem cl79 : Callable Try.prog 79 := callable Try.func79 (by kernel_rfl) rfl
theorem c_rhas7 (t k : Tri)  (w : World)  :
  Calls Try.prog 78 #[kT t, kT k] w (Ret fun r w' => r = Value.bool (hasK t k) ∧ Since nX w w') := by
 refine enter (args := [_, _]) (X := nX) (G := (fun _ => none)) (l := [(0, kT t), (1, kT k)]) Try.func78 rfl Try.ntmps78 (fun _ _ h => by cases h) ⟨rfl, rfl, trivial⟩ (Nat.le_of_ble_eq_true rfl) ?_
 refine c_seq ?_
 refine c_region ?_
 refine r_box .none rfl rfl (IsRow.lit _) (fun b_1 => ?_)
 refine r_box .none rfl rfl (IsRow.lit _) (fun b_2 => ?_)
 refine r_val .none rfl (p_assign rfl) ?_
 refine r_nil ?_
 refine e_next ?_
 refine c_seq ?_
 refine c_region ?_
 refine r_val .none rfl (p_iaddr (k := 0) Try.underlying105 sz3 rfl rfl (by first | exact of_decide_eq_true rfl | omega)) ?_
 refine r_val .none rfl (p_ld (k := 0) Try.underlying3 rfl rfl rfl (by first | exact of_decide_eq_true rfl | omega) (rfl : _ = Value.int _ _)) ?_
 refine r_val .none rfl (p_eq rfl rfl) ?_
 refine r_val .none rfl (p_move rfl) ?_
 refine r_splitd (d := 8) rfl (fun h_1 => ?_) (fun h_1 => ?_)
 ·
  first
   | (exfalso; omega)
   | (
    refine r_skip rfl (.no rfl rfl) ?_
    refine r_skip rfl (.no rfl rfl) ?_
    refine r_skip rfl (.no rfl rfl) ?_
    refine r_skip rfl (.no rfl rfl) ?_
    refine r_skip rfl (.no rfl rfl) ?_
    refine r_val .none rfl (p_pick_t rfl rfl) ?_
    refine r_val .none rfl (p_move rfl) ?_
    refine r_val (.some rfl rfl) rfl (p_iaddr (k := 1) Try.underlying105 sz3 rfl rfl (by first | exact of_decide_eq_true rfl | omega)) ?_
    refine r_val (.some rfl rfl) rfl (p_ld (k := 0) Try.underlying3 rfl rfl rfl (by first | exact of_decide_eq_true rfl | omega) (rfl : _ = Value.int _ _)) ?_
    refine r_val (.some rfl rfl) rfl (p_eq rfl rfl) ?_
    refine r_val (.some rfl rfl) rfl (p_move rfl) ?_
    refine r_splitd (d := 19) rfl (fun h_2 => ?_) (fun h_2 => ?_)
    ·
     first
      | (exfalso; omega)
      | (
       refine r_skip rfl (.no rfl rfl) ?_
       refine r_skip rfl (.no rfl rfl) ?_
       refine r_skip rfl (.no rfl rfl) ?_
       refine r_skip rfl (.no rfl rfl) ?_
       refine r_skip rfl (.no rfl rfl) ?_
       refine r_val (.some rfl rfl) rfl (p_pick_t rfl rfl) ?_
       refine r_val .none rfl (p_pick_t rfl rfl) ?_
       refine r_val .none rfl (p_move rfl) ?_
       refine r_val (.some rfl rfl) rfl (p_iaddr (k := 2) Try.underlying105 sz3 rfl rfl (by first | exact of_decide_eq_true rfl | omega)) ?_
       refine r_val (.some rfl rfl) rfl (p_ld (k := 0) Try.underlying3 rfl rfl rfl (by first | exact of_decide_eq_true rfl | omega) (rfl : _ = Value.int _ _)) ?_
       refine r_val (.some rfl rfl) rfl (p_eq rfl rfl) ?_
       refine r_val (.some rfl rfl) rfl (p_move rfl) ?_
       refine r_splitd (d := 31) rfl (fun h_3 => ?_) (fun h_3 => ?_)
       ·
        first
         | (exfalso; omega)
         | (
          refine r_skip rfl (.no rfl rfl) ?_
          refine r_skip rfl (.no rfl rfl) ?_
          refine r_skip rfl (.no rfl rfl) ?_
          refine r_skip rfl (.no rfl rfl) ?_
          refine r_skip rfl (.no rfl rfl) ?_
          refine r_val (.some rfl rfl) rfl (p_pick_t rfl rfl) ?_
          refine r_val .none rfl (p_pick_t rfl rfl) ?_
          refine r_val .none rfl (p_assign rfl) ?_
          refine r_nil ?_
          refine e_next ?_
          refine c_ret ?_
          refine e_ret1 Try.results78 (.tmp rfl .nil) (fun w hm => ⟨?_, hm.since⟩)
          (simp [hasK, *])
          )
       ·
        first
         | (exfalso; omega)
         | (
          refine r_val (.some rfl rfl) rfl (p_iaddr (k := 2) Try.underlying105 sz3 rfl rfl (by first | exact of_decide_eq_true rfl | omega)) ?_
          refine r_val (.some rfl rfl) rfl (p_ld (k := 0) Try.underlying3 rfl rfl rfl (by first | exact of_decide_eq_true rfl | omega) (rfl : _ = Value.int _ _)) ?_
          refine r_val (.some rfl rfl) rfl (p_iaddr (k := 2) Try.underlying105 sz3 rfl rfl (by first | exact of_decide_eq_true rfl | omega)) ?_
          refine r_val (.some rfl rfl) rfl (p_ld (k := 1) Try.underlying3 rfl rfl rfl (by first | exact of_decide_eq_true rfl | omega) (rfl : _ = Value.int _ _)) ?_
          refine r_val (.some rfl rfl) rfl (p_eq rfl rfl) ?_
          refine r_val (.some rfl rfl) rfl (p_pick_f rfl rfl) ?_
          refine r_val .none rfl (p_pick_t rfl rfl) ?_
          refine r_val .none rfl (p_assign rfl) ?_
          refine r_nil ?_
          refine e_next ?_
          refine c_ret ?_
          refine e_ret1 Try.results78 (.tmp rfl .nil) (fun w hm => ⟨?_, hm.since⟩)
          (simp [hasK, *])
          )
       )
    ·
     first
      | (exfalso; omega)
      | (
       refine r_val (.some rfl rfl) rfl (p_iaddr (k := 1) Try.underlying105 sz3 rfl rfl (by first | exact of_decide_eq_true rfl | omega)) ?_
       refine r_val (.some rfl rfl) rfl (p_ld (k := 0) Try.underlying3 rfl rfl rfl (by first | exact of_decide_eq_true rfl | omega) (rfl : _ = Value.int _ _)) ?_
       refine r_val (.some rfl rfl) rfl (p_iaddr (k := 1) Try.underlying105 sz3 rfl rfl (by first | exact of_decide_eq_true rfl | omega)) ?_
       refine r_val (.some rfl rfl) rfl (p_ld (k := 1) Try.underlying3 rfl rfl rfl (by first | exact of_decide_eq_true rfl | omega) (rfl : _ = Value.int _ _)) ?_
       refine r_val (.some rfl rfl) rfl (p_eq rfl rfl) ?_
       refine r_val (.some rfl rfl) rfl (p_pick_f rfl rfl) ?_
       refine r_val .none rfl (p_pick_t rfl rfl) ?_
       refine r_val .none rfl (p_move rfl) ?_
       refine r_splitd (d := 27) rfl (fun h_4 => ?_) (fun h_4 => ?_)
       ·
        first
         | (exfalso; omega)
         | (
          refine r_val (.some rfl rfl) rfl (p_iaddr (k := 2) Try.underlying105 sz3 rfl rfl (by first | exact of_decide_eq_true rfl | omega)) ?_
          refine r_val (.some rfl rfl) rfl (p_ld (k := 0) Try.underlying3 rfl rfl rfl (by first | exact of_decide_eq_true rfl | omega) (rfl : _ = Value.int _ _)) ?_
          refine r_val (.some rfl rfl) rfl (p_eq rfl rfl) ?_
          refine r_val (.some rfl rfl) rfl (p_move rfl) ?_
          refine r_splitd (d := 31) rfl (fun h_5 => ?_) (fun h_5 => ?_)
          ·
           first
            | (exfalso; omega)
            | (
             refine r_skip rfl (.no rfl rfl) ?_
             refine r_skip rfl (.no rfl rfl) ?_
             refine r_skip rfl (.no rfl rfl) ?_
             refine r_skip rfl (.no rfl rfl) ?_
             refine r_skip rfl (.no rfl rfl) ?_
             refine r_val (.some rfl rfl) rfl (p_pick_t rfl rfl) ?_
             refine r_val .none rfl (p_pick_t rfl rfl) ?_
             refine r_val .none rfl (p_assign rfl) ?_
             refine r_nil ?_
             refine e_next ?_
             refine c_ret ?_
             refine e_ret1 Try.results78 (.tmp rfl .nil) (fun w hm => ⟨?_, hm.since⟩)
             (simp [hasK, *])
             )
          ·
           first
            | (exfalso; omega)
            | (
             refine r_val (.some rfl rfl) rfl (p_iaddr (k := 2) Try.underlying105 sz3 rfl rfl (by first | exact of_decide_eq_true rfl | omega)) ?_
             refine r_val (.some rfl rfl) rfl (p_ld (k := 0) Try.underlying3 rfl rfl rfl (by first | exact of_decide_eq_true rfl | omega) (rfl : _ = Value.int _ _)) ?_
             refine r_val (.some rfl rfl) rfl (p_iaddr (k := 2) Try.underlying105 sz3 rfl rfl (by first | exact of_decide_eq_true rfl | omega)) ?_
             refine r_val (.some rfl rfl) rfl (p_ld (k := 1) Try.underlying3 rfl rfl rfl (by first | exact of_decide_eq_true rfl | omega) (rfl : _ = Value.int _ _)) ?_
             refine r_val (.some rfl rfl) rfl (p_eq rfl rfl) ?_
             refine r_val (.some rfl rfl) rfl (p_pick_f rfl rfl) ?_
             refine r_val .none rfl (p_pick_t rfl rfl) ?_
             refine r_val .none rfl (p_assign rfl) ?_
             refine r_nil ?_
             refine e_next ?_
             refine c_ret ?_
             refine e_ret1 Try.results78 (.tmp rfl .nil) (fun w hm => ⟨?_, hm.since⟩)
             (simp [hasK, *])
             )
          )
       ·
        first
         | (exfalso; omega)
         | (
          refine r_skip rfl (.no rfl rfl) ?_
          refine r_skip rfl (.no rfl rfl) ?_
          refine r_skip rfl (.no rfl rfl) ?_
          refine r_skip rfl (.no rfl rfl) ?_
          refine r_skip rfl (.un rfl rfl) ?_
          refine r_skip rfl (.un rfl rfl) ?_
          refine r_skip rfl (.un rfl rfl) ?_
          refine r_skip rfl (.un rfl rfl) ?_
          refine r_skip rfl (.un rfl rfl) ?_
          refine r_skip rfl (.no rfl rfl) ?_
          refine r_val .none rfl (p_pick_f rfl rfl) ?_
          refine r_val .none rfl (p_assign rfl) ?_
          refine r_nil ?_
          refine e_next ?_
          refine c_ret ?_
          refine e_ret1 Try.results78 (.tmp rfl .nil) (fun w hm => ⟨?_, hm.since⟩)
          (simp [hasK, *])
          )
       )
    )
 ·
  first
   | (exfalso; omega)
   | (
    refine r_val (.some rfl rfl) rfl (p_iaddr (k := 0) Try.underlying105 sz3 rfl rfl (by first | exact of_decide_eq_true rfl | omega)) ?_
    refine r_val (.some rfl rfl) rfl (p_ld (k := 0) Try.underlying3 rfl rfl rfl (by first | exact of_decide_eq_true rfl | omega) (rfl : _ = Value.int _ _)) ?_
    refine r_val (.some rfl rfl) rfl (p_iaddr (k := 0) Try.underlying105 sz3 rfl rfl (by first | exact of_decide_eq_true rfl | omega)) ?_
    refine r_val (.some rfl rfl) rfl (p_ld (k := 1) Try.underlying3 rfl rfl rfl (by first | exact of_decide_eq_true rfl | omega) (rfl : _ = Value.int _ _)) ?_
    refine r_val (.some rfl rfl) rfl (p_eq rfl rfl) ?_
    refine r_val .none rfl (p_pick_f rfl rfl) ?_
    refine r_val .none rfl (p_move rfl) ?_
    refine r_splitd (d := 15) rfl (fun h_6 => ?_) (fun h_6 => ?_)
    ·
     first
      | (exfalso; omega)
      | (
       refine r_val (.some rfl rfl) rfl (p_iaddr (k := 1) Try.underlying105 sz3 rfl rfl (by first | exact of_decide_eq_true rfl | omega)) ?_
       refine r_val (.some rfl rfl) rfl (p_ld (k := 0) Try.underlying3 rfl rfl rfl (by first | exact of_decide_eq_true rfl | omega) (rfl : _ = Value.int _ _)) ?_
       refine r_val (.some rfl rfl) rfl (p_eq rfl rfl) ?_
       refine r_val (.some rfl rfl) rfl (p_move rfl) ?_
       refine r_splitd (d := 19) rfl (fun h_7 => ?_) (fun h_7 => ?_)
       ·
        first
         | (exfalso; omega)
         | (
          refine r_skip rfl (.no rfl rfl) ?_
          refine r_skip rfl (.no rfl rfl) ?_
          refine r_skip rfl (.no rfl rfl) ?_
          refine r_skip rfl (.no rfl rfl) ?_
          refine r_skip rfl (.no rfl rfl) ?_
          refine r_val (.some rfl rfl) rfl (p_pick_t rfl rfl) ?_
          refine r_val .none rfl (p_pick_t rfl rfl) ?_
          refine r_val .none rfl (p_move rfl) ?_
          refine r_val (.some rfl rfl) rfl (p_iaddr (k := 2) Try.underlying105 sz3 rfl rfl (by first | exact of_decide_eq_true rfl | omega)) ?_
          refine r_val (.some rfl rfl) rfl (p_ld (k := 0) Try.underlying3 rfl rfl rfl (by first | exact of_decide_eq_true rfl | omega) (rfl : _ = Value.int _ _)) ?_
          refine r_val (.some rfl rfl) rfl (p_eq rfl rfl) ?_
          refine r_val (.some rfl rfl) rfl (p_move rfl) ?_
          refine r_splitd (d := 31) rfl (fun h_8 => ?_) (fun h_8 => ?_)
          ·
           first
            | (exfalso; omega)
            | (
             refine r_skip rfl (.no rfl rfl) ?_
             refine r_skip rfl (.no rfl rfl) ?_
             refine r_skip rfl (.no rfl rfl) ?_
             refine r_skip rfl (.no rfl rfl) ?_
             refine r_skip rfl (.no rfl rfl) ?_
             refine r_val (.some rfl rfl) rfl (p_pick_t rfl rfl) ?_
             refine r_val .none rfl (p_pick_t rfl rfl) ?_
             refine r_val .none rfl (p_assign rfl) ?_
             refine r_nil ?_
             refine e_next ?_
             refine c_ret ?_
             refine e_ret1 Try.results78 (.tmp rfl .nil) (fun w hm => ⟨?_, hm.since⟩)
             (simp [hasK, *])
             )
          ·
           first
            | (exfalso; omega)
            | (
             refine r_val (.some rfl rfl) rfl (p_iaddr (k := 2) Try.underlying105 sz3 rfl rfl (by first | exact of_decide_eq_true rfl | omega)) ?_
             refine r_val (.some rfl rfl) rfl (p_ld (k := 0) Try.underlying3 rfl rfl rfl (by first | exact of_decide_eq_true rfl | omega) (rfl : _ = Value.int _ _)) ?_
             refine r_val (.some rfl rfl) rfl (p_iaddr (k := 2) Try.underlying105 sz3 rfl rfl (by first | exact of_decide_eq_true rfl | omega)) ?_
             refine r_val (.some rfl rfl) rfl (p_ld (k := 1) Try.underlying3 rfl rfl rfl (by first | exact of_decide_eq_true rfl | omega) (rfl : _ = Value.int _ _)) ?_
             refine r_val (.some rfl rfl) rfl (p_eq rfl rfl) ?_
             refine r_val (.some rfl rfl) rfl (p_pick_f rfl rfl) ?_
             refine r_val .none rfl (p_pick_t rfl rfl) ?_
             refine r_val .none rfl (p_assign rfl) ?_
             refine r_nil ?_
             refine e_next ?_
             refine c_ret ?_
             refine e_ret1 Try.results78 (.tmp rfl .nil) (fun w hm => ⟨?_, hm.since⟩)
             (simp [hasK, *])
             )
          )
       ·
        first
         | (exfalso; omega)
         | (
          refine r_val (.some rfl rfl) rfl (p_iaddr (k := 1) Try.underlying105 sz3 rfl rfl (by first | exact of_decide_eq_true rfl | omega)) ?_
          refine r_val (.some rfl rfl) rfl (p_ld (k := 0) Try.underlying3 rfl rfl rfl (by first | exact of_decide_eq_true rfl | omega) (rfl : _ = Value.int _ _)) ?_
          refine r_val (.some rfl rfl) rfl (p_iaddr (k := 1) Try.underlying105 sz3 rfl rfl (by first | exact of_decide_eq_true rfl | omega)) ?_
          refine r_val (.some rfl rfl) rfl (p_ld (k := 1) Try.underlying3 rfl rfl rfl (by first | exact of_decide_eq_true rfl | omega) (rfl : _ = Value.int _ _)) ?_
          refine r_val (.some rfl rfl) rfl (p_eq rfl rfl) ?_
          refine r_val (.some rfl rfl) rfl (p_pick_f rfl rfl) ?_
          refine r_val .none rfl (p_pick_t rfl rfl) ?_
          refine r_val .none rfl (p_move rfl) ?_
          refine r_splitd (d := 27) rfl (fun h_9 => ?_) (fun h_9 => ?_)
          ·
           first
            | (exfalso; omega)
            | (
             refine r_val (.some rfl rfl) rfl (p_iaddr (k := 2) Try.underlying105 sz3 rfl rfl (by first | exact of_decide_eq_true rfl | omega)) ?_
             refine r_val (.some rfl rfl) rfl (p_ld (k := 0) Try.underlying3 rfl rfl rfl (by first | exact of_decide_eq_true rfl | omega) (rfl : _ = Value.int _ _)) ?_
             refine r_val (.some rfl rfl) rfl (p_eq rfl rfl) ?_
             refine r_val (.some rfl rfl) rfl (p_move rfl) ?_
             refine r_splitd (d := 31) rfl (fun h_10 => ?_) (fun h_10 => ?_)
             ·
              first
               | (exfalso; omega)
               | (
                refine r_skip rfl (.no rfl rfl) ?_
                refine r_skip rfl (.no rfl rfl) ?_
                refine r_skip rfl (.no rfl rfl) ?_
                refine r_skip rfl (.no rfl rfl) ?_
                refine r_skip rfl (.no rfl rfl) ?_
                refine r_val (.some rfl rfl) rfl (p_pick_t rfl rfl) ?_
                refine r_val .none rfl (p_pick_t rfl rfl) ?_
                refine r_val .none rfl (p_assign rfl) ?_
                refine r_nil ?_
                refine e_next ?_
                refine c_ret ?_
                refine e_ret1 Try.results78 (.tmp rfl .nil) (fun w hm => ⟨?_, hm.since⟩)
                (simp [hasK, *])
                )
             ·
              first
               | (exfalso; omega)
               | (
                refine r_val (.some rfl rfl) rfl (p_iaddr (k := 2) Try.underlying105 sz3 rfl rfl (by first | exact of_decide_eq_true rfl | omega)) ?_
                refine r_val (.some rfl rfl) rfl (p_ld (k := 0) Try.underlying3 rfl rfl rfl (by first | exact of_decide_eq_true rfl | omega) (rfl : _ = Value.int _ _)) ?_
                refine r_val (.some rfl rfl) rfl (p_iaddr (k := 2) Try.underlying105 sz3 rfl rfl (by first | exact of_decide_eq_true rfl | omega)) ?_
                refine r_val (.some rfl rfl) rfl (p_ld (k := 1) Try.underlying3 rfl rfl rfl (by first | exact of_decide_eq_true rfl | omega) (rfl : _ = Value.int _ _)) ?_
                refine r_val (.some rfl rfl) rfl (p_eq rfl rfl) ?_
                refine r_val (.some rfl rfl) rfl (p_pick_f rfl rfl) ?_
                refine r_val .none rfl (p_pick_t rfl rfl) ?_
                refine r_val .none rfl (p_assign rfl) ?_
                refine r_nil ?_
                refine e_next ?_
                refine c_ret ?_
                refine e_ret1 Try.results78 (.tmp rfl .nil) (fun w hm => ⟨?_, hm.since⟩)
                (simp [hasK, *])
                )
             )
          ·
           first
            | (exfalso; omega)
            | (
             refine r_skip rfl (.no rfl rfl) ?_
             refine r_skip rfl (.no rfl rfl) ?_
             refine r_skip rfl (.no rfl rfl) ?_
             refine r_skip rfl (.no rfl rfl) ?_
             refine r_skip rfl (.un rfl rfl) ?_
             refine r_skip rfl (.un rfl rfl) ?_
             refine r_skip rfl (.un rfl rfl) ?_
             refine r_skip rfl (.un rfl rfl) ?_
             refine r_skip rfl (.un rfl rfl) ?_
             refine r_skip rfl (.no rfl rfl) ?_
             refine r_val .none rfl (p_pick_f rfl rfl) ?_
             refine r_val .none rfl (p_assign rfl) ?_
             refine r_nil ?_
             refine e_next ?_
             refine c_ret ?_
             refine e_ret1 Try.results78 (.tmp rfl .nil) (fun w hm => ⟨?_, hm.since⟩)
             (simp [hasK, *])
             )
          )
       )
    ·
     first
      | (exfalso; omega)
      | (
       refine r_skip rfl (.no rfl rfl) ?_
       refine r_skip rfl (.no rfl rfl) ?_
       refine r_skip rfl (.no rfl rfl) ?_
       refine r_skip rfl (.no rfl rfl) ?_
       refine r_skip rfl (.un rfl rfl) ?_
       refine r_skip rfl (.un rfl rfl) ?_
       refine r_skip rfl (.un rfl rfl) ?_
       refine r_skip rfl (.un rfl rfl) ?_
       refine r_skip rfl (.un rfl rfl) ?_
       refine r_skip rfl (.no rfl rfl) ?_
       refine r_val .none rfl (p_pick_f rfl rfl) ?_
       refine r_val .none rfl (p_move rfl) ?_
       refine r_skip rfl (.no rfl rfl) ?_
       refine r_skip rfl (.no rfl rfl) ?_
       refine r_skip rfl (.no rfl rfl) ?_
       refine r_skip rfl (.no rfl rfl) ?_
       refine r_skip rfl (.un rfl rfl) ?_
       refine r_skip rfl (.un rfl rfl) ?_
       refine r_skip rfl (.un rfl rfl) ?_
       refine r_skip rfl (.un rfl rfl) ?_
       refine r_skip rfl (.un rfl rfl) ?_
       refine r_skip rfl (.no rfl rfl) ?_
       refine r_val .none rfl (p_pick_f rfl rfl) ?_
       refine r_val .none rfl (p_assign rfl) ?_
       refine r_nil ?_
       refine e_next ?_
       refine c_ret ?_
       refine e_ret1 Try.results78 (.tmp rfl .nil) (fun w hm => ⟨?_, hm.since⟩)
       (simp [hasK, *])
       )
    )
theorem c_rholds00 (b : Int) (vb : Value) (bs : List Tri) (t : Tri) {G : Ghost} (hb1 : -1 ≤ b) (hb : SlL G vb 3 triL z3 bs) (w : World) (hG : Has G w) :
  Calls Try.prog 79 #[Value.agg #[Value.int .i64 0, Value.int .i64 b, Value.int .i64 0], vb, kT t] w (Ret fun r w' => r = Value.bool (holdsT (0, b, 0) bs t) ∧ Since nX w w') := by
 refine enter (args := [_, _, _]) (X := nX) (G := G) (l := [(0, Value.agg #[Value.int .i64 0, Value.int .i64 b, Value.int .i64 0]), (1, vb), (2, kT t)]) Try.func79 rfl Try.ntmps79 hG ⟨rfl, rfl, rfl, trivial⟩ (Nat.le_of_ble_eq_true rfl) ?_
 refine c_seq ?_
 refine c_region ?_
 refine r_box .none rfl rfl (IsRow.lit _) (fun b_1 => ?_)
 refine r_box .none rfl rfl (IsRow.lit _) (fun b_2 => ?_)
 refine r_val .none rfl (p_assign rfl) ?_
 refine r_nil ?_
 refine e_next ?_
 refine c_seq ?_
 refine c_seq ?_
 refine c_region ?_
 refine r_val .none rfl (p_field Try.underlying140 rfl sz3 rfl) ?_
 refine r_val .none rfl (p_ld (k := 1) Try.underlying3 rfl rfl rfl (by first | exact of_decide_eq_true rfl | omega) (rfl : _ = Value.int _ _)) ?_
 refine r_val .none rfl (p_eq rfl rfl) ?_
 refine r_nil ?_
 refine e_next ?_
 refine c_splitd (d := 9) rfl (fun h_1 => ?_) (fun h_1 => ?_)
 ·
  first
   | (exfalso; omega)
   | (
    refine c_cond_t rfl ?_
    refine c_seq ?_
    refine c_region_q mixed (by kernel_rfl) ?_
    refine q_val .none rfl (p_field Try.underlying140 rfl sz3 rfl) ?_
    refine q_val .none rfl (p_ld (k := 1) Try.underlying3 rfl rfl rfl (by first | exact of_decide_eq_true rfl | omega) (rfl : _ = Value.int _ _)) ?_
    refine q_val .none rfl (p_iaddr (k := 0) Try.underlying105 sz3 rfl rfl (by first | exact of_decide_eq_true rfl | omega)) ?_
    refine q_val .none rfl (p_ld (k := 0) Try.underlying3 rfl rfl rfl (by first | exact of_decide_eq_true rfl | omega) (rfl : _ = Value.int _ _)) ?_
    refine q_val .none rfl (p_field Try.underlying140 rfl sz3 rfl) ?_
    refine q_val .none rfl (p_ld (k := 1) Try.underlying3 rfl rfl rfl (by first | exact of_decide_eq_true rfl | omega) (rfl : _ = Value.int _ _)) ?_
    refine q_val .none rfl (p_iaddr (k := 0) Try.underlying105 sz3 rfl rfl (by first | exact of_decide_eq_true rfl | omega)) ?_
    refine q_val .none rfl (p_ld (k := 0) Try.underlying3 rfl rfl rfl (by first | exact of_decide_eq_true rfl | omega) (rfl : _ = Value.int _ _)) ?_
    refine q_val .none rfl (p_eq rfl rfl) ?_
    refine q_val .none rfl (p_assign rfl) ?_
    refine q_nil ?_
    refine e_next ?_
    refine c_ret ?_
    refine e_ret_then ?_
    refine e_ret1 Try.results79 (.tmp rfl .nil) (fun w hm => ⟨?_, hm.since⟩)
    first
    | (rw [holds_out (by omega)]; done)
    | (rw [holds_back (by omega)]; rfl)
    | (rw [holds_own (by omega)]; rfl)
    )
 ·
  first
   | (exfalso; omega)
   | (
    refine c_cond_f rfl ?_
    refine c_skip ?_
    refine e_next ?_
    refine c_seq ?_
    refine c_seq ?_
    refine c_region ?_
    refine r_val .none rfl (p_field Try.underlying140 rfl sz3 rfl) ?_
    refine r_val .none rfl (p_ld (k := 1) Try.underlying3 rfl rfl rfl (by first | exact of_decide_eq_true rfl | omega) (rfl : _ = Value.int _ _)) ?_
    refine r_val .none rfl (p_lt rfl rfl) ?_
    refine r_val .none rfl (p_move rfl) ?_
    refine r_splitd (d := 22) rfl (fun h_2 => ?_) (fun h_2 => ?_)
    ·
     first
      | (exfalso; omega)
      | (
       refine r_skip rfl (.no rfl rfl) ?_
       refine r_skip rfl (.no rfl rfl) ?_
       refine r_skip rfl (.no rfl rfl) ?_
       refine r_skip rfl (.no rfl rfl) ?_
       refine r_skip rfl (.no rfl rfl) ?_
       refine r_val .none rfl (p_pick_t rfl rfl) ?_
       refine r_nil ?_
       refine e_next ?_
       refine c_cond_t rfl ?_
       refine c_seq ?_
       refine c_region ?_
       refine r_val .none rfl (p_assign rfl) ?_
       refine r_nil ?_
       refine e_next ?_
       refine c_ret ?_
       refine e_ret_then ?_
       refine e_ret1 Try.results79 (.tmp rfl .nil) (fun w hm => ⟨?_, hm.since⟩)
       first
       | (rw [holds_out (by omega)]; done)
       | (rw [holds_back (by omega)]; rfl)
       | (rw [holds_own (by omega)]; rfl)
       )
    ·
     first
      | (exfalso; omega)
      | (
       refine r_val (.some rfl rfl) rfl (p_field Try.underlying140 rfl sz3 rfl) ?_
       refine r_val (.some rfl rfl) rfl (p_ld (k := 1) Try.underlying3 rfl rfl rfl (by first | exact of_decide_eq_true rfl | omega) (rfl : _ = Value.int _ _)) ?_
       refine r_val (.some rfl rfl) rfl (p_move rfl) ?_
       refine r_val (.some rfl rfl) rfl (p_leng Try.underlying153 rfl hb) ?_
       have bd_3 := (hb).bound
       refine r_val (.some rfl rfl) rfl (p_ge rfl rfl) ?_
       refine r_val .none rfl (p_pick_f rfl rfl) ?_
       refine r_nil ?_
       refine e_next ?_
       refine c_splitd (d := 28) rfl (fun h_4 => ?_) (fun h_4 => ?_)
       ·
        first
         | (exfalso; omega)
         | (
          refine c_cond_t rfl ?_
          refine c_seq ?_
          refine c_region ?_
          refine r_val .none rfl (p_assign rfl) ?_
          refine r_nil ?_
          refine e_next ?_
          refine c_ret ?_
          refine e_ret_then ?_
          refine e_ret1 Try.results79 (.tmp rfl .nil) (fun w hm => ⟨?_, hm.since⟩)
          first
          | (rw [holds_out (by omega)]; done)
          | (rw [holds_back (by omega)]; rfl)
          | (rw [holds_own (by omega)]; rfl)
          )
       ·
        first
         | (exfalso; omega)
         | (
          refine c_cond_f rfl ?_
          refine c_skip ?_
          refine e_next ?_
          refine c_seq ?_
          refine c_region_q mixed (by kernel_rfl) ?_
          refine q_val .none rfl (p_field Try.underlying140 rfl sz3 rfl) ?_
          obtain ⟨bn, rfl⟩ : ∃ bn : Nat, b = (bn : Int) := ⟨b.toNat, by omega⟩
          refine q_val .none rfl (p_ld (k := 1) Try.underlying3 rfl rfl rfl (by first | exact of_decide_eq_true rfl | omega) (rfl : _ = Value.int _ _)) ?_
          refine q_val .none rfl (p_iaddr (k := 0) Try.underlying105 sz3 rfl rfl (by first | exact of_decide_eq_true rfl | omega)) ?_
          refine q_val .none rfl (p_ld (k := 0) Try.underlying3 rfl rfl rfl (by first | exact of_decide_eq_true rfl | omega) (rfl : _ = Value.int _ _)) ?_
          refine q_val .none rfl (p_move rfl) ?_
          refine q_val .none rfl (p_field Try.underlying140 rfl sz3 rfl) ?_
          refine q_val .none rfl (p_ld (k := 1) Try.underlying3 rfl rfl rfl (by first | exact of_decide_eq_true rfl | omega) (rfl : _ = Value.int _ _)) ?_
          refine q_val .none rfl (p_field Try.underlying140 rfl sz3 rfl) ?_
          refine q_val .none rfl (p_ld (k := 1) Try.underlying3 rfl rfl rfl (by first | exact of_decide_eq_true rfl | omega) (rfl : _ = Value.int _ _)) ?_
          refine q_iaddr_g .none rfl Try.underlying153 sz105 rfl hb rfl (by first | exact of_decide_eq_true rfl | omega) (fun p_6 o_7 R_5 => ?_)
          refine q_val .none rfl (p_iaddr (k := 0) Try.underlying105 sz3 rfl rfl (by first | exact of_decide_eq_true rfl | omega)) ?_
          have R_8 := RowAt.sub (j := 0 * 1) (m := 1) (RowAt.sub (j := 0) (m := 3) R_5 (by decide)) (by omega)
          refine q_val .none rfl (p_ldg0 Try.underlying3 rfl rfl R_8 (by first | exact of_decide_eq_true rfl | omega) (rfl : _ = Value.int _ _)) ?_
          refine q_val .none rfl (p_eq rfl rfl) ?_
          refine q_val .none rfl (p_assign rfl) ?_
          refine q_nil ?_
          refine e_next ?_
          refine c_ret ?_
          refine e_ret1 Try.results79 (.tmp rfl .nil) (fun w hm => ⟨?_, hm.since⟩)
          first
          | (rw [holds_out (by omega)]; done)
          | (rw [holds_back (by omega)]; rfl)
          | (rw [holds_own (by omega)]; rfl)
          )
       )
    )
theorem c_rholds01 (b : Int) (vb : Value) (bs : List Tri) (t : Tri) {G : Ghost} (hb1 : -1 ≤ b) (hb : SlL G vb 3 triL z3 bs) (w : World) (hG : Has G w) :
  Calls Try.prog 79 #[Value.agg #[Value.int .i64 0, Value.int .i64 b, Value.int .i64 1], vb, kT t] w (Ret fun r w' => r = Value.bool (holdsT (0, b, 1) bs t) ∧ Since nX w w') := by
 refine enter (args := [_, _, _]) (X := nX) (G := G) (l := [(0, Value.agg #[Value.int .i64 0, Value.int .i64 b, Value.int .i64 1]), (1, vb), (2, kT t)]) Try.func79 rfl Try.ntmps79 hG ⟨rfl, rfl, rfl, trivial⟩ (Nat.le_of_ble_eq_true rfl) ?_
 refine c_seq ?_
 refine c_region ?_
 refine r_box .none rfl rfl (IsRow.lit _) (fun b_1 => ?_)
 refine r_box .none rfl rfl (IsRow.lit _) (fun b_2 => ?_)
 refine r_val .none rfl (p_assign rfl) ?_
 refine r_nil ?_
 refine e_next ?_
 refine c_seq ?_
 refine c_seq ?_
 refine c_region ?_
 refine r_val .none rfl (p_field Try.underlying140 rfl sz3 rfl) ?_
 refine r_val .none rfl (p_ld (k := 1) Try.underlying3 rfl rfl rfl (by first | exact of_decide_eq_true rfl | omega) (rfl : _ = Value.int _ _)) ?_
 refine r_val .none rfl (p_eq rfl rfl) ?_
 refine r_nil ?_
 refine e_next ?_
 refine c_splitd (d := 9) rfl (fun h_1 => ?_) (fun h_1 => ?_)
 ·
  first
   | (exfalso; omega)
   | (
    refine c_cond_t rfl ?_
    refine c_seq ?_
    refine c_region_q mixed (by kernel_rfl) ?_
    refine q_val .none rfl (p_field Try.underlying140 rfl sz3 rfl) ?_
    refine q_val .none rfl (p_ld (k := 1) Try.underlying3 rfl rfl rfl (by first | exact of_decide_eq_true rfl | omega) (rfl : _ = Value.int _ _)) ?_
    refine q_val .none rfl (p_iaddr (k := 0) Try.underlying105 sz3 rfl rfl (by first | exact of_decide_eq_true rfl | omega)) ?_
    refine q_val .none rfl (p_ld (k := 0) Try.underlying3 rfl rfl rfl (by first | exact of_decide_eq_true rfl | omega) (rfl : _ = Value.int _ _)) ?_
    refine q_val .none rfl (p_field Try.underlying140 rfl sz3 rfl) ?_
    refine q_val .none rfl (p_ld (k := 1) Try.underlying3 rfl rfl rfl (by first | exact of_decide_eq_true rfl | omega) (rfl : _ = Value.int _ _)) ?_
    refine q_val .none rfl (p_iaddr (k := 1) Try.underlying105 sz3 rfl rfl (by first | exact of_decide_eq_true rfl | omega)) ?_
    refine q_val .none rfl (p_ld (k := 0) Try.underlying3 rfl rfl rfl (by first | exact of_decide_eq_true rfl | omega) (rfl : _ = Value.int _ _)) ?_
    refine q_val .none rfl (p_eq rfl rfl) ?_
    refine q_val .none rfl (p_assign rfl) ?_
    refine q_nil ?_
    refine e_next ?_
    refine c_ret ?_
    refine e_ret_then ?_
    refine e_ret1 Try.results79 (.tmp rfl .nil) (fun w hm => ⟨?_, hm.since⟩)
    first
    | (rw [holds_out (by omega)]; done)
    | (rw [holds_back (by omega)]; rfl)
    | (rw [holds_own (by omega)]; rfl)
    )
 ·
  first
   | (exfalso; omega)
   | (
    refine c_cond_f rfl ?_
    refine c_skip ?_
    refine e_next ?_
    refine c_seq ?_
    refine c_seq ?_
    refine c_region ?_
    refine r_val .none rfl (p_field Try.underlying140 rfl sz3 rfl) ?_
    refine r_val .none rfl (p_ld (k := 1) Try.underlying3 rfl rfl rfl (by first | exact of_decide_eq_true rfl | omega) (rfl : _ = Value.int _ _)) ?_
    refine r_val .none rfl (p_lt rfl rfl) ?_
    refine r_val .none rfl (p_move rfl) ?_
    refine r_splitd (d := 22) rfl (fun h_2 => ?_) (fun h_2 => ?_)
    ·
     first
      | (exfalso; omega)
      | (
       refine r_skip rfl (.no rfl rfl) ?_
       refine r_skip rfl (.no rfl rfl) ?_
       refine r_skip rfl (.no rfl rfl) ?_
       refine r_skip rfl (.no rfl rfl) ?_
       refine r_skip rfl (.no rfl rfl) ?_
       refine r_val .none rfl (p_pick_t rfl rfl) ?_
       refine r_nil ?_
       refine e_next ?_
       refine c_cond_t rfl ?_
       refine c_seq ?_
       refine c_region ?_
       refine r_val .none rfl (p_assign rfl) ?_
       refine r_nil ?_
       refine e_next ?_
       refine c_ret ?_
       refine e_ret_then ?_
       refine e_ret1 Try.results79 (.tmp rfl .nil) (fun w hm => ⟨?_, hm.since⟩)
       first
       | (rw [holds_out (by omega)]; done)
       | (rw [holds_back (by omega)]; rfl)
       | (rw [holds_own (by omega)]; rfl)
       )
    ·
     first
      | (exfalso; omega)
      | (
       refine r_val (.some rfl rfl) rfl (p_field Try.underlying140 rfl sz3 rfl) ?_
       refine r_val (.some rfl rfl) rfl (p_ld (k := 1) Try.underlying3 rfl rfl rfl (by first | exact of_decide_eq_true rfl | omega) (rfl : _ = Value.int _ _)) ?_
       refine r_val (.some rfl rfl) rfl (p_move rfl) ?_
       refine r_val (.some rfl rfl) rfl (p_leng Try.underlying153 rfl hb) ?_
       have bd_3 := (hb).bound
       refine r_val (.some rfl rfl) rfl (p_ge rfl rfl) ?_
       refine r_val .none rfl (p_pick_f rfl rfl) ?_
       refine r_nil ?_
       refine e_next ?_
       refine c_splitd (d := 28) rfl (fun h_4 => ?_) (fun h_4 => ?_)
       ·
        first
         | (exfalso; omega)
         | (
          refine c_cond_t rfl ?_
          refine c_seq ?_
          refine c_region ?_
          refine r_val .none rfl (p_assign rfl) ?_
          refine r_nil ?_
          refine e_next ?_
          refine c_ret ?_
          refine e_ret_then ?_
          refine e_ret1 Try.results79 (.tmp rfl .nil) (fun w hm => ⟨?_, hm.since⟩)
          first
          | (rw [holds_out (by omega)]; done)
          | (rw [holds_back (by omega)]; rfl)
          | (rw [holds_own (by omega)]; rfl)
          )
       ·
        first
         | (exfalso; omega)
         | (
          refine c_cond_f rfl ?_
          refine c_skip ?_
          refine e_next ?_
          refine c_seq ?_
          refine c_region_q mixed (by kernel_rfl) ?_
          refine q_val .none rfl (p_field Try.underlying140 rfl sz3 rfl) ?_
          obtain ⟨bn, rfl⟩ : ∃ bn : Nat, b = (bn : Int) := ⟨b.toNat, by omega⟩
          refine q_val .none rfl (p_ld (k := 1) Try.underlying3 rfl rfl rfl (by first | exact of_decide_eq_true rfl | omega) (rfl : _ = Value.int _ _)) ?_
          refine q_val .none rfl (p_iaddr (k := 0) Try.underlying105 sz3 rfl rfl (by first | exact of_decide_eq_true rfl | omega)) ?_
          refine q_val .none rfl (p_ld (k := 0) Try.underlying3 rfl rfl rfl (by first | exact of_decide_eq_true rfl | omega) (rfl : _ = Value.int _ _)) ?_
          refine q_val .none rfl (p_move rfl) ?_
          refine q_val .none rfl (p_field Try.underlying140 rfl sz3 rfl) ?_
          refine q_val .none rfl (p_ld (k := 1) Try.underlying3 rfl rfl rfl (by first | exact of_decide_eq_true rfl | omega) (rfl : _ = Value.int _ _)) ?_
          refine q_val .none rfl (p_field Try.underlying140 rfl sz3 rfl) ?_
          refine q_val .none rfl (p_ld (k := 1) Try.underlying3 rfl rfl rfl (by first | exact of_decide_eq_true rfl | omega) (rfl : _ = Value.int _ _)) ?_
          refine q_iaddr_g .none rfl Try.underlying153 sz105 rfl hb rfl (by first | exact of_decide_eq_true rfl | omega) (fun p_6 o_7 R_5 => ?_)
          refine q_val .none rfl (p_iaddr (k := 1) Try.underlying105 sz3 rfl rfl (by first | exact of_decide_eq_true rfl | omega)) ?_
          have R_8 := RowAt.sub (j := 1 * 1) (m := 1) (RowAt.sub (j := 0) (m := 3) R_5 (by decide)) (by omega)
          refine q_val .none rfl (p_ldg0 Try.underlying3 rfl rfl R_8 (by first | exact of_decide_eq_true rfl | omega) (rfl : _ = Value.int _ _)) ?_
          refine q_val .none rfl (p_eq rfl rfl) ?_
          refine q_val .none rfl (p_assign rfl) ?_
          refine q_nil ?_
          refine e_next ?_
          refine c_ret ?_
          refine e_ret1 Try.results79 (.tmp rfl .nil) (fun w hm => ⟨?_, hm.since⟩)
          first
          | (rw [holds_out (by omega)]; done)
          | (rw [holds_back (by omega)]; rfl)
          | (rw [holds_own (by omega)]; rfl)
          )
       )
    )
theorem c_rholds02 (b : Int) (vb : Value) (bs : List Tri) (t : Tri) {G : Ghost} (hb1 : -1 ≤ b) (hb : SlL G vb 3 triL z3 bs) (w : World) (hG : Has G w) :
  Calls Try.prog 79 #[Value.agg #[Value.int .i64 0, Value.int .i64 b, Value.int .i64 2], vb, kT t] w (Ret fun r w' => r = Value.bool (holdsT (0, b, 2) bs t) ∧ Since nX w w') := by
 refine enter (args := [_, _, _]) (X := nX) (G := G) (l := [(0, Value.agg #[Value.int .i64 0, Value.int .i64 b, Value.int .i64 2]), (1, vb), (2, kT t)]) Try.func79 rfl Try.ntmps79 hG ⟨rfl, rfl, rfl, trivial⟩ (Nat.le_of_ble_eq_true rfl) ?_
 refine c_seq ?_
 refine c_region ?_
 refine r_box .none rfl rfl (IsRow.lit _) (fun b_1 => ?_)
 refine r_box .none rfl rfl (IsRow.lit _) (fun b_2 => ?_)
 refine r_val .none rfl (p_assign rfl) ?_
 refine r_nil ?_
 refine e_next ?_
 refine c_seq ?_
 refine c_seq ?_
 refine c_region ?_
 refine r_val .none rfl (p_field Try.underlying140 rfl sz3 rfl) ?_
 refine r_val .none rfl (p_ld (k := 1) Try.underlying3 rfl rfl rfl (by first | exact of_decide_eq_true rfl | omega) (rfl : _ = Value.int _ _)) ?_
 refine r_val .none rfl (p_eq rfl rfl) ?_
 refine r_nil ?_
 refine e_next ?_
 refine c_splitd (d := 9) rfl (fun h_1 => ?_) (fun h_1 => ?_)
 ·
  first
   | (exfalso; omega)
   | (
    refine c_cond_t rfl ?_
    refine c_seq ?_
    refine c_region_q mixed (by kernel_rfl) ?_
    refine q_val .none rfl (p_field Try.underlying140 rfl sz3 rfl) ?_
    refine q_val .none rfl (p_ld (k := 1) Try.underlying3 rfl rfl rfl (by first | exact of_decide_eq_true rfl | omega) (rfl : _ = Value.int _ _)) ?_
    refine q_val .none rfl (p_iaddr (k := 0) Try.underlying105 sz3 rfl rfl (by first | exact of_decide_eq_true rfl | omega)) ?_
    refine q_val .none rfl (p_ld (k := 0) Try.underlying3 rfl rfl rfl (by first | exact of_decide_eq_true rfl | omega) (rfl : _ = Value.int _ _)) ?_
    refine q_val .none rfl (p_field Try.underlying140 rfl sz3 rfl) ?_
    refine q_val .none rfl (p_ld (k := 1) Try.underlying3 rfl rfl rfl (by first | exact of_decide_eq_true rfl | omega) (rfl : _ = Value.int _ _)) ?_
    refine q_val .none rfl (p_iaddr (k := 2) Try.underlying105 sz3 rfl rfl (by first | exact of_decide_eq_true rfl | omega)) ?_
    refine q_val .none rfl (p_ld (k := 0) Try.underlying3 rfl rfl rfl (by first | exact of_decide_eq_true rfl | omega) (rfl : _ = Value.int _ _)) ?_
    refine q_val .none rfl (p_eq rfl rfl) ?_
    refine q_val .none rfl (p_assign rfl) ?_
    refine q_nil ?_
    refine e_next ?_
    refine c_ret ?_
    refine e_ret_then ?_
    refine e_ret1 Try.results79 (.tmp rfl .nil) (fun w hm => ⟨?_, hm.since⟩)
    first
    | (rw [holds_out (by omega)]; done)
    | (rw [holds_back (by omega)]; rfl)
    | (rw [holds_own (by omega)]; rfl)
    )
 ·
  first
   | (exfalso; omega)
   | (
    refine c_cond_f rfl ?_
    refine c_skip ?_
    refine e_next ?_
    refine c_seq ?_
    refine c_seq ?_
    refine c_region ?_
    refine r_val .none rfl (p_field Try.underlying140 rfl sz3 rfl) ?_
    refine r_val .none rfl (p_ld (k := 1) Try.underlying3 rfl rfl rfl (by first | exact of_decide_eq_true rfl | omega) (rfl : _ = Value.int _ _)) ?_
    refine r_val .none rfl (p_lt rfl rfl) ?_
    refine r_val .none rfl (p_move rfl) ?_
    refine r_splitd (d := 22) rfl (fun h_2 => ?_) (fun h_2 => ?_)
    ·
     first
      | (exfalso; omega)
      | (
       refine r_skip rfl (.no rfl rfl) ?_
       refine r_skip rfl (.no rfl rfl) ?_
       refine r_skip rfl (.no rfl rfl) ?_
       refine r_skip rfl (.no rfl rfl) ?_
       refine r_skip rfl (.no rfl rfl) ?_
       refine r_val .none rfl (p_pick_t rfl rfl) ?_
       refine r_nil ?_
       refine e_next ?_
       refine c_cond_t rfl ?_
       refine c_seq ?_
       refine c_region ?_
       refine r_val .none rfl (p_assign rfl) ?_
       refine r_nil ?_
       refine e_next ?_
       refine c_ret ?_
       refine e_ret_then ?_
       refine e_ret1 Try.results79 (.tmp rfl .nil) (fun w hm => ⟨?_, hm.since⟩)
       first
       | (rw [holds_out (by omega)]; done)
       | (rw [holds_back (by omega)]; rfl)
       | (rw [holds_own (by omega)]; rfl)
       )
    ·
     first
      | (exfalso; omega)
      | (
       refine r_val (.some rfl rfl) rfl (p_field Try.underlying140 rfl sz3 rfl) ?_
       refine r_val (.some rfl rfl) rfl (p_ld (k := 1) Try.underlying3 rfl rfl rfl (by first | exact of_decide_eq_true rfl | omega) (rfl : _ = Value.int _ _)) ?_
       refine r_val (.some rfl rfl) rfl (p_move rfl) ?_
       refine r_val (.some rfl rfl) rfl (p_leng Try.underlying153 rfl hb) ?_
       have bd_3 := (hb).bound
       refine r_val (.some rfl rfl) rfl (p_ge rfl rfl) ?_
       refine r_val .none rfl (p_pick_f rfl rfl) ?_
       refine r_nil ?_
       refine e_next ?_
       refine c_splitd (d := 28) rfl (fun h_4 => ?_) (fun h_4 => ?_)
       ·
        first
         | (exfalso; omega)
         | (
          refine c_cond_t rfl ?_
          refine c_seq ?_
          refine c_region ?_
          refine r_val .none rfl (p_assign rfl) ?_
          refine r_nil ?_
          refine e_next ?_
          refine c_ret ?_
          refine e_ret_then ?_
          refine e_ret1 Try.results79 (.tmp rfl .nil) (fun w hm => ⟨?_, hm.since⟩)
          first
          | (rw [holds_out (by omega)]; done)
          | (rw [holds_back (by omega)]; rfl)
          | (rw [holds_own (by omega)]; rfl)
          )
       ·
        first
         | (exfalso; omega)
         | (
          refine c_cond_f rfl ?_
          refine c_skip ?_
          refine e_next ?_
          refine c_seq ?_
          refine c_region_q mixed (by kernel_rfl) ?_
          refine q_val .none rfl (p_field Try.underlying140 rfl sz3 rfl) ?_
          obtain ⟨bn, rfl⟩ : ∃ bn : Nat, b = (bn : Int) := ⟨b.toNat, by omega⟩
          refine q_val .none rfl (p_ld (k := 1) Try.underlying3 rfl rfl rfl (by first | exact of_decide_eq_true rfl | omega) (rfl : _ = Value.int _ _)) ?_
          refine q_val .none rfl (p_iaddr (k := 0) Try.underlying105 sz3 rfl rfl (by first | exact of_decide_eq_true rfl | omega)) ?_
          refine q_val .none rfl (p_ld (k := 0) Try.underlying3 rfl rfl rfl (by first | exact of_decide_eq_true rfl | omega) (rfl : _ = Value.int _ _)) ?_
          refine q_val .none rfl (p_move rfl) ?_
          refine q_val .none rfl (p_field Try.underlying140 rfl sz3 rfl) ?_
          refine q_val .none rfl (p_ld (k := 1) Try.underlying3 rfl rfl rfl (by first | exact of_decide_eq_true rfl | omega) (rfl : _ = Value.int _ _)) ?_
          refine q_val .none rfl (p_field Try.underlying140 rfl sz3 rfl) ?_
          refine q_val .none rfl (p_ld (k := 1) Try.underlying3 rfl rfl rfl (by first | exact of_decide_eq_true rfl | omega) (rfl : _ = Value.int _ _)) ?_
          refine q_iaddr_g .none rfl Try.underlying153 sz105 rfl hb rfl (by first | exact of_decide_eq_true rfl | omega) (fun p_6 o_7 R_5 => ?_)
          refine q_val .none rfl (p_iaddr (k := 2) Try.underlying105 sz3 rfl rfl (by first | exact of_decide_eq_true rfl | omega)) ?_
          have R_8 := RowAt.sub (j := 2 * 1) (m := 1) (RowAt.sub (j := 0) (m := 3) R_5 (by decide)) (by omega)
          refine q_val .none rfl (p_ldg0 Try.underlying3 rfl rfl R_8 (by first | exact of_decide_eq_true rfl | omega) (rfl : _ = Value.int _ _)) ?_
          refine q_val .none rfl (p_eq rfl rfl) ?_
          refine q_val .none rfl (p_assign rfl) ?_
          refine q_nil ?_
          refine e_next ?_
          refine c_ret ?_
          refine e_ret1 Try.results79 (.tmp rfl .nil) (fun w hm => ⟨?_, hm.since⟩)
          first
          | (rw [holds_out (by omega)]; done)
          | (rw [holds_back (by omega)]; rfl)
          | (rw [holds_own (by omega)]; rfl)
          )
       )
    )
theorem c_rholds10 (b : Int) (vb : Value) (bs : List Tri) (t : Tri) {G : Ghost} (hb1 : -1 ≤ b) (hb : SlL G vb 3 triL z3 bs) (w : World) (hG : Has G w) :
  Calls Try.prog 79 #[Value.agg #[Value.int .i64 1, Value.int .i64 b, Value.int .i64 0], vb, kT t] w (Ret fun r w' => r = Value.bool (holdsT (1, b, 0) bs t) ∧ Since nX w w') := by
 refine enter (args := [_, _, _]) (X := nX) (G := G) (l := [(0, Value.agg #[Value.int .i64 1, Value.int .i64 b, Value.int .i64 0]), (1, vb), (2, kT t)]) Try.func79 rfl Try.ntmps79 hG ⟨rfl, rfl, rfl, trivial⟩ (Nat.le_of_ble_eq_true rfl) ?_
 refine c_seq ?_
 refine c_region ?_
 refine r_box .none rfl rfl (IsRow.lit _) (fun b_1 => ?_)
 refine r_box .none rfl rfl (IsRow.lit _) (fun b_2 => ?_)
 refine r_val .none rfl (p_assign rfl) ?_
 refine r_nil ?_
 refine e_next ?_
 refine c_seq ?_
 refine c_seq ?_
 refine c_region ?_
 refine r_val .none rfl (p_field Try.underlying140 rfl sz3 rfl) ?_
 refine r_val .none rfl (p_ld (k := 1) Try.underlying3 rfl rfl rfl (by first | exact of_decide_eq_true rfl | omega) (rfl : _ = Value.int _ _)) ?_
 refine r_val .none rfl (p_eq rfl rfl) ?_
 refine r_nil ?_
 refine e_next ?_
 refine c_splitd (d := 9) rfl (fun h_1 => ?_) (fun h_1 => ?_)
 ·
  first
   | (exfalso; omega)
   | (
    refine c_cond_t rfl ?_
    refine c_seq ?_
    refine c_region_q mixed (by kernel_rfl) ?_
    refine q_val .none rfl (p_field Try.underlying140 rfl sz3 rfl) ?_
    refine q_val .none rfl (p_ld (k := 1) Try.underlying3 rfl rfl rfl (by first | exact of_decide_eq_true rfl | omega) (rfl : _ = Value.int _ _)) ?_
    refine q_val .none rfl (p_iaddr (k := 1) Try.underlying105 sz3 rfl rfl (by first | exact of_decide_eq_true rfl | omega)) ?_
    refine q_val .none rfl (p_ld (k := 0) Try.underlying3 rfl rfl rfl (by first | exact of_decide_eq_true rfl | omega) (rfl : _ = Value.int _ _)) ?_
    refine q_val .none rfl (p_field Try.underlying140 rfl sz3 rfl) ?_
    refine q_val .none rfl (p_ld (k := 1) Try.underlying3 rfl rfl rfl (by first | exact of_decide_eq_true rfl | omega) (rfl : _ = Value.int _ _)) ?_
    refine q_val .none rfl (p_iaddr (k := 0) Try.underlying105 sz3 rfl rfl (by first | exact of_decide_eq_true rfl | omega)) ?_
    refine q_val .none rfl (p_ld (k := 0) Try.underlying3 rfl rfl rfl (by first | exact of_decide_eq_true rfl | omega) (rfl : _ = Value.int _ _)) ?_
    refine q_val .none rfl (p_eq rfl rfl) ?_
    refine q_val .none rfl (p_assign rfl) ?_
    refine q_nil ?_
    refine e_next ?_
    refine c_ret ?_
    refine e_ret_then ?_
    refine e_ret1 Try.results79 (.tmp rfl .nil) (fun w hm => ⟨?_, hm.since⟩)
    first
    | (rw [holds_out (by omega)]; done)
    | (rw [holds_back (by omega)]; rfl)
    | (rw [holds_own (by omega)]; rfl)
    )
 ·
  first
   | (exfalso; omega)
   | (
    refine c_cond_f rfl ?_
    refine c_skip ?_
    refine e_next ?_
    refine c_seq ?_
    refine c_seq ?_
    refine c_region ?_
    refine r_val .none rfl (p_field Try.underlying140 rfl sz3 rfl) ?_
    refine r_val .none rfl (p_ld (k := 1) Try.underlying3 rfl rfl rfl (by first | exact of_decide_eq_true rfl | omega) (rfl : _ = Value.int _ _)) ?_
    refine r_val .none rfl (p_lt rfl rfl) ?_
    refine r_val .none rfl (p_move rfl) ?_
    refine r_splitd (d := 22) rfl (fun h_2 => ?_) (fun h_2 => ?_)
    ·
     first
      | (exfalso; omega)
      | (
       refine r_skip rfl (.no rfl rfl) ?_
       refine r_skip rfl (.no rfl rfl) ?_
       refine r_skip rfl (.no rfl rfl) ?_
       refine r_skip rfl (.no rfl rfl) ?_
       refine r_skip rfl (.no rfl rfl) ?_
       refine r_val .none rfl (p_pick_t rfl rfl) ?_
       refine r_nil ?_
       refine e_next ?_
       refine c_cond_t rfl ?_
       refine c_seq ?_
       refine c_region ?_
       refine r_val .none rfl (p_assign rfl) ?_
       refine r_nil ?_
       refine e_next ?_
       refine c_ret ?_
       refine e_ret_then ?_
       refine e_ret1 Try.results79 (.tmp rfl .nil) (fun w hm => ⟨?_, hm.since⟩)
       first
       | (rw [holds_out (by omega)]; done)
       | (rw [holds_back (by omega)]; rfl)
       | (rw [holds_own (by omega)]; rfl)
       )
    ·
     first
      | (exfalso; omega)
      | (
       refine r_val (.some rfl rfl) rfl (p_field Try.underlying140 rfl sz3 rfl) ?_
       refine r_val (.some rfl rfl) rfl (p_ld (k := 1) Try.underlying3 rfl rfl rfl (by first | exact of_decide_eq_true rfl | omega) (rfl : _ = Value.int _ _)) ?_
       refine r_val (.some rfl rfl) rfl (p_move rfl) ?_
       refine r_val (.some rfl rfl) rfl (p_leng Try.underlying153 rfl hb) ?_
       have bd_3 := (hb).bound
       refine r_val (.some rfl rfl) rfl (p_ge rfl rfl) ?_
       refine r_val .none rfl (p_pick_f rfl rfl) ?_
       refine r_nil ?_
       refine e_next ?_
       refine c_splitd (d := 28) rfl (fun h_4 => ?_) (fun h_4 => ?_)
       ·
        first
         | (exfalso; omega)
         | (
          refine c_cond_t rfl ?_
          refine c_seq ?_
          refine c_region ?_
          refine r_val .none rfl (p_assign rfl) ?_
          refine r_nil ?_
          refine e_next ?_
          refine c_ret ?_
          refine e_ret_then ?_
          refine e_ret1 Try.results79 (.tmp rfl .nil) (fun w hm => ⟨?_, hm.since⟩)
          first
          | (rw [holds_out (by omega)]; done)
          | (rw [holds_back (by omega)]; rfl)
          | (rw [holds_own (by omega)]; rfl)
          )
       ·
        first
         | (exfalso; omega)
         | (
          refine c_cond_f rfl ?_
          refine c_skip ?_
          refine e_next ?_
          refine c_seq ?_
          refine c_region_q mixed (by kernel_rfl) ?_
          refine q_val .none rfl (p_field Try.underlying140 rfl sz3 rfl) ?_
          obtain ⟨bn, rfl⟩ : ∃ bn : Nat, b = (bn : Int) := ⟨b.toNat, by omega⟩
          refine q_val .none rfl (p_ld (k := 1) Try.underlying3 rfl rfl rfl (by first | exact of_decide_eq_true rfl | omega) (rfl : _ = Value.int _ _)) ?_
          refine q_val .none rfl (p_iaddr (k := 1) Try.underlying105 sz3 rfl rfl (by first | exact of_decide_eq_true rfl | omega)) ?_
          refine q_val .none rfl (p_ld (k := 0) Try.underlying3 rfl rfl rfl (by first | exact of_decide_eq_true rfl | omega) (rfl : _ = Value.int _ _)) ?_
          refine q_val .none rfl (p_move rfl) ?_
          refine q_val .none rfl (p_field Try.underlying140 rfl sz3 rfl) ?_
          refine q_val .none rfl (p_ld (k := 1) Try.underlying3 rfl rfl rfl (by first | exact of_decide_eq_true rfl | omega) (rfl : _ = Value.int _ _)) ?_
          refine q_val .none rfl (p_field Try.underlying140 rfl sz3 rfl) ?_
          refine q_val .none rfl (p_ld (k := 1) Try.underlying3 rfl rfl rfl (by first | exact of_decide_eq_true rfl | omega) (rfl : _ = Value.int _ _)) ?_
          refine q_iaddr_g .none rfl Try.underlying153 sz105 rfl hb rfl (by first | exact of_decide_eq_true rfl | omega) (fun p_6 o_7 R_5 => ?_)
          refine q_val .none rfl (p_iaddr (k := 0) Try.underlying105 sz3 rfl rfl (by first | exact of_decide_eq_true rfl | omega)) ?_
          have R_8 := RowAt.sub (j := 0 * 1) (m := 1) (RowAt.sub (j := 0) (m := 3) R_5 (by decide)) (by omega)
          refine q_val .none rfl (p_ldg0 Try.underlying3 rfl rfl R_8 (by first | exact of_decide_eq_true rfl | omega) (rfl : _ = Value.int _ _)) ?_
          refine q_val .none rfl (p_eq rfl rfl) ?_
          refine q_val .none rfl (p_assign rfl) ?_
          refine q_nil ?_
          refine e_next ?_
          refine c_ret ?_
          refine e_ret1 Try.results79 (.tmp rfl .nil) (fun w hm => ⟨?_, hm.since⟩)
          first
          | (rw [holds_out (by omega)]; done)
          | (rw [holds_back (by omega)]; rfl)
          | (rw [holds_own (by omega)]; rfl)
          )
       )
    )
theorem c_rholds11 (b : Int) (vb : Value) (bs : List Tri) (t : Tri) {G : Ghost} (hb1 : -1 ≤ b) (hb : SlL G vb 3 triL z3 bs) (w : World) (hG : Has G w) :
  Calls Try.prog 79 #[Value.agg #[Value.int .i64 1, Value.int .i64 b, Value.int .i64 1], vb, kT t] w (Ret fun r w' => r = Value.bool (holdsT (1, b, 1) bs t) ∧ Since nX w w') := by
 refine enter (args := [_, _, _]) (X := nX) (G := G) (l := [(0, Value.agg #[Value.int .i64 1, Value.int .i64 b, Value.int .i64 1]), (1, vb), (2, kT t)]) Try.func79 rfl Try.ntmps79 hG ⟨rfl, rfl, rfl, trivial⟩ (Nat.le_of_ble_eq_true rfl) ?_
 refine c_seq ?_
 refine c_region ?_
 refine r_box .none rfl rfl (IsRow.lit _) (fun b_1 => ?_)
 refine r_box .none rfl rfl (IsRow.lit _) (fun b_2 => ?_)
 refine r_val .none rfl (p_assign rfl) ?_
 refine r_nil ?_
 refine e_next ?_
 refine c_seq ?_
 refine c_seq ?_
 refine c_region ?_
 refine r_val .none rfl (p_field Try.underlying140 rfl sz3 rfl) ?_
 refine r_val .none rfl (p_ld (k := 1) Try.underlying3 rfl rfl rfl (by first | exact of_decide_eq_true rfl | omega) (rfl : _ = Value.int _ _)) ?_
 refine r_val .none rfl (p_eq rfl rfl) ?_
 refine r_nil ?_
 refine e_next ?_
 refine c_splitd (d := 9) rfl (fun h_1 => ?_) (fun h_1 => ?_)
 ·
  first
   | (exfalso; omega)
   | (
    refine c_cond_t rfl ?_
    refine c_seq ?_
    refine c_region_q mixed (by kernel_rfl) ?_
    refine q_val .none rfl (p_field Try.underlying140 rfl sz3 rfl) ?_
    refine q_val .none rfl (p_ld (k := 1) Try.underlying3 rfl rfl rfl (by first | exact of_decide_eq_true rfl | omega) (rfl : _ = Value.int _ _)) ?_
    refine q_val .none rfl (p_iaddr (k := 1) Try.underlying105 sz3 rfl rfl (by first | exact of_decide_eq_true rfl | omega)) ?_
    refine q_val .none rfl (p_ld (k := 0) Try.underlying3 rfl rfl rfl (by first | exact of_decide_eq_true rfl | omega) (rfl : _ = Value.int _ _)) ?_
    refine q_val .none rfl (p_field Try.underlying140 rfl sz3 rfl) ?_
    refine q_val .none rfl (p_ld (k := 1) Try.underlying3 rfl rfl rfl (by first | exact of_decide_eq_true rfl | omega) (rfl : _ = Value.int _ _)) ?_
    refine q_val .none rfl (p_iaddr (k := 1) Try.underlying105 sz3 rfl rfl (by first | exact of_decide_eq_true rfl | omega)) ?_
    refine q_val .none rfl (p_ld (k := 0) Try.underlying3 rfl rfl rfl (by first | exact of_decide_eq_true rfl | omega) (rfl : _ = Value.int _ _)) ?_
    refine q_val .none rfl (p_eq rfl rfl) ?_
    refine q_val .none rfl (p_assign rfl) ?_
    refine q_nil ?_
    refine e_next ?_
    refine c_ret ?_
    refine e_ret_then ?_
    refine e_ret1 Try.results79 (.tmp rfl .nil) (fun w hm => ⟨?_, hm.since⟩)
    first
    | (rw [holds_out (by omega)]; done)
    | (rw [holds_back (by omega)]; rfl)
    | (rw [holds_own (by omega)]; rfl)
    )
 ·
  first
   | (exfalso; omega)
   | (
    refine c_cond_f rfl ?_
    refine c_skip ?_
    refine e_next ?_
    refine c_seq ?_
    refine c_seq ?_
    refine c_region ?_
    refine r_val .none rfl (p_field Try.underlying140 rfl sz3 rfl) ?_
    refine r_val .none rfl (p_ld (k := 1) Try.underlying3 rfl rfl rfl (by first | exact of_decide_eq_true rfl | omega) (rfl : _ = Value.int _ _)) ?_
    refine r_val .none rfl (p_lt rfl rfl) ?_
    refine r_val .none rfl (p_move rfl) ?_
    refine r_splitd (d := 22) rfl (fun h_2 => ?_) (fun h_2 => ?_)
    ·
     first
      | (exfalso; omega)
      | (
       refine r_skip rfl (.no rfl rfl) ?_
       refine r_skip rfl (.no rfl rfl) ?_
       refine r_skip rfl (.no rfl rfl) ?_
       refine r_skip rfl (.no rfl rfl) ?_
       refine r_skip rfl (.no rfl rfl) ?_
       refine r_val .none rfl (p_pick_t rfl rfl) ?_
       refine r_nil ?_
       refine e_next ?_
       refine c_cond_t rfl ?_
       refine c_seq ?_
       refine c_region ?_
       refine r_val .none rfl (p_assign rfl) ?_
       refine r_nil ?_
       refine e_next ?_
       refine c_ret ?_
       refine e_ret_then ?_
       refine e_ret1 Try.results79 (.tmp rfl .nil) (fun w hm => ⟨?_, hm.since⟩)
       first
       | (rw [holds_out (by omega)]; done)
       | (rw [holds_back (by omega)]; rfl)
       | (rw [holds_own (by omega)]; rfl)
       )
    ·
     first
      | (exfalso; omega)
      | (
       refine r_val (.some rfl rfl) rfl (p_field Try.underlying140 rfl sz3 rfl) ?_
       refine r_val (.some rfl rfl) rfl (p_ld (k := 1) Try.underlying3 rfl rfl rfl (by first | exact of_decide_eq_true rfl | omega) (rfl : _ = Value.int _ _)) ?_
       refine r_val (.some rfl rfl) rfl (p_move rfl) ?_
       refine r_val (.some rfl rfl) rfl (p_leng Try.underlying153 rfl hb) ?_
       have bd_3 := (hb).bound
       refine r_val (.some rfl rfl) rfl (p_ge rfl rfl) ?_
       refine r_val .none rfl (p_pick_f rfl rfl) ?_
       refine r_nil ?_
       refine e_next ?_
       refine c_splitd (d := 28) rfl (fun h_4 => ?_) (fun h_4 => ?_)
       ·
        first
         | (exfalso; omega)
         | (
          refine c_cond_t rfl ?_
          refine c_seq ?_
          refine c_region ?_
          refine r_val .none rfl (p_assign rfl) ?_
          refine r_nil ?_
          refine e_next ?_
          refine c_ret ?_
          refine e_ret_then ?_
          refine e_ret1 Try.results79 (.tmp rfl .nil) (fun w hm => ⟨?_, hm.since⟩)
          first
          | (rw [holds_out (by omega)]; done)
          | (rw [holds_back (by omega)]; rfl)
          | (rw [holds_own (by omega)]; rfl)
          )
       ·
        first
         | (exfalso; omega)
         | (
          refine c_cond_f rfl ?_
          refine c_skip ?_
          refine e_next ?_
          refine c_seq ?_
          refine c_region_q mixed (by kernel_rfl) ?_
          refine q_val .none rfl (p_field Try.underlying140 rfl sz3 rfl) ?_
          obtain ⟨bn, rfl⟩ : ∃ bn : Nat, b = (bn : Int) := ⟨b.toNat, by omega⟩
          refine q_val .none rfl (p_ld (k := 1) Try.underlying3 rfl rfl rfl (by first | exact of_decide_eq_true rfl | omega) (rfl : _ = Value.int _ _)) ?_
          refine q_val .none rfl (p_iaddr (k := 1) Try.underlying105 sz3 rfl rfl (by first | exact of_decide_eq_true rfl | omega)) ?_
          refine q_val .none rfl (p_ld (k := 0) Try.underlying3 rfl rfl rfl (by first | exact of_decide_eq_true rfl | omega) (rfl : _ = Value.int _ _)) ?_
          refine q_val .none rfl (p_move rfl) ?_
          refine q_val .none rfl (p_field Try.underlying140 rfl sz3 rfl) ?_
          refine q_val .none rfl (p_ld (k := 1) Try.underlying3 rfl rfl rfl (by first | exact of_decide_eq_true rfl | omega) (rfl : _ = Value.int _ _)) ?_
          refine q_val .none rfl (p_field Try.underlying140 rfl sz3 rfl) ?_
          refine q_val .none rfl (p_ld (k := 1) Try.underlying3 rfl rfl rfl (by first | exact of_decide_eq_true rfl | omega) (rfl : _ = Value.int _ _)) ?_
          refine q_iaddr_g .none rfl Try.underlying153 sz105 rfl hb rfl (by first | exact of_decide_eq_true rfl | omega) (fun p_6 o_7 R_5 => ?_)
          refine q_val .none rfl (p_iaddr (k := 1) Try.underlying105 sz3 rfl rfl (by first | exact of_decide_eq_true rfl | omega)) ?_
          have R_8 := RowAt.sub (j := 1 * 1) (m := 1) (RowAt.sub (j := 0) (m := 3) R_5 (by decide)) (by omega)
          refine q_val .none rfl (p_ldg0 Try.underlying3 rfl rfl R_8 (by first | exact of_decide_eq_true rfl | omega) (rfl : _ = Value.int _ _)) ?_
          refine q_val .none rfl (p_eq rfl rfl) ?_
          refine q_val .none rfl (p_assign rfl) ?_
          refine q_nil ?_
          refine e_next ?_
          refine c_ret ?_
          refine e_ret1 Try.results79 (.tmp rfl .nil) (fun w hm => ⟨?_, hm.since⟩)
          first
          | (rw [holds_out (by omega)]; done)
          | (rw [holds_back (by omega)]; rfl)
          | (rw [holds_own (by omega)]; rfl)
          )
       )
    )
theorem c_rholds12 (b : Int) (vb : Value) (bs : List Tri) (t : Tri) {G : Ghost} (hb1 : -1 ≤ b) (hb : SlL G vb 3 triL z3 bs) (w : World) (hG : Has G w) :
  Calls Try.prog 79 #[Value.agg #[Value.int .i64 1, Value.int .i64 b, Value.int .i64 2], vb, kT t] w (Ret fun r w' => r = Value.bool (holdsT (1, b, 2) bs t) ∧ Since nX w w') := by
 refine enter (args := [_, _, _]) (X := nX) (G := G) (l := [(0, Value.agg #[Value.int .i64 1, Value.int .i64 b, Value.int .i64 2]), (1, vb), (2, kT t)]) Try.func79 rfl Try.ntmps79 hG ⟨rfl, rfl, rfl, trivial⟩ (Nat.le_of_ble_eq_true rfl) ?_
 refine c_seq ?_
 refine c_region ?_
 refine r_box .none rfl rfl (IsRow.lit _) (fun b_1 => ?_)
 refine r_box .none rfl rfl (IsRow.lit _) (fun b_2 => ?_)
 refine r_val .none rfl (p_assign rfl) ?_
 refine r_nil ?_
 refine e_next ?_
 refine c_seq ?_
 refine c_seq ?_
 refine c_region ?_
 refine r_val .none rfl (p_field Try.underlying140 rfl sz3 rfl) ?_
 refine r_val .none rfl (p_ld (k := 1) Try.underlying3 rfl rfl rfl (by first | exact of_decide_eq_true rfl | omega) (rfl : _ = Value.int _ _)) ?_
 refine r_val .none rfl (p_eq rfl rfl) ?_
 refine r_nil ?_
 refine e_next ?_
 refine c_splitd (d := 9) rfl (fun h_1 => ?_) (fun h_1 => ?_)
 ·
  first
   | (exfalso; omega)
   | (
    refine c_cond_t rfl ?_
    refine c_seq ?_
    refine c_region_q mixed (by kernel_rfl) ?_
    refine q_val .none rfl (p_field Try.underlying140 rfl sz3 rfl) ?_
    refine q_val .none rfl (p_ld (k := 1) Try.underlying3 rfl rfl rfl (by first | exact of_decide_eq_true rfl | omega) (rfl : _ = Value.int _ _)) ?_
    refine q_val .none rfl (p_iaddr (k := 1) Try.underlying105 sz3 rfl rfl (by first | exact of_decide_eq_true rfl | omega)) ?_
    refine q_val .none rfl (p_ld (k := 0) Try.underlying3 rfl rfl rfl (by first | exact of_decide_eq_true rfl | omega) (rfl : _ = Value.int _ _)) ?_
    refine q_val .none rfl (p_field Try.underlying140 rfl sz3 rfl) ?_
    refine q_val .none rfl (p_ld (k := 1) Try.underlying3 rfl rfl rfl (by first | exact of_decide_eq_true rfl | omega) (rfl : _ = Value.int _ _)) ?_
    refine q_val .none rfl (p_iaddr (k := 2) Try.underlying105 sz3 rfl rfl (by first | exact of_decide_eq_true rfl | omega)) ?_
    refine q_val .none rfl (p_ld (k := 0) Try.underlying3 rfl rfl rfl (by first | exact of_decide_eq_true rfl | omega) (rfl : _ = Value.int _ _)) ?_
    refine q_val .none rfl (p_eq rfl rfl) ?_
    refine q_val .none rfl (p_assign rfl) ?_
    refine q_nil ?_
    refine e_next ?_
    refine c_ret ?_
    refine e_ret_then ?_
    refine e_ret1 Try.results79 (.tmp rfl .nil) (fun w hm => ⟨?_, hm.since⟩)
    first
    | (rw [holds_out (by omega)]; done)
    | (rw [holds_back (by omega)]; rfl)
    | (rw [holds_own (by omega)]; rfl)
    )
 ·
  first
   | (exfalso; omega)
   | (
    refine c_cond_f rfl ?_
    refine c_skip ?_
    refine e_next ?_
    refine c_seq ?_
    refine c_seq ?_
    refine c_region ?_
    refine r_val .none rfl (p_field Try.underlying140 rfl sz3 rfl) ?_
    refine r_val .none rfl (p_ld (k := 1) Try.underlying3 rfl rfl rfl (by first | exact of_decide_eq_true rfl | omega) (rfl : _ = Value.int _ _)) ?_
    refine r_val .none rfl (p_lt rfl rfl) ?_
    refine r_val .none rfl (p_move rfl) ?_
    refine r_splitd (d := 22) rfl (fun h_2 => ?_) (fun h_2 => ?_)
    ·
     first
      | (exfalso; omega)
      | (
       refine r_skip rfl (.no rfl rfl) ?_
       refine r_skip rfl (.no rfl rfl) ?_
       refine r_skip rfl (.no rfl rfl) ?_
       refine r_skip rfl (.no rfl rfl) ?_
       refine r_skip rfl (.no rfl rfl) ?_
       refine r_val .none rfl (p_pick_t rfl rfl) ?_
       refine r_nil ?_
       refine e_next ?_
       refine c_cond_t rfl ?_
       refine c_seq ?_
       refine c_region ?_
       refine r_val .none rfl (p_assign rfl) ?_
       refine r_nil ?_
       refine e_next ?_
       refine c_ret ?_
       refine e_ret_then ?_
       refine e_ret1 Try.results79 (.tmp rfl .nil) (fun w hm => ⟨?_, hm.since⟩)
       first
       | (rw [holds_out (by omega)]; done)
       | (rw [holds_back (by omega)]; rfl)
       | (rw [holds_own (by omega)]; rfl)
       )
    ·
     first
      | (exfalso; omega)
      | (
       refine r_val (.some rfl rfl) rfl (p_field Try.underlying140 rfl sz3 rfl) ?_
       refine r_val (.some rfl rfl) rfl (p_ld (k := 1) Try.underlying3 rfl rfl rfl (by first | exact of_decide_eq_true rfl | omega) (rfl : _ = Value.int _ _)) ?_
       refine r_val (.some rfl rfl) rfl (p_move rfl) ?_
       refine r_val (.some rfl rfl) rfl (p_leng Try.underlying153 rfl hb) ?_
       have bd_3 := (hb).bound
       refine r_val (.some rfl rfl) rfl (p_ge rfl rfl) ?_
       refine r_val .none rfl (p_pick_f rfl rfl) ?_
       refine r_nil ?_
       refine e_next ?_
       refine c_splitd (d := 28) rfl (fun h_4 => ?_) (fun h_4 => ?_)
       ·
        first
         | (exfalso; omega)
         | (
          refine c_cond_t rfl ?_
          refine c_seq ?_
          refine c_region ?_
          refine r_val .none rfl (p_assign rfl) ?_
          refine r_nil ?_
          refine e_next ?_
          refine c_ret ?_
          refine e_ret_then ?_
          refine e_ret1 Try.results79 (.tmp rfl .nil) (fun w hm => ⟨?_, hm.since⟩)
          first
          | (rw [holds_out (by omega)]; done)
          | (rw [holds_back (by omega)]; rfl)
          | (rw [holds_own (by omega)]; rfl)
          )
       ·
        first
         | (exfalso; omega)
         | (
          refine c_cond_f rfl ?_
          refine c_skip ?_
          refine e_next ?_
          refine c_seq ?_
          refine c_region_q mixed (by kernel_rfl) ?_
          refine q_val .none rfl (p_field Try.underlying140 rfl sz3 rfl) ?_
          obtain ⟨bn, rfl⟩ : ∃ bn : Nat, b = (bn : Int) := ⟨b.toNat, by omega⟩
          refine q_val .none rfl (p_ld (k := 1) Try.underlying3 rfl rfl rfl (by first | exact of_decide_eq_true rfl | omega) (rfl : _ = Value.int _ _)) ?_
          refine q_val .none rfl (p_iaddr (k := 1) Try.underlying105 sz3 rfl rfl (by first | exact of_decide_eq_true rfl | omega)) ?_
          refine q_val .none rfl (p_ld (k := 0) Try.underlying3 rfl rfl rfl (by first | exact of_decide_eq_true rfl | omega) (rfl : _ = Value.int _ _)) ?_
          refine q_val .none rfl (p_move rfl) ?_
          refine q_val .none rfl (p_field Try.underlying140 rfl sz3 rfl) ?_
          refine q_val .none rfl (p_ld (k := 1) Try.underlying3 rfl rfl rfl (by first | exact of_decide_eq_true rfl | omega) (rfl : _ = Value.int _ _)) ?_
          refine q_val .none rfl (p_field Try.underlying140 rfl sz3 rfl) ?_
          refine q_val .none rfl (p_ld (k := 1) Try.underlying3 rfl rfl rfl (by first | exact of_decide_eq_true rfl | omega) (rfl : _ = Value.int _ _)) ?_
          refine q_iaddr_g .none rfl Try.underlying153 sz105 rfl hb rfl (by first | exact of_decide_eq_true rfl | omega) (fun p_6 o_7 R_5 => ?_)
          refine q_val .none rfl (p_iaddr (k := 2) Try.underlying105 sz3 rfl rfl (by first | exact of_decide_eq_true rfl | omega)) ?_
          have R_8 := RowAt.sub (j := 2 * 1) (m := 1) (RowAt.sub (j := 0) (m := 3) R_5 (by decide)) (by omega)
          refine q_val .none rfl (p_ldg0 Try.underlying3 rfl rfl R_8 (by first | exact of_decide_eq_true rfl | omega) (rfl : _ = Value.int _ _)) ?_
          refine q_val .none rfl (p_eq rfl rfl) ?_
          refine q_val .none rfl (p_assign rfl) ?_
          refine q_nil ?_
          refine e_next ?_
          refine c_ret ?_
          refine e_ret1 Try.results79 (.tmp rfl .nil) (fun w hm => ⟨?_, hm.since⟩)
          first
          | (rw [holds_out (by omega)]; done)
          | (rw [holds_back (by omega)]; rfl)
          | (rw [holds_own (by omega)]; rfl)
          )
       )
    )
theorem c_rholds20 (b : Int) (vb : Value) (bs : List Tri) (t : Tri) {G : Ghost} (hb1 : -1 ≤ b) (hb : SlL G vb 3 triL z3 bs) (w : World) (hG : Has G w) :
  Calls Try.prog 79 #[Value.agg #[Value.int .i64 2, Value.int .i64 b, Value.int .i64 0], vb, kT t] w (Ret fun r w' => r = Value.bool (holdsT (2, b, 0) bs t) ∧ Since nX w w') := by
 refine enter (args := [_, _, _]) (X := nX) (G := G) (l := [(0, Value.agg #[Value.int .i64 2, Value.int .i64 b, Value.int .i64 0]), (1, vb), (2, kT t)]) Try.func79 rfl Try.ntmps79 hG ⟨rfl, rfl, rfl, trivial⟩ (Nat.le_of_ble_eq_true rfl) ?_
 refine c_seq ?_
 refine c_region ?_
 refine r_box .none rfl rfl (IsRow.lit _) (fun b_1 => ?_)
 refine r_box .none rfl rfl (IsRow.lit _) (fun b_2 => ?_)
 refine r_val .none rfl (p_assign rfl) ?_
 refine r_nil ?_
 refine e_next ?_
 refine c_seq ?_
 refine c_seq ?_
 refine c_region ?_
 refine r_val .none rfl (p_field Try.underlying140 rfl sz3 rfl) ?_
 refine r_val .none rfl (p_ld (k := 1) Try.underlying3 rfl rfl rfl (by first | exact of_decide_eq_true rfl | omega) (rfl : _ = Value.int _ _)) ?_
 refine r_val .none rfl (p_eq rfl rfl) ?_
 refine r_nil ?_
 refine e_next ?_
 refine c_splitd (d := 9) rfl (fun h_1 => ?_) (fun h_1 => ?_)
 ·
  first
   | (exfalso; omega)
   | (
    refine c_cond_t rfl ?_
    refine c_seq ?_
    refine c_region_q mixed (by kernel_rfl) ?_
    refine q_val .none rfl (p_field Try.underlying140 rfl sz3 rfl) ?_
    refine q_val .none rfl (p_ld (k := 1) Try.underlying3 rfl rfl rfl (by first | exact of_decide_eq_true rfl | omega) (rfl : _ = Value.int _ _)) ?_
    refine q_val .none rfl (p_iaddr (k := 2) Try.underlying105 sz3 rfl rfl (by first | exact of_decide_eq_true rfl | omega)) ?_
    refine q_val .none rfl (p_ld (k := 0) Try.underlying3 rfl rfl rfl (by first | exact of_decide_eq_true rfl | omega) (rfl : _ = Value.int _ _)) ?_
    refine q_val .none rfl (p_field Try.underlying140 rfl sz3 rfl) ?_
    refine q_val .none rfl (p_ld (k := 1) Try.underlying3 rfl rfl rfl (by first | exact of_decide_eq_true rfl | omega) (rfl : _ = Value.int _ _)) ?_
    refine q_val .none rfl (p_iaddr (k := 0) Try.underlying105 sz3 rfl rfl (by first | exact of_decide_eq_true rfl | omega)) ?_
    refine q_val .none rfl (p_ld (k := 0) Try.underlying3 rfl rfl rfl (by first | exact of_decide_eq_true rfl | omega) (rfl : _ = Value.int _ _)) ?_
    refine q_val .none rfl (p_eq rfl rfl) ?_
    refine q_val .none rfl (p_assign rfl) ?_
    refine q_nil ?_
    refine e_next ?_
    refine c_ret ?_
    refine e_ret_then ?_
    refine e_ret1 Try.results79 (.tmp rfl .nil) (fun w hm => ⟨?_, hm.since⟩)
    first
    | (rw [holds_out (by omega)]; done)
    | (rw [holds_back (by omega)]; rfl)
    | (rw [holds_own (by omega)]; rfl)
    )
 ·
  first
   | (exfalso; omega)
   | (
    refine c_cond_f rfl ?_
    refine c_skip ?_
    refine e_next ?_
    refine c_seq ?_
    refine c_seq ?_
    refine c_region ?_
    refine r_val .none rfl (p_field Try.underlying140 rfl sz3 rfl) ?_
    refine r_val .none rfl (p_ld (k := 1) Try.underlying3 rfl rfl rfl (by first | exact of_decide_eq_true rfl | omega) (rfl : _ = Value.int _ _)) ?_
    refine r_val .none rfl (p_lt rfl rfl) ?_
    refine r_val .none rfl (p_move rfl) ?_
    refine r_splitd (d := 22) rfl (fun h_2 => ?_) (fun h_2 => ?_)
    ·
     first
      | (exfalso; omega)
      | (
       refine r_skip rfl (.no rfl rfl) ?_
       refine r_skip rfl (.no rfl rfl) ?_
       refine r_skip rfl (.no rfl rfl) ?_
       refine r_skip rfl (.no rfl rfl) ?_
       refine r_skip rfl (.no rfl rfl) ?_
       refine r_val .none rfl (p_pick_t rfl rfl) ?_
       refine r_nil ?_
       refine e_next ?_
       refine c_cond_t rfl ?_
       refine c_seq ?_
       refine c_region ?_
       refine r_val .none rfl (p_assign rfl) ?_
       refine r_nil ?_
       refine e_next ?_
       refine c_ret ?_
       refine e_ret_then ?_
       refine e_ret1 Try.results79 (.tmp rfl .nil) (fun w hm => ⟨?_, hm.since⟩)
       first
       | (rw [holds_out (by omega)]; done)
       | (rw [holds_back (by omega)]; rfl)
       | (rw [holds_own (by omega)]; rfl)
       )
    ·
     first
      | (exfalso; omega)
      | (
       refine r_val (.some rfl rfl) rfl (p_field Try.underlying140 rfl sz3 rfl) ?_
       refine r_val (.some rfl rfl) rfl (p_ld (k := 1) Try.underlying3 rfl rfl rfl (by first | exact of_decide_eq_true rfl | omega) (rfl : _ = Value.int _ _)) ?_
       refine r_val (.some rfl rfl) rfl (p_move rfl) ?_
       refine r_val (.some rfl rfl) rfl (p_leng Try.underlying153 rfl hb) ?_
       have bd_3 := (hb).bound
       refine r_val (.some rfl rfl) rfl (p_ge rfl rfl) ?_
       refine r_val .none rfl (p_pick_f rfl rfl) ?_
       refine r_nil ?_
       refine e_next ?_
       refine c_splitd (d := 28) rfl (fun h_4 => ?_) (fun h_4 => ?_)
       ·
        first
         | (exfalso; omega)
         | (
          refine c_cond_t rfl ?_
          refine c_seq ?_
          refine c_region ?_
          refine r_val .none rfl (p_assign rfl) ?_
          refine r_nil ?_
          refine e_next ?_
          refine c_ret ?_
          refine e_ret_then ?_
          refine e_ret1 Try.results79 (.tmp rfl .nil) (fun w hm => ⟨?_, hm.since⟩)
          first
          | (rw [holds_out (by omega)]; done)
          | (rw [holds_back (by omega)]; rfl)
          | (rw [holds_own (by omega)]; rfl)
          )
       ·
        first
         | (exfalso; omega)
         | (
          refine c_cond_f rfl ?_
          refine c_skip ?_
          refine e_next ?_
          refine c_seq ?_
          refine c_region_q mixed (by kernel_rfl) ?_
          refine q_val .none rfl (p_field Try.underlying140 rfl sz3 rfl) ?_
          obtain ⟨bn, rfl⟩ : ∃ bn : Nat, b = (bn : Int) := ⟨b.toNat, by omega⟩
          refine q_val .none rfl (p_ld (k := 1) Try.underlying3 rfl rfl rfl (by first | exact of_decide_eq_true rfl | omega) (rfl : _ = Value.int _ _)) ?_
          refine q_val .none rfl (p_iaddr (k := 2) Try.underlying105 sz3 rfl rfl (by first | exact of_decide_eq_true rfl | omega)) ?_
          refine q_val .none rfl (p_ld (k := 0) Try.underlying3 rfl rfl rfl (by first | exact of_decide_eq_true rfl | omega) (rfl : _ = Value.int _ _)) ?_
          refine q_val .none rfl (p_move rfl) ?_
          refine q_val .none rfl (p_field Try.underlying140 rfl sz3 rfl) ?_
          refine q_val .none rfl (p_ld (k := 1) Try.underlying3 rfl rfl rfl (by first | exact of_decide_eq_true rfl | omega) (rfl : _ = Value.int _ _)) ?_
          refine q_val .none rfl (p_field Try.underlying140 rfl sz3 rfl) ?_
          refine q_val .none rfl (p_ld (k := 1) Try.underlying3 rfl rfl rfl (by first | exact of_decide_eq_true rfl | omega) (rfl : _ = Value.int _ _)) ?_
          refine q_iaddr_g .none rfl Try.underlying153 sz105 rfl hb rfl (by first | exact of_decide_eq_true rfl | omega) (fun p_6 o_7 R_5 => ?_)
          refine q_val .none rfl (p_iaddr (k := 0) Try.underlying105 sz3 rfl rfl (by first | exact of_decide_eq_true rfl | omega)) ?_
          have R_8 := RowAt.sub (j := 0 * 1) (m := 1) (RowAt.sub (j := 0) (m := 3) R_5 (by decide)) (by omega)
          refine q_val .none rfl (p_ldg0 Try.underlying3 rfl rfl R_8 (by first | exact of_decide_eq_true rfl | omega) (rfl : _ = Value.int _ _)) ?_
          refine q_val .none rfl (p_eq rfl rfl) ?_
          refine q_val .none rfl (p_assign rfl) ?_
          refine q_nil ?_
          refine e_next ?_
          refine c_ret ?_
          refine e_ret1 Try.results79 (.tmp rfl .nil) (fun w hm => ⟨?_, hm.since⟩)
          first
          | (rw [holds_out (by omega)]; done)
          | (rw [holds_back (by omega)]; rfl)
          | (rw [holds_own (by omega)]; rfl)
          )
       )
    )
theorem c_rholds21 (b : Int) (vb : Value) (bs : List Tri) (t : Tri) {G : Ghost} (hb1 : -1 ≤ b) (hb : SlL G vb 3 triL z3 bs) (w : World) (hG : Has G w) :
  Calls Try.prog 79 #[Value.agg #[Value.int .i64 2, Value.int .i64 b, Value.int .i64 1], vb, kT t] w (Ret fun r w' => r = Value.bool (holdsT (2, b, 1) bs t) ∧ Since nX w w') := by
 refine enter (args := [_, _, _]) (X := nX) (G := G) (l := [(0, Value.agg #[Value.int .i64 2, Value.int .i64 b, Value.int .i64 1]), (1, vb), (2, kT t)]) Try.func79 rfl Try.ntmps79 hG ⟨rfl, rfl, rfl, trivial⟩ (Nat.le_of_ble_eq_true rfl) ?_
 refine c_seq ?_
 refine c_region ?_
 refine r_box .none rfl rfl (IsRow.lit _) (fun b_1 => ?_)
 refine r_box .none rfl rfl (IsRow.lit _) (fun b_2 => ?_)
 refine r_val .none rfl (p_assign rfl) ?_
 refine r_nil ?_
 refine e_next ?_
 refine c_seq ?_
 refine c_seq ?_
 refine c_region ?_
 refine r_val .none rfl (p_field Try.underlying140 rfl sz3 rfl) ?_
 refine r_val .none rfl (p_ld (k := 1) Try.underlying3 rfl rfl rfl (by first | exact of_decide_eq_true rfl | omega) (rfl : _ = Value.int _ _)) ?_
 refine r_val .none rfl (p_eq rfl rfl) ?_
 refine r_nil ?_
 refine e_next ?_
 refine c_splitd (d := 9) rfl (fun h_1 => ?_) (fun h_1 => ?_)
 ·
  first
   | (exfalso; omega)
   | (
    refine c_cond_t rfl ?_
    refine c_seq ?_
    refine c_region_q mixed (by kernel_rfl) ?_
    refine q_val .none rfl (p_field Try.underlying140 rfl sz3 rfl) ?_
    refine q_val .none rfl (p_ld (k := 1) Try.underlying3 rfl rfl rfl (by first | exact of_decide_eq_true rfl | omega) (rfl : _ = Value.int _ _)) ?_
    refine q_val .none rfl (p_iaddr (k := 2) Try.underlying105 sz3 rfl rfl (by first | exact of_decide_eq_true rfl | omega)) ?_
    refine q_val .none rfl (p_ld (k := 0) Try.underlying3 rfl rfl rfl (by first | exact of_decide_eq_true rfl | omega) (rfl : _ = Value.int _ _)) ?_
    refine q_val .none rfl (p_field Try.underlying140 rfl sz3 rfl) ?_
    refine q_val .none rfl (p_ld (k := 1) Try.underlying3 rfl rfl rfl (by first | exact of_decide_eq_true rfl | omega) (rfl : _ = Value.int _ _)) ?_
    refine q_val .none rfl (p_iaddr (k := 1) Try.underlying105 sz3 rfl rfl (by first | exact of_decide_eq_true rfl | omega)) ?_
    refine q_val .none rfl (p_ld (k := 0) Try.underlying3 rfl rfl rfl (by first | exact of_decide_eq_true rfl | omega) (rfl : _ = Value.int _ _)) ?_
    refine q_val .none rfl (p_eq rfl rfl) ?_
    refine q_val .none rfl (p_assign rfl) ?_
    refine q_nil ?_
    refine e_next ?_
    refine c_ret ?_
    refine e_ret_then ?_
    refine e_ret1 Try.results79 (.tmp rfl .nil) (fun w hm => ⟨?_, hm.since⟩)
    first
    | (rw [holds_out (by omega)]; done)
    | (rw [holds_back (by omega)]; rfl)
    | (rw [holds_own (by omega)]; rfl)
    )
 ·
  first
   | (exfalso; omega)
   | (
    refine c_cond_f rfl ?_
    refine c_skip ?_
    refine e_next ?_
    refine c_seq ?_
    refine c_seq ?_
    refine c_region ?_
    refine r_val .none rfl (p_field Try.underlying140 rfl sz3 rfl) ?_
    refine r_val .none rfl (p_ld (k := 1) Try.underlying3 rfl rfl rfl (by first | exact of_decide_eq_true rfl | omega) (rfl : _ = Value.int _ _)) ?_
    refine r_val .none rfl (p_lt rfl rfl) ?_
    refine r_val .none rfl (p_move rfl) ?_
    refine r_splitd (d := 22) rfl (fun h_2 => ?_) (fun h_2 => ?_)
    ·
     first
      | (exfalso; omega)
      | (
       refine r_skip rfl (.no rfl rfl) ?_
       refine r_skip rfl (.no rfl rfl) ?_
       refine r_skip rfl (.no rfl rfl) ?_
       refine r_skip rfl (.no rfl rfl) ?_
       refine r_skip rfl (.no rfl rfl) ?_
       refine r_val .none rfl (p_pick_t rfl rfl) ?_
       refine r_nil ?_
       refine e_next ?_
       refine c_cond_t rfl ?_
       refine c_seq ?_
       refine c_region ?_
       refine r_val .none rfl (p_assign rfl) ?_
       refine r_nil ?_
       refine e_next ?_
       refine c_ret ?_
       refine e_ret_then ?_
       refine e_ret1 Try.results79 (.tmp rfl .nil) (fun w hm => ⟨?_, hm.since⟩)
       first
       | (rw [holds_out (by omega)]; done)
       | (rw [holds_back (by omega)]; rfl)
       | (rw [holds_own (by omega)]; rfl)
       )
    ·
     first
      | (exfalso; omega)
      | (
       refine r_val (.some rfl rfl) rfl (p_field Try.underlying140 rfl sz3 rfl) ?_
       refine r_val (.some rfl rfl) rfl (p_ld (k := 1) Try.underlying3 rfl rfl rfl (by first | exact of_decide_eq_true rfl | omega) (rfl : _ = Value.int _ _)) ?_
       refine r_val (.some rfl rfl) rfl (p_move rfl) ?_
       refine r_val (.some rfl rfl) rfl (p_leng Try.underlying153 rfl hb) ?_
       have bd_3 := (hb).bound
       refine r_val (.some rfl rfl) rfl (p_ge rfl rfl) ?_
       refine r_val .none rfl (p_pick_f rfl rfl) ?_
       refine r_nil ?_
       refine e_next ?_
       refine c_splitd (d := 28) rfl (fun h_4 => ?_) (fun h_4 => ?_)
       ·
        first
         | (exfalso; omega)
         | (
          refine c_cond_t rfl ?_
          refine c_seq ?_
          refine c_region ?_
          refine r_val .none rfl (p_assign rfl) ?_
          refine r_nil ?_
          refine e_next ?_
          refine c_ret ?_
          refine e_ret_then ?_
          refine e_ret1 Try.results79 (.tmp rfl .nil) (fun w hm => ⟨?_, hm.since⟩)
          first
          | (rw [holds_out (by omega)]; done)
          | (rw [holds_back (by omega)]; rfl)
          | (rw [holds_own (by omega)]; rfl)
          )
       ·
        first
         | (exfalso; omega)
         | (
          refine c_cond_f rfl ?_
          refine c_skip ?_
          refine e_next ?_
          refine c_seq ?_
          refine c_region_q mixed (by kernel_rfl) ?_
          refine q_val .none rfl (p_field Try.underlying140 rfl sz3 rfl) ?_
          obtain ⟨bn, rfl⟩ : ∃ bn : Nat, b = (bn : Int) := ⟨b.toNat, by omega⟩
          refine q_val .none rfl (p_ld (k := 1) Try.underlying3 rfl rfl rfl (by first | exact of_decide_eq_true rfl | omega) (rfl : _ = Value.int _ _)) ?_
          refine q_val .none rfl (p_iaddr (k := 2) Try.underlying105 sz3 rfl rfl (by first | exact of_decide_eq_true rfl | omega)) ?_
          refine q_val .none rfl (p_ld (k := 0) Try.underlying3 rfl rfl rfl (by first | exact of_decide_eq_true rfl | omega) (rfl : _ = Value.int _ _)) ?_
          refine q_val .none rfl (p_move rfl) ?_
          refine q_val .none rfl (p_field Try.underlying140 rfl sz3 rfl) ?_
          refine q_val .none rfl (p_ld (k := 1) Try.underlying3 rfl rfl rfl (by first | exact of_decide_eq_true rfl | omega) (rfl : _ = Value.int _ _)) ?_
          refine q_val .none rfl (p_field Try.underlying140 rfl sz3 rfl) ?_
          refine q_val .none rfl (p_ld (k := 1) Try.underlying3 rfl rfl rfl (by first | exact of_decide_eq_true rfl | omega) (rfl : _ = Value.int _ _)) ?_
          refine q_iaddr_g .none rfl Try.underlying153 sz105 rfl hb rfl (by first | exact of_decide_eq_true rfl | omega) (fun p_6 o_7 R_5 => ?_)
          refine q_val .none rfl (p_iaddr (k := 1) Try.underlying105 sz3 rfl rfl (by first | exact of_decide_eq_true rfl | omega)) ?_
          have R_8 := RowAt.sub (j := 1 * 1) (m := 1) (RowAt.sub (j := 0) (m := 3) R_5 (by decide)) (by omega)
          refine q_val .none rfl (p_ldg0 Try.underlying3 rfl rfl R_8 (by first | exact of_decide_eq_true rfl | omega) (rfl : _ = Value.int _ _)) ?_
          refine q_val .none rfl (p_eq rfl rfl) ?_
          refine q_val .none rfl (p_assign rfl) ?_
          refine q_nil ?_
          refine e_next ?_
          refine c_ret ?_
          refine e_ret1 Try.results79 (.tmp rfl .nil) (fun w hm => ⟨?_, hm.since⟩)
          first
          | (rw [holds_out (by omega)]; done)
          | (rw [holds_back (by omega)]; rfl)
          | (rw [holds_own (by omega)]; rfl)
          )
       )
    )
theorem c_rholds22 (b : Int) (vb : Value) (bs : List Tri) (t : Tri) {G : Ghost} (hb1 : -1 ≤ b) (hb : SlL G vb 3 triL z3 bs) (w : World) (hG : Has G w) :
  Calls Try.prog 79 #[Value.agg #[Value.int .i64 2, Value.int .i64 b, Value.int .i64 2], vb, kT t] w (Ret fun r w' => r = Value.bool (holdsT (2, b, 2) bs t) ∧ Since nX w w') := by
 refine enter (args := [_, _, _]) (X := nX) (G := G) (l := [(0, Value.agg #[Value.int .i64 2, Value.int .i64 b, Value.int .i64 2]), (1, vb), (2, kT t)]) Try.func79 rfl Try.ntmps79 hG ⟨rfl, rfl, rfl, trivial⟩ (Nat.le_of_ble_eq_true rfl) ?_
 refine c_seq ?_
 refine c_region ?_
 refine r_box .none rfl rfl (IsRow.lit _) (fun b_1 => ?_)
 refine r_box .none rfl rfl (IsRow.lit _) (fun b_2 => ?_)
 refine r_val .none rfl (p_assign rfl) ?_
 refine r_nil ?_
 refine e_next ?_
 refine c_seq ?_
 refine c_seq ?_
 refine c_region ?_
 refine r_val .none rfl (p_field Try.underlying140 rfl sz3 rfl) ?_
 refine r_val .none rfl (p_ld (k := 1) Try.underlying3 rfl rfl rfl (by first | exact of_decide_eq_true rfl | omega) (rfl : _ = Value.int _ _)) ?_
 refine r_val .none rfl (p_eq rfl rfl) ?_
 refine r_nil ?_
 refine e_next ?_
 refine c_splitd (d := 9) rfl (fun h_1 => ?_) (fun h_1 => ?_)
 ·
  first
   | (exfalso; omega)
   | (
    refine c_cond_t rfl ?_
    refine c_seq ?_
    refine c_region_q mixed (by kernel_rfl) ?_
    refine q_val .none rfl (p_field Try.underlying140 rfl sz3 rfl) ?_
    refine q_val .none rfl (p_ld (k := 1) Try.underlying3 rfl rfl rfl (by first | exact of_decide_eq_true rfl | omega) (rfl : _ = Value.int _ _)) ?_
    refine q_val .none rfl (p_iaddr (k := 2) Try.underlying105 sz3 rfl rfl (by first | exact of_decide_eq_true rfl | omega)) ?_
    refine q_val .none rfl (p_ld (k := 0) Try.underlying3 rfl rfl rfl (by first | exact of_decide_eq_true rfl | omega) (rfl : _ = Value.int _ _)) ?_
    refine q_val .none rfl (p_field Try.underlying140 rfl sz3 rfl) ?_
    refine q_val .none rfl (p_ld (k := 1) Try.underlying3 rfl rfl rfl (by first | exact of_decide_eq_true rfl | omega) (rfl : _ = Value.int _ _)) ?_
    refine q_val .none rfl (p_iaddr (k := 2) Try.underlying105 sz3 rfl rfl (by first | exact of_decide_eq_true rfl | omega)) ?_
    refine q_val .none rfl (p_ld (k := 0) Try.underlying3 rfl rfl rfl (by first | exact of_decide_eq_true rfl | omega) (rfl : _ = Value.int _ _)) ?_
    refine q_val .none rfl (p_eq rfl rfl) ?_
    refine q_val .none rfl (p_assign rfl) ?_
    refine q_nil ?_
    refine e_next ?_
    refine c_ret ?_
    refine e_ret_then ?_
    refine e_ret1 Try.results79 (.tmp rfl .nil) (fun w hm => ⟨?_, hm.since⟩)
    first
    | (rw [holds_out (by omega)]; done)
    | (rw [holds_back (by omega)]; rfl)
    | (rw [holds_own (by omega)]; rfl)
    )
 ·
  first
   | (exfalso; omega)
   | (
    refine c_cond_f rfl ?_
    refine c_skip ?_
    refine e_next ?_
    refine c_seq ?_
    refine c_seq ?_
    refine c_region ?_
    refine r_val .none rfl (p_field Try.underlying140 rfl sz3 rfl) ?_
    refine r_val .none rfl (p_ld (k := 1) Try.underlying3 rfl rfl rfl (by first | exact of_decide_eq_true rfl | omega) (rfl : _ = Value.int _ _)) ?_
    refine r_val .none rfl (p_lt rfl rfl) ?_
    refine r_val .none rfl (p_move rfl) ?_
    refine r_splitd (d := 22) rfl (fun h_2 => ?_) (fun h_2 => ?_)
    ·
     first
      | (exfalso; omega)
      | (
       refine r_skip rfl (.no rfl rfl) ?_
       refine r_skip rfl (.no rfl rfl) ?_
       refine r_skip rfl (.no rfl rfl) ?_
       refine r_skip rfl (.no rfl rfl) ?_
       refine r_skip rfl (.no rfl rfl) ?_
       refine r_val .none rfl (p_pick_t rfl rfl) ?_
       refine r_nil ?_
       refine e_next ?_
       refine c_cond_t rfl ?_
       refine c_seq ?_
       refine c_region ?_
       refine r_val .none rfl (p_assign rfl) ?_
       refine r_nil ?_
       refine e_next ?_
       refine c_ret ?_
       refine e_ret_then ?_
       refine e_ret1 Try.results79 (.tmp rfl .nil) (fun w hm => ⟨?_, hm.since⟩)
       first
       | (rw [holds_out (by omega)]; done)
       | (rw [holds_back (by omega)]; rfl)
       | (rw [holds_own (by omega)]; rfl)
       )
    ·
     first
      | (exfalso; omega)
      | (
       refine r_val (.some rfl rfl) rfl (p_field Try.underlying140 rfl sz3 rfl) ?_
       refine r_val (.some rfl rfl) rfl (p_ld (k := 1) Try.underlying3 rfl rfl rfl (by first | exact of_decide_eq_true rfl | omega) (rfl : _ = Value.int _ _)) ?_
       refine r_val (.some rfl rfl) rfl (p_move rfl) ?_
       refine r_val (.some rfl rfl) rfl (p_leng Try.underlying153 rfl hb) ?_
       have bd_3 := (hb).bound
       refine r_val (.some rfl rfl) rfl (p_ge rfl rfl) ?_
       refine r_val .none rfl (p_pick_f rfl rfl) ?_
       refine r_nil ?_
       refine e_next ?_
       refine c_splitd (d := 28) rfl (fun h_4 => ?_) (fun h_4 => ?_)
       ·
        first
         | (exfalso; omega)
         | (
          refine c_cond_t rfl ?_
          refine c_seq ?_
          refine c_region ?_
          refine r_val .none rfl (p_assign rfl) ?_
          refine r_nil ?_
          refine e_next ?_
          refine c_ret ?_
          refine e_ret_then ?_
          refine e_ret1 Try.results79 (.tmp rfl .nil) (fun w hm => ⟨?_, hm.since⟩)
          first
          | (rw [holds_out (by omega)]; done)
          | (rw [holds_back (by omega)]; rfl)
          | (rw [holds_own (by omega)]; rfl)
          )
       ·
        first
         | (exfalso; omega)
         | (
          refine c_cond_f rfl ?_
          refine c_skip ?_
          refine e_next ?_
          refine c_seq ?_
          refine c_region_q mixed (by kernel_rfl) ?_
          refine q_val .none rfl (p_field Try.underlying140 rfl sz3 rfl) ?_
          obtain ⟨bn, rfl⟩ : ∃ bn : Nat, b = (bn : Int) := ⟨b.toNat, by omega⟩
          refine q_val .none rfl (p_ld (k := 1) Try.underlying3 rfl rfl rfl (by first | exact of_decide_eq_true rfl | omega) (rfl : _ = Value.int _ _)) ?_
          refine q_val .none rfl (p_iaddr (k := 2) Try.underlying105 sz3 rfl rfl (by first | exact of_decide_eq_true rfl | omega)) ?_
          refine q_val .none rfl (p_ld (k := 0) Try.underlying3 rfl rfl rfl (by first | exact of_decide_eq_true rfl | omega) (rfl : _ = Value.int _ _)) ?_
          refine q_val .none rfl (p_move rfl) ?_
          refine q_val .none rfl (p_field Try.underlying140 rfl sz3 rfl) ?_
          refine q_val .none rfl (p_ld (k := 1) Try.underlying3 rfl rfl rfl (by first | exact of_decide_eq_true rfl | omega) (rfl : _ = Value.int _ _)) ?_
          refine q_val .none rfl (p_field Try.underlying140 rfl sz3 rfl) ?_
          refine q_val .none rfl (p_ld (k := 1) Try.underlying3 rfl rfl rfl (by first | exact of_decide_eq_true rfl | omega) (rfl : _ = Value.int _ _)) ?_
          refine q_iaddr_g .none rfl Try.underlying153 sz105 rfl hb rfl (by first | exact of_decide_eq_true rfl | omega) (fun p_6 o_7 R_5 => ?_)
          refine q_val .none rfl (p_iaddr (k := 2) Try.underlying105 sz3 rfl rfl (by first | exact of_decide_eq_true rfl | omega)) ?_
          have R_8 := RowAt.sub (j := 2 * 1) (m := 1) (RowAt.sub (j := 0) (m := 3) R_5 (by decide)) (by omega)
          refine q_val .none rfl (p_ldg0 Try.underlying3 rfl rfl R_8 (by first | exact of_decide_eq_true rfl | omega) (rfl : _ = Value.int _ _)) ?_
          refine q_val .none rfl (p_eq rfl rfl) ?_
          refine q_val .none rfl (p_assign rfl) ?_
          refine q_nil ?_
          refine e_next ?_
          refine c_ret ?_
          refine e_ret1 Try.results79 (.tmp rfl .nil) (fun w hm => ⟨?_, hm.since⟩)
          first
          | (rw [holds_out (by omega)]; done)
          | (rw [holds_back (by omega)]; rfl)
          | (rw [holds_own (by omega)]; rfl)
          )
       )
    )
theorem c_rholds (x : TD) (vb : Value) (bs : List Tri) (t : Tri) {G : Ghost} (hx : OkT x) (hb : SlL G vb 3 triL z3 bs) (w : World) (hG : Has G w) : Calls Try.prog 79 #[Value.agg #[Value.int .i64 x.1, Value.int .i64 x.2.1, Value.int .i64 x.2.2], vb, kT t] w (Ret fun r w' => r = Value.bool (holdsT x bs t) ∧ Since nX w w') := by
 obtain ⟨f, b, o⟩ := x
 obtain ⟨hf, hbb, ho⟩ := hx
 dsimp only at hf hbb ho ⊢
 rcases hf with rfl | rfl | rfl <;> rcases ho with rfl | rfl | rfl
 · exact c_rholds00 b vb bs t hbb.1 hb w hG
 · exact c_rholds01 b vb bs t hbb.1 hb w hG
 · exact c_rholds02 b vb bs t hbb.1 hb w hG
 · exact c_rholds10 b vb bs t hbb.1 hb w hG
 · exact c_rholds11 b vb bs t hbb.1 hb w hG
 · exact c_rholds12 b vb bs t hbb.1 hb w hG
 · exact c_rholds20 b vb bs t hbb.1 hb w hG
 · exact c_rholds21 b vb bs t hbb.1 hb w hG
 · exact c_rholds22 b vb bs t hbb.1 hb w hG
theorem c_rmeets (k : Int) (key : Tri) (ts : List TD) (tv uv : Value) (vb : Value) (bs : List Tri) (t : Tri) {G : Ghost} (hok : ∀ x ∈ ts, OkT x) (ht : SlL G tv 3 tC t0 ts) (hb : SlL G vb 3 triL z3 bs) (w : World) (hG : Has G w) :
  Calls Try.prog 64 #[Value.agg #[Value.int .i64 k, Value.int .i64 key.1, Value.int .i64 key.2.1, Value.int .i64 key.2.2, tv, uv], vb, kT t] w (Ret fun r w' => r = Value.bool (meets k key ts bs t) ∧ Since nX w w') := by
 refine enter (args := [_, _, _]) (X := nX) (G := G) (l := [(0, Value.agg #[Value.int .i64 k, Value.int .i64 key.1, Value.int .i64 key.2.1, Value.int .i64 key.2.2, tv, uv]), (1, vb), (2, kT t)]) Try.func64 rfl Try.ntmps64 hG ⟨rfl, rfl, rfl, trivial⟩ (Nat.le_of_ble_eq_true rfl) ?_
 refine c_seq ?_
 refine c_region ?_
 refine r_box .none rfl rfl (IsRow.lit _) (fun b_1 => ?_)
 refine r_box .none rfl rfl (IsRow.lit _) (fun b_2 => ?_)
 refine r_val .none rfl (p_assign rfl) ?_
 refine r_nil ?_
 refine e_next ?_
 refine c_seq ?_
 refine c_seq ?_
 refine c_region ?_
 refine r_val .none rfl (p_field Try.underlying116 rfl sz3 rfl) ?_
 refine r_val .none rfl (p_ld (k := 1) Try.underlying3 rfl rfl rfl (by first | exact of_decide_eq_true rfl | omega) (rfl : _ = Value.int _ _)) ?_
 refine r_val .none rfl (p_eq rfl rfl) ?_
 refine r_val .none rfl (p_move rfl) ?_
 refine' r_or (c := 12) (d := 18) [_, _, _, _, _, _] rfl (fun h_1 Q_2 hQ_3 => ?_) (fun h_1 Q_2 hQ_3 => ?_) ?_
 rotate_left 1
 ·
  replace h_1 := of_decide_eq_false h_1
  refine r_val (.some rfl rfl) rfl (p_ldw (k := 0) Try.underlying105 rfl sz105 rfl rfl (rfl : _ = Value.agg #[_, _, _])) ?_
  refine r_val (.some rfl rfl) rfl (p_field Try.underlying116 rfl sz105 rfl) ?_
  refine r_val (.some rfl rfl) rfl (p_lda (k := 1) Try.underlying105 rfl sz105 rfl rfl (by first | exact of_decide_eq_true rfl | omega) (rfl : _ = Value.agg #[_, _, _])) ?_
  refine r_call (vs := [_, _]) (.some rfl rfl) rfl cl78 rfl (fun w hw => c_rhas7 t key w) ?_
  refine r_val (.some rfl rfl) rfl (p_not rfl) ?_
  refine r_val .none rfl (p_pick_f rfl rfl) ?_
  refine r_nil (e_fin (d := 18) hQ_3 rfl (by repeat (first | exact .refl | refine .put rfl ?_ | refine .say rfl ?_ | refine .say2 rfl (by first | assumption | simp_all) ?_)))
 ·
  repeat (first | refine r_skip rfl (.no rfl rfl) ?_ | refine r_skip rfl (.un rfl rfl) ?_)
  refine r_val (by first | exact .none | exact .some rfl rfl) rfl (p_pick_t rfl rfl) ?_
  refine r_nil (e_fin (d := 18) hQ_3 rfl (by repeat (first | exact .refl | refine .put rfl ?_ | refine .say rfl ?_ | refine .say2 rfl (by first | assumption | simp_all) ?_)))
 refine r_nil ?_
 refine e_next ?_
 refine c_split (d := 18) rfl (fun h_5 => ?_) (fun h_5 => ?_)
 ·
  try simp only [norms] at h_5
  have hC := h_5
  first
   | (exfalso; omega)
   | (
    refine c_cond_t rfl ?_
    refine c_seq ?_
    refine c_region ?_
    refine r_val .none rfl (p_assign rfl) ?_
    refine r_nil ?_
    refine e_next ?_
    refine c_ret ?_
    refine e_ret_then ?_
    refine e_ret1 Try.results64 (.tmp rfl .nil) (fun w hm => ⟨?_, hm.since⟩)
    unfold meets
    first
    | (rw [if_pos hC]; done)
    | (rw [if_neg (by rintro (h | h); exact hC.1 h; rw [hC.2] at h; cases h), ← hphi.2, all_drop (k := j) (by omega), hE]; rfl)
    | (rw [if_neg (by rintro (h | h); exact hC.1 h; rw [hC.2] at h; cases h), ← hphi.2, List.drop_eq_nil_of_le (by omega)]; rfl)
    )
 ·
  try simp only [norms] at h_5
  have hC := h_5
  first
   | (exfalso; omega)
   | (
    refine c_cond_f rfl ?_
    refine c_skip ?_
    refine e_next ?_
    refine c_seq ?_
    refine c_seq ?_
    refine c_region ?_
    refine r_val .none rfl (p_field Try.underlying116 rfl sz114 rfl) ?_
    refine r_val .none rfl (p_ld (k := 1) Try.underlying114 rfl rfl rfl (by first | exact of_decide_eq_true rfl | omega) rfl) ?_
    refine r_val .none rfl (p_leng Try.underlying114 rfl ht) ?_
    have bd_6 := (ht).bound
    refine r_val .none rfl (p_move rfl) ?_
    refine r_nil ?_
    refine e_next ?_
    refine c_block ?_
    refine c_name (d := 1) rfl (fun u_7 hu_7 => ?_)
    refine c_name (d := 5) rfl (fun u_8 hu_8 => ?_)
    refine c_name (d := 20) rfl (fun u_9 hu_9 => ?_)
    refine c_name (d := 21) rfl (fun u_10 hu_10 => ?_)
    refine c_nameL (k := 0) rfl (fun A_11 hA_11 => ?_)
    refine c_nameL (k := 1) rfl (fun A_12 hA_12 => ?_)
    refine c_loop (σ := Nat) (fun j => [(22, Value.int .i64 (j : Nat)), (1, u_7), (5, u_8), (20, u_9), (21, u_10)]) (fun j => [A_11, A_12]) (fun _ => _) (fun j => j ≤ ts.length ∧ (ts.drop j).all (fun x => holdsT x bs t) = ts.all fun x => holdsT x bs t) (fun j => ts.length - j) (0) ⟨Nat.zero_le _, rfl⟩ rfl ⟨rfl, rfl, rfl, rfl, rfl, trivial⟩ (.keep (fun _ _ h => h) (.keep (fun _ _ h => h) (.nil))) (fun j hphi => ?_)
    subst hu_7
    subst hu_8
    subst hu_9
    subst hu_10
    subst hA_11
    subst hA_12
    refine c_seq ?_
    refine c_region ?_
    refine r_val .none rfl (p_lt rfl rfl) ?_
    refine r_nil ?_
    refine e_next ?_
    refine c_seq ?_
    refine c_splitd (d := 23) rfl (fun h_13 => ?_) (fun h_13 => ?_)
    ·
     first
      | (exfalso; omega)
      | (
       refine c_cond_t rfl ?_
       refine c_skip ?_
       refine e_next ?_
       refine c_seq ?_
       refine c_block ?_
       refine c_seq ?_
       refine c_region ?_
       refine r_iaddr_g .none rfl Try.underlying114 sz140 rfl ht rfl (by first | exact of_decide_eq_true rfl | omega) (fun p_15 o_16 R_14 => ?_)
       refine r_val .none rfl (p_ldga0 Try.underlying140 rfl sz140 rfl R_14 (by first | exact of_decide_eq_true rfl | omega) (rfl : _ = Value.agg #[_, _, _])) ?_
       refine r_alloc .none rfl zr140 (IsRow.lit _) (fun b_3 => ?_)
       refine r_stw (k := 0) .none sz140 rfl rfl (IsRow.lit _) (one_lit rfl rfl) rfl ?_
       refine r_nil ?_
       refine e_next ?_
       refine c_seq ?_
       refine c_region ?_
       refine r_val .none rfl (p_ldw (k := 0) Try.underlying140 rfl sz140 rfl rfl (rfl : _ = Value.agg #[_, _, _])) ?_
       refine r_val .none rfl (p_move rfl) ?_
       refine r_val .none rfl (p_ldw (k := 1) Try.underlying105 rfl sz105 rfl rfl (rfl : _ = Value.agg #[_, _, _])) ?_
       refine r_call (vs := [_, _, _]) .none rfl cl79 rfl (fun w hw => c_rholds _ _ _ _ (hok _ (getD_mem (d := t0) (by omega))) hb w hw) ?_
       refine r_val .none rfl (p_not rfl) ?_
       refine r_nil ?_
       refine e_next ?_
       refine c_splitn (d := 30) rfl (fun h_17 => ?_) (fun h_17 => ?_)
       ·
        have hE : holdsT (ts.getD j t0) bs t = false := h_17
        first
         | (exfalso; omega)
         | (
          refine c_cond_t rfl ?_
          refine c_seq ?_
          refine c_region ?_
          refine r_val .none rfl (p_assign rfl) ?_
          refine r_nil ?_
          refine e_next ?_
          refine c_ret ?_
          refine e_ret_block ?_
          refine e_ret_then ?_
          refine e_ret_then ?_
          refine e_ret_block ?_
          refine e_ret_then ?_
          refine e_ret1 Try.results64 (.tmp rfl .nil) (fun w hm => ⟨?_, hm.since⟩)
          unfold meets
          first
          | (rw [if_pos hC]; done)
          | (rw [if_neg (by rintro (h | h); exact hC.1 h; rw [hC.2] at h; cases h), ← hphi.2, all_drop (k := j) (by omega), hE]; rfl)
          | (rw [if_neg (by rintro (h | h); exact hC.1 h; rw [hC.2] at h; cases h), ← hphi.2, List.drop_eq_nil_of_le (by omega)]; rfl)
          )
       ·
        have hE : holdsT (ts.getD j t0) bs t = true := h_17
        first
         | (exfalso; omega)
         | (
          refine c_cond_f rfl ?_
          refine c_skip ?_
          refine e_norm_block ?_
          refine e_next ?_
          refine c_region ?_
          refine r_val .none rfl (p_add rfl rfl (by omega)) ?_
          refine r_val .none rfl (p_move rfl) ?_
          refine r_nil ?_
          refine e_round (j + 1) ⟨⟨by omega, by rw [← hphi.2, all_drop (k := j) (by omega), hE, Bool.true_and]⟩, by omega⟩ rfl ⟨rfl, rfl, rfl, rfl, rfl, trivial⟩ (.drop (.keep (fun _ _ h => h) (.keep (fun _ _ h => h) (.nil))))
          )
       )
    ·
     first
      | (exfalso; omega)
      | (
       refine c_cond_f rfl ?_
       refine c_exit ?_
       refine e_exit_then ?_
       refine e_exit_then ?_
       refine e_exit_block ?_
       refine e_next ?_
       refine c_seq ?_
       refine c_region ?_
       refine r_val .none rfl (p_assign rfl) ?_
       refine r_nil ?_
       refine e_next ?_
       refine c_ret ?_
       refine e_ret1 Try.results64 (.tmp rfl .nil) (fun w hm => ⟨?_, hm.since⟩)
       unfold meets
       first
       | (rw [if_pos hC]; done)
       | (rw [if_neg (by rintro (h | h); exact hC.1 h; rw [hC.2] at h; cases h), ← hphi.2, all_drop (k := j) (by omega), hE]; rfl)
       | (rw [if_neg (by rintro (h | h); exact hC.1 h; rw [hC.2] at h; cases h), ← hphi.2, List.drop_eq_nil_of_le (by omega)]; rfl)
       )
    )
end Go.Proofs.Ytpadfgomhojjnaa

/- Plain laws for the walk of the matches by steps; no program in sight. -/
namespace Go.Gx.T14
open Go.Gx Go.Gx.T3 Go.Gx.T4 Go.Gx.T6 Go.Gx.T8 Go.Gx.T13
mutual
/-- Kinds are 1, 2 or 3, at any depth. -/
def kdS : ST → Prop
  | .mk h s => (h.k = 1 ∨ h.k = 2 ∨ h.k = 3) ∧ kdL s
def kdL : List ST → Prop
  | [] => True
  | c :: t => kdS c ∧ kdL t
end
theorem kdS_eq (c : ST) : kdS c = ((c.h.k = 1 ∨ c.h.k = 2 ∨ c.h.k = 3) ∧ kdL c.subs) := by cases c; rw [kdS]; rfl
theorem kdL_cons {c : ST} {t : List ST} (h : kdL (c :: t)) : ((c.h.k = 1 ∨ c.h.k = 2 ∨ c.h.k = 3) ∧ kdL c.subs) ∧ kdL t := by
  rw [kdL, kdS_eq] at h; exact h
theorem kdL_take : ∀ {l : List ST} (k : Nat), kdL l → kdL (l.take k)
  | [], k, h => by simpa using h
  | c :: t, 0, _ => by rw [List.take_zero, kdL]; trivial
  | c :: t, k + 1, h => by
    rw [kdL] at h
    rw [List.take_succ_cons, kdL]
    exact ⟨h.1, kdL_take k h.2⟩
theorem kdL_drop : ∀ {l : List ST} (k : Nat), kdL l → kdL (l.drop k)
  | [], k, h => by simpa using h
  | c :: t, 0, h => h
  | c :: t, k + 1, h => by
    rw [kdL] at h
    rw [List.drop_succ_cons]
    exact kdL_drop k h.2
theorem okSL_drop : ∀ {l : List ST} (k : Nat), okSL l → okSL (l.drop k)
  | [], k, h => by simpa using h
  | c :: t, 0, h => h
  | c :: t, k + 1, h => by
    rw [okSL] at h
    rw [List.drop_succ_cons]
    exact okSL_drop k h.2
theorem sszL_drop : ∀ (l : List ST) (k : Nat), sszL (l.drop k) ≤ sszL l
  | [], k => by simp
  | c :: t, 0 => by simp
  | c :: t, k + 1 => by
    rw [List.drop_succ_cons, sszL]
    have := sszL_drop t k
    omega
mutual
def spC : ST → Nat
  | .mk _ s => spL s
def spL : List ST → Nat
  | [] => 0
  | c :: t => (if c.h.k = 1 then 1 else 0) + spC c + spL t
end
theorem spC_eq (c : ST) : spC c = spL c.subs := by cases c; rw [spC]; rfl
theorem spL_cons (c : ST) (t : List ST) : spL (c :: t) = (if c.h.k = 1 then 1 else 0) + spL c.subs + spL t := by rw [spL, spC_eq]
theorem sPos_sp : ∀ l : List ST, sPos l ≤ spL l
  | [] => by rw [sPos]; omega
  | c :: t => by
    have := sPos_sp t
    rw [sPos, spL_cons]; omega
theorem spL_take : ∀ (l : List ST) (k : Nat), spL (l.take k) ≤ spL l
  | [], k => by simp
  | c :: t, 0 => by rw [List.take_zero, spL]; omega
  | c :: t, k + 1 => by
    rw [List.take_succ_cons, spL_cons, spL_cons]
    have := spL_take t k
    omega
theorem spL_drop : ∀ (l : List ST) (k : Nat), spL (l.drop k) ≤ spL l
  | [], k => by simp
  | c :: t, 0 => by simp
  | c :: t, k + 1 => by
    rw [List.drop_succ_cons, spL_cons]
    have := spL_drop t k
    omega
mutual
theorem spC_step : ∀ (c : CT) (ch : List CT), spL (stepOf ch c).subs ≤ posL c.subs
  | .mk h s, ch => by
    by_cases e : h.k = 3
    · rw [stepOf_ncc (c := .mk h s) e]
      exact spL_steps s ch
    · rw [stepOf_other (c := .mk h s) e]
      show spL [] ≤ _
      rw [spL]; omega
theorem spL_steps : ∀ (l ch : List CT), spL (stepsOf ch l) ≤ posL l
  | [], ch => by rw [stepsOf, spL]; omega
  | c :: t, ch => by
    have h1 := spC_step c ch
    have h2 := spL_steps t (ch ++ [c])
    have hk : (stepOf ch c).h.k = c.h.k := by
      by_cases h : c.h.k = 3
      · rw [stepOf_ncc h]; rfl
      · rw [stepOf_other h]; rfl
    rw [stepsOf, spL_cons, posL_cons, hk]
    omega
end
mutual
theorem kdS_step : ∀ (c : CT) (ch : List CT) (d : Int), check c d = 0 → kdS (stepOf ch c)
  | .mk h s, ch, d, hc => by
    rw [kdS_eq]
    rcases check_right hc with ⟨h3, hcs⟩ | ⟨h12, _, _⟩
    · rw [stepOf_ncc (c := .mk h s) h3]
      exact ⟨.inr (.inr h3), kdL_steps s ch _ hcs⟩
    · rw [stepOf_other (c := .mk h s) (by show h.k ≠ 3; omega)]
      exact ⟨h12.elim .inl (fun h => .inr (.inl h)), by show kdL []; rw [kdL]; trivial⟩
theorem kdL_steps : ∀ (l ch : List CT) (d : Int), checkL l d = 0 → kdL (stepsOf ch l)
  | [], ch, d, _ => by rw [stepsOf, kdL]; trivial
  | c :: t, ch, d, hc => by
    have h := checkL_right hc
    rw [stepsOf, kdL]
    exact ⟨kdS_step c ch d h.1, kdL_steps t (ch ++ [c]) d h.2⟩
end
theorem spow_rest {n : Nat} {c : ST} {t : List ST} (h : (n + 1) ^ spL (c :: t) ≤ 3000) : (n + 1) ^ spL t ≤ 3000 := Nat.le_trans (Nat.pow_le_pow_right (by omega) (by rw [spL_cons]; omega)) h
theorem spow_subs {n : Nat} {c : ST} {t : List ST} (h : (n + 1) ^ spL (c :: t) ≤ 3000) : (n + 1) ^ spL c.subs ≤ 3000 := Nat.le_trans (Nat.pow_le_pow_right (by omega) (by rw [spL_cons]; omega)) h
theorem gm_spow {fs : List FD} {l : List ST} {m : MT} (h : (fs.length + 1) ^ spL l ≤ 3000) : (gm fs l m).length ≤ 3000 := Nat.le_trans (gm_len fs l m) (Nat.le_trans (Nat.pow_le_pow_right (by omega) (sPos_sp l)) h)
theorem gmTo_small {fs : List FD} {c : ST} {rest : List ST} {m : MT} {k : Nat} (h1 : c.h.k = 1) (hk : k ≤ fs.length) (h : (fs.length + 1) ^ spL (c :: rest) ≤ 3000) : (gmTo fs c rest m k).length ≤ 3000 := Nat.le_trans (gmTo_len hk h1) (gm_spow h)
abbrev mch (ch : List FD) : MT := (ch.map Prod.fst, ch.map Prod.snd)
theorem mch_snoc (ch : List FD) (f : FD) : mch (ch ++ [f]) = mw (mch ch) f := by unfold mch mw; rw [List.map_append, List.map_append]; rfl
abbrev mt (c : ST) (m : MT) (f : FD) : Bool := meets c.h.k (sKey c.h) c.h.ts m.2 f.2
theorem mt_ncc {c : ST} {m : MT} {f : FD} (h : c.h.k = 3) : mt c m f = false := by unfold mt; rw [h]; exact meets_ncc
theorem mfst {ch : List FD} {k : Nat} (hk : k < ch.length) : (ch.take (k + 1)).map Prod.fst = (ch.take k).map Prod.fst ++ [(ch.getD k f0).1] := by
  have e : ch.getD k f0 = ch[k] := by simp [List.getD, hk]
  rw [List.take_succ_eq_append_getElem hk, List.map_append, e]; rfl
theorem msnd {ch : List FD} {k : Nat} (hk : k < ch.length) : (ch.take (k + 1)).map Prod.snd = (ch.take k).map Prod.snd ++ [(ch.getD k f0).2] := by
  have e : ch.getD k f0 = ch[k] := by simp [List.getD, hk]
  rw [List.take_succ_eq_append_getElem hk, List.map_append, e]; rfl
theorem no_step {fs : List FD} {c : ST} {m : MT} {k : Nat} (hk : k < fs.length) (hw : ((fs.take k).any fun f => mt c m f) = false) (h : mt c m (fs.getD k f0) = false) : ((fs.take (k + 1)).any fun f => mt c m f) = false := by
  have e : fs.getD k f0 = fs[k] := by simp [List.getD, hk]
  rw [e] at h
  rw [List.take_succ_eq_append_getElem hk, List.any_append, hw, Bool.false_or, List.any_cons, h]; rfl
theorem gm_hit {fs : List FD} {c : ST} {rest : List ST} {m : MT} {k : Nat} (h2 : c.h.k = 2) (hk : k < fs.length) (h : mt c m (fs.getD k f0) = true) : gm fs (c :: rest) m = [] := by
  refine gm_neg_no h2 (fun h0 => ?_)
  have e : fs.getD k f0 = fs[k] := by simp [List.getD, hk]
  rw [e] at h
  have h1 := List.any_eq_false.1 (which_any.1 h0) _ (List.getElem_mem hk)
  exact h1 h
theorem gm_pass {fs : List FD} {c : ST} {rest : List ST} {m : MT} {k : Nat} (h2 : c.h.k = 2) (hk : fs.length ≤ k) (hw : ((fs.take k).any fun f => mt c m f) = false) : gm fs (c :: rest) m = gm fs rest m := by
  rw [List.take_of_length_le hk] at hw
  exact gm_neg h2 (which_any.2 hw)
theorem gm_nccN {fs : List FD} {c : ST} {rest : List ST} {m : MT} (h : c.h.k = 3) (hw : 0 < (gm fs c.subs m).length) : gm fs (c :: rest) m = [] := by
  refine gm_ncc_no (by omega) (by omega) ?_
  cases e : gm fs c.subs m with
  | nil => rw [e] at hw; simp at hw
  | cons a t => rfl
theorem gm_nccY {fs : List FD} {c : ST} {rest : List ST} {m : MT} (h : c.h.k = 3) (hw : ¬ 0 < (gm fs c.subs m).length) : gm fs (c :: rest) m = gm fs rest m := by
  refine gm_ncc (by omega) (by omega) ?_
  cases e : gm fs c.subs m with
  | nil => rfl
  | cons a t => rw [e] at hw; simp at hw
theorem gm_end {fs : List FD} {c : ST} {rest : List ST} {m : MT} {k : Nat} (h : c.h.k = 1) (hk : k = fs.length) : gm fs (c :: rest) m = gmTo fs c rest m k := by rw [hk]; exact gm_pos h
end Go.Gx.T14

/- Walks: what Go functions of this chapter come to, each as a function on plain data; no condition but those that each theorem names. Printed by a program of this work (gen.py). -/
namespace Go.Proofs.Ytpadfgomhojjnaa
open Go.Gx Go.Gx.T13 Go.Gx.T8 Go.Gx.T4 Go.Gx.T3 Go.Gx.T14 Go.Gx.T13 Go.Gx.T8 Go.Gx.T6 Go.Gx.T4 Go.Gx.T3 Go.Gx.T3 Go.Gx.T4 Go.Gx.T3 Go.Gx.T5 Go.Gx.T1 Go.Gx.T8 Go.Gx.T6 Go.Gx.T4 Go.Gx.T3 Go.Gx.T6 Go.Gx.T8 Go.Gx.T4 Go.Gx.T3 Go.Gx.T8 Go.Gx.T4 Go.Gx.T3 Go.Gx.T8 Go.Gx.T6 Go.Gx.T4 Go.Gx.T3
theorem cl45 : Callable Try.prog 45 := callable Try.func45 (by kernel_rfl) rfl
theorem cl64 : Callable Try.prog 64 := callable Try.func64 (by kernel_rfl) rfl
theorem bs105_10a3 (a0 a1 a2 : Value) : Instr.fill (fun i => some (i * 3, 3)) ((Array.range (1 * 3)).map ((Value.agg #[Value.int .i64 0, Value.int .i64 0, Value.int .i64 0]).cells[· % (Value.agg #[Value.int .i64 0, Value.int .i64 0, Value.int .i64 0]).cells.size]!)) [(0, Value.agg #[a0, a1, a2])] = some #[a0, a1, a2] := by
 kernel_rfl
theorem el105 : ElemIs Try.prog 105 3 24 (Value.agg #[Value.int .i64 0, Value.int .i64 0, Value.int .i64 0]) := by
 unfold ElemIs
 kernel_rfl
def RStepsIs (n : Nat) : Prop := ∀ (vf vl vc : Value) (fs : List FD) (l : List ST) (ch : List FD) (G : Ghost) (w : World), SizeOf.sizeOf l ≤ n → fs.length ≤ 12 → ch.length + sszL l ≤ 1100 → okSL l → kdL l → (fs.length + 1) ^ spL l ≤ 3000 → SlL G vf 4 fC f0 fs → Ss G vl l → SlL G vc 4 fC f0 ch → Has G w → Calls Try.prog 45 #[vf, vl, vc] w (Ret fun r w' => ∃ G', GNew w nX G G' ∧ Has G' w' ∧ LI G' r ((gm fs l (mch ch)).map Prod.fst) ∧ Since nX w w')
theorem c_rsteps_s (n : Nat) (ih : RStepsIs n) (vf vl vc : Value) (fs : List FD) (l : List ST) (ch : List FD) {G : Ghost} (hz : SizeOf.sizeOf l ≤ n + 1) (hfl : fs.length ≤ 12) (hsz : ch.length + sszL l ≤ 1100) (hok : okSL l) (hkd : kdL l) (hpw : (fs.length + 1) ^ spL l ≤ 3000) (hf : SlL G vf 4 fC f0 fs) (hs : Ss G vl l) (hc : SlL G vc 4 fC f0 ch) (w : World) (hG : Has G w) :
  Calls Try.prog 45 #[vf, vl, vc] w (Ret fun r w' => ∃ G', GNew w nX G G' ∧ Has G' w' ∧ LI G' r ((gm fs l (mch ch)).map Prod.fst) ∧ Since nX w w') := by
 refine enter (args := [_, _, _]) (X := nX) (G := G) (l := [(0, vf), (1, vl), (2, vc)]) Try.func45 rfl Try.ntmps45 hG ⟨rfl, rfl, rfl, trivial⟩ (Nat.le_of_ble_eq_true rfl) ?_
 obtain ⟨rs, hr, hpt, hps, hl⟩ := hs.inv
 have hlr : l.length = rs.length := by rw [hl]; simp
 have hll := sszL_len l
 refine c_seq ?_
 refine c_region ?_
 refine r_val .none rfl (p_assign rfl) ?_
 refine r_nil ?_
 refine e_next ?_
 refine c_seq ?_
 refine c_region ?_
 refine r_val .none rfl (p_assign rfl) ?_
 refine r_nil ?_
 refine e_next ?_
 refine c_seq ?_
 refine c_region ?_
 refine r_val .none rfl (p_assign rfl) ?_
 refine r_nil ?_
 refine e_next ?_
 refine c_seq ?_
 refine c_seq ?_
 refine c_region ?_
 refine r_val .none rfl (p_move rfl) ?_
 refine r_val .none rfl (p_leng Try.underlying87 rfl hc) ?_
 have bd_1 := (hc).bound
 refine r_val .none rfl (p_move rfl) ?_
 refine r_nil ?_
 refine e_next ?_
 refine c_block ?_
 refine c_nilrow 105 3 ?_
 refine c_nilrow 3 1 ?_
 refine c_name (d := 0) rfl (fun u_2 hu_2 => ?_)
 refine c_name (d := 1) rfl (fun u_3 hu_3 => ?_)
 refine c_name (d := 2) rfl (fun u_4 hu_4 => ?_)
 refine c_name (d := 6) rfl (fun u_5 hu_5 => ?_)
 refine c_name (d := 16) rfl (fun u_6 hu_6 => ?_)
 refine c_name (d := 17) rfl (fun u_7 hu_7 => ?_)
 refine c_loop (σ := Nat × Value × Value) (fun s => [(18, Value.int .i64 (s.1 : Nat)), (7, s.2.1), (8, s.2.2), (0, u_2), (1, u_3), (2, u_4), (6, u_5), (16, u_6), (17, u_7)]) (fun s => [rowA (s.2.2) 3 1 (((ch.take s.1).map Prod.fst)).length ((((ch.take s.1).map Prod.fst)).flatMap cI), rowA (s.2.1) 105 3 (((ch.take s.1).map Prod.snd)).length ((((ch.take s.1).map Prod.snd)).flatMap triL)]) (fun _ => _) (fun s => s.1 ≤ ch.length) (fun s => ch.length - s.1) ((0, _, _)) (Nat.zero_le _) rfl ⟨rfl, rfl, rfl, rfl, rfl, rfl, rfl, rfl, rfl, trivial⟩ (.keep (fun _ _ h => rowA_nil rfl _ _ h) (.keep (fun _ _ h => rowA_nil rfl _ _ h) (.nil))) (fun s hphi => ?_)
 subst hu_2
 subst hu_3
 subst hu_4
 subst hu_5
 subst hu_6
 subst hu_7
 obtain ⟨k, v1, v2⟩ := s
 dsimp only at hphi ⊢
 refine c_seq ?_
 refine c_region ?_
 refine r_val .none rfl (p_lt rfl rfl) ?_
 refine r_nil ?_
 refine e_next ?_
 refine c_seq ?_
 refine c_splitd (d := 19) rfl (fun h_8 => ?_) (fun h_8 => ?_)
 ·
  first
   | (exfalso; omega)
   | (
    refine c_cond_t rfl ?_
    refine c_skip ?_
    refine e_next ?_
    refine c_seq ?_
    refine c_block ?_
    refine c_seq ?_
    refine c_region ?_
    refine r_iaddr_g .none rfl Try.underlying87 sz145 rfl hc rfl (by first | exact of_decide_eq_true rfl | omega) (fun p_10 o_11 R_9 => ?_)
    refine r_val .none rfl (p_ldga0 Try.underlying145 rfl sz145 rfl R_9 (by first | exact of_decide_eq_true rfl | omega) (rfl : _ = Value.agg #[_, _, _, _])) ?_
    refine r_alloc .none rfl zr145 (IsRow.lit _) (fun b_1 => ?_)
    refine r_stw (k := 0) .none sz145 rfl rfl (IsRow.lit _) (one_lit rfl rfl) rfl ?_
    refine r_nil ?_
    refine e_next ?_
    refine c_seq ?_
    refine c_region ?_
    refine r_val .none rfl (p_move rfl) ?_
    refine r_val .none rfl (p_field Try.underlying145 rfl sz105 rfl) ?_
    refine r_val .none rfl (p_lda (k := 0) Try.underlying105 rfl sz105 rfl rfl (by first | exact of_decide_eq_true rfl | omega) (rfl : _ = Value.agg #[_, _, _])) ?_
    refine r_bslice (vs := [(0, Value.agg #[_, _, _])]) (c := #[_, _, _]) .none rfl Try.underlying153 el105 rfl rfl rfl (bs105_10a3 _ _ _) (IsRow.lit _) (fun b_2 => ?_)
    refine r_append (k := 3) (k2 := 0) .none rfl Try.underlying153 el105 rfl (by decide) rfl rfl rfl rfl rfl (one_lit rfl rfl) (by rw [List.length_map, List.length_take]; simp only [maxLen]; omega) (by rw [List.length_map, List.length_take]; omega) (fun v_12 => ?_)
    refine r_row1 (k := 3) rfl (fun o_13 => ?_)
    refine r_val .none rfl (p_assign rfl) ?_
    refine r_nil ?_
    refine e_next ?_
    refine c_region ?_
    refine r_val .none rfl (p_move rfl) ?_
    refine r_val .none rfl (p_field Try.underlying145 rfl sz3 rfl) ?_
    refine r_val .none rfl (p_ld (k := 1) Try.underlying3 rfl rfl rfl (by first | exact of_decide_eq_true rfl | omega) (rfl : _ = Value.int _ _)) ?_
    refine r_bslice (vs := [(0, Value.int _ _)]) (c := #[_]) .none rfl Try.underlying22 el3 rfl rfl rfl (bs3_10i2 _ _) (IsRow.lit _) (fun b_3 => ?_)
    refine r_append (k := 3) (k2 := 0) .none rfl Try.underlying22 el3 rfl (by decide) rfl rfl rfl rfl rfl (one_lit rfl rfl) (by rw [List.length_map, List.length_take]; simp only [maxLen]; omega) (by rw [List.length_map, List.length_take]; omega) (fun v_14 => ?_)
    refine r_row1 (k := 3) rfl (fun o_15 => ?_)
    refine r_val .none rfl (p_assign rfl) ?_
    refine r_nil ?_
    refine e_norm_block ?_
    refine e_next ?_
    refine c_region ?_
    refine r_val .none rfl (p_add rfl rfl (by omega)) ?_
    refine r_val .none rfl (p_move rfl) ?_
    refine r_nil ?_
    refine e_round ((k + 1, _, _)) ⟨by dsimp only; omega, by dsimp only; omega⟩ rfl ⟨rfl, rfl, rfl, rfl, rfl, rfl, rfl, rfl, rfl, trivial⟩ (.drop (.drop (.drop (.keep (fun _ _ h => rowA_snoc (mfst (by omega)) rfl rfl rfl _ _ h) (.keep (fun _ _ h => rowA_snoc (msnd (by omega)) rfl rfl rfl _ _ h) (.nil))))))
    )
 ·
  first
   | (exfalso; omega)
   | (
    refine c_cond_f rfl ?_
    refine c_exit ?_
    refine e_exit_then ?_
    refine e_exit_then ?_
    refine e_exit_block ?_
    refine e_next ?_
    refine c_seq ?_
    refine c_seq ?_
    refine c_region ?_
    have hk8 : ch.take k = ch := List.take_of_length_le (by omega)
    refine r_freeze (k := 1) rfl (fun G_16 hn_17 hs_18 => ?_)
    replace hf := hf.mono hn_17.le
    replace hr := hr.mono hn_17.le
    replace hc := hc.mono hn_17.le
    replace hpt := fun p hm0 => (hpt p hm0).mono hn_17.le
    replace hps := fun p hm0 => (hps p hm0).mono hn_17.le
    have hbk : SlL G_16 v1 3 triL z3 (ch.map Prod.snd) := SlL.of2 z3 (fun _ => rfl) (by rw [hk8]) (by rw [hk8]) hs_18
    refine r_freeze (k := 0) rfl (fun G_19 hn_20 hs_21 => ?_)
    replace hf := hf.mono hn_20.le
    replace hr := hr.mono hn_20.le
    replace hc := hc.mono hn_20.le
    replace hpt := fun p hm0 => (hpt p hm0).mono hn_20.le
    replace hps := fun p hm0 => (hps p hm0).mono hn_20.le
    replace hbk := hbk.mono hn_20.le
    have hid : SlL G_19 v2 1 cI 0 (ch.map Prod.fst) := SlL.of2 0 (fun _ => rfl) (by rw [hk8]) (by rw [hk8]) hs_21
    obtain ⟨ai, ci, rfl⟩ := SlG.len hid
    refine r_val .none rfl (p_move rfl) ?_
    refine r_val .none rfl (p_leng Try.underlying83 rfl hr) ?_
    have bd_22 := (hr).bound
    refine r_val .none rfl (p_eq rfl rfl) ?_
    refine r_nil ?_
    refine e_next ?_
    refine c_splitd (d := 35) rfl (fun h_23 => ?_) (fun h_23 => ?_)
    ·
     first
      | (exfalso; omega)
      | (
       refine c_cond_t rfl ?_
       refine c_seq ?_
       refine c_region ?_
       refine r_val .none rfl (p_move rfl) ?_
       refine r_bslice (vs := [(0, Value.slice _ _ _)]) (c := #[_]) .none rfl Try.underlying79 el22 rfl rfl rfl (bs22_10s3 _ _ _) (IsRow.lit _) (fun b_4 => ?_)
       refine r_freezeB (k := 0) 1 1 rfl rfl (by decide) (fun G_24 hn_25 hs_26 => ?_)
       replace hf := hf.mono hn_25.le
       replace hr := hr.mono hn_25.le
       replace hc := hc.mono hn_25.le
       replace hpt := fun p hm0 => (hpt p hm0).mono hn_25.le
       replace hps := fun p hm0 => (hps p hm0).mono hn_25.le
       replace hbk := hbk.mono hn_25.le
       replace hid := hid.mono hn_25.le
       have h37 : SlL G_24 (Value.slice (some ⟨b_4, 0, none⟩) 1 1) 1 lC (([] : List Int), Value.slice none 0 0) [((ch.map Prod.fst), Value.slice ai (ch.map Prod.fst).length ci)] := SlG.congr hs_26 (fun i hi j hj => by match i, hi with | 0, _ => (match j, hj with | 0, _ => rfl))
       have Lh37 : LI G_24 (Value.slice (some ⟨b_4, 0, none⟩) 1 1) [(ch.map Prod.fst)] := Ls.mk _ h37 (by intro p hm0; simp only [List.mem_cons, List.not_mem_nil, or_false] at hm0; subst hm0; exact hid)
       refine r_val .none rfl (p_assign rfl) ?_
       refine r_nil ?_
       refine e_next ?_
       refine c_ret ?_
       refine e_ret_then ?_
       refine e_ret1 Try.results45 (.tmp rfl .nil) (fun w hm => ⟨_, ((hn_17.trans hn_20).trans hn_25), hm.has, ?_, hm.since⟩)
       have hl9 : l = [] := by rw [hl, List.eq_nil_of_length_eq_zero (show rs.length = 0 by omega)]; rfl
       rw [hl9, gm]
       exact Lh37
       )
    ·
     have hl0 : 0 < rs.length := by omega
     have hcons : l = (rs.getD 0 s0).1 :: ((rs.drop 1).map Prod.fst) := ss_cons hl hl0
     have hok2 := okSL_cons (by rw [← hcons]; exact hok)
     have hkd2 := kdL_cons (by rw [← hcons]; exact hkd)
     have hsq : sszL l = ssz (rs.getD 0 s0).1 + sszL ((rs.drop 1).map Prod.fst) := by rw [hcons, sszL]
     have hsx := ssz_eq (rs.getD 0 s0).1
     have hpw1 : (fs.length + 1) ^ spL ((rs.getD 0 s0).1 :: ((rs.drop 1).map Prod.fst)) ≤ 3000 := by rw [← hcons]; exact hpw
     have hpr := spow_rest hpw1
     have hpx := spow_subs hpw1
     have hzr : SizeOf.sizeOf ((rs.drop 1).map Prod.fst) ≤ n := by have := drop_lt hl0; rw [← hl] at this; omega
     have hzs : SizeOf.sizeOf (rs.getD 0 s0).1.subs ≤ n := by have q1 := s_subs (rs.getD 0 s0).1; have q2 := List.sizeOf_lt_of_mem (show (rs.getD 0 s0).1 ∈ l by rw [hcons]; simp); omega
     have hk9 := hkd2.1.1
     first
      | (exfalso; omega)
      | (
       refine c_cond_f rfl ?_
       refine c_skip ?_
       refine e_next ?_
       refine c_seq ?_
       refine c_region ?_
       refine r_val .none rfl (p_move rfl) ?_
       refine r_iaddr_g (i := 0) .none rfl Try.underlying83 sz116 rfl hr rfl (by first | exact of_decide_eq_true rfl | omega) (fun p_28 o_29 R_27 => ?_)
       have ht_30 := hpt _ (getD_mem (i := 0) (d := s0) (by omega))
       have hc_31 := hps _ (getD_mem (i := 0) (d := s0) (by omega))
       refine r_val .none rfl (p_ldga0 Try.underlying116 rfl sz116 rfl R_27 (by first | exact of_decide_eq_true rfl | omega) (rfl : _ = Value.agg #[_, _, _, _, _, _])) ?_
       refine r_alloc .none rfl zr116 (IsRow.lit _) (fun b_5 => ?_)
       refine r_stw (k := 0) .none sz116 rfl rfl (IsRow.lit _) (one_lit rfl (all_cons rfl (all_cons rfl (all_cons rfl (all_cons rfl (all_cons (ht_30).one (all_cons (hc_31).one rfl))))))) rfl ?_
       refine r_nil ?_
       refine e_next ?_
       refine c_seq ?_
       refine c_region ?_
       refine r_val .none rfl (p_assign rfl) ?_
       refine r_nil ?_
       refine e_next ?_
       refine c_seq ?_
       refine c_seq ?_
       refine c_region ?_
       refine r_val .none rfl (p_move rfl) ?_
       refine r_val .none rfl (p_leng Try.underlying87 rfl hf) ?_
       have bd_32 := (hf).bound
       refine r_val .none rfl (p_move rfl) ?_
       refine r_nil ?_
       refine e_next ?_
       refine c_block ?_
       refine c_nilrow 22 1 ?_
       refine c_name (d := 0) rfl (fun u_33 hu_33 => ?_)
       refine c_name (d := 1) rfl (fun u_34 hu_34 => ?_)
       refine c_name (d := 2) rfl (fun u_35 hu_35 => ?_)
       refine c_name (d := 7) rfl (fun u_36 hu_36 => ?_)
       refine c_name (d := 11) rfl (fun u_37 hu_37 => ?_)
       refine c_name (d := 41) rfl (fun u_38 hu_38 => ?_)
       refine c_name (d := 42) rfl (fun u_39 hu_39 => ?_)
       refine c_nameL (k := 1) rfl (fun A_40 hA_40 => ?_)
       refine c_loop (σ := Nat × Value × List (List Int × Value) × Ghost) (fun s => [(43, Value.int .i64 (s.1 : Nat)), (12, s.2.1), (0, u_33), (1, u_34), (2, u_35), (7, u_36), (11, u_37), (41, u_38), (42, u_39)]) (fun s => [rowA (s.2.1) 22 1 (s.2.2.1).length ((s.2.2.1).flatMap lC), A_40]) (fun s => s.2.2.2) (fun s => s.1 ≤ fs.length ∧ s.2.2.1.map Prod.fst = (gmTo fs (rs.getD 0 s0).1 ((rs.drop 1).map Prod.fst) (mch ch) s.1).map Prod.fst ∧ ((rs.getD 0 s0).1.h.k = 2 → ((fs.take s.1).any fun f => mt (rs.getD 0 s0).1 (mch ch) f) = false) ∧ (∀ q ∈ s.2.2.1, SlL s.2.2.2 q.2 1 cI 0 q.1) ∧ GNew w nX G_19 s.2.2.2) (fun s => fs.length - s.1) ((0, _, [], _)) ⟨Nat.zero_le _, rfl, by simp, by simp, GNew.refl _ _ _⟩ rfl ⟨rfl, rfl, rfl, rfl, rfl, rfl, rfl, rfl, rfl, trivial⟩ (.keep (fun _ _ h => rowA_nil rfl _ _ h) (.keep (fun _ _ h => h) (.nil))) (fun s hphi => ?_)
       subst hu_33
       subst hu_34
       subst hu_35
       subst hu_36
       subst hu_37
       subst hu_38
       subst hu_39
       subst hA_40
       obtain ⟨k, v, z, H⟩ := s
       obtain ⟨hk, hzq, hany, hzc, hgn⟩ := hphi
       dsimp only at hk hzq hany hzc hgn ⊢
       replace hf := hf.mono hgn.le
       replace hr := hr.mono hgn.le
       replace hc := hc.mono hgn.le
       replace hpt := fun p hm0 => (hpt p hm0).mono hgn.le
       replace hps := fun p hm0 => (hps p hm0).mono hgn.le
       replace hbk := hbk.mono hgn.le
       replace hid := hid.mono hgn.le
       replace R_27 := R_27.mono hgn.le
       replace ht_30 := ht_30.mono hgn.le
       replace hc_31 := hc_31.mono hgn.le
       refine c_seq ?_
       refine c_region ?_
       refine r_val .none rfl (p_lt rfl rfl) ?_
       refine r_nil ?_
       refine e_next ?_
       refine c_seq ?_
       refine c_splitd (d := 44) rfl (fun h_41 => ?_) (fun h_41 => ?_)
       ·
        first
         | (exfalso; omega)
         | (
          refine c_cond_t rfl ?_
          refine c_skip ?_
          refine e_next ?_
          refine c_seq ?_
          refine c_block ?_
          refine c_seq ?_
          refine c_region ?_
          refine r_iaddr_g .none rfl Try.underlying87 sz145 rfl hf rfl (by first | exact of_decide_eq_true rfl | omega) (fun p_43 o_44 R_42 => ?_)
          refine r_val .none rfl (p_ldga0 Try.underlying145 rfl sz145 rfl R_42 (by first | exact of_decide_eq_true rfl | omega) (rfl : _ = Value.agg #[_, _, _, _])) ?_
          refine r_alloc .none rfl zr145 (IsRow.lit _) (fun b_6 => ?_)
          refine r_stw (k := 0) .none sz145 rfl rfl (IsRow.lit _) (one_lit rfl rfl) rfl ?_
          refine r_nil ?_
          refine e_next ?_
          refine c_seq ?_
          refine c_seq ?_
          refine c_region ?_
          refine r_val .none rfl (p_field Try.underlying116 rfl sz3 rfl) ?_
          refine r_val .none rfl (p_ld (k := 2) Try.underlying3 rfl rfl rfl (by first | exact of_decide_eq_true rfl | omega) (rfl : _ = Value.int _ _)) ?_
          refine r_val .none rfl (p_eq rfl rfl) ?_
          refine r_val .none rfl (p_move rfl) ?_
          refine r_splitd (d := 50) rfl (fun h_45 => ?_) (fun h_45 => ?_)
          ·
           have hk3 := h_45
           have hM : mt (rs.getD 0 s0).1 (mch ch) (fs.getD k f0) = false := mt_ncc hk3
           first
            | (exfalso; omega)
            | (
             refine r_skip rfl (.no rfl rfl) ?_
             refine r_skip rfl (.no rfl rfl) ?_
             refine r_skip rfl (.no rfl rfl) ?_
             refine r_skip rfl (.no rfl rfl) ?_
             refine r_skip rfl (.no rfl rfl) ?_
             refine r_skip rfl (.no rfl rfl) ?_
             refine r_val .none rfl (p_pick_t rfl rfl) ?_
             refine r_nil ?_
             refine e_next ?_
             refine c_cond_t rfl ?_
             refine c_exit ?_
             refine e_exit_then ?_
             refine e_exit_block ?_
             refine e_next ?_
             refine c_region ?_
             refine r_val .none rfl (p_add rfl rfl (by omega)) ?_
             refine r_val .none rfl (p_move rfl) ?_
             refine r_nil ?_
             refine e_round ((k + 1, _, z, _)) ⟨⟨by dsimp only; omega, by rw [gmTo_no (by omega) hM, hzq], (fun h2 => no_step (by omega) (hany h2) hM), hzc, hgn⟩, by dsimp only; omega⟩ rfl ⟨rfl, rfl, rfl, rfl, rfl, rfl, rfl, rfl, rfl, trivial⟩ (.drop (.keep (fun _ _ h => h) (.keep (fun _ _ h => h) (.nil))))
             )
          ·
           have hk3 := h_45
           first
            | (exfalso; omega)
            | (
             refine r_val (.some rfl rfl) rfl (p_ldw (k := 2) Try.underlying116 rfl sz116 rfl rfl (rfl : _ = Value.agg #[_, _, _, _, _, _])) ?_
             refine r_val (.some rfl rfl) rfl (p_move rfl) ?_
             refine r_val (.some rfl rfl) rfl (p_field Try.underlying145 rfl sz105 rfl) ?_
             refine r_val (.some rfl rfl) rfl (p_lda (k := 0) Try.underlying105 rfl sz105 rfl rfl (by first | exact of_decide_eq_true rfl | omega) (rfl : _ = Value.agg #[_, _, _])) ?_
             refine r_call (vs := [_, _, _]) (.some rfl rfl) rfl cl64 rfl (fun w hw => c_rmeets (rs.getD 0 s0).1.h.k (sKey (rs.getD 0 s0).1.h) (rs.getD 0 s0).1.h.ts _ _ _ (ch.map Prod.snd) (fs.getD k f0).2 hok2.1.1 ht_30 hbk w hw) ?_
             refine r_val (.some rfl rfl) rfl (p_not rfl) ?_
             refine r_val .none rfl (p_pick_f rfl rfl) ?_
             refine r_nil ?_
             refine e_next ?_
             refine c_splitn (d := 57) rfl (fun h_46 => ?_) (fun h_46 => ?_)
             ·
              have hM : mt (rs.getD 0 s0).1 (mch ch) (fs.getD k f0) = false := h_46
              first
               | (exfalso; omega)
               | (
                refine c_cond_t rfl ?_
                refine c_exit ?_
                refine e_exit_then ?_
                refine e_exit_block ?_
                refine e_next ?_
                refine c_region ?_
                refine r_val .none rfl (p_add rfl rfl (by omega)) ?_
                refine r_val .none rfl (p_move rfl) ?_
                refine r_nil ?_
                refine e_round ((k + 1, _, z, _)) ⟨⟨by dsimp only; omega, by rw [gmTo_no (by omega) hM, hzq], (fun h2 => no_step (by omega) (hany h2) hM), hzc, hgn⟩, by dsimp only; omega⟩ rfl ⟨rfl, rfl, rfl, rfl, rfl, rfl, rfl, rfl, rfl, trivial⟩ (.drop (.keep (fun _ _ h => h) (.keep (fun _ _ h => h) (.nil))))
                )
             ·
              have hM : mt (rs.getD 0 s0).1 (mch ch) (fs.getD k f0) = true := h_46
              first
               | (exfalso; omega)
               | (
                refine c_cond_f rfl ?_
                refine c_skip ?_
                refine e_next ?_
                refine c_seq ?_
                refine c_seq ?_
                refine c_region ?_
                refine r_val .none rfl (p_field Try.underlying116 rfl sz3 rfl) ?_
                refine r_val .none rfl (p_ld (k := 2) Try.underlying3 rfl rfl rfl (by first | exact of_decide_eq_true rfl | omega) (rfl : _ = Value.int _ _)) ?_
                refine r_val .none rfl (p_eq rfl rfl) ?_
                refine r_nil ?_
                refine e_next ?_
                refine c_splitd (d := 60) rfl (fun h_47 => ?_) (fun h_47 => ?_)
                ·
                 have hk2 := h_47
                 skip
                 first
                  | (exfalso; omega)
                  | (
                   refine c_cond_t rfl ?_
                   refine c_seq ?_
                   refine c_region ?_
                   refine r_val .none rfl (p_assign rfl) ?_
                   refine r_nil ?_
                   refine e_next ?_
                   refine c_ret ?_
                   refine e_ret_then ?_
                   refine e_ret_block ?_
                   refine e_ret_then ?_
                   refine e_ret_then ?_
                   refine e_ret_block ?_
                   refine e_ret_then ?_
                   refine e_ret1 Try.results45 (.tmp rfl .nil) (fun w hm => ⟨_, ((hn_17.trans hn_20).trans hgn), hm.has, ?_, hm.since⟩)
                   rw [hcons, gm_hit (k := k) hk2 (by omega) hM]
                   exact li_nil
                   )
                ·
                 have hk2 := h_47
                 have hk1 : (rs.getD 0 s0).1.h.k = 1 := by omega
                 have hzn : z.length ≤ 3000 := by have q := gmTo_small (m := mch ch) (k := k) hk1 (by omega) hpw1; have q2 := congrArg List.length hzq; rw [List.length_map, List.length_map] at q2; omega
                 skip
                 first
                  | (exfalso; omega)
                  | (
                   refine c_cond_f rfl ?_
                   refine c_skip ?_
                   refine e_next ?_
                   refine c_seq ?_
                   refine c_region ?_
                   refine r_val .none rfl (p_assign rfl) ?_
                   refine r_nil ?_
                   refine e_next ?_
                   refine c_seq ?_
                   refine c_region ?_
                   refine r_val .none rfl (p_move rfl) ?_
                   refine r_val .none rfl (p_move rfl) ?_
                   refine r_nilrow 145 4 ?_
                   refine r_append_g (k := 0) .none rfl Try.underlying87 el145 rfl (by decide) rfl rfl rfl hc (fun _ _ _ hj => one_lit rfl rfl _ hj) (by simp only [maxLen]; omega) (by omega) (fun v_48 => ?_)
                   refine r_row1 (k := 0) rfl (fun o_49 => ?_)
                   refine r_conv (B := rowA v_48 _ 4 ch.length (ch.flatMap fC)) (k := 0) rfl (fun _ _ h => rowA_congr (by simp) (by rw [List.nil_append, flat_all (cells := fC) (fun _ => rfl)]) _ _ h) ?_
                   refine r_val .none rfl (p_assign rfl) ?_
                   refine r_nil ?_
                   refine e_next ?_
                   refine c_seq ?_
                   refine c_region ?_
                   refine r_val .none rfl (p_move rfl) ?_
                   refine r_val .none rfl (p_ldw (k := 1) Try.underlying145 rfl sz145 rfl rfl (rfl : _ = Value.agg #[_, _, _, _])) ?_
                   refine r_bslice (vs := [(0, Value.agg #[_, _, _, _])]) (c := #[_, _, _, _]) .none rfl Try.underlying87 el145 rfl rfl rfl (bs145_10a4 _ _ _ _) (IsRow.lit _) (fun b_7 => ?_)
                   refine r_append (k := 1) (k2 := 0) .none rfl Try.underlying87 el145 rfl (by decide) rfl rfl rfl rfl rfl (one_lit rfl rfl) (by simp only [maxLen]; omega) (by omega) (fun v_50 => ?_)
                   refine r_row1 (k := 1) rfl (fun o_51 => ?_)
                   refine r_val .none rfl (p_assign rfl) ?_
                   refine r_nil ?_
                   refine e_next ?_
                   refine c_region ?_
                   refine r_freeze (k := 1) rfl (fun G_52 hn_53 hs_54 => ?_)
                   replace hf := hf.mono hn_53.le
                   replace hr := hr.mono hn_53.le
                   replace hc := hc.mono hn_53.le
                   replace hpt := fun p hm0 => (hpt p hm0).mono hn_53.le
                   replace hps := fun p hm0 => (hps p hm0).mono hn_53.le
                   replace hbk := hbk.mono hn_53.le
                   replace hid := hid.mono hn_53.le
                   replace R_27 := R_27.mono hn_53.le
                   replace ht_30 := ht_30.mono hn_53.le
                   replace hc_31 := hc_31.mono hn_53.le
                   replace hzc := fun p hm0 => (hzc p hm0).mono hn_53.le
                   replace R_42 := R_42.mono hn_53.le
                   have hnx : SlL G_52 v_50 4 fC f0 (ch ++ [(fs.getD k f0)]) := SlL.of2 f0 (fun _ => rfl) (by simp) (by rw [List.flatMap_append, List.flatMap_cons, List.flatMap_nil, List.append_nil]; rfl) hs_54
                   refine r_val .none rfl (p_move rfl) ?_
                   refine r_val .none rfl (p_move rfl) ?_
                   refine r_val .none rfl (p_move rfl) ?_
                   refine r_slice (1) (_) (q' := .i64) .none rfl Try.underlying83 sz116 rfl hr rfl rfl (by first | exact of_decide_eq_true rfl | omega) (by first | exact of_decide_eq_true rfl | omega) (fun v_55 hs_56 => ?_)
                   have hR_58 := ss_drop hs_56 hpt hps
                   refine r_val .none rfl (p_move rfl) ?_
                   refine r_callm (vs := [_, _, _]) .none rfl cl45 rfl (fun w hw => ih _ _ _ fs ((rs.drop 1).map Prod.fst) (ch ++ [(fs.getD k f0)]) _ w hzr hfl (by rw [List.length_append, List.length_singleton]; omega) hok2.2 hkd2.2 hpr hf hR_58 hnx hw) (fun G_59 v_62 hn_60 hr_61 => ?_)
                   replace hf := hf.mono hn_60.le
                   replace hr := hr.mono hn_60.le
                   replace hc := hc.mono hn_60.le
                   replace hpt := fun p hm0 => (hpt p hm0).mono hn_60.le
                   replace hps := fun p hm0 => (hps p hm0).mono hn_60.le
                   replace hbk := hbk.mono hn_60.le
                   replace hid := hid.mono hn_60.le
                   replace R_27 := R_27.mono hn_60.le
                   replace ht_30 := ht_30.mono hn_60.le
                   replace hc_31 := hc_31.mono hn_60.le
                   replace hzc := fun p hm0 => (hzc p hm0).mono hn_60.le
                   replace R_42 := R_42.mono hn_60.le
                   replace hnx := hnx.mono hn_60.le
                   replace hs_56 := hs_56.mono hn_60.le
                   replace hR_58 := hR_58.mono hn_60.le
                   rw [mch_snoc] at hr_61
                   obtain ⟨ws, hws, hwp, hwl⟩ := hr_61
                   have hwn : ws.length ≤ 3000 := by have q := gm_spow (m := mw (mch ch) (fs.getD k f0)) hpr; have q2 := congrArg List.length hwl; rw [List.length_map, List.length_map] at q2; omega
                   refine r_append_g (k := 2) .none rfl Try.underlying79 el22 rfl (by decide) rfl rfl rfl hws (li_ones hwp) (by simp only [maxLen]; omega) (by omega) (fun v_64 => ?_)
                   refine r_row1 (k := 2) rfl (fun o_65 => ?_)
                   refine r_conv (B := rowA v_64 _ 1 (z ++ ws).length ((z ++ ws).flatMap lC)) (k := 2) rfl (fun _ _ h => rowA_congr (by simp) (by rw [flat_all (cells := lC) (fun _ => rfl), List.flatMap_append]) _ _ h) ?_
                   refine r_val .none rfl (p_assign rfl) ?_
                   refine r_nil ?_
                   refine e_norm_block ?_
                   refine e_next ?_
                   refine c_region ?_
                   refine r_val .none rfl (p_add rfl rfl (by omega)) ?_
                   refine r_val .none rfl (p_move rfl) ?_
                   refine r_nil ?_
                   refine e_round ((k + 1, _, z ++ ws, _)) ⟨⟨by dsimp only; omega, by rw [gmTo_yes (by omega) hM, List.map_append, List.map_append, hzq, hwl], (fun h2 => absurd h2 (by omega)), li_app hzc hwp, ((hgn.trans hn_53).trans hn_60)⟩, by dsimp only; omega⟩ rfl ⟨rfl, rfl, rfl, rfl, rfl, rfl, rfl, rfl, rfl, trivial⟩ (.drop (.drop (.keep (fun _ _ h => h) (.keep (fun _ _ h => h) (.nil)))))
                   )
                )
             )
          )
       ·
        first
         | (exfalso; omega)
         | (
          refine c_cond_f rfl ?_
          refine c_exit ?_
          refine e_exit_then ?_
          refine e_exit_then ?_
          refine e_exit_block ?_
          refine e_next ?_
          refine c_seq ?_
          refine c_seq ?_
          refine c_region ?_
          refine r_val .none rfl (p_field Try.underlying116 rfl sz3 rfl) ?_
          refine r_val .none rfl (p_ld (k := 1) Try.underlying3 rfl rfl rfl (by first | exact of_decide_eq_true rfl | omega) (rfl : _ = Value.int _ _)) ?_
          refine r_val .none rfl (p_eq rfl rfl) ?_
          refine r_nil ?_
          refine e_next ?_
          refine c_splitd (d := 78) rfl (fun h_66 => ?_) (fun h_66 => ?_)
          ·
           have hk1 := h_66
           first
            | (exfalso; omega)
            | (
             refine c_cond_t rfl ?_
             refine c_seq ?_
             refine c_region ?_
             refine r_val .none rfl (p_move rfl) ?_
             refine r_val .none rfl (p_assign rfl) ?_
             refine r_nil ?_
             refine e_next ?_
             refine c_ret ?_
             refine e_ret_then ?_
             refine e_freeze (k := 0) rfl (fun G_67 hn_68 hs_69 => ?_)
             replace hf := hf.mono hn_68.le
             replace hr := hr.mono hn_68.le
             replace hc := hc.mono hn_68.le
             replace hpt := fun p hm0 => (hpt p hm0).mono hn_68.le
             replace hps := fun p hm0 => (hps p hm0).mono hn_68.le
             replace hbk := hbk.mono hn_68.le
             replace hid := hid.mono hn_68.le
             replace R_27 := R_27.mono hn_68.le
             replace ht_30 := ht_30.mono hn_68.le
             replace hc_31 := hc_31.mono hn_68.le
             replace hzc := fun p hm0 => (hzc p hm0).mono hn_68.le
             refine e_ret1 Try.results45 (.tmp rfl .nil) (fun w hm => ⟨_, (((hn_17.trans hn_20).trans hgn).trans hn_68), hm.has, ?_, hm.since⟩)
             rw [hcons, gm_end (k := k) hk1 (by omega), ← hzq]
             exact Ls.mk z (SlL.of (([] : List Int), Value.slice none 0 0) (fun _ => rfl) rfl hs_69) hzc
             )
          ·
           have hk1 := h_66
           first
            | (exfalso; omega)
            | (
             refine c_cond_f rfl ?_
             refine c_skip ?_
             refine e_next ?_
             refine c_seq ?_
             refine c_seq ?_
             refine c_region ?_
             refine r_val .none rfl (p_field Try.underlying116 rfl sz3 rfl) ?_
             refine r_val .none rfl (p_ld (k := 1) Try.underlying3 rfl rfl rfl (by first | exact of_decide_eq_true rfl | omega) (rfl : _ = Value.int _ _)) ?_
             refine r_val .none rfl (p_eq rfl rfl) ?_
             refine r_val .none rfl (p_move rfl) ?_
             refine r_splitd (d := 83) rfl (fun h_70 => ?_) (fun h_70 => ?_)
             ·
              have hk3 := h_70
              skip
              first
               | (exfalso; omega)
               | (
                refine r_val (.some rfl rfl) rfl (p_move rfl) ?_
                refine r_val (.some rfl rfl) rfl (p_field Try.underlying116 rfl sz83 rfl) ?_
                refine r_val (.some rfl rfl) rfl (p_ld (k := 1) Try.underlying83 rfl rfl rfl (by first | exact of_decide_eq_true rfl | omega) rfl) ?_
                refine r_val (.some rfl rfl) rfl (p_move rfl) ?_
                refine r_callm (vs := [_, _, _]) (.some rfl rfl) rfl cl45 rfl (fun w hw => ih _ _ _ fs (rs.getD 0 s0).1.subs ch _ w hzs hfl (by omega) hok2.1.2 hkd2.1.2 hpx hf hc_31 hc hw) (fun G_71 v_74 hn_72 hr_73 => ?_)
                replace hf := hf.mono hn_72.le
                replace hr := hr.mono hn_72.le
                replace hc := hc.mono hn_72.le
                replace hpt := fun p hm0 => (hpt p hm0).mono hn_72.le
                replace hps := fun p hm0 => (hps p hm0).mono hn_72.le
                replace hbk := hbk.mono hn_72.le
                replace hid := hid.mono hn_72.le
                replace R_27 := R_27.mono hn_72.le
                replace ht_30 := ht_30.mono hn_72.le
                replace hc_31 := hc_31.mono hn_72.le
                replace hzc := fun p hm0 => (hzc p hm0).mono hn_72.le
                obtain ⟨ws, hws, hwp, hwl⟩ := hr_73
                have hwn := congrArg List.length hwl
                rw [List.length_map, List.length_map] at hwn
                refine r_val (.some rfl rfl) rfl (p_leng Try.underlying79 rfl hws) ?_
                have bd_76 := (hws).bound
                refine r_val (.some rfl rfl) rfl (p_gt rfl rfl) ?_
                refine r_val .none rfl (p_pick_t rfl rfl) ?_
                refine r_nil ?_
                refine e_next ?_
                refine c_splitd (d := 91) rfl (fun h_77 => ?_) (fun h_77 => ?_)
                ·
                 have hw9 := h_77
                 skip
                 first
                  | (exfalso; omega)
                  | (
                   refine c_cond_t rfl ?_
                   refine c_seq ?_
                   refine c_region ?_
                   refine r_val .none rfl (p_assign rfl) ?_
                   refine r_nil ?_
                   refine e_next ?_
                   refine c_ret ?_
                   refine e_ret_then ?_
                   refine e_ret1 Try.results45 (.tmp rfl .nil) (fun w hm => ⟨_, (((hn_17.trans hn_20).trans hgn).trans hn_72), hm.has, ?_, hm.since⟩)
                   rw [hcons, gm_nccN hk3 (by omega)]
                   exact li_nil
                   )
                ·
                 have hw9 := h_77
                 first
                  | (exfalso; omega)
                  | (
                   refine c_cond_f rfl ?_
                   refine c_skip ?_
                   refine e_next ?_
                   refine c_seq ?_
                   refine c_region ?_
                   refine r_val .none rfl (p_move rfl) ?_
                   refine r_val .none rfl (p_move rfl) ?_
                   refine r_slice (1) (_) (q' := .i64) .none rfl Try.underlying83 sz116 rfl hr rfl rfl (by first | exact of_decide_eq_true rfl | omega) (by first | exact of_decide_eq_true rfl | omega) (fun v_78 hs_79 => ?_)
                   have hR_81 := ss_drop hs_79 hpt hps
                   refine r_val .none rfl (p_move rfl) ?_
                   refine r_callm (vs := [_, _, _]) .none rfl cl45 rfl (fun w hw => ih _ _ _ fs ((rs.drop 1).map Prod.fst) ch _ w hzr hfl (by omega) hok2.2 hkd2.2 hpr hf hR_81 hc hw) (fun G_82 v_85 hn_83 hr_84 => ?_)
                   replace hf := hf.mono hn_83.le
                   replace hr := hr.mono hn_83.le
                   replace hc := hc.mono hn_83.le
                   replace hpt := fun p hm0 => (hpt p hm0).mono hn_83.le
                   replace hps := fun p hm0 => (hps p hm0).mono hn_83.le
                   replace hbk := hbk.mono hn_83.le
                   replace hid := hid.mono hn_83.le
                   replace R_27 := R_27.mono hn_83.le
                   replace ht_30 := ht_30.mono hn_83.le
                   replace hc_31 := hc_31.mono hn_83.le
                   replace hzc := fun p hm0 => (hzc p hm0).mono hn_83.le
                   replace hws := hws.mono hn_83.le
                   replace hs_79 := hs_79.mono hn_83.le
                   replace hR_81 := hR_81.mono hn_83.le
                   have u_86 := hr_84
                   refine r_val .none rfl (p_assign rfl) ?_
                   refine r_nil ?_
                   refine e_next ?_
                   refine c_ret ?_
                   refine e_ret1 Try.results45 (.tmp rfl .nil) (fun w hm => ⟨_, ((((hn_17.trans hn_20).trans hgn).trans hn_72).trans hn_83), hm.has, ?_, hm.since⟩)
                   rw [hcons, gm_nccY hk3 (by omega)]
                   exact u_86
                   )
                )
             ·
              have hk3 := h_70
              first
               | (exfalso; omega)
               | (
                refine r_skip rfl (.no rfl rfl) ?_
                refine r_skip rfl (.no rfl rfl) ?_
                refine r_skip rfl (.no rfl rfl) ?_
                refine r_skip rfl (.no rfl rfl) ?_
                refine r_skip rfl (.no rfl rfl) ?_
                refine r_skip rfl (.no rfl rfl) ?_
                refine r_skip rfl (.no rfl rfl) ?_
                refine r_val .none rfl (p_pick_f rfl rfl) ?_
                refine r_nil ?_
                refine e_next ?_
                refine c_cond_f rfl ?_
                refine c_skip ?_
                refine e_next ?_
                refine c_seq ?_
                refine c_region ?_
                refine r_val .none rfl (p_move rfl) ?_
                refine r_val .none rfl (p_move rfl) ?_
                refine r_slice (1) (_) (q' := .i64) .none rfl Try.underlying83 sz116 rfl hr rfl rfl (by first | exact of_decide_eq_true rfl | omega) (by first | exact of_decide_eq_true rfl | omega) (fun v_87 hs_88 => ?_)
                have hR_90 := ss_drop hs_88 hpt hps
                refine r_val .none rfl (p_move rfl) ?_
                refine r_callm (vs := [_, _, _]) .none rfl cl45 rfl (fun w hw => ih _ _ _ fs ((rs.drop 1).map Prod.fst) ch _ w hzr hfl (by omega) hok2.2 hkd2.2 hpr hf hR_90 hc hw) (fun G_91 v_94 hn_92 hr_93 => ?_)
                replace hf := hf.mono hn_92.le
                replace hr := hr.mono hn_92.le
                replace hc := hc.mono hn_92.le
                replace hpt := fun p hm0 => (hpt p hm0).mono hn_92.le
                replace hps := fun p hm0 => (hps p hm0).mono hn_92.le
                replace hbk := hbk.mono hn_92.le
                replace hid := hid.mono hn_92.le
                replace R_27 := R_27.mono hn_92.le
                replace ht_30 := ht_30.mono hn_92.le
                replace hc_31 := hc_31.mono hn_92.le
                replace hzc := fun p hm0 => (hzc p hm0).mono hn_92.le
                replace hs_88 := hs_88.mono hn_92.le
                replace hR_90 := hR_90.mono hn_92.le
                have u_95 := hr_93
                refine r_val .none rfl (p_assign rfl) ?_
                refine r_nil ?_
                refine e_next ?_
                refine c_ret ?_
                refine e_ret1 Try.results45 (.tmp rfl .nil) (fun w hm => ⟨_, (((hn_17.trans hn_20).trans hgn).trans hn_92), hm.has, ?_, hm.since⟩)
                rw [hcons, gm_pass (k := k) (by omega) (by omega) (hany (by omega))]
                exact u_95
                )
             )
          )
       )
    )
theorem c_rsteps_n : ∀ n, RStepsIs n
 | 0 => fun vf vl vc fs l ch G w hz _ _ _ _ _ _ _ _ _ => absurd hz (by cases l <;> simp)
 | n + 1 => fun vf vl vc fs l ch G w hz hfl hsz hok hkd hpw hf hs hc hG => c_rsteps_s n (c_rsteps_n n) vf vl vc fs l ch hz hfl hsz hok hkd hpw hf hs hc w hG
end Go.Proofs.Ytpadfgomhojjnaa

/- Plain laws: whether a match goes on; no program in sight. -/
namespace Go.Gx.T14
open Go.Gx Go.Gx.T3 Go.Gx.T4 Go.Gx.T6 Go.Gx.T8 Go.Gx.T13
abbrev pfS (p : SVal) : Bool := decide (p.1.h.k = 1)
abbrev pfT (c : ST) : Bool := decide (c.h.k = 1)
theorem idxF_map : ∀ (rs : List SVal) (k : Int), idxF pfS rs k = idxF pfT (rs.map Prod.fst) k
  | [], _ => rfl
  | p :: t, k => by
    rw [List.map_cons, idxF, idxF, idxF_map t]
/-- The steps behind so many Pos. -/
def skip : Nat → List ST → Option (List ST)
  | 0, S => some S
  | n + 1, S => (skip n S).bind fun T => if 0 ≤ idxF pfT T 0 then some (T.drop ((idxF pfT T 0).toNat + 1)) else none
theorem skip_yes {n : Nat} {S T : List ST} {i : Nat} (h : skip n S = some T) (hi : idxF pfT T 0 = (i : Int)) : skip (n + 1) S = some (T.drop (i + 1)) := by
  rw [skip, h]
  show (if 0 ≤ idxF pfT T 0 then some (T.drop ((idxF pfT T 0).toNat + 1)) else none) = _
  rw [if_pos (by omega), hi]; rfl
theorem skip_no {n : Nat} {S T : List ST} (h : skip n S = some T) (hi : ¬ 0 ≤ idxF pfT T 0) : skip (n + 1) S = none := by
  rw [skip, h]
  show (if 0 ≤ idxF pfT T 0 then some (T.drop ((idxF pfT T 0).toNat + 1)) else none) = _
  rw [if_neg hi]
theorem skip_none {n : Nat} {S : List ST} (h : skip n S = none) : ∀ m, n ≤ m → skip m S = none
  | 0, hm => by rw [show n = 0 by omega] at h; cases h
  | m + 1, hm => by
    by_cases e : n = m + 1
    · rw [← e]; exact h
    · rw [skip, skip_none h m (by omega)]; rfl
def anyR (fs : List FD) (l : List ST) (bs : List FD) : Bool := match skip bs.length l with
  | some S => !(gm fs S (mch bs)).isEmpty
  | none => false
theorem any_none {fs : List FD} {l : List ST} {bs : List FD} {k : Nat} (h : skip k l = none) (hk : k ≤ bs.length) : anyR fs l bs = false := by
  unfold anyR
  rw [skip_none h _ hk]
theorem any_some {fs : List FD} {l S : List ST} {bs : List FD} {k : Nat} (h : skip k l = some S) (hk : k = bs.length) : anyR fs l bs = !(gm fs S (mch bs)).isEmpty := by
  unfold anyR
  rw [← hk, h]
theorem ss_dropN {G : Ghost} {v : Value} {k : Nat} {rs : List SVal} (h : SlG G v (rs.length - k) 6 (fun i => at_ (sC (rs.getD (k + i) s0)))) (ht : ∀ p ∈ rs, SlL G p.2.1 3 tC t0 p.1.h.ts) (hs : ∀ p ∈ rs, Ss G p.2.2 p.1.subs) : Ss G v ((rs.map Prod.fst).drop k) := by
  rw [← List.map_drop]
  refine Ss.mk (rs.drop k) ?_ (fun p hp => ht p (List.mem_of_mem_drop hp)) (fun p hp => hs p (List.mem_of_mem_drop hp))
  unfold SlL
  rw [List.length_drop]
  refine h.congr fun i hi j _ => ?_
  have e : (rs.drop k).getD i s0 = rs.getD (k + i) s0 := by unfold List.getD; rw [List.getElem?_drop]
  show at_ (sC (rs.getD (k + i) s0)) j = _
  rw [← e]
/-! ### the law -/
theorem idx_cons_pos {c : ST} {t : List ST} (h : c.h.k = 1) : idxF pfT (c :: t) 0 = 0 := by rw [idxF, if_pos (decide_eq_true h)]
theorem idxF_shift : ∀ (l : List ST) (k : Int), 0 ≤ k → idxF pfT l k = if 0 ≤ idxF pfT l 0 then k + idxF pfT l 0 else -1
  | [], k, _ => by rw [idxF, idxF]; rfl
  | c :: t, k, hk => by
    rw [idxF, idxF]
    split
    · rw [if_pos (by omega)]; omega
    · rw [idxF_shift t (k + 1) (by omega), idxF_shift t (0 + 1) (by omega)]
      split
      · rw [if_pos (by omega)]; omega
      · rw [if_neg (by omega)]
theorem skip_cons_pos {c : ST} {t : List ST} (h : c.h.k = 1) : ∀ n, skip (n + 1) (c :: t) = skip n t
  | 0 => by rw [skip_yes (i := 0) (T := c :: t) rfl (idx_cons_pos h)]; rfl
  | n + 1 => by rw [skip, skip_cons_pos h n, ← skip]
theorem skip_cons_neg {c : ST} {t : List ST} (h : ¬ c.h.k = 1) : ∀ n, skip (n + 1) (c :: t) = skip (n + 1) t
  | 0 => by
    have e : idxF pfT (c :: t) 0 = if 0 ≤ idxF pfT t 0 then 1 + idxF pfT t 0 else -1 := by
      rw [idxF, if_neg (by simpa using h), idxF_shift t (0 + 1) (by omega)]; rfl
    by_cases h0 : 0 ≤ idxF pfT t 0
    · obtain ⟨i, hi⟩ : ∃ i : Nat, idxF pfT t 0 = (i : Int) := ⟨(idxF pfT t 0).toNat, by omega⟩
      rw [skip_yes (n := 0) (S := t) (T := t) rfl hi, skip_yes (n := 0) (S := c :: t) (i := i + 1) (T := c :: t) rfl (by rw [e, if_pos h0, hi]; omega)]
      rfl
    · rw [skip_no (n := 0) (S := t) (T := t) rfl h0, skip_no (n := 0) (S := c :: t) (T := c :: t) rfl (by rw [e, if_neg h0]; omega)]
  | n + 1 => by
    rw [skip, skip_cons_neg h n, ← skip]
theorem skip_take : ∀ (l : List ST) (k : Nat), (k = 0 ∨ ∃ c, l[k - 1]? = some c ∧ c.h.k = 1) → skip (sPos (l.take k)) l = some (l.drop k)
  | l, 0, _ => by rw [List.take_zero, sPos]; rfl
  | [], k + 1, h => by
    rcases h with h | ⟨c, h, _⟩
    · omega
    · simp at h
  | c :: t, k + 1, h => by
    rw [List.take_succ_cons, sPos, List.drop_succ_cons]
    have hk : k = 0 ∨ ∃ x, t[k - 1]? = some x ∧ x.h.k = 1 := by
      cases k with
      | zero => exact .inl rfl
      | succ j =>
        rcases h with h | ⟨x, h, hx⟩
        · omega
        · refine .inr ⟨x, ?_, hx⟩
          simpa using h
    have ih := skip_take t k hk
    by_cases hc : c.h.k = 1
    · rw [if_pos hc, Nat.add_comm, skip_cons_pos hc, ih]
    · rw [if_neg hc, Nat.zero_add]
      have h1 : 1 ≤ sPos (t.take k) := by
        cases k with
        | zero =>
          rcases h with h | ⟨x, h, hx⟩
          · omega
          · simp at h; subst h; exact absurd hx hc
        | succ j =>
          rcases hk with hk | ⟨x, hx, hxk⟩
          · omega
          · have hm : x ∈ t.take (j + 1) := by
              have hx' : t[j]? = some x := by simpa using hx
              have hlt : j < t.length := by
                rcases Nat.lt_or_ge j t.length with h9 | h9
                · exact h9
                · rw [List.getElem?_eq_none h9] at hx'; cases hx'
              rw [List.take_succ_eq_append_getElem hlt]
              rw [List.getElem?_eq_getElem hlt] at hx'
              simp at hx'
              simp [hx']
            have : ∀ (q : List ST), x ∈ q → 1 ≤ sPos q := by
              intro q
              induction q with
              | nil => intro h; cases h
              | cons a r ih2 =>
                intro h
                rw [sPos]
                rcases List.mem_cons.1 h with h | h
                · rw [← h, if_pos hxk]; omega
                · have := ih2 h; omega
            exact this _ hm
      obtain ⟨j, hj⟩ : ∃ j, sPos (t.take k) = j + 1 := ⟨sPos (t.take k) - 1, by omega⟩
      rw [hj] at ih ⊢
      rw [skip_cons_neg hc, ih]
theorem gm_mlen (fs : List FD) : ∀ (l : List ST) (m : MT), ∀ x ∈ gm fs l m, x.1.length = m.1.length + sPos l
  | [], m, x, hx => by rw [gm] at hx; rw [List.mem_singleton.1 hx, sPos]; rfl
  | c :: t, m, x, hx => by
    rw [gm] at hx
    rw [sPos]
    split at hx
    · rename_i h1
      obtain ⟨f, _, hf⟩ := List.mem_flatMap.1 hx
      have := gm_mlen fs t (mw m f) x hf
      rw [if_pos h1, this]
      show (m.1 ++ [f.1]).length + _ = _
      rw [List.length_append, List.length_singleton]; omega
    · rename_i h1
      rw [if_neg h1]
      split at hx
      · split at hx
        · rw [gm_mlen fs t m x hx]; omega
        · cases hx
      · split at hx
        · rw [gm_mlen fs t m x hx]; omega
        · cases hx
theorem gm_all {P : Int → Prop} (fs : List FD) (hfs : ∀ f ∈ fs, P f.1) : ∀ (l : List ST) (m : MT), (∀ i ∈ m.1, P i) → ∀ x ∈ gm fs l m, ∀ i ∈ x.1, P i
  | [], m, hm, x, hx => by rw [gm] at hx; rw [List.mem_singleton.1 hx]; exact hm
  | c :: t, m, hm, x, hx => by
    rw [gm] at hx
    split at hx
    · obtain ⟨f, hf, hx⟩ := List.mem_flatMap.1 hx
      refine gm_all fs hfs t (mw m f) (fun i hi => ?_) x hx
      rcases List.mem_append.1 (show i ∈ m.1 ++ [f.1] from hi) with h | h
      · exact hm i h
      · rw [List.mem_singleton.1 h]; exact hfs f (List.mem_filter.1 hf).1
    · split at hx
      · split at hx
        · exact gm_all fs hfs t m hm x hx
        · cases hx
      · split at hx
        · exact gm_all fs hfs t m hm x hx
        · cases hx
end Go.Gx.T14

/- Walks: what Go functions of this chapter come to, each as a function on plain data; no condition but those that each theorem names. Printed by a program of this work (gen.py). -/
namespace Go.Proofs.Ytpadfgomhojjnaa
open Go.Gx Go.Gx.T13 Go.Gx.T8 Go.Gx.T4 Go.Gx.T3 Go.Gx.T14 Go.Gx.T13 Go.Gx.T8 Go.Gx.T6 Go.Gx.T4 Go.Gx.T3 Go.Gx.T3 Go.Gx.T4 Go.Gx.T3 Go.Gx.T5 Go.Gx.T1 Go.Gx.T8 Go.Gx.T6 Go.Gx.T4 Go.Gx.T3 Go.Gx.T6 Go.Gx.T8 Go.Gx.T4 Go.Gx.T3 Go.Gx.T8 Go.Gx.T4 Go.Gx.T3 Go.Gx.T8 Go.Gx.T6 Go.Gx.T4 Go.Gx.T3
theorem cl68 : Callable Try.prog 68 := callable Try.func68 (by kernel_rfl) rfl
theorem c_any1 (p : SVal)  (w : World)  :
  Calls Try.prog 68 #[Value.agg #[Value.int .i64 p.1.h.k, Value.int .i64 p.1.h.k0, Value.int .i64 p.1.h.k1, Value.int .i64 p.1.h.k2, p.2.1, p.2.2]] w (Ret fun r w' => r = Value.bool (pfS p) ∧ Since nX w w') := by
 refine enter (args := [_]) (X := nX) (G := (fun _ => none)) (l := [(0, Value.agg #[Value.int .i64 p.1.h.k, Value.int .i64 p.1.h.k0, Value.int .i64 p.1.h.k1, Value.int .i64 p.1.h.k2, p.2.1, p.2.2])]) Try.func68 rfl Try.ntmps68 (fun _ _ h => by cases h) ⟨rfl, trivial⟩ (Nat.le_of_ble_eq_true rfl) ?_
 refine c_seq ?_
 refine c_region ?_
 refine r_box .none rfl rfl (IsRow.lit _) (fun b_1 => ?_)
 refine r_val .none rfl (p_assign rfl) ?_
 refine r_nil ?_
 refine e_next ?_
 refine c_seq ?_
 refine c_region ?_
 refine r_val .none rfl (p_field Try.underlying109 rfl sz3 rfl) ?_
 refine r_val .none rfl (p_ld (k := 0) Try.underlying3 rfl rfl rfl (by first | exact of_decide_eq_true rfl | omega) (rfl : _ = Value.int _ _)) ?_
 refine r_val .none rfl (p_eq rfl rfl) ?_
 refine r_val .none rfl (p_assign rfl) ?_
 refine r_nil ?_
 refine e_next ?_
 refine c_ret ?_
 refine e_ret1 Try.results68 (.tmp rfl .nil) (fun w hm => ⟨?_, hm.since⟩)
 rfl
theorem c_idxS (v : Value) (zs : List SVal) {G : Ghost} (hr : SlL G v 6 sC s0 zs) (w : World) (hG : Has G w) :
  Calls Try.prog 67 #[v, Value.func (.func 68) #[] #[]] w (Ret fun r w' => r = Value.int .i64 (idxF pfS zs 0) ∧ Since nX w w') := by
 refine enter (args := [_, _]) (X := nX) (G := G) (l := [(0, v), (1, Value.func (.func 68) #[] #[])]) Try.func67 rfl Try.ntmps67 hG ⟨rfl, rfl, trivial⟩ (Nat.le_of_ble_eq_true rfl) ?_
 have hbd := hr.bound
 refine c_seq ?_
 refine c_region ?_
 refine r_val .none rfl (p_assign rfl) ?_
 refine r_nil ?_
 refine e_next ?_
 refine c_seq ?_
 refine c_seq ?_
 refine c_region ?_
 refine r_val .none rfl (p_move rfl) ?_
 refine r_val .none rfl (p_leng Try.underlying81 rfl hr) ?_
 have bd_1 := (hr).bound
 refine r_val .none rfl (p_move rfl) ?_
 refine r_nil ?_
 refine e_next ?_
 refine c_block ?_
 refine c_name (d := 0) rfl (fun u_2 hu_2 => ?_)
 refine c_name (d := 1) rfl (fun u_3 hu_3 => ?_)
 refine c_name (d := 7) rfl (fun u_4 hu_4 => ?_)
 refine c_loop (σ := Nat) (fun k => [(8, Value.int .i64 (k : Nat)), (0, u_2), (1, u_3), (7, u_4)]) (fun k => []) (fun _ => _) (fun k => k ≤ zs.length ∧ idxF pfS (zs.drop k) k = idxF pfS zs 0) (fun k => zs.length - k) (0) ⟨Nat.zero_le _, rfl⟩ rfl ⟨rfl, rfl, rfl, rfl, trivial⟩ (.nil) (fun k hphi => ?_)
 subst hu_2
 subst hu_3
 subst hu_4
 refine c_seq ?_
 refine c_region ?_
 refine r_val .none rfl (p_lt rfl rfl) ?_
 refine r_nil ?_
 refine e_next ?_
 refine c_seq ?_
 refine c_splitd (d := 9) rfl (fun h_5 => ?_) (fun h_5 => ?_)
 ·
  first
   | (exfalso; omega)
   | (
    refine c_cond_t rfl ?_
    refine c_skip ?_
    refine e_next ?_
    refine c_seq ?_
    refine c_block ?_
    refine c_seq ?_
    refine c_region ?_
    refine r_val .none rfl (p_move rfl) ?_
    refine r_val .none rfl (p_assign rfl) ?_
    refine r_nil ?_
    refine e_next ?_
    refine c_seq ?_
    refine c_region ?_
    refine r_val .none rfl (p_move rfl) ?_
    refine r_val .none rfl (p_move rfl) ?_
    refine r_val .none rfl (p_move rfl) ?_
    refine r_iaddr_g .none rfl Try.underlying81 sz109 rfl hr rfl (by first | exact of_decide_eq_true rfl | omega) (fun p_7 o_8 R_6 => ?_)
    refine r_val .none rfl (p_ldga0 Try.underlying109 rfl sz109 rfl R_6 (by first | exact of_decide_eq_true rfl | omega) (rfl : _ = Value.agg #[_, _, _, _, _, _])) ?_
    refine r_fun (cs := []) .none rfl ?_
    refine r_call (vs := [_]) .none rfl cl68 rfl (fun w hw => c_any1 (zs.getD k s0) w) ?_
    refine r_nil ?_
    refine e_next ?_
    refine c_split (d := 16) rfl (fun h_9 => ?_) (fun h_9 => ?_)
    ·
     have hE : pfS (zs.getD k s0) = true := h_9
     first
      | (exfalso; omega)
      | (
       refine c_cond_t rfl ?_
       refine c_seq ?_
       refine c_region ?_
       refine r_val .none rfl (p_move rfl) ?_
       refine r_val .none rfl (p_assign rfl) ?_
       refine r_nil ?_
       refine e_next ?_
       refine c_ret ?_
       refine e_ret_block ?_
       refine e_ret_then ?_
       refine e_ret_then ?_
       refine e_ret_block ?_
       refine e_ret_then ?_
       refine e_ret1 Try.results67 (.tmp rfl .nil) (fun w hm => ⟨?_, hm.since⟩)
       first
       | (rw [← hphi.2, idxF_yes (d := s0) (by omega) hE])
       | (rw [← hphi.2, List.drop_eq_nil_of_le (by omega)]; rfl)
       )
    ·
     have hE : pfS (zs.getD k s0) = false := h_9
     first
      | (exfalso; omega)
      | (
       refine c_cond_f rfl ?_
       refine c_skip ?_
       refine e_norm_block ?_
       refine e_next ?_
       refine c_region ?_
       refine r_val .none rfl (p_add rfl rfl (by omega)) ?_
       refine r_val .none rfl (p_move rfl) ?_
       refine r_nil ?_
       refine e_round (k + 1) ⟨⟨by omega, by rw [← hphi.2, idxF_no (d := s0) (by omega) hE]⟩, by omega⟩ rfl ⟨rfl, rfl, rfl, rfl, trivial⟩ (.nil)
       )
    )
 ·
  first
   | (exfalso; omega)
   | (
    refine c_cond_f rfl ?_
    refine c_exit ?_
    refine e_exit_then ?_
    refine e_exit_then ?_
    refine e_exit_block ?_
    refine e_next ?_
    refine c_seq ?_
    refine c_region ?_
    refine r_val .none rfl (p_assign rfl) ?_
    refine r_nil ?_
    refine e_next ?_
    refine c_ret ?_
    refine e_ret1 Try.results67 (.tmp rfl .nil) (fun w hm => ⟨?_, hm.since⟩)
    first
    | (rw [← hphi.2, idxF_yes (d := s0) (by omega) hE])
    | (rw [← hphi.2, List.drop_eq_nil_of_le (by omega)]; rfl)
    )
end Go.Proofs.Ytpadfgomhojjnaa

/- Plain laws of the statement whether there is a match that begins so; no program in sight. -/
namespace Go.Gx.T14
open Go.Gx Go.Gx.T3 Go.Gx.T4 Go.Gx.T6 Go.Gx.T8 Go.Gx.T13
theorem cost_sp {fs : List FD} {l : List CT} {f : Nat} (hc : costB f l = true) (hf : fs.length = f) : (fs.length + 1) ^ spL (stepsOf [] l) ≤ 3000 := by
  unfold costB at hc
  rw [hf]
  exact Nat.le_trans (Nat.pow_le_pow_right (by omega) (spL_steps l [])) (of_decide_eq_true hc)
theorem cost_take {fs : List FD} {l : List CT} {f k : Nat} (hc : costB f l = true) (hf : fs.length = f) : (fs.length + 1) ^ spL ((stepsOf [] l).take k) ≤ 3000 := Nat.le_trans (Nat.pow_le_pow_right (by omega) (spL_take _ _)) (cost_sp hc hf)
theorem cost_drop {fs : List FD} {l : List CT} {f k : Nat} (hc : costB f l = true) (hf : fs.length = f) : (fs.length + 1) ^ spL ((stepsOf [] l).drop k) ≤ 3000 := Nat.le_trans (Nat.pow_le_pow_right (by omega) (spL_drop _ _)) (cost_sp hc hf)
def pick (t : List Tri) (id : Int) : FD := (fTo t 1 t.length).getD (id - 1).toNat f0
theorem pick_next {t : List Tri} {m : List Int} {i q : Nat} (hi : i < m.length) (hq : m.getD i 0 - 1 = (q : Int)) : (m.take (i + 1)).map (pick t) = (m.take i).map (pick t) ++ [(fTo t 1 t.length).getD q f0] := by
  have e : m.getD i 0 = m[i] := by simp [List.getD, hi]
  rw [List.take_succ_eq_append_getElem hi, List.map_append]
  congr 1
  show [pick t m[i]] = _
  rw [← e]
  unfold pick
  rw [hq]; rfl
theorem any_mem {t : List Tri} {S : List ST} {qs : List (List Int × Value)} {j : Nat} (hq : (gm (fTo t 1 t.length) S ([], [])).map Prod.fst = qs.map Prod.fst) (hj : j < qs.length) : (qs.getD j es14).1.length = sPos S ∧ ∀ i ∈ (qs.getD j es14).1, 1 ≤ i ∧ i ≤ (t.length : Int) := by
  have hm : (qs.getD j es14).1 ∈ qs.map Prod.fst := List.mem_map_of_mem (getD_mem hj)
  rw [← hq] at hm
  obtain ⟨x, hx, e⟩ := List.mem_map.1 hm
  rw [← e]
  refine ⟨by rw [gm_mlen _ _ _ x hx]; simp, gm_all (P := fun i => 1 ≤ i ∧ i ≤ (t.length : Int)) _ (fun f hf => ?_) _ _ (by simp) x hx⟩
  obtain ⟨i, hi, rfl⟩ := List.mem_map.1 hf
  have := List.mem_range.1 hi
  show 1 ≤ 1 + (i : Int) * 1 ∧ 1 + (i : Int) * 1 ≤ _
  omega
theorem kp_of {S : List ST} {qS : List SVal} {k : Nat} (hS : S = qS.map Prod.fst) (h0 : 0 < k) (hk : k ≤ qS.length) (h : (qS.getD (k - 1) s0).1.h.k = 1) : k = 0 ∨ ∃ c, S[k - 1]? = some c ∧ c.h.k = 1 := by
  refine .inr ⟨(qS.getD (k - 1) s0).1, ?_, h⟩
  rw [hS]
  have hlt : k - 1 < qS.length := by omega
  simp [List.getD, hlt]
theorem any_eq {fs : List FD} {S : List ST} {k : Nat} {B : List FD} {ws : List (List Int × Value)} (hkp : k = 0 ∨ ∃ c, S[k - 1]? = some c ∧ c.h.k = 1) (hB : B.length = sPos (S.take k)) (hw : (gm fs (S.drop k) (mch B)).map Prod.fst = ws.map Prod.fst) : anyR fs S B = decide ((ws.length : Int) > 0) := by
  unfold anyR
  rw [hB, skip_take S k hkp]
  have h1 := congrArg List.length hw
  rw [List.length_map, List.length_map] at h1
  show (!(gm fs (S.drop k) (mch B)).isEmpty) = _
  cases e : gm fs (S.drop k) (mch B) with
  | nil =>
    rw [e] at h1
    rw [decide_eq_false (by rw [← h1]; simp)]; rfl
  | cons a r =>
    rw [e] at h1
    rw [decide_eq_true (by rw [← h1]; simp)]; rfl
theorem getD_memI {m : List Int} {i : Nat} (h : i < m.length) : m.getD i 0 ∈ m := by
  have e : m.getD i 0 = m[i] := by simp [List.getD, h]
  rw [e]; exact List.getElem_mem h
theorem sPos_take : ∀ (l : List ST) (k : Nat), sPos (l.take k) ≤ l.length
  | [], k => by simp [sPos]
  | c :: t, 0 => by rw [List.take_zero, sPos]; omega
  | c :: t, k + 1 => by
    have := sPos_take t k
    rw [List.take_succ_cons, sPos, List.length_cons]
    split <;> omega
end Go.Gx.T14

/- Walks: what Go functions of this chapter come to, each as a function on plain data; no condition but those that each theorem names. Printed by a program of this work (gen.py). -/
namespace Go.Proofs.Ytpadfgomhojjnaa
open Go.Gx Go.Gx.T13 Go.Gx.T8 Go.Gx.T4 Go.Gx.T3 Go.Gx.T14 Go.Gx.T13 Go.Gx.T8 Go.Gx.T6 Go.Gx.T4 Go.Gx.T3 Go.Gx.T3 Go.Gx.T4 Go.Gx.T3 Go.Gx.T5 Go.Gx.T1 Go.Gx.T8 Go.Gx.T6 Go.Gx.T4 Go.Gx.T3 Go.Gx.T6 Go.Gx.T8 Go.Gx.T4 Go.Gx.T3 Go.Gx.T8 Go.Gx.T4 Go.Gx.T3 Go.Gx.T8 Go.Gx.T6 Go.Gx.T4 Go.Gx.T3
theorem cl67 : Callable Try.prog 67 := callable Try.func67 (by kernel_rfl) rfl
theorem c_any (vf vl vb : Value) (fs : List FD) (l : List ST) (bs : List FD) {G : Ghost} (hfl : fs.length ≤ 2000) (hbl : bs.length + sszL l ≤ 900) (hok : okSL l) (hf : SlL G vf 4 fC f0 fs) (hs : Ss G vl l) (hb : SlL G vb 4 fC f0 bs) (w : World) (hG : Has G w) :
  Calls Try.prog 49 #[vf, vl, vb] w (Ret fun r w' => r = Value.bool (anyR fs l bs) ∧ Since nX w w') := by
 refine enter (args := [_, _, _]) (X := nX) (G := G) (l := [(0, vf), (1, vl), (2, vb)]) Try.func49 rfl Try.ntmps49 hG ⟨rfl, rfl, rfl, trivial⟩ (Nat.le_of_ble_eq_true rfl) ?_
 refine c_seq ?_
 refine c_region ?_
 refine r_val .none rfl (p_assign rfl) ?_
 refine r_nil ?_
 refine e_next ?_
 refine c_seq ?_
 refine c_region ?_
 refine r_alloc .none rfl zr137 (IsRow.lit _) (fun b_1 => ?_)
 refine r_nil ?_
 refine e_next ?_
 refine c_seq ?_
 refine c_seq ?_
 refine c_region ?_
 refine r_val .none rfl (p_move rfl) ?_
 refine r_val .none rfl (p_leng Try.underlying72 rfl hb) ?_
 have bd_1 := (hb).bound
 refine r_val .none rfl (p_move rfl) ?_
 refine r_nil ?_
 refine e_next ?_
 refine c_block ?_
 refine c_name (d := 0) rfl (fun u_2 hu_2 => ?_)
 refine c_name (d := 7) rfl (fun u_3 hu_3 => ?_)
 refine c_name (d := 11) rfl (fun u_4 hu_4 => ?_)
 refine c_name (d := 12) rfl (fun u_5 hu_5 => ?_)
 refine c_loop (σ := Nat × Value × List ST × Value × Value × Ghost) (fun s => [(13, Value.int .i64 (s.1 : Nat)), (1, s.2.1), (0, u_2), (7, u_3), (11, u_4), (12, u_5)]) (fun s => [box b_1 2 137 (at_ [s.2.2.2.1, s.2.2.2.2.1])]) (fun s => s.2.2.2.2.2) (fun s => s.1 ≤ bs.length ∧ skip s.1 l = some s.2.2.1 ∧ Ss s.2.2.2.2.2 s.2.1 s.2.2.1 ∧ SlL s.2.2.2.2.2 s.2.2.2.1 1 cI 0 ((bs.take s.1).map Prod.fst) ∧ SlL s.2.2.2.2.2 s.2.2.2.2.1 3 triL z3 ((bs.take s.1).map Prod.snd) ∧ okSL s.2.2.1 ∧ sszL s.2.2.1 ≤ sszL l ∧ GNew w nX G s.2.2.2.2.2) (fun s => bs.length - s.1) ((0, _, l, _, _, _)) ⟨Nat.zero_le _, rfl, hs, SlG.nil _ _ _, SlG.nil _ _ _, hok, Nat.le_refl _, GNew.refl _ _ _⟩ rfl ⟨rfl, rfl, rfl, rfl, rfl, rfl, trivial⟩ (.keep (fun _ _ h => box_congr (fun i hi => by match i, hi with | 0, _ => rfl | 1, _ => rfl) _ _ h) (.nil)) (fun s hphi => ?_)
 subst hu_2
 subst hu_3
 subst hu_4
 subst hu_5
 obtain ⟨k, vS, S, va, vc, H⟩ := s
 obtain ⟨hk, hsk, hSS, hva, hvc, hokS, hszS, hgn⟩ := hphi
 dsimp only at hk hsk hSS hva hvc hokS hszS hgn ⊢
 have hSS0 := hSS
 obtain ⟨rsS, hS, hSt, hSs, hSl⟩ := hSS0.inv
 subst hSl
 have hllS := sszL_len (rsS.map Prod.fst)
 rw [List.length_map] at hllS
 replace hf := hf.mono hgn.le
 replace hs := hs.mono hgn.le
 replace hb := hb.mono hgn.le
 refine c_seq ?_
 refine c_region ?_
 refine r_val .none rfl (p_lt rfl rfl) ?_
 refine r_nil ?_
 refine e_next ?_
 refine c_seq ?_
 refine c_splitd (d := 14) rfl (fun h_6 => ?_) (fun h_6 => ?_)
 ·
  first
   | (exfalso; omega)
   | (
    refine c_cond_t rfl ?_
    refine c_skip ?_
    refine e_next ?_
    refine c_seq ?_
    refine c_block ?_
    refine c_seq ?_
    refine c_region ?_
    refine r_iaddr_g .none rfl Try.underlying72 sz120 rfl hb rfl (by first | exact of_decide_eq_true rfl | omega) (fun p_8 o_9 R_7 => ?_)
    refine r_val .none rfl (p_ldga0 Try.underlying120 rfl sz120 rfl R_7 (by first | exact of_decide_eq_true rfl | omega) (rfl : _ = Value.agg #[_, _, _, _])) ?_
    refine r_alloc .none rfl zr120 (IsRow.lit _) (fun b_2 => ?_)
    refine r_stw (k := 0) .none sz120 rfl rfl (IsRow.lit _) (one_lit rfl rfl) rfl ?_
    refine r_nil ?_
    refine e_next ?_
    refine c_seq ?_
    refine c_region ?_
    refine r_val .none rfl (p_move rfl) ?_
    refine r_call (vs := [_, _]) .none rfl cl67 rfl (fun w hw => c_idxS _ rsS hS w hw) ?_
    refine r_val .none rfl (p_assign rfl) ?_
    refine r_nil ?_
    refine e_next ?_
    refine c_seq ?_
    refine c_seq ?_
    refine c_region ?_
    refine r_val .none rfl (p_move rfl) ?_
    refine r_val .none rfl (p_lt rfl rfl) ?_
    refine r_nil ?_
    refine e_next ?_
    refine c_splitd (d := 20) rfl (fun h_10 => ?_) (fun h_10 => ?_)
    ·
     have hng := h_10
     have hsn := skip_no hsk (by rw [← idxF_map]; omega)
     first
      | (exfalso; omega)
      | (
       refine c_cond_t rfl ?_
       refine c_seq ?_
       refine c_region ?_
       refine r_val .none rfl (p_assign rfl) ?_
       refine r_nil ?_
       refine e_next ?_
       refine c_ret ?_
       refine e_ret_then ?_
       refine e_ret_block ?_
       refine e_ret_then ?_
       refine e_ret_then ?_
       refine e_ret_block ?_
       refine e_ret_then ?_
       refine e_ret1 Try.results49 (.tmp rfl .nil) (fun w hm => ⟨?_, hm.since⟩)
       first
       | exact congrArg Value.bool (any_none hsn (by omega)).symm
       | exact congrArg Value.bool (by rw [any_some hsk (show k = bs.length by omega), show bs.take k = bs from List.take_of_length_le (by omega)])
       )
    ·
     have hng := h_10
     obtain ⟨i, hi, hil, _⟩ := idxF_some s0 (Int.le_refl 0) (Int.not_lt.1 hng)
     first
      | (exfalso; omega)
      | (
       refine c_cond_f rfl ?_
       refine c_skip ?_
       refine e_next ?_
       refine c_seq ?_
       refine c_region ?_
       refine r_val .none rfl (p_move rfl) ?_
       refine r_val .none rfl (p_move rfl) ?_
       refine r_say (d := 22) (v := Value.int .i64 ((i : Nat) : Int)) (congrArg (fun x => some (Value.int .i64 x)) (by omega)) ?_
       refine r_val .none rfl (p_add rfl rfl (by omega)) ?_
       refine r_say (d := 23) (v := Value.int .i64 ((i + 1 : Nat) : Int)) (congrArg (fun x => some (Value.int .i64 x)) (by omega)) ?_
       refine r_slice ((i + 1)) (_) (q' := .i64) .none rfl Try.underlying81 sz109 rfl hS rfl rfl (by first | exact of_decide_eq_true rfl | omega) (by first | exact of_decide_eq_true rfl | omega) (fun v_11 hs_12 => ?_)
       have hS2 := ss_dropN hs_12 hSt hSs
       refine r_val .none rfl (p_assign rfl) ?_
       refine r_nil ?_
       refine e_next ?_
       refine c_region ?_
       refine r_val .none rfl (p_ldw (k := 1) Try.underlying137 rfl sz137 rfl rfl (rfl : _ = Value.agg #[_, _])) ?_
       refine r_val .none rfl (p_ldw (k := 0) Try.underlying120 rfl sz120 rfl rfl (rfl : _ = Value.agg #[_, _, _, _])) ?_
       refine r_callm (vs := [_, _]) .none rfl cl69 rfl (fun w hw => c_with (((bs.take k).map Prod.fst), ((bs.take k).map Prod.snd)) (bs.getD k f0) _ _ ⟨by show (List.map Prod.fst (List.take k bs)).length ≤ 1000; rw [List.length_map, List.length_take]; omega, by show (List.map Prod.snd (List.take k bs)).length ≤ 1000; rw [List.length_map, List.length_take]; omega⟩ hva hvc w hw) (fun G_14 v_17 hn_15 hr_16 => ?_)
       replace hf := hf.mono hn_15.le
       replace hs := hs.mono hn_15.le
       replace hb := hb.mono hn_15.le
       replace hSS := hSS.mono hn_15.le
       replace hva := hva.mono hn_15.le
       replace hvc := hvc.mono hn_15.le
       replace hS := hS.mono hn_15.le
       replace hSt := fun p hm0 => (hSt p hm0).mono hn_15.le
       replace hSs := fun p hm0 => (hSs p hm0).mono hn_15.le
       replace R_7 := R_7.mono hn_15.le
       replace hs_12 := hs_12.mono hn_15.le
       replace hS2 := hS2.mono hn_15.le
       obtain ⟨u_18a, u_18b, rfl, u_18s, u_18t⟩ := hr_16
       refine r_stw (k := 1) .none sz137 rfl rfl (IsRow.lit _) (one_lit rfl (all_cons (u_18s).one (all_cons (u_18t).one rfl))) rfl ?_
       refine r_nil ?_
       refine e_norm_block ?_
       refine e_next ?_
       refine c_region ?_
       refine r_val .none rfl (p_add rfl rfl (by omega)) ?_
       refine r_val .none rfl (p_move rfl) ?_
       refine r_nil ?_
       refine e_round ((k + 1, _, (rsS.map Prod.fst).drop (i + 1), _, _, _)) ⟨⟨by dsimp only; omega, skip_yes hsk (by rw [← idxF_map]; omega), hS2, by rw [mfst (by omega)]; exact u_18s, by rw [msnd (by omega)]; exact u_18t, okSL_drop _ hokS, Nat.le_trans (sszL_drop _ _) hszS, (hgn.trans hn_15)⟩, by dsimp only; omega⟩ rfl ⟨rfl, rfl, rfl, rfl, rfl, rfl, trivial⟩ (.drop (.keep (fun _ _ h => box_congr (fun i hi => by match i, hi with | 0, _ => rfl | 1, _ => rfl) _ _ h) (.nil)))
       )
    )
 ·
  first
   | (exfalso; omega)
   | (
    refine c_cond_f rfl ?_
    refine c_exit ?_
    refine e_exit_then ?_
    refine e_exit_then ?_
    refine e_exit_block ?_
    refine e_next ?_
    refine c_seq ?_
    refine c_region ?_
    refine r_val .none rfl (p_move rfl) ?_
    refine r_val .none rfl (p_move rfl) ?_
    refine r_val .none rfl (p_ldw (k := 0) Try.underlying137 rfl sz137 rfl rfl (rfl : _ = Value.agg #[_, _])) ?_
    refine r_callm (vs := [_, _, _]) .none rfl cl70 rfl (fun w hw => c_found_s _ (c_growP_n _) _ _ _ _ fs (rsS.map Prod.fst) (((bs.take k).map Prod.fst), ((bs.take k).map Prod.snd)) (Nat.le_refl _) ⟨hfl, by rw [List.length_map, List.length_take]; omega, by rw [List.length_map, List.length_take]; omega⟩ hokS hf hSS hva hvc w hw) (fun G_19 v_22 hn_20 hr_21 => ?_)
    replace hf := hf.mono hn_20.le
    replace hs := hs.mono hn_20.le
    replace hb := hb.mono hn_20.le
    replace hSS := hSS.mono hn_20.le
    replace hva := hva.mono hn_20.le
    replace hvc := hvc.mono hn_20.le
    replace hS := hS.mono hn_20.le
    replace hSt := fun p hm0 => (hSt p hm0).mono hn_20.le
    replace hSs := fun p hm0 => (hSs p hm0).mono hn_20.le
    subst hr_21
    refine r_val .none rfl (p_assign rfl) ?_
    refine r_nil ?_
    refine e_next ?_
    refine c_ret ?_
    refine e_ret1 Try.results49 (.tmp rfl .nil) (fun w hm => ⟨?_, hm.since⟩)
    first
    | exact congrArg Value.bool (any_none hsn (by omega)).symm
    | exact congrArg Value.bool (by rw [any_some hsk (show k = bs.length by omega), show bs.take k = bs from List.take_of_length_le (by omega)])
    )
end Go.Proofs.Ytpadfgomhojjnaa

/- Walks: what Go functions of this chapter come to, each as a function on plain data; no condition but those that each theorem names. Printed by a program of this work (gen.py). -/
namespace Go.Proofs.Ytpadfgomhojjnaa
open Go.Gx Go.Gx.T13 Go.Gx.T8 Go.Gx.T4 Go.Gx.T3 Go.Gx.T14 Go.Gx.T13 Go.Gx.T8 Go.Gx.T6 Go.Gx.T4 Go.Gx.T3 Go.Gx.T3 Go.Gx.T4 Go.Gx.T3 Go.Gx.T5 Go.Gx.T1 Go.Gx.T8 Go.Gx.T6 Go.Gx.T4 Go.Gx.T3 Go.Gx.T6 Go.Gx.T8 Go.Gx.T4 Go.Gx.T3 Go.Gx.T8 Go.Gx.T4 Go.Gx.T3 Go.Gx.T8 Go.Gx.T6 Go.Gx.T4 Go.Gx.T3
theorem cl49 : Callable Try.prog 49 := callable Try.func49 (by kernel_rfl) rfl
theorem c_PlainAny (nm : ByteArray) (cv : Value) (l : List CT) (vt : Value) (t : List Tri) (ak : Int) {G : Ghost} (hs : Cs G cv l) (ht : SlL G vt 3 triL z3 t) (hat : 0 ≤ ak ∧ ak ≤ 255) (w : World) (hG : Has G w) :
  Calls Try.prog 11 #[Value.agg #[Value.string nm, cv], vt, Value.int .u8 ak] w (Ret fun r w' => r = Value.bool true ∧ Since nX w w') := by
 refine enter (args := [_, _, _]) (X := nX) (G := G) (l := [(0, Value.agg #[Value.string nm, cv]), (1, vt), (2, Value.int .u8 ak)]) Try.func11 rfl Try.ntmps11 hG ⟨rfl, rfl, rfl, trivial⟩ (Nat.le_of_ble_eq_true rfl) ?_
 refine c_seq ?_
 refine c_region ?_
 refine r_box .none rfl rfl (IsRow.lit _) (fun b_1 => ?_)
 refine r_val .none rfl (p_assign rfl) ?_
 refine r_nil ?_
 refine e_next ?_
 refine c_seq ?_
 refine c_seq ?_
 refine c_region ?_
 refine r_val .none rfl (p_ldw (k := 0) Try.underlying69 rfl sz69 rfl rfl (rfl : _ = Value.agg #[_, _])) ?_
 refine r_val .none rfl (p_move rfl) ?_
 refine r_val .none rfl (p_leng Try.underlying70 rfl ht) ?_
 have bd_1 := (ht).bound
 refine r_call (vs := [_, _]) .none rfl cl30 rfl (fun w hw => c_fine14 nm _ l t.length hs w hw) ?_
 refine r_val .none rfl (p_not rfl) ?_
 refine r_nil ?_
 refine e_next ?_
 refine c_splitn (d := 22) rfl (fun h_2 => ?_) (fun h_2 => ?_)
 ·
  first
   | (exfalso; first | omega | assumption)
   | (
    refine c_cond_t rfl ?_
    refine c_seq ?_
    refine c_region ?_
    refine r_call (vs := []) .none rfl cl31 rfl (fun w hw => c_awake14 w) ?_
    refine r_val .none rfl (p_assign rfl) ?_
    refine r_nil ?_
    refine e_next ?_
    refine c_ret ?_
    refine e_ret_then ?_
    refine e_ret1 Try.results11 (.tmp rfl .nil) (fun w hm => ⟨?_, hm.since⟩)
    rfl
    )
 ·
  have hfy := fine14_yes (h_2)
  have hsz : sizeL l ≤ 1000 := by omega
  have hcost := hfy.2.2.1
  have hss : sszL (stepsOf [] l) ≤ 1000 := Nat.le_trans (sszL_of l []) (by omega)
  have hoks : okSL (stepsOf [] l) := okSL_of l [] (by simp; omega)
  have hss2 : sszL (stepsOf [] l) ≤ 200 := Nat.le_trans (sszL_of l []) (by omega)
  have hkdl : kdL (stepsOf [] l) := kdL_steps l [] 1 (T5.chk_zero hfy.2.2.2).2.2.1
  first
   | (exfalso; first | omega | assumption)
   | (
    refine c_cond_f rfl ?_
    refine c_skip ?_
    refine e_next ?_
    refine c_seq ?_
    refine c_region ?_
    refine r_val .none rfl (p_move rfl) ?_
    refine r_callm (vs := [_, _]) .none rfl cl32 rfl (fun w hw => c_facts _ t 1 (by omega) (by decide) ht w hw) (fun G_3 v_6 hn_4 hr_5 => ?_)
    replace ht := ht.mono hn_4.le
    replace hs := hs.mono hn_4.le
    obtain ⟨fv, rfl, hF⟩ := hr_5
    refine r_val .none rfl (p_move rfl) ?_
    refine r_val .none rfl (p_extract rfl rfl) ?_
    refine r_val .none rfl (p_extract rfl rfl) ?_
    refine r_val .none rfl (p_assign rfl) ?_
    refine r_val .none rfl (p_assign rfl) ?_
    refine r_nil ?_
    refine e_next ?_
    refine c_seq ?_
    refine c_seq ?_
    refine c_region ?_
    refine r_val .none rfl (p_move rfl) ?_
    refine r_val .none rfl (p_not rfl) ?_
    refine r_nil ?_
    refine e_next ?_
    refine c_splitn (d := 30) rfl (fun h_8 => ?_) (fun h_8 => ?_)
    ·
     first
      | (exfalso; first | omega | assumption)
      | (
       refine c_cond_t rfl ?_
       refine c_seq ?_
       refine c_region ?_
       refine r_call (vs := []) .none rfl cl31 rfl (fun w hw => c_awake14 w) ?_
       refine r_val .none rfl (p_assign rfl) ?_
       refine r_nil ?_
       refine e_next ?_
       refine c_ret ?_
       refine e_ret_then ?_
       refine e_ret1 Try.results11 (.tmp rfl .nil) (fun w hm => ⟨?_, hm.since⟩)
       rfl
       )
    ·
     have hall : allOk t = true := h_8
     rw [fcts_yes hall] at hF
     have hfl := fTo_len t 1 t.length
     first
      | (exfalso; first | omega | assumption)
      | (
       refine c_cond_f rfl ?_
       refine c_skip ?_
       refine e_next ?_
       refine c_seq ?_
       refine c_region ?_
       refine r_val .none rfl (p_ldw (k := 0) Try.underlying69 rfl sz69 rfl rfl (rfl : _ = Value.agg #[_, _])) ?_
       refine r_callm (vs := [_]) .none rfl cl33 rfl (fun w hw => c_ref5 nm _ l hsz hs w hw) (fun G_9 v_12 hn_10 hr_11 => ?_)
       replace ht := ht.mono hn_10.le
       replace hs := hs.mono hn_10.le
       replace hF := hF.mono hn_10.le
       obtain ⟨u_13, rfl, u_13s⟩ := hr_11
       obtain ⟨u_13a, u_13c, rfl⟩ := Tr.len u_13s
       refine r_val .none rfl (p_field1 Try.underlying77 rfl Try.underlying75 rfl sz75 rfl (IsRow.lit _) rfl (by first | exact of_decide_eq_true rfl | omega) (rfl : _ = Value.slice _ _ _)) ?_
       refine r_callm (vs := [_]) .none rfl cl36 rfl (fun w hw => c_compile _ l hsz u_13s w hw) (fun G_14 v_17 hn_15 hr_16 => ?_)
       replace ht := ht.mono hn_15.le
       replace hs := hs.mono hn_15.le
       replace hF := hF.mono hn_15.le
       replace u_13s := u_13s.mono hn_15.le
       have hSS := hr_16
       obtain ⟨qS, hS, hSt, hSs, hSl⟩ := hr_16.inv
       have hqS : qS.length = l.length := by have h := congrArg List.length hSl; rw [stepsOf_len, List.length_map] at h; omega
       have hll := sizeL_len l
       refine r_val .none rfl (p_assign rfl) ?_
       refine r_nil ?_
       refine e_next ?_
       refine c_seq ?_
       refine c_region ?_
       refine r_val .none rfl (p_move rfl) ?_
       refine r_val .none rfl (p_conv Try.underlying5 Try.underlying3 rfl (IntWalk.i64_in _ (by omega))) ?_
       refine r_val .none rfl (p_move rfl) ?_
       refine r_val .none rfl (p_leng Try.underlying83 rfl hS) ?_
       have bd_19 := (hS).bound
       refine r_val .none rfl (p_add rfl rfl (by omega)) ?_
       refine r_val .none rfl (p_rem rfl rfl (by omega)) ?_
       obtain ⟨n, hn⟩ : ∃ n : Nat, ak % ((qS.length : Int) + 1) = (n : Int) := ⟨(ak % ((qS.length : Int) + 1)).toNat, by have := Int.emod_nonneg ak (b := (qS.length : Int) + 1) (by omega); omega⟩
       have hnl : n ≤ qS.length := by have h1 := Int.emod_lt_of_pos ak (show (0 : Int) < (qS.length : Int) + 1 by omega); omega
       refine r_say (d := 41) (v := Value.int .i64 ((n : Nat) : Int)) (congrArg (fun x => some (Value.int .i64 x)) (by first | exact hn | omega)) ?_
       refine r_val .none rfl (p_assign rfl) ?_
       refine r_nil ?_
       refine e_next ?_
       refine c_seq ?_
       refine c_block ?_
       refine c_name (d := 6) rfl (fun u_20 hu_20 => ?_)
       refine c_name (d := 7) rfl (fun u_21 hu_21 => ?_)
       refine c_name (d := 9) rfl (fun u_22 hu_22 => ?_)
       refine c_nameL (k := 0) rfl (fun A_23 hA_23 => ?_)
       refine c_loop (σ := Nat) (fun k => [(10, Value.int .i64 (k : Nat)), (6, u_20), (7, u_21), (9, u_22)]) (fun k => [A_23]) (fun _ => _) (fun k => k ≤ qS.length) (fun k => k) (n) hnl rfl ⟨rfl, rfl, rfl, rfl, trivial⟩ (.keep (fun _ _ h => h) (.nil)) (fun k hphi => ?_)
       subst hu_20
       subst hu_21
       subst hu_22
       subst hA_23
       refine c_seq ?_
       refine c_seq ?_
       refine c_region ?_
       refine r_val .none rfl (p_move rfl) ?_
       refine r_val .none rfl (p_gt rfl rfl) ?_
       refine r_val .none rfl (p_move rfl) ?_
       refine r_splitd (d := 44) rfl (fun h_24 => ?_) (fun h_24 => ?_)
       ·
        first
         | (exfalso; first | omega | assumption)
         | (
          refine r_val (.some rfl rfl) rfl (p_move rfl) ?_
          refine r_val (.some rfl rfl) rfl (p_move rfl) ?_
          refine r_val (.some rfl rfl) rfl (p_sub rfl rfl (by omega)) ?_
          refine r_say (d := 47) (v := Value.int .i64 ((k - 1 : Nat) : Int)) (congrArg (fun x => some (Value.int .i64 x)) (by omega)) ?_
          refine r_iaddr_g (.some rfl rfl) rfl Try.underlying83 sz116 rfl hS rfl (by first | exact of_decide_eq_true rfl | omega) (fun p_26 o_27 R_25 => ?_)
          refine r_val (.some rfl rfl) rfl (p_field Try.underlying116 rfl sz3 rfl) ?_
          refine r_val (.some rfl rfl) rfl (p_ldg (j := 0) Try.underlying3 rfl rfl R_25 (by first | exact of_decide_eq_true rfl | omega) (rfl : _ = Value.int _ _)) ?_
          refine r_val (.some rfl rfl) rfl (p_ne rfl rfl) ?_
          refine r_val .none rfl (p_pick_t rfl rfl) ?_
          refine r_nil ?_
          refine e_next ?_
          refine c_splitd (d := 52) rfl (fun h_28 => ?_) (fun h_28 => ?_)
          ·
           first
            | (exfalso; first | omega | assumption)
            | (
             refine c_cond_t rfl ?_
             refine c_skip ?_
             refine e_next ?_
             refine c_block ?_
             refine c_region ?_
             refine r_val .none rfl (p_move rfl) ?_
             refine r_val .none rfl (p_sub rfl rfl (by omega)) ?_
             refine r_val .none rfl (p_assign rfl) ?_
             refine r_nil ?_
             refine e_norm_block ?_
             refine e_round (k - 1) ⟨by omega, by omega⟩ rfl ⟨(congrArg (fun z => some (Value.int .i64 z)) (by omega)), rfl, rfl, rfl, trivial⟩ (.keep (fun _ _ h => h) (.nil))
             )
          ·
           have hkp := kp_of hSl (k := k) (by omega) (by omega) (by omega)
           first
            | (exfalso; first | omega | assumption)
            | (
             refine c_cond_f rfl ?_
             refine c_exit ?_
             refine e_exit_then ?_
             refine e_exit_then ?_
             refine e_exit_block ?_
             refine e_next ?_
             refine c_seq ?_
             refine c_region ?_
             refine r_val .none rfl (p_move rfl) ?_
             refine r_callm (vs := [_]) .none rfl cl39 rfl (fun w hw => c_ref12 _ (fTo t 1 t.length) (by rw [fTo_len]; omega) hF w hw) (fun G_29 v_32 hn_30 hr_31 => ?_)
             replace ht := ht.mono hn_30.le
             replace hs := hs.mono hn_30.le
             replace hF := hF.mono hn_30.le
             replace u_13s := u_13s.mono hn_30.le
             replace hSS := hSS.mono hn_30.le
             replace hS := hS.mono hn_30.le
             replace hSt := fun p hm0 => (hSt p hm0).mono hn_30.le
             replace hSs := fun p hm0 => (hSs p hm0).mono hn_30.le
             replace R_25 := R_25.mono hn_30.le
             have hFr := hr_31
             refine r_val .none rfl (p_assign rfl) ?_
             refine r_nil ?_
             refine e_next ?_
             refine c_seq ?_
             refine c_seq ?_
             refine c_region ?_
             refine r_val .none rfl (p_move rfl) ?_
             refine r_val .none rfl (p_move rfl) ?_
             refine r_val .none rfl (p_move rfl) ?_
             refine r_slice0 (k) .none rfl Try.underlying83 sz116 rfl hS rfl (by first | exact of_decide_eq_true rfl | omega) (fun v_34 hs_35 => ?_)
             have hT := ss_take (by omega) hs_35 hSt hSs
             rw [← hSl] at hT
             refine r_callm (vs := [_, _, _]) .none rfl cl45 rfl (fun w hw => c_rsteps_n _ _ _ _ (fTo t 1 t.length) ((stepsOf [] l).take k) [] _ w (Nat.le_refl _) (by rw [fTo_len]; omega) (by rw [List.length_nil]; have := T8.sszL_take_le (stepsOf [] l) k; omega) (okSL_take _ hoks) (kdL_take _ hkdl) (cost_take hcost (fTo_len _ _ _)) hFr hT (SlG.nil _ _ _) hw) (fun G_37 v_40 hn_38 hr_39 => ?_)
             replace ht := ht.mono hn_38.le
             replace hs := hs.mono hn_38.le
             replace hF := hF.mono hn_38.le
             replace u_13s := u_13s.mono hn_38.le
             replace hSS := hSS.mono hn_38.le
             replace hS := hS.mono hn_38.le
             replace hSt := fun p hm0 => (hSt p hm0).mono hn_38.le
             replace hSs := fun p hm0 => (hSs p hm0).mono hn_38.le
             replace R_25 := R_25.mono hn_38.le
             replace hFr := hFr.mono hn_38.le
             replace hs_35 := hs_35.mono hn_38.le
             replace hT := hT.mono hn_38.le
             obtain ⟨qs, hq, hqp, hql⟩ := hr_39
             refine r_val .none rfl (p_leng Try.underlying79 rfl hq) ?_
             have bd_42 := (hq).bound
             refine r_val .none rfl (p_move rfl) ?_
             refine r_nil ?_
             refine e_next ?_
             refine c_block ?_
             refine c_name (d := 7) rfl (fun u_43 hu_43 => ?_)
             refine c_name (d := 9) rfl (fun u_44 hu_44 => ?_)
             refine c_name (d := 10) rfl (fun u_45 hu_45 => ?_)
             refine c_name (d := 11) rfl (fun u_46 hu_46 => ?_)
             refine c_name (d := 61) rfl (fun u_47 hu_47 => ?_)
             refine c_name (d := 62) rfl (fun u_48 hu_48 => ?_)
             refine c_nameL (k := 0) rfl (fun A_49 hA_49 => ?_)
             refine c_loop (σ := Nat × Ghost) (fun s => [(63, Value.int .i64 (s.1 : Nat)), (7, u_43), (9, u_44), (10, u_45), (11, u_46), (61, u_47), (62, u_48)]) (fun s => [A_49]) (fun s => s.2) (fun s => s.1 ≤ qs.length ∧ GNew w nX G_37 s.2) (fun s => qs.length - s.1) ((0, _)) ⟨Nat.zero_le _, GNew.refl _ _ _⟩ rfl ⟨rfl, rfl, rfl, rfl, rfl, rfl, rfl, trivial⟩ (.keep (fun _ _ h => h) (.nil)) (fun s hphi => ?_)
             subst hu_43
             subst hu_44
             subst hu_45
             subst hu_46
             subst hu_47
             subst hu_48
             subst hA_49
             obtain ⟨j, H⟩ := s
             obtain ⟨hj, hgn⟩ := hphi
             dsimp only at hj hgn ⊢
             replace ht := ht.mono hgn.le
             replace hs := hs.mono hgn.le
             replace hF := hF.mono hgn.le
             replace u_13s := u_13s.mono hgn.le
             replace hSS := hSS.mono hgn.le
             replace hS := hS.mono hgn.le
             replace hSt := fun p hm0 => (hSt p hm0).mono hgn.le
             replace hSs := fun p hm0 => (hSs p hm0).mono hgn.le
             replace R_25 := R_25.mono hgn.le
             replace hFr := hFr.mono hgn.le
             replace hs_35 := hs_35.mono hgn.le
             replace hT := hT.mono hgn.le
             replace hq := hq.mono hgn.le
             replace hqp := fun p hm0 => (hqp p hm0).mono hgn.le
             refine c_seq ?_
             refine c_region ?_
             refine r_val .none rfl (p_lt rfl rfl) ?_
             refine r_nil ?_
             refine e_next ?_
             refine c_seq ?_
             refine c_splitd (d := 64) rfl (fun h_50 => ?_) (fun h_50 => ?_)
             ·
              first
               | (exfalso; first | omega | assumption)
               | (
                refine c_cond_t rfl ?_
                refine c_skip ?_
                refine e_next ?_
                refine c_seq ?_
                refine c_block ?_
                refine c_seq ?_
                refine c_region ?_
                refine r_iaddr_g .none rfl Try.underlying79 sz22 rfl hq rfl (by first | exact of_decide_eq_true rfl | omega) (fun p_52 o_53 R_51 => ?_)
                have hq_54 := hqp _ (getD_mem (i := j) (d := es14) (by omega))
                refine r_val .none rfl (p_ldg0 Try.underlying22 rfl rfl R_51 (by first | exact of_decide_eq_true rfl | omega) rfl) ?_
                have hmm := any_mem hql (j := j) (by omega)
                refine r_val .none rfl (p_assign rfl) ?_
                refine r_nil ?_
                refine e_next ?_
                refine c_seq ?_
                refine c_region ?_
                refine r_val .none rfl (p_assign rfl) ?_
                refine r_nil ?_
                refine e_next ?_
                refine c_seq ?_
                refine c_seq ?_
                refine c_region ?_
                refine r_val .none rfl (p_move rfl) ?_
                refine r_val .none rfl (p_leng Try.underlying22 rfl hq_54) ?_
                have bd_55 := (hq_54).bound
                refine r_val .none rfl (p_move rfl) ?_
                refine r_nil ?_
                refine e_next ?_
                refine c_block ?_
                refine c_nilrow 120 4 ?_
                refine c_name (d := 7) rfl (fun u_56 hu_56 => ?_)
                refine c_name (d := 9) rfl (fun u_57 hu_57 => ?_)
                refine c_name (d := 10) rfl (fun u_58 hu_58 => ?_)
                refine c_name (d := 11) rfl (fun u_59 hu_59 => ?_)
                refine c_name (d := 13) rfl (fun u_60 hu_60 => ?_)
                refine c_name (d := 61) rfl (fun u_61 hu_61 => ?_)
                refine c_name (d := 62) rfl (fun u_62 hu_62 => ?_)
                refine c_name (d := 63) rfl (fun u_63 hu_63 => ?_)
                refine c_name (d := 64) rfl (fun u_64 hu_64 => ?_)
                refine c_name (d := 65) rfl (fun u_65 hu_65 => ?_)
                refine c_name (d := 66) rfl (fun u_66 hu_66 => ?_)
                refine c_name (d := 67) rfl (fun u_67 hu_67 => ?_)
                refine c_name (d := 68) rfl (fun u_68 hu_68 => ?_)
                refine c_nameL (k := 1) rfl (fun A_69 hA_69 => ?_)
                refine c_loop (σ := Nat × Value) (fun s => [(69, Value.int .i64 (s.1 : Nat)), (14, s.2), (7, u_56), (9, u_57), (10, u_58), (11, u_59), (13, u_60), (61, u_61), (62, u_62), (63, u_63), (64, u_64), (65, u_65), (66, u_66), (67, u_67), (68, u_68)]) (fun s => [rowA (s.2) 120 4 ((((qs.getD j es14).1.take s.1).map (pick t))).length (((((qs.getD j es14).1.take s.1).map (pick t))).flatMap fC), A_69]) (fun _ => _) (fun s => s.1 ≤ (qs.getD j es14).1.length) (fun s => (qs.getD j es14).1.length - s.1) ((0, _)) (Nat.zero_le _) rfl ⟨rfl, rfl, rfl, rfl, rfl, rfl, rfl, rfl, rfl, rfl, rfl, rfl, rfl, rfl, rfl, trivial⟩ (.keep (fun _ _ h => rowA_nil rfl _ _ h) (.keep (fun _ _ h => h) (.nil))) (fun s hphi => ?_)
                subst hu_56
                subst hu_57
                subst hu_58
                subst hu_59
                subst hu_60
                subst hu_61
                subst hu_62
                subst hu_63
                subst hu_64
                subst hu_65
                subst hu_66
                subst hu_67
                subst hu_68
                subst hA_69
                obtain ⟨i, bv⟩ := s
                dsimp only at hphi ⊢
                have hspl : (qs.getD j es14).1.length ≤ 1000 := by have h9 := sPos_take (stepsOf [] l) k; have h8 := sszL_len (stepsOf [] l); have h7 := hmm.1; omega
                refine c_seq ?_
                refine c_region ?_
                refine r_val .none rfl (p_lt rfl rfl) ?_
                refine r_nil ?_
                refine e_next ?_
                refine c_seq ?_
                refine c_splitd (d := 70) rfl (fun h_70 => ?_) (fun h_70 => ?_)
                ·
                 first
                  | (exfalso; first | omega | assumption)
                  | (
                   refine c_cond_t rfl ?_
                   refine c_skip ?_
                   refine e_next ?_
                   refine c_seq ?_
                   refine c_block ?_
                   refine c_seq ?_
                   refine c_region ?_
                   refine r_iaddr_g .none rfl Try.underlying22 sz3 rfl hq_54 rfl (by first | exact of_decide_eq_true rfl | omega) (fun p_72 o_73 R_71 => ?_)
                   refine r_val .none rfl (p_ldg0 Try.underlying3 rfl rfl R_71 (by first | exact of_decide_eq_true rfl | omega) (rfl : _ = Value.int _ _)) ?_
                   obtain ⟨q, hq9, hq8⟩ : ∃ q : Nat, (qs.getD j es14).1.getD i 0 - 1 = (q : Int) ∧ q < t.length := by have h9 := hmm.2 _ (getD_memI (i := i) (by omega)); exact ⟨((qs.getD j es14).1.getD i 0 - 1).toNat, by omega, by omega⟩
                   have hq7 := hmm.2 _ (getD_memI (i := i) (by omega))
                   refine r_val .none rfl (p_assign rfl) ?_
                   refine r_nil ?_
                   refine e_next ?_
                   refine c_region ?_
                   refine r_val .none rfl (p_move rfl) ?_
                   refine r_val .none rfl (p_move rfl) ?_
                   refine r_val .none rfl (p_move rfl) ?_
                   refine r_val .none rfl (p_sub rfl rfl (by omega)) ?_
                   refine r_say (d := 76) (v := Value.int .i64 ((q : Nat) : Int)) (congrArg (fun x => some (Value.int .i64 x)) hq9) ?_
                   refine r_iaddr_g .none rfl Try.underlying72 sz120 rfl hF rfl (by first | exact of_decide_eq_true rfl | omega) (fun p_75 o_76 R_74 => ?_)
                   refine r_val .none rfl (p_ldga0 Try.underlying120 rfl sz120 rfl R_74 (by first | exact of_decide_eq_true rfl | omega) (rfl : _ = Value.agg #[_, _, _, _])) ?_
                   refine r_bslice (vs := [(0, Value.agg #[_, _, _, _])]) (c := #[_, _, _, _]) .none rfl Try.underlying72 el120 rfl rfl rfl (bs120_10a4 _ _ _ _) (IsRow.lit _) (fun b_2 => ?_)
                   refine r_append (k := 1) (k2 := 0) .none rfl Try.underlying72 el120 rfl (by decide) rfl rfl rfl rfl rfl (one_lit rfl rfl) (by rw [List.length_map, List.length_take]; simp only [maxLen]; omega) (by rw [List.length_map, List.length_take]; omega) (fun v_77 => ?_)
                   refine r_row1 (k := 1) rfl (fun o_78 => ?_)
                   refine r_val .none rfl (p_assign rfl) ?_
                   refine r_nil ?_
                   refine e_norm_block ?_
                   refine e_next ?_
                   refine c_region ?_
                   refine r_val .none rfl (p_add rfl rfl (by omega)) ?_
                   refine r_val .none rfl (p_move rfl) ?_
                   refine r_nil ?_
                   refine e_round ((i + 1, _)) ⟨by dsimp only; omega, by dsimp only; omega⟩ rfl ⟨rfl, rfl, rfl, rfl, rfl, rfl, rfl, rfl, rfl, rfl, rfl, rfl, rfl, rfl, rfl, trivial⟩ (.drop (.keep (fun _ _ h => rowA_snoc (pick_next (by omega) hq9) rfl rfl rfl _ _ h) (.keep (fun _ _ h => h) (.nil))))
                   )
                ·
                 first
                  | (exfalso; first | omega | assumption)
                  | (
                   refine c_cond_f rfl ?_
                   refine c_exit ?_
                   refine e_exit_then ?_
                   refine e_exit_then ?_
                   refine e_exit_block ?_
                   refine e_next ?_
                   refine c_seq ?_
                   have hi8 : (qs.getD j es14).1.take i = (qs.getD j es14).1 := List.take_of_length_le (by omega)
                   refine c_freeze (k := 0) rfl (fun G_79 hn_80 hs_81 => ?_)
                   replace ht := ht.mono hn_80.le
                   replace hs := hs.mono hn_80.le
                   replace hF := hF.mono hn_80.le
                   replace u_13s := u_13s.mono hn_80.le
                   replace hSS := hSS.mono hn_80.le
                   replace hS := hS.mono hn_80.le
                   replace hSt := fun p hm0 => (hSt p hm0).mono hn_80.le
                   replace hSs := fun p hm0 => (hSs p hm0).mono hn_80.le
                   replace R_25 := R_25.mono hn_80.le
                   replace hFr := hFr.mono hn_80.le
                   replace hs_35 := hs_35.mono hn_80.le
                   replace hT := hT.mono hn_80.le
                   replace hq := hq.mono hn_80.le
                   replace hqp := fun p hm0 => (hqp p hm0).mono hn_80.le
                   replace R_51 := R_51.mono hn_80.le
                   replace hq_54 := hq_54.mono hn_80.le
                   have hB : SlL G_79 bv 4 fC f0 ((qs.getD j es14).1.map (pick t)) := SlL.of2 f0 (fun _ => rfl) (by rw [hi8]) (by rw [hi8]) hs_81
                   have hBl : ((qs.getD j es14).1.map (pick t)).length = sPos ((stepsOf [] l).take k) := by rw [List.length_map]; exact hmm.1
                   have hsp9 : sPos ((stepsOf [] l).take k) ≤ l.length := Nat.le_trans (sPos_take _ _) (by rw [stepsOf_len]; omega)
                   refine c_region_d (fun j => [9].contains j) _ mixed (.keep (fun _ _ h => h) (.nil)) ?_
                   refine d_val1 0 rfl rfl (by kernel_rfl) (fun j hj => by have h : 9 < j := (Nat.lt_of_lt_of_le (by decide : 9 < 10) hj); simp; omega) .none rfl (p_move rfl) ?_
                   refine d_val1 1 rfl rfl (by kernel_rfl) (fun j hj => by have h : 9 < j := (Nat.lt_of_lt_of_le (by decide : 9 < 10) hj); simp; omega) .none rfl (p_move rfl) ?_
                   refine d_val1 2 rfl rfl (by kernel_rfl) (fun j hj => by have h : 9 < j := (Nat.lt_of_lt_of_le (by decide : 9 < 10) hj); simp; omega) .none rfl (p_move rfl) ?_
                   refine d_sliceL 3 k rfl rfl (by kernel_rfl) (fun j hj => by have h : 9 < j := (Nat.lt_of_lt_of_le (by decide : 9 < 10) hj); simp; omega) .none rfl Try.underlying83 sz116 rfl hS rfl (by first | exact of_decide_eq_true rfl | omega) (fun v_82 hs_83 => ?_)
                   have hD := ss_dropN hs_83 hSt hSs
                   rw [← hSl] at hD
                   refine d_val1 4 rfl rfl (by kernel_rfl) (fun j hj => by have h : 9 < j := (Nat.lt_of_lt_of_le (by decide : 9 < 10) hj); simp; omega) .none rfl (p_move rfl) ?_
                   refine d_eff 5 rfl (by kernel_rfl) (fun K_85 hKK_85 hcK_85 => ?_)
                   refine r_callm (vs := [_]) .none rfl cl39 rfl (fun w hw => c_ref12 _ ((qs.getD j es14).1.map (pick t)) (by omega) hB w hw) (fun G_86 v_89 hn_87 hr_88 => ?_)
                   replace ht := ht.mono hn_87.le
                   replace hs := hs.mono hn_87.le
                   replace hF := hF.mono hn_87.le
                   replace u_13s := u_13s.mono hn_87.le
                   replace hSS := hSS.mono hn_87.le
                   replace hS := hS.mono hn_87.le
                   replace hSt := fun p hm0 => (hSt p hm0).mono hn_87.le
                   replace hSs := fun p hm0 => (hSs p hm0).mono hn_87.le
                   replace R_25 := R_25.mono hn_87.le
                   replace hFr := hFr.mono hn_87.le
                   replace hs_35 := hs_35.mono hn_87.le
                   replace hT := hT.mono hn_87.le
                   replace hq := hq.mono hn_87.le
                   replace hqp := fun p hm0 => (hqp p hm0).mono hn_87.le
                   replace R_51 := R_51.mono hn_87.le
                   replace hq_54 := hq_54.mono hn_87.le
                   replace hB := hB.mono hn_87.le
                   replace hs_83 := hs_83.mono hn_87.le
                   replace hD := hD.mono hn_87.le
                   have hBr := hr_88
                   refine r_nil (e_d (i := 5) (brk := (fun j => [9].contains j)) (ph' := true) hKK_85 hcK_85 rfl (fun _ => hn_87.le) (fun _ => .keep (fun _ _ h => h) (.nil)) ?_)
                   clear hKK_85 hcK_85 K_85
                   refine d_eff 6 rfl (by kernel_rfl) (fun K_91 hKK_91 hcK_91 => ?_)
                   refine r_callm (vs := [_, _, _]) .none rfl cl45 rfl (fun w hw => c_rsteps_n _ _ _ _ (fTo t 1 t.length) ((stepsOf [] l).drop k) ((qs.getD j es14).1.map (pick t)) _ w (Nat.le_refl _) (by rw [fTo_len]; omega) (by have := sszL_drop (stepsOf [] l) k; have := sszL_len (stepsOf [] l); omega) (okSL_drop _ hoks) (kdL_drop _ hkdl) (cost_drop hcost (fTo_len _ _ _)) hFr hD hBr hw) (fun G_92 v_95 hn_93 hr_94 => ?_)
                   replace ht := ht.mono hn_93.le
                   replace hs := hs.mono hn_93.le
                   replace hF := hF.mono hn_93.le
                   replace u_13s := u_13s.mono hn_93.le
                   replace hSS := hSS.mono hn_93.le
                   replace hS := hS.mono hn_93.le
                   replace hSt := fun p hm0 => (hSt p hm0).mono hn_93.le
                   replace hSs := fun p hm0 => (hSs p hm0).mono hn_93.le
                   replace R_25 := R_25.mono hn_93.le
                   replace hFr := hFr.mono hn_93.le
                   replace hs_35 := hs_35.mono hn_93.le
                   replace hT := hT.mono hn_93.le
                   replace hq := hq.mono hn_93.le
                   replace hqp := fun p hm0 => (hqp p hm0).mono hn_93.le
                   replace R_51 := R_51.mono hn_93.le
                   replace hq_54 := hq_54.mono hn_93.le
                   replace hB := hB.mono hn_93.le
                   replace hs_83 := hs_83.mono hn_93.le
                   replace hD := hD.mono hn_93.le
                   replace hBr := hBr.mono hn_93.le
                   obtain ⟨ws, hws, hwp, hwl⟩ := hr_94
                   have hAny := any_eq (fs := (fTo t 1 t.length)) (S := (stepsOf [] l)) (k := k) hkp hBl hwl
                   refine r_nil (e_d (i := 6) (brk := (fun j => [9].contains j)) (ph' := true) hKK_91 hcK_91 rfl (fun _ => (hn_87.trans hn_93).le) (fun _ => .keep (fun _ _ h => h) (.nil)) ?_)
                   clear hKK_91 hcK_91 K_91
                   refine d_val1 7 rfl rfl (by kernel_rfl) (fun j hj => by have h : 9 < j := (Nat.lt_of_lt_of_le (by decide : 9 < 10) hj); simp; omega) .none rfl (p_lengx Try.underlying79 rfl hws) ?_
                   have bd_97 := (hws).bound
                   refine d_val1 8 rfl rfl (by kernel_rfl) (fun j hj => by have h : 9 < j := (Nat.lt_of_lt_of_le (by decide : 9 < 10) hj); simp; omega) .none rfl (p_gt rfl rfl) ?_
                   refine d_val2 9 rfl rfl (by kernel_rfl) .none rfl (fun _ => p_assign rfl) ?_
                   refine d_nil (by kernel_rfl) ?_
                   refine e_next ?_
                   refine c_seq ?_
                   refine c_region ?_
                   refine r_val .none rfl (p_move rfl) ?_
                   refine r_val .none rfl (p_move rfl) ?_
                   refine r_callm (vs := [_]) .none rfl cl35 rfl (fun w hw => c_steps _ (stepsOf [] l) (by omega) hSS w hw) (fun G_98 v_101 hn_99 hr_100 => ?_)
                   replace ht := ht.mono hn_99.le
                   replace hs := hs.mono hn_99.le
                   replace hF := hF.mono hn_99.le
                   replace u_13s := u_13s.mono hn_99.le
                   replace hSS := hSS.mono hn_99.le
                   replace hS := hS.mono hn_99.le
                   replace hSt := fun p hm0 => (hSt p hm0).mono hn_99.le
                   replace hSs := fun p hm0 => (hSs p hm0).mono hn_99.le
                   replace R_25 := R_25.mono hn_99.le
                   replace hFr := hFr.mono hn_99.le
                   replace hs_35 := hs_35.mono hn_99.le
                   replace hT := hT.mono hn_99.le
                   replace hq := hq.mono hn_99.le
                   replace hqp := fun p hm0 => (hqp p hm0).mono hn_99.le
                   replace R_51 := R_51.mono hn_99.le
                   replace hq_54 := hq_54.mono hn_99.le
                   replace hB := hB.mono hn_99.le
                   replace hs_83 := hs_83.mono hn_99.le
                   replace hD := hD.mono hn_99.le
                   replace hBr := hBr.mono hn_99.le
                   replace hws := hws.mono hn_99.le
                   have u_102 := hr_100
                   refine r_val .none rfl (p_move rfl) ?_
                   refine r_call (vs := [_, _, _]) .none rfl cl49 rfl (fun w hw => c_any _ _ _ (fTo t 1 t.length) (stepsOf [] l) ((qs.getD j es14).1.map (pick t)) (by rw [fTo_len]; omega) (by omega) hoks hF u_102 hB w hw) ?_
                   refine r_val .none rfl (p_move rfl) ?_
                   refine r_val .none rfl (p_neb Try.underlying4 rfl rfl) ?_
                   refine r_nil ?_
                   refine e_next ?_
                   refine c_splitn (d := 97) rfl (fun h_103 => ?_) (fun h_103 => ?_)
                   ·
                    have hx : False := of_decide_eq_false (h_103) hAny
                    first
                     | (exfalso; first | omega | assumption)
                     | (
                      refine c_cond_t rfl ?_
                      refine c_seq ?_
                      refine c_region ?_
                      refine r_val .none rfl (p_assign rfl) ?_
                      refine r_nil ?_
                      refine e_next ?_
                      refine c_ret ?_
                      refine e_ret_block ?_
                      refine e_ret_then ?_
                      refine e_ret_then ?_
                      refine e_ret_block ?_
                      refine e_ret_then ?_
                      refine e_ret1 Try.results11 (.tmp rfl .nil) (fun w hm => ⟨?_, hm.since⟩)
                      rfl
                      )
                   ·
                    first
                     | (exfalso; first | omega | assumption)
                     | (
                      refine c_cond_f rfl ?_
                      refine c_skip ?_
                      refine e_norm_block ?_
                      refine e_next ?_
                      refine c_region ?_
                      refine r_val .none rfl (p_add rfl rfl (by omega)) ?_
                      refine r_val .none rfl (p_move rfl) ?_
                      refine r_nil ?_
                      refine e_round ((j + 1, _)) ⟨⟨by dsimp only; omega, ((((hgn.trans hn_80).trans hn_87).trans hn_93).trans hn_99)⟩, by dsimp only; omega⟩ rfl ⟨rfl, rfl, rfl, rfl, rfl, rfl, rfl, trivial⟩ (.keep (fun _ _ h => h) (.nil))
                      )
                   )
                )
             ·
              first
               | (exfalso; first | omega | assumption)
               | (
                refine c_cond_f rfl ?_
                refine c_exit ?_
                refine e_exit_then ?_
                refine e_exit_then ?_
                refine e_exit_block ?_
                refine e_next ?_
                refine c_seq ?_
                refine c_region ?_
                refine r_call (vs := []) .none rfl cl31 rfl (fun w hw => c_awake14 w) ?_
                refine r_val .none rfl (p_assign rfl) ?_
                refine r_nil ?_
                refine e_next ?_
                refine c_ret ?_
                refine e_ret1 Try.results11 (.tmp rfl .nil) (fun w hm => ⟨?_, hm.since⟩)
                rfl
                )
             )
          )
       ·
        have hkp : k = 0 ∨ ∃ c, (stepsOf [] l)[k - 1]? = some c ∧ c.h.k = 1 := .inl (by omega)
        first
         | (exfalso; first | omega | assumption)
         | (
          refine r_skip rfl (.no rfl rfl) ?_
          refine r_skip rfl (.no rfl rfl) ?_
          refine r_skip rfl (.no rfl rfl) ?_
          refine r_skip rfl (.no rfl rfl) ?_
          refine r_skip rfl (.no rfl rfl) ?_
          refine r_skip rfl (.no rfl rfl) ?_
          refine r_skip rfl (.no rfl rfl) ?_
          refine r_val .none rfl (p_pick_f rfl rfl) ?_
          refine r_nil ?_
          refine e_next ?_
          refine c_cond_f rfl ?_
          refine c_exit ?_
          refine e_exit_then ?_
          refine e_exit_then ?_
          refine e_exit_block ?_
          refine e_next ?_
          refine c_seq ?_
          refine c_region ?_
          refine r_val .none rfl (p_move rfl) ?_
          refine r_callm (vs := [_]) .none rfl cl39 rfl (fun w hw => c_ref12 _ (fTo t 1 t.length) (by rw [fTo_len]; omega) hF w hw) (fun G_104 v_107 hn_105 hr_106 => ?_)
          replace ht := ht.mono hn_105.le
          replace hs := hs.mono hn_105.le
          replace hF := hF.mono hn_105.le
          replace u_13s := u_13s.mono hn_105.le
          replace hSS := hSS.mono hn_105.le
          replace hS := hS.mono hn_105.le
          replace hSt := fun p hm0 => (hSt p hm0).mono hn_105.le
          replace hSs := fun p hm0 => (hSs p hm0).mono hn_105.le
          have hFr := hr_106
          refine r_val .none rfl (p_assign rfl) ?_
          refine r_nil ?_
          refine e_next ?_
          refine c_seq ?_
          refine c_seq ?_
          refine c_region ?_
          refine r_val .none rfl (p_move rfl) ?_
          refine r_val .none rfl (p_move rfl) ?_
          refine r_val .none rfl (p_move rfl) ?_
          refine r_slice0 (k) .none rfl Try.underlying83 sz116 rfl hS rfl (by first | exact of_decide_eq_true rfl | omega) (fun v_109 hs_110 => ?_)
          have hT := ss_take (by omega) hs_110 hSt hSs
          rw [← hSl] at hT
          refine r_callm (vs := [_, _, _]) .none rfl cl45 rfl (fun w hw => c_rsteps_n _ _ _ _ (fTo t 1 t.length) ((stepsOf [] l).take k) [] _ w (Nat.le_refl _) (by rw [fTo_len]; omega) (by rw [List.length_nil]; have := T8.sszL_take_le (stepsOf [] l) k; omega) (okSL_take _ hoks) (kdL_take _ hkdl) (cost_take hcost (fTo_len _ _ _)) hFr hT (SlG.nil _ _ _) hw) (fun G_112 v_115 hn_113 hr_114 => ?_)
          replace ht := ht.mono hn_113.le
          replace hs := hs.mono hn_113.le
          replace hF := hF.mono hn_113.le
          replace u_13s := u_13s.mono hn_113.le
          replace hSS := hSS.mono hn_113.le
          replace hS := hS.mono hn_113.le
          replace hSt := fun p hm0 => (hSt p hm0).mono hn_113.le
          replace hSs := fun p hm0 => (hSs p hm0).mono hn_113.le
          replace hFr := hFr.mono hn_113.le
          replace hs_110 := hs_110.mono hn_113.le
          replace hT := hT.mono hn_113.le
          obtain ⟨qs, hq, hqp, hql⟩ := hr_114
          refine r_val .none rfl (p_leng Try.underlying79 rfl hq) ?_
          have bd_117 := (hq).bound
          refine r_val .none rfl (p_move rfl) ?_
          refine r_nil ?_
          refine e_next ?_
          refine c_block ?_
          refine c_name (d := 7) rfl (fun u_118 hu_118 => ?_)
          refine c_name (d := 9) rfl (fun u_119 hu_119 => ?_)
          refine c_name (d := 10) rfl (fun u_120 hu_120 => ?_)
          refine c_name (d := 11) rfl (fun u_121 hu_121 => ?_)
          refine c_name (d := 61) rfl (fun u_122 hu_122 => ?_)
          refine c_name (d := 62) rfl (fun u_123 hu_123 => ?_)
          refine c_nameL (k := 0) rfl (fun A_124 hA_124 => ?_)
          refine c_loop (σ := Nat × Ghost) (fun s => [(63, Value.int .i64 (s.1 : Nat)), (7, u_118), (9, u_119), (10, u_120), (11, u_121), (61, u_122), (62, u_123)]) (fun s => [A_124]) (fun s => s.2) (fun s => s.1 ≤ qs.length ∧ GNew w nX G_112 s.2) (fun s => qs.length - s.1) ((0, _)) ⟨Nat.zero_le _, GNew.refl _ _ _⟩ rfl ⟨rfl, rfl, rfl, rfl, rfl, rfl, rfl, trivial⟩ (.keep (fun _ _ h => h) (.nil)) (fun s hphi => ?_)
          subst hu_118
          subst hu_119
          subst hu_120
          subst hu_121
          subst hu_122
          subst hu_123
          subst hA_124
          obtain ⟨j, H⟩ := s
          obtain ⟨hj, hgn⟩ := hphi
          dsimp only at hj hgn ⊢
          replace ht := ht.mono hgn.le
          replace hs := hs.mono hgn.le
          replace hF := hF.mono hgn.le
          replace u_13s := u_13s.mono hgn.le
          replace hSS := hSS.mono hgn.le
          replace hS := hS.mono hgn.le
          replace hSt := fun p hm0 => (hSt p hm0).mono hgn.le
          replace hSs := fun p hm0 => (hSs p hm0).mono hgn.le
          replace hFr := hFr.mono hgn.le
          replace hs_110 := hs_110.mono hgn.le
          replace hT := hT.mono hgn.le
          replace hq := hq.mono hgn.le
          replace hqp := fun p hm0 => (hqp p hm0).mono hgn.le
          refine c_seq ?_
          refine c_region ?_
          refine r_val .none rfl (p_lt rfl rfl) ?_
          refine r_nil ?_
          refine e_next ?_
          refine c_seq ?_
          refine c_splitd (d := 64) rfl (fun h_125 => ?_) (fun h_125 => ?_)
          ·
           first
            | (exfalso; first | omega | assumption)
            | (
             refine c_cond_t rfl ?_
             refine c_skip ?_
             refine e_next ?_
             refine c_seq ?_
             refine c_block ?_
             refine c_seq ?_
             refine c_region ?_
             refine r_iaddr_g .none rfl Try.underlying79 sz22 rfl hq rfl (by first | exact of_decide_eq_true rfl | omega) (fun p_127 o_128 R_126 => ?_)
             have hq_129 := hqp _ (getD_mem (i := j) (d := es14) (by omega))
             refine r_val .none rfl (p_ldg0 Try.underlying22 rfl rfl R_126 (by first | exact of_decide_eq_true rfl | omega) rfl) ?_
             have hmm := any_mem hql (j := j) (by omega)
             refine r_val .none rfl (p_assign rfl) ?_
             refine r_nil ?_
             refine e_next ?_
             refine c_seq ?_
             refine c_region ?_
             refine r_val .none rfl (p_assign rfl) ?_
             refine r_nil ?_
             refine e_next ?_
             refine c_seq ?_
             refine c_seq ?_
             refine c_region ?_
             refine r_val .none rfl (p_move rfl) ?_
             refine r_val .none rfl (p_leng Try.underlying22 rfl hq_129) ?_
             have bd_130 := (hq_129).bound
             refine r_val .none rfl (p_move rfl) ?_
             refine r_nil ?_
             refine e_next ?_
             refine c_block ?_
             refine c_nilrow 120 4 ?_
             refine c_name (d := 7) rfl (fun u_131 hu_131 => ?_)
             refine c_name (d := 9) rfl (fun u_132 hu_132 => ?_)
             refine c_name (d := 10) rfl (fun u_133 hu_133 => ?_)
             refine c_name (d := 11) rfl (fun u_134 hu_134 => ?_)
             refine c_name (d := 13) rfl (fun u_135 hu_135 => ?_)
             refine c_name (d := 61) rfl (fun u_136 hu_136 => ?_)
             refine c_name (d := 62) rfl (fun u_137 hu_137 => ?_)
             refine c_name (d := 63) rfl (fun u_138 hu_138 => ?_)
             refine c_name (d := 64) rfl (fun u_139 hu_139 => ?_)
             refine c_name (d := 65) rfl (fun u_140 hu_140 => ?_)
             refine c_name (d := 66) rfl (fun u_141 hu_141 => ?_)
             refine c_name (d := 67) rfl (fun u_142 hu_142 => ?_)
             refine c_name (d := 68) rfl (fun u_143 hu_143 => ?_)
             refine c_nameL (k := 1) rfl (fun A_144 hA_144 => ?_)
             refine c_loop (σ := Nat × Value) (fun s => [(69, Value.int .i64 (s.1 : Nat)), (14, s.2), (7, u_131), (9, u_132), (10, u_133), (11, u_134), (13, u_135), (61, u_136), (62, u_137), (63, u_138), (64, u_139), (65, u_140), (66, u_141), (67, u_142), (68, u_143)]) (fun s => [rowA (s.2) 120 4 ((((qs.getD j es14).1.take s.1).map (pick t))).length (((((qs.getD j es14).1.take s.1).map (pick t))).flatMap fC), A_144]) (fun _ => _) (fun s => s.1 ≤ (qs.getD j es14).1.length) (fun s => (qs.getD j es14).1.length - s.1) ((0, _)) (Nat.zero_le _) rfl ⟨rfl, rfl, rfl, rfl, rfl, rfl, rfl, rfl, rfl, rfl, rfl, rfl, rfl, rfl, rfl, trivial⟩ (.keep (fun _ _ h => rowA_nil rfl _ _ h) (.keep (fun _ _ h => h) (.nil))) (fun s hphi => ?_)
             subst hu_131
             subst hu_132
             subst hu_133
             subst hu_134
             subst hu_135
             subst hu_136
             subst hu_137
             subst hu_138
             subst hu_139
             subst hu_140
             subst hu_141
             subst hu_142
             subst hu_143
             subst hA_144
             obtain ⟨i, bv⟩ := s
             dsimp only at hphi ⊢
             have hspl : (qs.getD j es14).1.length ≤ 1000 := by have h9 := sPos_take (stepsOf [] l) k; have h8 := sszL_len (stepsOf [] l); have h7 := hmm.1; omega
             refine c_seq ?_
             refine c_region ?_
             refine r_val .none rfl (p_lt rfl rfl) ?_
             refine r_nil ?_
             refine e_next ?_
             refine c_seq ?_
             refine c_splitd (d := 70) rfl (fun h_145 => ?_) (fun h_145 => ?_)
             ·
              first
               | (exfalso; first | omega | assumption)
               | (
                refine c_cond_t rfl ?_
                refine c_skip ?_
                refine e_next ?_
                refine c_seq ?_
                refine c_block ?_
                refine c_seq ?_
                refine c_region ?_
                refine r_iaddr_g .none rfl Try.underlying22 sz3 rfl hq_129 rfl (by first | exact of_decide_eq_true rfl | omega) (fun p_147 o_148 R_146 => ?_)
                refine r_val .none rfl (p_ldg0 Try.underlying3 rfl rfl R_146 (by first | exact of_decide_eq_true rfl | omega) (rfl : _ = Value.int _ _)) ?_
                obtain ⟨q, hq9, hq8⟩ : ∃ q : Nat, (qs.getD j es14).1.getD i 0 - 1 = (q : Int) ∧ q < t.length := by have h9 := hmm.2 _ (getD_memI (i := i) (by omega)); exact ⟨((qs.getD j es14).1.getD i 0 - 1).toNat, by omega, by omega⟩
                have hq7 := hmm.2 _ (getD_memI (i := i) (by omega))
                refine r_val .none rfl (p_assign rfl) ?_
                refine r_nil ?_
                refine e_next ?_
                refine c_region ?_
                refine r_val .none rfl (p_move rfl) ?_
                refine r_val .none rfl (p_move rfl) ?_
                refine r_val .none rfl (p_move rfl) ?_
                refine r_val .none rfl (p_sub rfl rfl (by omega)) ?_
                refine r_say (d := 76) (v := Value.int .i64 ((q : Nat) : Int)) (congrArg (fun x => some (Value.int .i64 x)) hq9) ?_
                refine r_iaddr_g .none rfl Try.underlying72 sz120 rfl hF rfl (by first | exact of_decide_eq_true rfl | omega) (fun p_150 o_151 R_149 => ?_)
                refine r_val .none rfl (p_ldga0 Try.underlying120 rfl sz120 rfl R_149 (by first | exact of_decide_eq_true rfl | omega) (rfl : _ = Value.agg #[_, _, _, _])) ?_
                refine r_bslice (vs := [(0, Value.agg #[_, _, _, _])]) (c := #[_, _, _, _]) .none rfl Try.underlying72 el120 rfl rfl rfl (bs120_10a4 _ _ _ _) (IsRow.lit _) (fun b_3 => ?_)
                refine r_append (k := 1) (k2 := 0) .none rfl Try.underlying72 el120 rfl (by decide) rfl rfl rfl rfl rfl (one_lit rfl rfl) (by rw [List.length_map, List.length_take]; simp only [maxLen]; omega) (by rw [List.length_map, List.length_take]; omega) (fun v_152 => ?_)
                refine r_row1 (k := 1) rfl (fun o_153 => ?_)
                refine r_val .none rfl (p_assign rfl) ?_
                refine r_nil ?_
                refine e_norm_block ?_
                refine e_next ?_
                refine c_region ?_
                refine r_val .none rfl (p_add rfl rfl (by omega)) ?_
                refine r_val .none rfl (p_move rfl) ?_
                refine r_nil ?_
                refine e_round ((i + 1, _)) ⟨by dsimp only; omega, by dsimp only; omega⟩ rfl ⟨rfl, rfl, rfl, rfl, rfl, rfl, rfl, rfl, rfl, rfl, rfl, rfl, rfl, rfl, rfl, trivial⟩ (.drop (.keep (fun _ _ h => rowA_snoc (pick_next (by omega) hq9) rfl rfl rfl _ _ h) (.keep (fun _ _ h => h) (.nil))))
                )
             ·
              first
               | (exfalso; first | omega | assumption)
               | (
                refine c_cond_f rfl ?_
                refine c_exit ?_
                refine e_exit_then ?_
                refine e_exit_then ?_
                refine e_exit_block ?_
                refine e_next ?_
                refine c_seq ?_
                have hi8 : (qs.getD j es14).1.take i = (qs.getD j es14).1 := List.take_of_length_le (by omega)
                refine c_freeze (k := 0) rfl (fun G_154 hn_155 hs_156 => ?_)
                replace ht := ht.mono hn_155.le
                replace hs := hs.mono hn_155.le
                replace hF := hF.mono hn_155.le
                replace u_13s := u_13s.mono hn_155.le
                replace hSS := hSS.mono hn_155.le
                replace hS := hS.mono hn_155.le
                replace hSt := fun p hm0 => (hSt p hm0).mono hn_155.le
                replace hSs := fun p hm0 => (hSs p hm0).mono hn_155.le
                replace hFr := hFr.mono hn_155.le
                replace hs_110 := hs_110.mono hn_155.le
                replace hT := hT.mono hn_155.le
                replace hq := hq.mono hn_155.le
                replace hqp := fun p hm0 => (hqp p hm0).mono hn_155.le
                replace R_126 := R_126.mono hn_155.le
                replace hq_129 := hq_129.mono hn_155.le
                have hB : SlL G_154 bv 4 fC f0 ((qs.getD j es14).1.map (pick t)) := SlL.of2 f0 (fun _ => rfl) (by rw [hi8]) (by rw [hi8]) hs_156
                have hBl : ((qs.getD j es14).1.map (pick t)).length = sPos ((stepsOf [] l).take k) := by rw [List.length_map]; exact hmm.1
                have hsp9 : sPos ((stepsOf [] l).take k) ≤ l.length := Nat.le_trans (sPos_take _ _) (by rw [stepsOf_len]; omega)
                refine c_region_d (fun j => [9].contains j) _ mixed (.keep (fun _ _ h => h) (.nil)) ?_
                refine d_val1 0 rfl rfl (by kernel_rfl) (fun j hj => by have h : 9 < j := (Nat.lt_of_lt_of_le (by decide : 9 < 10) hj); simp; omega) .none rfl (p_move rfl) ?_
                refine d_val1 1 rfl rfl (by kernel_rfl) (fun j hj => by have h : 9 < j := (Nat.lt_of_lt_of_le (by decide : 9 < 10) hj); simp; omega) .none rfl (p_move rfl) ?_
                refine d_val1 2 rfl rfl (by kernel_rfl) (fun j hj => by have h : 9 < j := (Nat.lt_of_lt_of_le (by decide : 9 < 10) hj); simp; omega) .none rfl (p_move rfl) ?_
                refine d_sliceL 3 k rfl rfl (by kernel_rfl) (fun j hj => by have h : 9 < j := (Nat.lt_of_lt_of_le (by decide : 9 < 10) hj); simp; omega) .none rfl Try.underlying83 sz116 rfl hS rfl (by first | exact of_decide_eq_true rfl | omega) (fun v_157 hs_158 => ?_)
                have hD := ss_dropN hs_158 hSt hSs
                rw [← hSl] at hD
                refine d_val1 4 rfl rfl (by kernel_rfl) (fun j hj => by have h : 9 < j := (Nat.lt_of_lt_of_le (by decide : 9 < 10) hj); simp; omega) .none rfl (p_move rfl) ?_
                refine d_eff 5 rfl (by kernel_rfl) (fun K_160 hKK_160 hcK_160 => ?_)
                refine r_callm (vs := [_]) .none rfl cl39 rfl (fun w hw => c_ref12 _ ((qs.getD j es14).1.map (pick t)) (by omega) hB w hw) (fun G_161 v_164 hn_162 hr_163 => ?_)
                replace ht := ht.mono hn_162.le
                replace hs := hs.mono hn_162.le
                replace hF := hF.mono hn_162.le
                replace u_13s := u_13s.mono hn_162.le
                replace hSS := hSS.mono hn_162.le
                replace hS := hS.mono hn_162.le
                replace hSt := fun p hm0 => (hSt p hm0).mono hn_162.le
                replace hSs := fun p hm0 => (hSs p hm0).mono hn_162.le
                replace hFr := hFr.mono hn_162.le
                replace hs_110 := hs_110.mono hn_162.le
                replace hT := hT.mono hn_162.le
                replace hq := hq.mono hn_162.le
                replace hqp := fun p hm0 => (hqp p hm0).mono hn_162.le
                replace R_126 := R_126.mono hn_162.le
                replace hq_129 := hq_129.mono hn_162.le
                replace hB := hB.mono hn_162.le
                replace hs_158 := hs_158.mono hn_162.le
                replace hD := hD.mono hn_162.le
                have hBr := hr_163
                refine r_nil (e_d (i := 5) (brk := (fun j => [9].contains j)) (ph' := true) hKK_160 hcK_160 rfl (fun _ => hn_162.le) (fun _ => .keep (fun _ _ h => h) (.nil)) ?_)
                clear hKK_160 hcK_160 K_160
                refine d_eff 6 rfl (by kernel_rfl) (fun K_166 hKK_166 hcK_166 => ?_)
                refine r_callm (vs := [_, _, _]) .none rfl cl45 rfl (fun w hw => c_rsteps_n _ _ _ _ (fTo t 1 t.length) ((stepsOf [] l).drop k) ((qs.getD j es14).1.map (pick t)) _ w (Nat.le_refl _) (by rw [fTo_len]; omega) (by have := sszL_drop (stepsOf [] l) k; have := sszL_len (stepsOf [] l); omega) (okSL_drop _ hoks) (kdL_drop _ hkdl) (cost_drop hcost (fTo_len _ _ _)) hFr hD hBr hw) (fun G_167 v_170 hn_168 hr_169 => ?_)
                replace ht := ht.mono hn_168.le
                replace hs := hs.mono hn_168.le
                replace hF := hF.mono hn_168.le
                replace u_13s := u_13s.mono hn_168.le
                replace hSS := hSS.mono hn_168.le
                replace hS := hS.mono hn_168.le
                replace hSt := fun p hm0 => (hSt p hm0).mono hn_168.le
                replace hSs := fun p hm0 => (hSs p hm0).mono hn_168.le
                replace hFr := hFr.mono hn_168.le
                replace hs_110 := hs_110.mono hn_168.le
                replace hT := hT.mono hn_168.le
                replace hq := hq.mono hn_168.le
                replace hqp := fun p hm0 => (hqp p hm0).mono hn_168.le
                replace R_126 := R_126.mono hn_168.le
                replace hq_129 := hq_129.mono hn_168.le
                replace hB := hB.mono hn_168.le
                replace hs_158 := hs_158.mono hn_168.le
                replace hD := hD.mono hn_168.le
                replace hBr := hBr.mono hn_168.le
                obtain ⟨ws, hws, hwp, hwl⟩ := hr_169
                have hAny := any_eq (fs := (fTo t 1 t.length)) (S := (stepsOf [] l)) (k := k) hkp hBl hwl
                refine r_nil (e_d (i := 6) (brk := (fun j => [9].contains j)) (ph' := true) hKK_166 hcK_166 rfl (fun _ => (hn_162.trans hn_168).le) (fun _ => .keep (fun _ _ h => h) (.nil)) ?_)
                clear hKK_166 hcK_166 K_166
                refine d_val1 7 rfl rfl (by kernel_rfl) (fun j hj => by have h : 9 < j := (Nat.lt_of_lt_of_le (by decide : 9 < 10) hj); simp; omega) .none rfl (p_lengx Try.underlying79 rfl hws) ?_
                have bd_172 := (hws).bound
                refine d_val1 8 rfl rfl (by kernel_rfl) (fun j hj => by have h : 9 < j := (Nat.lt_of_lt_of_le (by decide : 9 < 10) hj); simp; omega) .none rfl (p_gt rfl rfl) ?_
                refine d_val2 9 rfl rfl (by kernel_rfl) .none rfl (fun _ => p_assign rfl) ?_
                refine d_nil (by kernel_rfl) ?_
                refine e_next ?_
                refine c_seq ?_
                refine c_region ?_
                refine r_val .none rfl (p_move rfl) ?_
                refine r_val .none rfl (p_move rfl) ?_
                refine r_callm (vs := [_]) .none rfl cl35 rfl (fun w hw => c_steps _ (stepsOf [] l) (by omega) hSS w hw) (fun G_173 v_176 hn_174 hr_175 => ?_)
                replace ht := ht.mono hn_174.le
                replace hs := hs.mono hn_174.le
                replace hF := hF.mono hn_174.le
                replace u_13s := u_13s.mono hn_174.le
                replace hSS := hSS.mono hn_174.le
                replace hS := hS.mono hn_174.le
                replace hSt := fun p hm0 => (hSt p hm0).mono hn_174.le
                replace hSs := fun p hm0 => (hSs p hm0).mono hn_174.le
                replace hFr := hFr.mono hn_174.le
                replace hs_110 := hs_110.mono hn_174.le
                replace hT := hT.mono hn_174.le
                replace hq := hq.mono hn_174.le
                replace hqp := fun p hm0 => (hqp p hm0).mono hn_174.le
                replace R_126 := R_126.mono hn_174.le
                replace hq_129 := hq_129.mono hn_174.le
                replace hB := hB.mono hn_174.le
                replace hs_158 := hs_158.mono hn_174.le
                replace hD := hD.mono hn_174.le
                replace hBr := hBr.mono hn_174.le
                replace hws := hws.mono hn_174.le
                have u_177 := hr_175
                refine r_val .none rfl (p_move rfl) ?_
                refine r_call (vs := [_, _, _]) .none rfl cl49 rfl (fun w hw => c_any _ _ _ (fTo t 1 t.length) (stepsOf [] l) ((qs.getD j es14).1.map (pick t)) (by rw [fTo_len]; omega) (by omega) hoks hF u_177 hB w hw) ?_
                refine r_val .none rfl (p_move rfl) ?_
                refine r_val .none rfl (p_neb Try.underlying4 rfl rfl) ?_
                refine r_nil ?_
                refine e_next ?_
                refine c_splitn (d := 97) rfl (fun h_178 => ?_) (fun h_178 => ?_)
                ·
                 have hx : False := of_decide_eq_false (h_178) hAny
                 first
                  | (exfalso; first | omega | assumption)
                  | (
                   refine c_cond_t rfl ?_
                   refine c_seq ?_
                   refine c_region ?_
                   refine r_val .none rfl (p_assign rfl) ?_
                   refine r_nil ?_
                   refine e_next ?_
                   refine c_ret ?_
                   refine e_ret_block ?_
                   refine e_ret_then ?_
                   refine e_ret_then ?_
                   refine e_ret_block ?_
                   refine e_ret_then ?_
                   refine e_ret1 Try.results11 (.tmp rfl .nil) (fun w hm => ⟨?_, hm.since⟩)
                   rfl
                   )
                ·
                 first
                  | (exfalso; first | omega | assumption)
                  | (
                   refine c_cond_f rfl ?_
                   refine c_skip ?_
                   refine e_norm_block ?_
                   refine e_next ?_
                   refine c_region ?_
                   refine r_val .none rfl (p_add rfl rfl (by omega)) ?_
                   refine r_val .none rfl (p_move rfl) ?_
                   refine r_nil ?_
                   refine e_round ((j + 1, _)) ⟨⟨by dsimp only; omega, ((((hgn.trans hn_155).trans hn_162).trans hn_168).trans hn_174)⟩, by dsimp only; omega⟩ rfl ⟨rfl, rfl, rfl, rfl, rfl, rfl, rfl, trivial⟩ (.keep (fun _ _ h => h) (.nil))
                   )
                )
             )
          ·
           first
            | (exfalso; first | omega | assumption)
            | (
             refine c_cond_f rfl ?_
             refine c_exit ?_
             refine e_exit_then ?_
             refine e_exit_then ?_
             refine e_exit_block ?_
             refine e_next ?_
             refine c_seq ?_
             refine c_region ?_
             refine r_call (vs := []) .none rfl cl31 rfl (fun w hw => c_awake14 w) ?_
             refine r_val .none rfl (p_assign rfl) ?_
             refine r_nil ?_
             refine e_next ?_
             refine c_ret ?_
             refine e_ret1 Try.results11 (.tmp rfl .nil) (fun w hm => ⟨?_, hm.since⟩)
             rfl
             )
          )
       )
    )
end Go.Proofs.Ytpadfgomhojjnaa

/- Walks: what Go functions of this chapter come to, each as a function on plain data; no condition but those that each theorem names. Printed by a program of this work (gen.py). -/
namespace Go.Proofs.Ytpadfgomhojjnaa
open Go.Gx Go.Gx.T3 Go.Gx.T4 Go.Gx.T3 Go.ChangeShapes Go.WideShapes Go.ChangeAt Go.RowKit

theorem open_cond_l : leafT Try.prog 10 97 = some [3, 4, 3, 4, 3, 4, 3, 67] := by kernel_rfl
theorem open_cond_n {H : Type} {enc : TypeId × Value → H} {W : World} {base : Nat} {sp : Nat → Bool} {held : Bool} : ∀ (B n : Nat) (cs : List Value) (x : DataW H × List MemPlace), n ≤ B → DataW.trod enc Try.prog W base sp held n 97 cs = some x → ∃ a : CT × Value, cs = cvC a ∧ Cs (GW W) a.2 a.1.subs
 | 0, n, cs, x, hn, h => by
  obtain rfl : n = 0 := by omega
  simp [DataW.trod] at h
 | B + 1, n, cs, x, hn, h => by
  obtain ⟨n', rfl, hl⟩ := leavesB_struct 9 Try.underlying97 open_cond_l h
  obtain ⟨x0, r0, e0, f0, g0⟩ := hl.inv
  obtain ⟨a0, rfl, _⟩ := f0.leaf.int Try.underlying3
  obtain ⟨x1, r1, e1, f1, g1⟩ := g0.inv
  obtain ⟨a1, rfl⟩ := f1.leaf.bool Try.underlying4
  obtain ⟨x2, r2, e2, f2, g2⟩ := g1.inv
  obtain ⟨a2, rfl, _⟩ := f2.leaf.int Try.underlying3
  obtain ⟨x3, r3, e3, f3, g3⟩ := g2.inv
  obtain ⟨a3, rfl⟩ := f3.leaf.bool Try.underlying4
  obtain ⟨x4, r4, e4, f4, g4⟩ := g3.inv
  obtain ⟨a4, rfl, _⟩ := f4.leaf.int Try.underlying3
  obtain ⟨x5, r5, e5, f5, g5⟩ := g4.inv
  obtain ⟨a5, rfl⟩ := f5.leaf.bool Try.underlying4
  obtain ⟨x6, r6, e6, f6, g6⟩ := g5.inv
  obtain ⟨a6, rfl, _⟩ := f6.leaf.int Try.underlying3
  obtain ⟨x7, r7, e7, f7, g7⟩ := g6.inv
  have z := g7.inv0
  obtain ⟨l, h1, h2⟩ := open_slB (cells := cvC) (Qa := fun a => Cs (GW W) a.2 a.1.subs) d0 Try.underlying67 (show Program.cellsOf Try.prog 97 = 8 by kernel_rfl) (by decide) (fun m cs' y hm hy => open_cond_n B m cs' y (by omega) hy) f7
  refine ⟨(CT.mk ⟨a0, a1, a2, a3, a4, a5, a6⟩ (l.map Prod.fst), x7), ?_, Tr.mk l h1 h2⟩
  rw [e0, e1, e2, e3, e4, e5, e6, e7, z]; rfl
end Go.Proofs.Ytpadfgomhojjnaa

/- Walks: what Go functions of this chapter come to, each as a function on plain data; no condition but those that each theorem names. Printed by a program of this work (gen.py). -/
namespace Go.Proofs.Ytpadfgomhojjnaa
open Go.Gx Go.Gx.T1 Go.Gx.T3 Go.Gx.T4 Go.Gx.T3 Go.Gx.T5 Go.Gx.T1 Go.Gx.T8 Go.Gx.T6 Go.Gx.T4 Go.Gx.T3 Go.Gx.T6 Go.Gx.T8 Go.Gx.T4 Go.Gx.T3 Go.Gx.T8 Go.Gx.T4 Go.Gx.T3 Go.Gx.T8 Go.Gx.T6 Go.Gx.T4 Go.Gx.T3

theorem open_rule_l : leafT Try.prog 10 69 = some [9, 67] := by kernel_rfl
set_option maxRecDepth 100000 in
theorem open_rule {H : Type} {enc : TypeId × Value → H} {W : World} {base : Nat} {sp : Nat → Bool} {held : Bool} {r : Reach} {b0 : Nat} {v : Value} {y : DataW H} {ps : List MemPlace} (hv : Value.okWide Try.prog W r b0 69 v) (h : DataW.Trod enc Try.prog W base sp held 69 v y ps) : ∃ (nm : ByteArray) (cv : Value) (l : List CT), v = Value.agg #[Value.string nm, cv] ∧ Cs (GW W) cv l := by
 obtain ⟨cs, rfl⟩ := agg_of_wide Try.underlying69 rfl hv
 obtain ⟨fuel, hf⟩ := h
 cases fuel with
 | zero => simp [DataW.trod] at hf
 | succ B =>
  obtain ⟨n', _, hl⟩ := leavesB_struct 9 Try.underlying69 open_rule_l hf
  obtain ⟨x0, r0, e0, f0, g0⟩ := hl.inv
  obtain ⟨a0, rfl, _⟩ := f0.leaf.string Try.underlying9
  obtain ⟨x1, r1, e1, f1, g1⟩ := g0.inv
  have z := g1.inv0
  obtain ⟨l, h1, h2⟩ := open_slB (cells := cvC) (Qa := fun a => Cs (GW W) a.2 a.1.subs) d0 Try.underlying67 (show Program.cellsOf Try.prog 97 = 8 by kernel_rfl) (by decide) (fun m cs' y hm hy => open_cond_n m m cs' y (Nat.le_refl _) hy) f1
  refine ⟨a0, x1, l.map Prod.fst, ?_, Tr.mk l h1 h2⟩
  have : cs = #[Value.string a0, x1] := by apply Array.ext'; rw [show (Value.agg cs).cells.toList = cs.toList from rfl] at e0; rw [e0, e1, z]
  rw [this]
end Go.Proofs.Ytpadfgomhojjnaa
