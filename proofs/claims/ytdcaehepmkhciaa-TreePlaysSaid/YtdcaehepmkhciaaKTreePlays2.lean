/- Texts of this work, laid together: a logic of steps, plain laws, and walks of Go functions, each without a condition but those that its theorems name. -/
import Derived.Test.YtdcaehepmkhciaaKTreePlays1
import Derived.Test.YtdcaehepmkhciaaRows
import Derived.Shelf.Small.Bits
import Derived.Shelf.Small.Wraps
import Derived.Shelf.Strconv.Itoa0
import Derived.Shelf.Sort.Plain
import Derived.Shelf.Slices.Reverse
import Derived.Ground.Names2Prog
import Derived.Shelf.Slices.Clone
import Derived.Shelf.Slices.SearchI
import Derived.Shelf.Slices.Cells
import Derived.Shelf.Slices.In.SortNone
import Derived.Ground.SlgnProg
import Derived.Shelf.SlicesE.Clone
import Derived.Shelf.SlGeneric
import Derived.Ground.GgzProg
import Derived.Shelf.SlIterI.Nil
import Derived.Test.YtdcaehepmkhciaaProg
/- Walks: what Go functions of this chapter come to, each as a function on plain data; no condition but those that each theorem names. Printed by a program of this work (gen.py). -/
namespace Go.Proofs.Ytdcaehepmkhciaa
open Go.Gx Go.Gx
theorem mixed : Try.prog.follows .mixedOrders = true := by
 kernel_rfl
theorem sz3 : SzIs Try.prog 3 1 := by
 unfold SzIs
 kernel_rfl
theorem cl97 : Callable Try.prog 97 := callable Try.func97 (by kernel_rfl) rfl
theorem el3 : ElemIs Try.prog 3 1 8 (Value.int .i64 0) := by
 unfold ElemIs
 kernel_rfl
theorem c_ixI (v : Value) (zs : List (Int)) (g : Nat) (cs : List Value) {σ : Type} (A : σ → Asrt) (p : Int → σ → Bool × σ) (s0 : σ) {G : Ghost} {F : Nat → Prop} (hcg : Callable Try.prog g) (hcl : HCL Try.prog g cs (fun x : Int => Value.int .i64 x) A p G) (w : World) (hG : Has G w) (hA : (starL [rowA v 3 1 (zs).length ((zs).flatMap cI), A (s0)]).holds w F) (hFG : ∀ b, F b → G b = none) :
  Calls Try.prog 97 #[v, Value.func (.func g) #[] cs.toArray] w (Ret fun r w' => r = Value.int .i64 (ixD p zs 0 s0).1 ∧ Kept (starL [rowA v 3 1 (zs).length ((zs).flatMap cI), A ((ixD p zs 0 s0).2)]) F w w') := by
 refine enterO (args := [_, _]) (G := G) (A := starL [rowA v 3 1 (zs).length ((zs).flatMap cI), A (s0)]) (l := [(0, v), (1, Value.func (.func g) #[] cs.toArray)]) Try.func97 rfl Try.ntmps97 hG hA hFG ⟨rfl, rfl, trivial⟩ (Nat.le_of_ble_eq_true rfl) ?_
 refine c_unpack ?_
 refine c_rowlen (k := 0) rfl (fun hbd => ?_)
 refine c_seq ?_
 refine c_region ?_
 refine r_val .none rfl (p_assign rfl) ?_
 refine r_nil ?_
 refine e_next ?_
 refine c_seq ?_
 refine c_seq ?_
 refine c_region ?_
 refine r_val .none rfl (p_move rfl) ?_
 refine r_val .none rfl (p_leno (k := 0) Try.underlying42 rfl rfl) ?_
 refine r_val .none rfl (p_move rfl) ?_
 refine r_nil ?_
 refine e_next ?_
 refine c_block ?_
 refine c_name (d := 0) rfl (fun u_1 hu_1 => ?_)
 refine c_name (d := 1) rfl (fun u_2 hu_2 => ?_)
 refine c_name (d := 7) rfl (fun u_3 hu_3 => ?_)
 refine c_nameL (k := 0) rfl (fun A_4 hA_4 => ?_)
 refine c_loop (σ := Nat × σ) (fun s => [(8, Value.int .i64 (s.1 : Nat)), (0, u_1), (1, u_2), (7, u_3)]) (fun s => [A_4, A s.2]) (fun _ => _) (fun s => s.1 ≤ zs.length ∧ ixD p (zs.drop s.1) s.1 s.2 = ixD p zs 0 s0) (fun s => zs.length - s.1) ((0, s0)) ⟨Nat.zero_le _, rfl⟩ rfl ⟨rfl, rfl, rfl, rfl, trivial⟩ (.keep (fun _ _ h => h) (.keep (fun _ _ h => h) (.nil))) (fun s hphi => ?_)
 subst hu_1
 subst hu_2
 subst hu_3
 subst hA_4
 obtain ⟨j, t⟩ := s
 obtain ⟨hj, hix⟩ := hphi
 dsimp only at hj hix ⊢
 refine c_seq ?_
 refine c_region ?_
 refine r_val .none rfl (p_lt rfl rfl) ?_
 refine r_nil ?_
 refine e_next ?_
 refine c_seq ?_
 refine c_splitd (d := 9) rfl (fun h_5 => ?_) (fun h_5 => ?_)
 ·
  first
   | (exfalso; omega)
   | (
    refine c_cond_t rfl ?_
    refine c_skip ?_
    refine e_next ?_
    refine c_seq ?_
    refine c_block ?_
    refine c_seq ?_
    refine c_region ?_
    refine r_val .none rfl (p_move rfl) ?_
    refine r_val .none rfl (p_assign rfl) ?_
    refine r_nil ?_
    refine e_next ?_
    refine c_seq ?_
    refine c_region ?_
    refine r_val .none rfl (p_move rfl) ?_
    refine r_val .none rfl (p_move rfl) ?_
    refine r_val .none rfl (p_move rfl) ?_
    refine r_iaddr_o (k := 0) .none rfl Try.underlying42 sz3 rfl rfl rfl (by first | exact of_decide_eq_true rfl | omega) (fun p_6 c_7 hv_8 => ?_)
    refine r_val .none rfl (p_ldo0 (k := 0) Try.underlying3 rfl rfl hv_8 rfl (by first | exact of_decide_eq_true rfl | omega) (by first | exact of_decide_eq_true rfl | omega) ((flatMap_get (cells := cI) (fun _ => rfl) (0 : Int) _ _ _ (by first | exact of_decide_eq_true rfl | omega) (by first | exact of_decide_eq_true rfl | omega)).trans (rfl : _ = Value.int _ _))) ?_
    refine r_yieldo (k := 1) (us := [_]) .none rfl rfl rfl hcg rfl (fun w F hw hA hFG => hcl (zs.getD j (0 : Int)) t w F hw hA hFG) ?_
    refine r_nil ?_
    refine e_next ?_
    refine c_split (d := 16) rfl (fun h_9 => ?_) (fun h_9 => ?_)
    ·
     have hE := h_9
     first
      | (exfalso; omega)
      | (
       refine c_cond_t rfl ?_
       refine c_seq ?_
       refine c_region ?_
       refine r_val .none rfl (p_move rfl) ?_
       refine r_val .none rfl (p_assign rfl) ?_
       refine r_nil ?_
       refine e_next ?_
       refine c_ret ?_
       refine e_ret_block ?_
       refine e_ret_then ?_
       refine e_ret_then ?_
       refine e_ret_block ?_
       refine e_ret_then ?_
       refine e_ret1 Try.results97 (.tmp rfl .nil) (fun w hm => ?_)
       first
       | (rw [← hix, ixD_yes (0 : Int) (by omega) hE]; exact ⟨rfl, hm.kept [_, _] (.keep (fun _ _ h => h) (.keep (fun _ _ h => h) (.nil))) _ (fun F' h => h)⟩)
       | (rw [← hix, List.drop_eq_nil_of_le (by omega)]; exact ⟨rfl, hm.kept [_, _] (.keep (fun _ _ h => h) (.keep (fun _ _ h => h) (.nil))) _ (fun F' h => h)⟩)
       )
    ·
     have hE := h_9
     first
      | (exfalso; omega)
      | (
       refine c_cond_f rfl ?_
       refine c_skip ?_
       refine e_norm_block ?_
       refine e_next ?_
       refine c_region ?_
       refine r_val .none rfl (p_add rfl rfl (by omega)) ?_
       refine r_val .none rfl (p_move rfl) ?_
       refine r_nil ?_
       refine e_round ((j + 1, (p (zs.getD j (0 : Int)) t).2)) ⟨⟨by dsimp only; omega, by rw [← hix]; exact (ixD_no (0 : Int) (by omega) (by rw [hE]; simp)).symm⟩, by dsimp only; omega⟩ rfl ⟨rfl, rfl, rfl, rfl, trivial⟩ (.keep (fun _ _ h => h) (.keep (fun _ _ h => h) (.nil)))
       )
    )
 ·
  first
   | (exfalso; omega)
   | (
    refine c_cond_f rfl ?_
    refine c_exit ?_
    refine e_exit_then ?_
    refine e_exit_then ?_
    refine e_exit_block ?_
    refine e_next ?_
    refine c_seq ?_
    refine c_region ?_
    refine r_val .none rfl (p_assign rfl) ?_
    refine r_nil ?_
    refine e_next ?_
    refine c_ret ?_
    refine e_ret1 Try.results97 (.tmp rfl .nil) (fun w hm => ?_)
    first
    | (rw [← hix, ixD_yes (0 : Int) (by omega) hE]; exact ⟨rfl, hm.kept [_, _] (.keep (fun _ _ h => h) (.keep (fun _ _ h => h) (.nil))) _ (fun F' h => h)⟩)
    | (rw [← hix, List.drop_eq_nil_of_le (by omega)]; exact ⟨rfl, hm.kept [_, _] (.keep (fun _ _ h => h) (.keep (fun _ _ h => h) (.nil))) _ (fun F' h => h)⟩)
    )
theorem c_delI (v : Value) (zs : List (Int)) (g : Nat) (cs : List Value) {σ : Type} (A : σ → Asrt) (p : Int → σ → Bool × σ) (s0 : σ) {G : Ghost} {F : Nat → Prop} (hcg : Callable Try.prog g) (hcl : HCL Try.prog g cs (fun x : Int => Value.int .i64 x) A p G) (w : World) (hG : Has G w) (hA : (starL [rowA v 3 1 (zs).length ((zs).flatMap cI), A (s0)]).holds w F) (hFG : ∀ b, F b → G b = none) :
  Calls Try.prog 62 #[v, Value.func (.func g) #[] cs.toArray] w (Ret fun r w' => Kept (starL [rowA r 3 1 ((dels p zs s0).1).length (((dels p zs s0).1).flatMap cI), A ((dels p zs s0).2)]) F w w') := by
 refine enterO (args := [_, _]) (G := G) (A := starL [rowA v 3 1 (zs).length ((zs).flatMap cI), A (s0)]) (l := [(0, v), (1, Value.func (.func g) #[] cs.toArray)]) Try.func62 rfl Try.ntmps62 hG hA hFG ⟨rfl, rfl, trivial⟩ (Nat.le_of_ble_eq_true rfl) ?_
 refine c_unpack ?_
 refine c_rowlen (k := 0) rfl (fun hbd => ?_)
 refine c_seq ?_
 refine c_region ?_
 refine r_val .none rfl (p_assign rfl) ?_
 refine r_nil ?_
 refine e_next ?_
 refine c_seq ?_
 refine c_region ?_
 refine r_val .none rfl (p_move rfl) ?_
 refine r_val .none rfl (p_move rfl) ?_
 refine r_pack [_, _] ?_
 refine r_callo (k := 0) (vs := [_, _]) .none rfl cl97 rfl rfl (fun w F hw hA hFG => c_ixI v zs g cs A p s0 hcg hcl w hw hA hFG) ?_
 refine r_unpack ?_
 refine r_val .none rfl (p_assign rfl) ?_
 refine r_nil ?_
 refine e_next ?_
 refine c_seq ?_
 refine c_seq ?_
 refine c_region ?_
 refine r_val .none rfl (p_move rfl) ?_
 refine r_val .none rfl (p_eq rfl rfl) ?_
 refine r_nil ?_
 refine e_next ?_
 refine c_splitd (d := 12) rfl (fun h_1 => ?_) (fun h_1 => ?_)
 ·
  have hnone := ixD_none p zs 0 s0 h_1
  skip
  first
   | (exfalso; omega)
   | (
    refine c_cond_t rfl ?_
    refine c_seq ?_
    refine c_region ?_
    refine r_val .none rfl (p_move rfl) ?_
    refine r_val .none rfl (p_assign rfl) ?_
    refine r_nil ?_
    refine e_next ?_
    refine c_ret ?_
    refine e_ret_then ?_
    refine e_ret1 Try.results62 (.tmp rfl .nil) (fun w hm => ?_)
    exact hm.kept [_, _] (.keep (fun _ _ h => rowA_congr (by rw [hnone]) (by rw [hnone]) _ _ h) (.keep (fun _ _ h => by rw [hnone]; exact h) (.nil))) _ (fun F' h => h)
    )
 ·
  obtain ⟨i0, hi0, hil, hds⟩ := ixD_some0 p zs s0 h_1
  rw [hi0]
  first
   | (exfalso; omega)
   | (
    refine c_cond_f rfl ?_
    refine c_skip ?_
    refine e_next ?_
    refine c_seq ?_
    refine c_seq ?_
    refine c_region ?_
    refine r_val .none rfl (p_move rfl) ?_
    refine r_val .none rfl (p_add rfl rfl (by omega)) ?_
    refine r_val .none rfl (p_assign rfl) ?_
    refine r_nil ?_
    refine e_next ?_
    refine c_block ?_
    refine c_name (d := 0) rfl (fun u_2 hu_2 => ?_)
    refine c_name (d := 1) rfl (fun u_3 hu_3 => ?_)
    refine c_name (d := 4) rfl (fun u_4 hu_4 => ?_)
    refine c_loop (σ := Nat × List (Int)) (fun s => [(6, Value.int .i64 (s.1 : Nat)), (5, Value.int .i64 ((dels p (zs.take s.1) s0).1.length : Nat)), (0, u_2), (1, u_3), (4, u_4)]) (fun s => [rowA (v) 3 1 (s.2).length ((s.2).flatMap cI), A (dels p (zs.take s.1) s0).2]) (fun _ => _) (fun s => (s.1 ≤ zs.length ∧ s.2.length = zs.length ∧ (dels p (zs.take s.1) s0).1.length < s.1) ∧ s.2.take (dels p (zs.take s.1) s0).1.length = (dels p (zs.take s.1) s0).1 ∧ s.2.drop s.1 = zs.drop s.1) (fun s => zs.length - s.1) ((i0 + 1, zs)) ⟨⟨by omega, rfl, by rw [hds]; simp; omega⟩, by rw [hds]; simp, rfl⟩ rfl ⟨rfl, (congrArg (fun n : Nat => some (Value.int .i64 (n : Int))) (by rw [hds]; simp; omega)), rfl, rfl, rfl, trivial⟩ (.keep (fun _ _ h => h) (.keep (fun _ _ h => by rw [hds]; exact h) (.nil))) (fun s hphi => ?_)
    subst hu_2
    subst hu_3
    subst hu_4
    obtain ⟨j, ys⟩ := s
    obtain ⟨⟨hj, hyl, hlt⟩, hty, hdr⟩ := hphi
    dsimp only at hj hyl hlt hty hdr ⊢
    refine c_seq ?_
    refine c_seq ?_
    refine c_region ?_
    refine r_val .none rfl (p_move rfl) ?_
    refine r_val .none rfl (p_move rfl) ?_
    refine r_val .none rfl (p_leno (k := 0) Try.underlying42 rfl rfl) ?_
    refine r_val .none rfl (p_lt rfl rfl) ?_
    refine r_nil ?_
    refine e_next ?_
    refine c_splitd (d := 19) rfl (fun h_5 => ?_) (fun h_5 => ?_)
    ·
     first
      | (exfalso; omega)
      | (
       refine c_cond_t rfl ?_
       refine c_skip ?_
       refine e_next ?_
       refine c_seq ?_
       refine c_block ?_
       refine c_seq ?_
       refine c_region ?_
       refine r_val .none rfl (p_move rfl) ?_
       refine r_val .none rfl (p_move rfl) ?_
       refine r_iaddr_o (k := 0) .none rfl Try.underlying42 sz3 rfl rfl rfl (by first | exact of_decide_eq_true rfl | omega) (fun p_6 c_7 hv_8 => ?_)
       refine r_val .none rfl (p_ldo0 (k := 0) Try.underlying3 rfl rfl hv_8 rfl (by first | exact of_decide_eq_true rfl | omega) (by first | exact of_decide_eq_true rfl | omega) ((flatMap_get (cells := cI) (fun _ => rfl) (0 : Int) _ _ _ (by first | exact of_decide_eq_true rfl | omega) (by first | exact of_decide_eq_true rfl | omega)).trans (rfl : _ = Value.int _ _))) ?_
       rw [drop_getD (0 : Int) hdr]
       refine r_val .none rfl (p_assign rfl) ?_
       refine r_nil ?_
       refine e_next ?_
       refine c_seq ?_
       refine c_region ?_
       refine r_val .none rfl (p_move rfl) ?_
       refine r_val .none rfl (p_move rfl) ?_
       refine r_yieldo (k := 1) (us := [_]) .none rfl rfl rfl hcg rfl (fun w F hw hA hFG => hcl (zs.getD j (0 : Int)) _ w F hw hA hFG) ?_
       refine r_val .none rfl (p_not rfl) ?_
       refine r_nil ?_
       refine e_next ?_
       refine c_splitn (d := 29) rfl (fun h_9 => ?_) (fun h_9 => ?_)
       ·
        have hE := h_9
        have hnx := dels_next p (0 : Int) (l := zs) (j := j) (by omega) s0
        rw [hE, if_neg (by simp)] at hnx
        first
         | (exfalso; omega)
         | (
          refine c_cond_t rfl ?_
          refine c_seq ?_
          refine c_region ?_
          refine r_val .none rfl (p_move rfl) ?_
          refine r_val .none rfl (p_move rfl) ?_
          refine r_val .none rfl (p_move rfl) ?_
          refine r_iaddr_o (k := 0) .none rfl Try.underlying42 sz3 rfl rfl rfl (by first | exact of_decide_eq_true rfl | omega) (fun p_10 c_11 hv_12 => ?_)
          refine r_stoe (k := 0) (cells := cI) (zs.getD j (0 : Int)) (fun _ => rfl) .none sz3 rfl rfl rfl (by simp [Value.oneCell']) rfl hv_12 (by omega) ?_
          refine r_nil ?_
          refine e_next ?_
          refine c_region ?_
          refine r_val .none rfl (p_move rfl) ?_
          refine r_val .none rfl (p_add rfl rfl (by omega)) ?_
          refine r_val .none rfl (p_assign rfl) ?_
          refine r_nil ?_
          refine e_norm_block ?_
          refine e_next ?_
          refine c_region ?_
          refine r_val .none rfl (p_move rfl) ?_
          refine r_val .none rfl (p_add rfl rfl (by omega)) ?_
          refine r_val .none rfl (p_assign rfl) ?_
          refine r_nil ?_
          refine e_round ((j + 1, ys.set (dels p (zs.take j) s0).1.length (zs.getD j (0 : Int)))) ⟨⟨⟨by dsimp only; omega, by dsimp only; rw [List.length_set]; exact hyl, by dsimp only; rw [hnx]; simp; omega⟩, by dsimp only; rw [hnx, List.length_append, List.length_singleton, set_take (by omega), hty], by dsimp only; rw [set_drop (by omega)]; exact drop_next hdr⟩, by dsimp only; omega⟩ rfl ⟨rfl, (congrArg (fun n : Nat => some (Value.int .i64 (n : Int))) (by rw [hnx]; first | done | simp)), rfl, rfl, rfl, trivial⟩ (.keep (fun _ _ h => h) (.keep (fun _ _ h => by dsimp only; rw [hnx]; first | done | exact h) (.nil)))
          )
       ·
        have hE := h_9
        have hnx := dels_next p (0 : Int) (l := zs) (j := j) (by omega) s0
        rw [hE, if_pos rfl, List.append_nil] at hnx
        first
         | (exfalso; omega)
         | (
          refine c_cond_f rfl ?_
          refine c_skip ?_
          refine e_norm_block ?_
          refine e_next ?_
          refine c_region ?_
          refine r_val .none rfl (p_move rfl) ?_
          refine r_val .none rfl (p_add rfl rfl (by omega)) ?_
          refine r_val .none rfl (p_assign rfl) ?_
          refine r_nil ?_
          refine e_round ((j + 1, ys)) ⟨⟨⟨by dsimp only; omega, hyl, by dsimp only; rw [hnx]; dsimp only; omega⟩, by dsimp only; rw [hnx]; first | done | exact hty, drop_next hdr⟩, by dsimp only; omega⟩ rfl ⟨rfl, (congrArg (fun n : Nat => some (Value.int .i64 (n : Int))) (by rw [hnx]; first | done | simp)), rfl, rfl, rfl, trivial⟩ (.keep (fun _ _ h => h) (.keep (fun _ _ h => by dsimp only; rw [hnx]; first | done | exact h) (.nil)))
          )
       )
    ·
     first
      | (exfalso; omega)
      | (
       refine c_cond_f rfl ?_
       refine c_exit ?_
       refine e_exit_then ?_
       refine e_exit_then ?_
       refine e_exit_block ?_
       refine e_next ?_
       refine c_seq ?_
       refine c_region ?_
       refine r_rowblk (k := 0) rfl (by omega) (fun blk cap hv hcap => ?_)
       refine r_val .none rfl (p_move rfl) ?_
       refine r_val .none rfl (p_move rfl) ?_
       refine r_val .none rfl (p_slice_o (a := (dels p (zs.take j) s0).1.length) (m := ys.length) (q := .i64) (q' := .i64) Try.underlying42 sz3 rfl hv hcap (some (.tmp 37)) none rfl rfl (by omega) (Nat.le_refl _)) ?_
       refine r_clear (k := 0) (a := (dels p (zs.take j) s0).1.length) .none Try.underlying42 el3 rfl (by decide) (by decide) rfl (fun h => by rw [if_neg (by omega)]) (by omega) rfl hv (fun ys2 hy2 => ?_)
       refine r_nil ?_
       refine e_next ?_
       refine c_seq ?_
       refine c_region ?_
       refine r_val .none rfl (p_move rfl) ?_
       refine r_val .none rfl (p_move rfl) ?_
       refine r_val .none rfl (p_slice_o0 (m := (dels p (zs.take j) s0).1.length) Try.underlying42 sz3 rfl hv hcap rfl (by omega)) ?_
       refine r_cut (k := 0) (m := (dels p (zs.take j) s0).1.length) rfl hv (by omega) ?_
       refine r_val .none rfl (p_assign rfl) ?_
       refine r_nil ?_
       refine e_next ?_
       refine c_ret ?_
       refine e_ret1 Try.results62 (.tmp rfl .nil) (fun w hm => ?_)
       have htk : zs.take j = zs := List.take_of_length_le (by omega)
       exact hm.kept [_, _] (.keep (fun _ _ h => rowA_congr (by rw [htk]) (by rw [hy2, flatMap_take (cells := cI) (fun _ => rfl), hty, htk]) _ _ h) (.keep (fun _ _ h => by rw [htk] at h; exact h) (.nil))) _ (fun F' h => h)
       )
    )
end Go.Proofs.Ytdcaehepmkhciaa

/- Plain laws of counting; no program in sight. -/
namespace Go.Gx.T10
open Go.Gx

section
variable {κ : Type} [DecidableEq κ]
def cnt (l : List (κ × Int)) (k : κ) : Int := (lkp l k).getD 0
def tAdd (l : List (κ × Int)) (k : κ) : List (κ × Int) := mput l k (cnt l k + 1)
def tDrop (l : List (κ × Int)) (k : κ) : List (κ × Int) := if cnt l k = 0 then l else if cnt l k = 1 then mdel l k else mput l k (cnt l k - 1)

theorem cnt_mput (l : List (κ × Int)) (k k' : κ) (v : Int) : cnt (mput l k v) k' = if k = k' then v else cnt l k' := by
  unfold cnt; rw [lkp_mput]; split <;> rfl
theorem drop_zero {l : List (κ × Int)} {k : κ} (h : cnt l k = 0) : tDrop l k = l := by rw [tDrop, if_pos h]
theorem drop_one {l : List (κ × Int)} {k : κ} (h : cnt l k = 1) : tDrop l k = mdel l k := by rw [tDrop, if_neg (by omega), if_pos h]
theorem drop_more {l : List (κ × Int)} {k : κ} (h0 : ¬ cnt l k = 0) (h : ¬ cnt l k = 1) : tDrop l k = mput l k (cnt l k - 1) := by rw [tDrop, if_neg h0, if_neg h]

/-- How often k is there. -/
def num (ns : List κ) (k : κ) : Nat := ns.count k
theorem num_def (ns : List κ) (k : κ) : num ns k = ns.count k := rfl
theorem num_le (ns : List κ) (k : κ) : num ns k ≤ ns.length := List.count_le_length
/-- What is counted: the counts are of the multiset ns, each key once, none with 0. -/
structure Tal (l : List (κ × Int)) (ns : List κ) : Prop where
  nodup : (l.map (·.1)).Nodup
  pos : ∀ p ∈ l, 1 ≤ p.2
  eq : ∀ k, cnt l k = (num ns k : Int)

theorem Tal.nil : Tal ([] : List (κ × Int)) [] := ⟨by simp, by simp, fun k => by simp [cnt, lkp, num]⟩

theorem mem_mput {l : List (κ × Int)} {k : κ} {v : Int} {p : κ × Int} (h : p ∈ mput l k v) : p = (k, v) ∨ p ∈ l := by
  induction l with
  | nil => simp [mput] at h; exact .inl h
  | cons q t ih =>
    rw [mput] at h
    split at h
    · rcases List.mem_cons.1 h with h | h
      · exact .inl h
      · exact .inr (by simp [h])
    · rcases List.mem_cons.1 h with h | h
      · exact .inr (by simp [h])
      · exact (ih h).imp id (fun h => by simp [h])

theorem Tal.add {l : List (κ × Int)} {ns : List κ} (h : Tal l ns) (k : κ) : Tal (tAdd l k) (ns ++ [k]) := by
  refine ⟨mput_nodup h.nodup _ _, fun p hp => ?_, fun k' => ?_⟩
  · rcases mem_mput hp with rfl | hp
    · have := h.eq k; show 1 ≤ cnt l k + 1; omega
    · exact h.pos p hp
  · rw [tAdd, cnt_mput, num_def, List.count_append]
    by_cases e : k = k'
    · subst e
      have e2 := h.eq k
      rw [num_def] at e2
      simp [List.count_cons]; omega
    · have e2 := h.eq k'
      simp [List.count_cons, e]; exact e2

theorem Tal.drop {l : List (κ × Int)} {ns : List κ} {k : κ} (h : Tal l (ns ++ [k])) : Tal (tDrop l k) ns := by
  have hk := h.eq k
  rw [num_def, List.count_append] at hk
  simp only [List.count_cons_self, List.count_nil, Nat.zero_add] at hk
  have hoth : ∀ k', ¬ k = k' → cnt l k' = (ns.count k' : Int) := fun k' e => by
    have e2 := h.eq k'
    rw [num_def, List.count_append] at e2
    simp [List.count_cons, e] at e2
    exact e2
  by_cases h1 : cnt l k = 1
  · rw [drop_one h1]
    refine ⟨mdel_nodup h.nodup k, fun p hp => h.pos p ((mdel_sub l k).subset hp), fun k' => ?_⟩
    rw [num_def]
    show (lkp (mdel l k) k').getD 0 = _
    rw [lkp_mdel h.nodup]
    by_cases e : k = k'
    · subst e
      simp; omega
    · rw [if_neg e]; exact hoth k' e
  · rw [drop_more (by omega) h1]
    refine ⟨mput_nodup h.nodup _ _, fun p hp => ?_, fun k' => ?_⟩
    · rcases mem_mput hp with rfl | hp
      · show 1 ≤ cnt l k - 1; omega
      · exact h.pos p hp
    · rw [cnt_mput, num_def]
      by_cases e : k = k'
      · subst e; rw [if_pos rfl]; omega
      · rw [if_neg e]; exact hoth k' e

theorem Tal.empty {l : List (κ × Int)} (h : Tal l []) : l = [] := by
  cases l with
  | nil => rfl
  | cons p t =>
    have h1 := h.eq p.1
    have h2 := h.pos p (by simp)
    simp [cnt, lkp, num] at h1
    omega
end
theorem Tal.bd {κ : Type} [DecidableEq κ] {l : List (κ × Int)} {ns : List κ} (h : Tal l ns) (hn : ns.length ≤ 4611686018427387904) (k : κ) : 0 ≤ cnt l k ∧ cnt l k ≤ 4611686018427387904 := by
  have h1 := h.eq k
  have h2 := num_le ns k
  omega

theorem take_next {κ : Type} {ns : List κ} {i : Nat} (e : κ) (h : i < ns.length) : ns.take (i + 1) = ns.take i ++ [ns.getD i e] := by
  rw [List.take_succ_eq_append_getElem h]; simp [List.getD, h]

theorem Tal.back {κ : Type} [DecidableEq κ] {l : List (κ × Int)} {ns : List κ} {i : Nat} {e : κ} (h : Tal l (ns.take (ns.length - i))) (hi : i < ns.length) : Tal (tDrop l (ns.getD (ns.length - 1 - i) e)) (ns.take (ns.length - (i + 1))) ∧ 1 ≤ cnt l (ns.getD (ns.length - 1 - i) e) := by
  have e1 : ns.length - i = (ns.length - 1 - i) + 1 := by omega
  rw [e1, take_next e (by omega)] at h
  have e2 : ns.length - (i + 1) = ns.length - 1 - i := by omega
  rw [e2]
  refine ⟨h.drop, ?_⟩
  have := h.eq (ns.getD (ns.length - 1 - i) e)
  rw [num_def, List.count_append] at this
  simp at this
  simp
  omega
end Go.Gx.T10

/- Plain laws of the memory of facts; no program in sight. -/
namespace Go.Gx.T11
open Go.Gx

def triRight (t : Tri) : Bool := decide ((1 ≤ t.1 ∧ t.1 ≤ 4096) ∧ (1 ≤ t.2.1 ∧ t.2.1 ≤ 4096) ∧ 1 ≤ t.2.2 ∧ t.2.2 ≤ 4096)
def zT : Tri := (0, 0, 0)

/-- Add: the facts behind it, the last id, the answer's id and error. -/
def wAdd (l : List (Int × Tri)) (lim last : Int) (t : Tri) : (List (Int × Tri) × Int) × Int × Int :=
  if triRight t = true then (if lim ≤ (l.length : Int) then ((l, last), 0, 11) else ((mput l (last + 1) t, last + 1), last + 1, 0)) else ((l, last), 0, 4)
/-- k facts, all alike, with the ids 1 to k. -/
def full (t : Tri) : Nat → List (Int × Tri)
  | 0 => []
  | k + 1 => full t k ++ [((k : Int) + 1, t)]
end Go.Gx.T11
namespace Go.Gx.T11
open Go.Gx
/-- A fact: its id and its triple. -/
abbrev FD := Int × Tri
def fC (f : FD) : List Value := .int .i64 f.1 :: triL f.2
def facts (l : List (Int × Tri)) : List FD := (sortI (l.map Prod.fst)).map fun i => (i, (lkp l i).getD zT)
end Go.Gx.T11
namespace Go.Gx.T11
open Go.Gx
/-- What is so of the facts behind so many calls: ids are 1 to the last one. -/
structure Ids (l : List (Int × Tri)) (last : Int) (j : Nat) : Prop where
  keys : ∀ q ∈ l, 1 ≤ q.1 ∧ q.1 ≤ last
  len : l.length ≤ j
  lo : 0 ≤ last
  hi : last ≤ j
  nd : (l.map (·.1)).Nodup
theorem Ids.nil : Ids [] 0 0 := ⟨by simp, Nat.le_refl _, by omega, by omega, by simp⟩
theorem Ids.skip {l : List (Int × Tri)} {last : Int} {j : Nat} (h : Ids l last j) : Ids l last (j + 1) := ⟨h.keys, by have := h.len; omega, h.lo, by have := h.hi; omega, h.nd⟩
theorem Ids.free {l : List (Int × Tri)} {last : Int} {j : Nat} (h : Ids l last j) : lkp l (last + 1) = none := by
  rw [lkp_none]; intro p hp e
  have := (h.keys p hp).2; omega
theorem Ids.add {l : List (Int × Tri)} {last : Int} {j : Nat} (h : Ids l last j) (t : Tri) : Ids (mput l (last + 1) t) (last + 1) (j + 1) := by
  refine ⟨fun q hq => ?_, ?_, by have := h.lo; omega, by have := h.hi; omega, mput_nodup h.nd _ _⟩
  · rw [mput_none h.free] at hq
    rcases List.mem_append.1 hq with hq | hq
    · have := h.keys q hq; omega
    · rw [List.mem_singleton.1 hq]; have := h.lo; dsimp only; omega
  · rw [mput_len, h.free]; have := h.len; simp; omega
theorem Ids.del {l : List (Int × Tri)} {last : Int} {j : Nat} (h : Ids l last j) (k : Int) : Ids (mdel l k) last j :=
  ⟨fun q hq => h.keys q ((mdel_sub l k).subset hq), Nat.le_trans (mdel_sub l k).length_le h.len, h.lo, h.hi, mdel_nodup h.nd k⟩
theorem Ids.wf {l : List (Int × Tri)} {last : Int} {j : Nat} (h : Ids l last j) (hj : j ≤ 2000) : ∀ q ∈ l, (Lit.int .i64 q.1).wf = true := fun q hq => by
  have h1 := h.keys q hq
  have h2 := h.hi
  exact wf_mk (by omega)
end Go.Gx.T11
namespace Go.Gx
/-- A small number's cell. -/
def cU (a : Nat) : List Value := [.int .u8 ((a % 256 : Nat) : Int)]
end Go.Gx

/-
  GX: make([]T, n) of a few elements; shifts and masks of small numbers; a call that hands back a row beside an object. Generic in the program.
-/
namespace Go.Gx
open Go.RowKit
section
variable {P : Program} {ops : Array Oper} {Q : Exit → Act → World → Prop} {N : Nat} {X : Nat → Prop} {w0 : World} {G : Ghost} {l : List (Nat × Value)} {L : List Asrt}
variable {rest : List Oper} {d k : Nat} {ty : TypeId} {pos : String} {after : Array Edge} {gd : Option (Nat × Bool)} {x y : Operand} {T U E : TypeId} {sz bytes : Nat}
/-- A call that changes one object, told by what it hands back. -/
theorem r_callor {f : FuncId} {xs : List Operand} {vs : List Value} {ats : Array TypeId} {A : Asrt} {B : Value → Asrt} (hw : Wt ops l gd) (hd : Nat.blt d N = true) (hf : Callable P f) (hv : evs l xs = some vs) (hL : L[k]? = some A)
    (hc : ∀ w F, Has G w → A.holds w F → (∀ b, F b → G b = none) → Calls P f vs.toArray w (Ret fun r w' => Kept (B r) F w w'))
    (h : ∀ r, Runs P ops Q N X w0 G rest ((d, r) :: l) (L.set k (B r))) : Runs P ops Q N X w0 G (⟨some d, .call ⟨.value (.func f), xs.toArray, ats⟩, ty, pos, after, gd⟩ :: rest) l L := by
  refine Runs.step hw (fun a w hS => ?_)
  show Oper.upon P _ a _ Q _
  rw [run_call hS.fr hv hf, Oper.upon_enter]
  obtain ⟨F, hA, hG, hput⟩ := hS.mem.take hL
  refine (hc w F hS.mem.has hA hG).mono (fun e w' hR => ?_)
  cases e with
  | returned r =>
    obtain ⟨hs, F', hB, hF'⟩ := hR
    exact h r _ _ ⟨hS.fr.put (by simpa using hd) _, hput w' _ F' hs hB hF'⟩
  | panicked c => exact hR.elim
  | outgrown => exact hR.elim
end
end Go.Gx
namespace Go.Gx
open Go.RowKit
section
variable {P : Program} {ops : Array Oper} {brk : Nat → Bool} {G0 : Ghost} {L0 : List Asrt} {Q : Exit → Act → World → Prop} {N : Nat} {X : Nat → Prop} {w0 : World} {G : Ghost} {l l' : List (Nat × Value)} {L L' : List Asrt} {n : Nat} {listed : Array Bool}
variable {d d' : Nat} {ty ty' : TypeId} {pos pos' : String} {after after' : Array Edge} {gd gd' : Option (Nat × Bool)} {T T' : TypeId} {v v' : Value} {m m' : Nat} {f f' : Nat → Value}
end
end Go.Gx

/- Plain laws of memories; no program in sight. -/
namespace Go.Gx
theorem starL_one1 {A : Asrt} {w : World} {F : Nat → Prop} (h : (starL [A]).holds w F) : A.holds w F := by
  obtain ⟨F1, F2, h1, ⟨_, h2⟩, h3, h4⟩ := h
  have : F1 = F := funext fun b => propext ⟨fun hb => (h4 b).2 (.inl hb), fun hb => ((h4 b).1 hb).elim id (fun hb => (h2 b hb).elim)⟩
  rw [← this]; exact h1
theorem box_rowA {b n m sz : Nat} {E : TypeId} {f : Nat → Value} (hm : m = n * sz) (hn : n ≤ 1000) {w : World} {F : Nat → Prop} (h : (box b m E f).holds w F) : (rowA (.slice (some ⟨b, 0, none⟩) n n) E sz n (row f 0 (n * sz))).holds w F := by
  obtain ⟨⟨c, h1, h2⟩, hF⟩ := h
  subst hm
  refine ⟨⟨row_length _ _ _, .inr ⟨b, n, c, rfl, Nat.zero_le _, h1, Nat.le_refl _, by simp only [maxLen]; omega, h2.size, ?_⟩⟩, fun k => ⟨fun h => by rw [(hF k).1 h]; rfl, fun h => by simp [Value.ownBlock] at h; exact (hF k).2 h.symm⟩, by simp only [maxLen]; omega⟩
  have e := h2.eq
  rw [e]
  simp [List.take_of_length_le, row_length]
end Go.Gx
namespace Go.Gx.T12
open Go.Gx Go.Gx.T10 Go.Gx.T11
abbrev SC := List (Tri × List (Int × Int))
def hasK (t k : Tri) : Bool := decide ((k.1 = 0 ∨ k.1 = t.1) ∧ (k.2.1 = 0 ∨ k.2.1 = t.2.1) ∧ (k.2.2 = 0 ∨ k.2.2 = t.2.2))
/-- All keys of a triple. -/
def allK (t : Tri) : List Tri := [(0, 0, 0), (t.1, 0, 0), (0, t.2.1, 0), (t.1, t.2.1, 0), (0, 0, t.2.2), (t.1, 0, t.2.2), (0, t.2.1, t.2.2), (t.1, t.2.1, t.2.2)]
/-- The facts with a key, noted. -/
def fillC (k : Tri) (fs : List FD) (h : List (Int × Int)) : List (Int × Int) := fs.foldl (fun h f => if hasK f.2 k = true then mput h f.1 1 else h) h
def wantC (c : SC) (k : Tri) (fs : List FD) (n : Int) : SC := if n = 0 then mput c k (fillC k fs []) else c
def dropC (c : SC) (k : Tri) (n : Int) : SC := if n = 1 then mdel c k else c
def putC (c : SC) (k : Tri) (id : Int) : Bool × SC := match lkp c k with
  | none => (false, c)
  | some h => if 0 < (lkp h id).getD 0 then (false, c) else (true, mput c k (mput h id 1))
def takeC (c : SC) (k : Tri) (id : Int) : Bool × SC := match lkp c k with
  | none => (false, c)
  | some h => if (lkp h id).getD 0 = 0 then (false, c) else (true, mput c k (mdel h id))
theorem putC_in {c : SC} {k : Tri} {id : Int} {h : List (Int × Int)} (hk : lkp c k = some h) (hi : 0 < (lkp h id).getD 0) : putC c k id = (false, c) := by rw [putC, hk]; exact if_pos hi
theorem putC_new {c : SC} {k : Tri} {id : Int} {h : List (Int × Int)} (hk : lkp c k = some h) (hi : ¬ 0 < (lkp h id).getD 0) : putC c k id = (true, mput c k (mput h id 1)) := by rw [putC, hk]; exact if_neg hi
def itemsC (c : SC) (k : Tri) : List Int := sortI (((lkp c k).getD []).map Prod.fst)
def touched (u : List (Tri × Int)) (t : Tri) : List Tri := (allK t).filter fun k => !decide (cnt u k = 0)
/-- What a fact touches, where something is done. -/
def doneC (q : SC → Tri → Int → Bool × SC) (u : List (Tri × Int)) (c : SC) (f : FD) : List Tri × SC := dels (fun k c => (!(q c k f.1).1, (q c k f.1).2)) (touched u f.2) c
end Go.Gx.T12
namespace Go.Gx.T12
open Go.Gx Go.Gx.T10 Go.Gx.T11
theorem hwf_of {c : SC} {k : Tri} {h0 : List (Int × Int)} (e : lkp c k = some h0) (hw : ∀ q ∈ h0, (Lit.int .i64 q.1).wf = true) (hl : h0.length ≤ 5000) : ∀ h, lkp c k = some h → (∀ q ∈ h, (Lit.int .i64 q.1).wf = true) ∧ h.length ≤ 5000 := by
  intro h e'; rw [e] at e'; cases e'; exact ⟨hw, hl⟩
theorem dels_count {α σ : Type} (p : α → σ → Bool × σ) (I : Nat → σ → Prop) : ∀ (l : List α) (m : Nat) (s : σ), (∀ x ∈ l, ∀ m s, I m s → I (m + 1) (p x s).2) → I m s → I (m + l.length) (dels p l s).2
  | [], m, s, _, hi => hi
  | x :: t, m, s, h, hi => by
    have h1 := dels_count p I t (m + 1) (p x s).2 (fun y hy => h y (by simp [hy])) (h x (by simp) m s hi)
    simp only [dels, List.length_cons]
    rw [show m + (t.length + 1) = m + 1 + t.length by omega]; exact h1
theorem allK_len (t : Tri) : (allK t).length = 8 := rfl
theorem touched_len (u : List (Tri × Int)) (t : Tri) : (touched u t).length ≤ 8 := Nat.le_trans (List.length_filter_le _ _) (Nat.le_of_eq (allK_len t))
theorem touched_mem {u : List (Tri × Int)} {t k : Tri} (h : k ∈ touched u t) : ¬ cnt u k = 0 := by
  have := (List.mem_filter.1 h).2
  simpa using this
/-! ### a memory that is wanted some times, and dropped as often -/
def uK (o k : Tri) (i : Nat) : List (Tri × Int) := if i = 0 then [(o, 1)] else [(o, 1), (k, (i : Int))]
def cK (c : SC) (k : Tri) (i : Nat) : SC := if i = 0 then c else mput c k []
/-- Just one memory, whose facts are few. -/
def OneM (o : Tri) (j n : Nat) (c : SC) : Prop := ∃ h, c = [(o, h)] ∧ (∀ q ∈ h, 1 ≤ q.1 ∧ q.1 ≤ (j : Int)) ∧ h.length ≤ n
theorem OneM.start (o : Tri) : OneM o 0 0 (wantC [] o [] (cnt [] o)) := ⟨[], by simp [wantC, cnt, lkp, mput, fillC], by simp, by simp⟩
theorem OneM.add {o t : Tri} {j n : Nat} {c : SC} (h : OneM o j n c) (k : Tri) : OneM o (j + 1) (n + 8) (doneC putC (uK o k 0) c ((j : Int) + 1, t)).2 := by
  have h0 : OneM o (j + 1) n c := by
    obtain ⟨g, e, h1, h2⟩ := h
    exact ⟨g, e, fun q hq => by have := h1 q hq; omega, h2⟩
  have h3 := dels_count (fun x c => (!(putC c x ((j : Int) + 1)).1, (putC c x ((j : Int) + 1)).2)) (fun n c => OneM o (j + 1) n c) (touched (uK o k 0) t) n c (fun x hx m s hi => by
    have hx2 : x = o := by
      have h9 := touched_mem hx
      by_cases e : x = o
      · exact e
      · exfalso; apply h9; simp [uK, cnt, lkp, show ¬ o = x from fun e2 => e e2.symm]
    obtain ⟨g, rfl, h1, h2⟩ := hi
    subst hx2
    have hk : lkp [(x, g)] x = some g := by simp [lkp]
    by_cases hin : 0 < (lkp g ((j : Int) + 1)).getD 0
    · rw [putC_in hk hin]; exact ⟨g, rfl, h1, by omega⟩
    · rw [putC_new hk hin]
      refine ⟨mput g ((j : Int) + 1) 1, by simp [mput], fun q hq => ?_, by rw [mput_len]; split <;> omega⟩
      rcases mem_mput hq with rfl | hq
      · dsimp only; omega
      · exact h1 q hq) h0
  obtain ⟨g, e, h4, h5⟩ := h3
  have := touched_len (uK o k 0) t
  exact ⟨g, e, h4, by omega⟩
theorem OneM.wf {o : Tri} {j n : Nat} {c : SC} (h : OneM o j n c) (hj : j ≤ 1000) (hn : n ≤ 5000) : ∀ h, lkp c o = some h → (∀ q ∈ h, (Lit.int .i64 q.1).wf = true) ∧ h.length ≤ 5000 := by
  obtain ⟨g, rfl, h1, h2⟩ := h
  exact hwf_of (h0 := g) (by simp [lkp]) (fun q hq => wf_mk (by have := h1 q hq; omega)) (by omega)
theorem OneM.none {o k : Tri} {j n : Nat} {c : SC} (h : OneM o j n c) (hk : ¬ o = k) : lkp c k = none := by
  obtain ⟨g, rfl, _⟩ := h
  simp [lkp, hk]
def keyR (k : Tri) : Bool := decide ((0 ≤ k.1 ∧ k.1 ≤ 4096) ∧ (0 ≤ k.2.1 ∧ k.2.1 ≤ 4096) ∧ 0 ≤ k.2.2 ∧ k.2.2 ≤ 4096)
theorem ints_eq {a b : List Int} (hl : a.length = b.length) (h : ∀ i, i < a.length → a.getD i 0 = b.getD i 0) : a = b := by
  apply List.ext_getElem? 
  intro i
  by_cases hi : i < a.length
  · have := h i hi
    simp [List.getD, hi, show i < b.length by omega] at this
    rw [List.getElem?_eq_getElem hi, List.getElem?_eq_getElem (by omega), this]
  · rw [List.getElem?_eq_none (by omega), List.getElem?_eq_none (by omega)]
end Go.Gx.T12
namespace Go.Gx.T12
open Go.Gx Go.Gx.T10 Go.Gx.T11
def awD : List Tri × SC := doneC putC (tAdd [] (0, 2, 0)) (wantC [] (0, 2, 0) [] (cnt [] (0, 2, 0))) (9, 1, 2, 3)
end Go.Gx.T12

/- Walks: what Go functions of this chapter come to, each as a function on plain data; no condition but those that each theorem names. Printed by a program of this work (gen.py). -/
namespace Go.Proofs.Ytdcaehepmkhciaa
open Go.Gx Go.Gx Go.Gx.T10 Go.Gx.T12 Go.Gx.T10 Go.Gx.T11

end Go.Proofs.Ytdcaehepmkhciaa

/- Walks: what Go functions of this chapter come to, each as a function on plain data; no condition but those that each theorem names. Printed by a program of this work (gen.py). -/
namespace Go.Proofs.Ytdcaehepmkhciaa
open Go.Gx Go.Gx.T10
def tallyT (p : Nat) (l : List (Tri × Int)) (t : Int) : Asrt := exA fun m : Nat => starL [box p 2 160 (at_ [.map (some m), .int .i64 t]), mapA m kT kI l]
end Go.Proofs.Ytdcaehepmkhciaa

/- A call that changes an object, while a row of the caller's own is seen by it. -/
namespace Go.Gx
open Go.RowKit
end Go.Gx

/- Trees of tokens in memory: a map that leads to tokens, and two maps of maps. Generic in the program and in what a place is. -/
namespace Go.Gx
open Go.RowKit
/-! ### what is seen by a call while it is another's own -/
theorem with_seen {P : Program} {f : FuncId} {vs : Array Value} {H A : Asrt} {B : Value → Asrt} {R : Value → Prop} {S : Ghost → Prop} {G : Ghost} {w : World} {F : Nat → Prop}
    (hfr : ∀ F1, Mem F1 w G w [H] → ∃ G', GNew w F1 G G' ∧ S G' ∧ Has G' w)
    (hc : ∀ (G' : Ghost) (F' : Nat → Prop), GLe G G' → S G' → Has G' w → A.holds w F' → (∀ b, F' b → G' b = none) → Calls P f vs w (Ret fun r w' => R r ∧ Kept (B r) F' w w'))
    (hG : Has G w) (hA : (starL [H, A]).holds w F) (hF : ∀ b, F b → G b = none) : Calls P f vs w (Ret fun r w' => R r ∧ Kept (starL [H, B r]) F w w') := by
  obtain ⟨F1, F2, hrow, ⟨FA, F0, hAA, hnil, _, h2⟩, hdis, h1⟩ := hA
  have hM : Mem F1 w G w [H] := ⟨Since.refl _ _, hG, F1, hrow, fun b hb => ⟨.inr hb, hF b ((h1 b).2 (.inl hb))⟩, trivial⟩
  obtain ⟨G', hn, hs, hM2⟩ := hfr F1 hM
  have hFA : ∀ b, FA b → F2 b := fun b hb => (h2 b).2 (.inl hb)
  have hnone : ∀ b, FA b → G' b = none := fun b hb => by
    cases e : G' b with
    | none => rfl
    | some o =>
      rcases hn.new b (hF b ((h1 b).2 (.inr (hFA b hb)))) (by rw [e]; simp) with h | h
      · have := A.dom hAA hb; omega
      · exact absurd (hFA b hb) (hdis b h)
  refine (hc G' FA hn.le hs hM2 hAA hnone).mono (fun e w' hR => ?_)
  cases e with
  | returned r =>
    obtain ⟨hr, hsn, F', hB, hF'⟩ := hR
    refine ⟨hr, ⟨hsn.os, hsn.tape, hsn.output, hsn.size, fun k hk hn2 => hsn.block k hk (fun hfa => hn2 ((h1 k).2 (.inr (hFA k hfa))))⟩, fun b => F1 b ∨ F' b, ⟨F1, F', ?_, ⟨F', fun _ => False, hB, ⟨trivial, fun _ h => h⟩, fun _ _ h => h, fun b => ⟨.inl, fun h => h.elim id False.elim⟩⟩, fun b hb hb2 => ?_, fun b => Iff.rfl⟩, fun b hb => ?_⟩
    · exact Asrt.frame _ hrow (fun b hb => hsn.block b (Asrt.dom _ hrow hb) (fun hfa => hdis b hb (hFA b hfa)))
    · rcases hF' b hb2 with h | h
      · exact hdis b hb (hFA b h)
      · have := Asrt.dom _ hrow hb; omega
    · rcases hb with hb | hb
      · exact .inl ((h1 b).2 (.inl hb))
      · rcases hF' b hb with h | h
        · exact .inl ((h1 b).2 (.inr (hFA b h)))
        · exact .inr h
  | panicked c => exact hR.elim
  | outgrown => exact hR.elim
theorem star_tt (A : Asrt) : (star A (pureA True)).Eqv A := fun w F => by
  constructor
  · rintro ⟨F1, F2, h1, ⟨_, h2⟩, h3, h4⟩
    have e : F = F1 := by funext b; exact propext ⟨fun h => ((h4 b).1 h).elim id (fun h => (h2 b h).elim), fun h => (h4 b).2 (.inl h)⟩
    rw [e]; exact h1
  · intro h
    exact ⟨F, fun _ => False, h, ⟨trivial, fun _ h => h⟩, fun _ _ h => h, fun b => ⟨.inl, fun h => h.elim id False.elim⟩⟩
theorem starL_oneE {A : Asrt} : (starL [A]).Eqv A := star_tt A
theorem starL_two {A B : Asrt} : (starL [A, B]).Eqv (star A B) := star_congr .rfl (star_tt B)
theorem Kept.imp {A B : Asrt} {F : Nat → Prop} {w w' : World} (h : Kept A F w w') (hi : ∀ w F, A.holds w F → B.holds w F) : Kept B F w w' :=
  ⟨h.1, by obtain ⟨F', h1, h2⟩ := h.2; exact ⟨F', hi _ _ h1, h2⟩⟩
/-- One's own, a third's between two. -/
theorem star_turn {Z R H : Asrt} : (starL [H, starL [Z, R]]).Eqv (starL [Z, starL [R, H]]) :=
  starL_two.trans ((star_congr .rfl starL_two).trans ((star_swap H Z R).trans ((star_congr .rfl ((star_comm H R).trans starL_two.symm)).trans starL_two.symm)))
theorem star_flip {A B : Asrt} : (starL [A, B]).Eqv (starL [B, A]) := starL_two.trans ((star_comm A B).trans starL_two.symm)
/-! ### tokens -/
structure Tk (α : Type) where
  pla : α
  par : Int
  fac : Int
  kids : List Int
abbrev TB (α : Type) := Nat × Value × Tk α
def veB {α : Type} (v : TB α) : Value := .pointer (some ⟨v.1, 0, none⟩)
def tkC {α : Type} (ke : α → Value) (v : TB α) : List Value := [ke v.2.2.pla, .int .i64 v.2.2.par, .int .i64 v.2.2.fac, v.2.1]
def tkA {α : Type} (T E : TypeId) (ke : α → Value) (v : TB α) : Asrt := starL [box v.1 4 T (at_ (tkC ke v)), rowA v.2.1 E 1 v.2.2.kids.length (v.2.2.kids.flatMap cI)]
def FT {α : Type} (T E : TypeId) (ke : α → Value) (p : Int × TB α) : Asrt := tkA T E ke p.2
def TokAt {α : Type} (G : Ghost) (ke : α → Value) (v : TB α) : Prop := RowAt G v.1 0 4 (at_ (tkC ke v)) ∧ SlL G v.2.1 1 cI (0 : Int) v.2.2.kids
theorem TokAt.mono {α : Type} {G G' : Ghost} {ke : α → Value} {v : TB α} (h : TokAt G ke v) (hle : GLe G G') : TokAt G' ke v := ⟨h.1.mono hle, h.2.mono hle⟩
section
variable {P : Program} {ops : Array Oper} {Q : Exit → Act → World → Prop} {N : Nat} {X : Nat → Prop} {w0 w : World} {G : Ghost} {fr : List (Nat × Value)} {L : List Asrt} {rest : List Oper} {c : Code} {e : Exit}
theorem Mem.freezeX {k n b E : Nat} {f : Nat → Value} (hm : Mem X w0 G w L) (hL : L[k]? = some (box b n E f)) : ∃ G', GNew w0 X G G' ∧ RowAt G' b 0 n f ∧ Mem X w0 G' w (L.eraseIdx k) := by
  obtain ⟨G', h1, h2, h3⟩ := hm.freezeB (m := 1) (sz := n) hL (by omega) (by omega)
  obtain ⟨_, _, e, _, h4⟩ := h2
  obtain ⟨b', o, e2, h5⟩ := h4 (by omega)
  simp only [Value.slice.injEq] at e
  obtain ⟨rfl, _⟩ := e
  simp only [Option.some.injEq, Addr.mk.injEq] at e2
  obtain ⟨rfl, rfl, _⟩ := e2
  have h6 := h5 0 (by omega)
  simp only [Nat.zero_mul, Nat.add_zero, Nat.zero_add] at h6
  exact ⟨G', h1, h6, h3⟩
variable {α : Type} {T E : TypeId} {ke : α → Value}
theorem Mem.freezeT {v : TB α} (hm : Mem X w0 G w (tkA T E ke v :: L)) : ∃ G', GNew w0 X G G' ∧ TokAt G' ke v ∧ Mem X w0 G' w L := by
  have h0 := hm.unpack
  obtain ⟨G1, n1, r1, h1⟩ := h0.freezeX (k := 0) rfl
  obtain ⟨G2, n2, r2, h2⟩ := h1.freeze (k := 0) rfl
  exact ⟨G2, n1.trans n2, ⟨r1.mono n2.le, SlL.of (cells := cI) (0 : Int) (fun _ => rfl) rfl r2⟩, h2⟩
theorem Mem.freezeH : ∀ {l : List (Int × TB α)} {G : Ghost}, Mem X w0 G w (hoard (FT T E ke) l :: L) → ∃ G', GNew w0 X G G' ∧ (∀ q ∈ l, TokAt G' ke q.2) ∧ Mem X w0 G' w L
  | [], G, hm => ⟨G, GNew.refl _ _ _, by simp, hm.imp (.drop (Imp.refl _))⟩
  | q :: t, G, hm => by
    have h0 : Mem X w0 G w (tkA T E ke q.2 :: hoard (FT T E ke) t :: L) := ⟨hm.since, hm.has, Sep.unstar hm.sep⟩
    obtain ⟨G1, n1, r1, h1⟩ := h0.freezeT
    obtain ⟨G2, n2, r2, h2⟩ := Mem.freezeH h1
    refine ⟨G2, n1.trans n2, fun x hx => ?_, h2⟩
    rcases List.mem_cons.1 hx with rfl | hx
    · exact r1.mono n2.le
    · exact r2 x hx
def mdels {κ ν : Type} [DecidableEq κ] (l : List (κ × ν)) (ks : List κ) : List (κ × ν) := ks.foldl mdel l
theorem lkp_mdel_ne {κ ν : Type} [DecidableEq κ] {l : List (κ × ν)} {k k' : κ} (h : ¬ k = k') : lkp (mdel l k) k' = lkp l k' := by
  induction l with
  | nil => rfl
  | cons p t ih =>
    simp only [mdel]
    split
    · rename_i e; simp [lkp, e, h]
    · simp only [lkp, ih]
/-- Some tokens stay as they are from now on. -/
theorem Mem.freezeS : ∀ {ks : List Int} {l : List (Int × TB α)} {G : Ghost} (B : Int → TB α), ks.Nodup → (∀ k ∈ ks, lkp l k = some (B k)) → Mem X w0 G w (hoard (FT T E ke) l :: L) → ∃ G', GNew w0 X G G' ∧ (∀ k ∈ ks, TokAt G' ke (B k)) ∧ Mem X w0 G' w (hoard (FT T E ke) (mdels l ks) :: L)
  | [], l, G, B, _, _, hm => ⟨G, GNew.refl _ _ _, by simp, hm⟩
  | k :: t, l, G, B, hn, hl, hm => by
    have hk := hl k (by simp)
    have h0 : Mem X w0 G w (tkA T E ke (B k) :: hoard (FT T E ke) (mdel l k) :: L) := hm.focus hk
    obtain ⟨G1, n1, r1, h1⟩ := h0.freezeT
    rw [List.nodup_cons] at hn
    obtain ⟨G2, n2, r2, h2⟩ := Mem.freezeS (ks := t) B hn.2 (fun k' hk' => by rw [lkp_mdel_ne (fun e => hn.1 (by rw [e]; exact hk'))]; exact hl k' (by simp [hk'])) h1
    refine ⟨G2, n1.trans n2, fun x hx => ?_, h2⟩
    rcases List.mem_cons.1 hx with rfl | hx
    · exact r1.mono n2.le
    · exact r2 x hx
theorem c_freezeS {ks : List Int} {l : List (Int × TB α)} (B : Int → TB α) (hn : ks.Nodup) (hl : ∀ k ∈ ks, lkp l k = some (B k)) (H : ∀ G', GNew w0 X G G' → (∀ k ∈ ks, TokAt G' ke (B k)) → CRuns P c Q N X w0 G' fr (hoard (FT T E ke) (mdels l ks) :: L)) : CRuns P c Q N X w0 G fr (hoard (FT T E ke) l :: L) := fun a w hS => by
  obtain ⟨G', h1, h2, h3⟩ := hS.mem.freezeS B hn hl
  exact H G' h1 h2 a w ⟨hS.fr, h3⟩
end
/-! ### maps of maps -/
def nestA {κ : Type} (ke : κ → Value) (m : Nat) (c : List (κ × List (Int × Int))) : Asrt := exA fun l : List (κ × NM) => andA (c = eraN l) (starL [mapA m ke veN l, hoard FN l])
def nput {κ : Type} [DecidableEq κ] (c : List (κ × List (Int × Int))) (k : κ) (id : Int) : List (κ × List (Int × Int)) := mput c k (mput ((lkp c k).getD []) id 1)
def ndrop {κ : Type} [DecidableEq κ] (c : List (κ × List (Int × Int))) (k : κ) (id : Int) : List (κ × List (Int × Int)) :=
  if (mdel ((lkp c k).getD []) id).length = 0 then mdel c k else mput c k (mdel ((lkp c k).getD []) id)
/-! ### the tree -/
structure TS (τ α : Type) where
  toks : List (Int × τ)
  pl : List (α × List (Int × Int))
  fc : List (Int × List (Int × Int))
  last : Int
def eraT {α : Type} (l : List (Int × TB α)) : List (Int × Tk α) := l.map fun p => (p.1, p.2.2.2)
section
variable {α : Type} (T TT E : TypeId) (ke : α → Value) (p : Nat)
def treeC {τ : Type} (s : TS τ α) (z : Nat × Nat × Nat) : List Value := [.map (some z.1), .map (some z.2.1), .map (some z.2.2), .int .i64 s.last]
def treeL (s : TS (TB α) α) (z : Nat × Nat × Nat) : List Asrt := [box p 4 T (at_ (treeC s z)), mapA z.1 kI veB s.toks, nestA ke z.2.1 s.pl, nestA kI z.2.2 s.fc]
/-- All but the tokens. -/
def treeR (s : TS (TB α) α) : Asrt := exA fun z : Nat × Nat × Nat => starL (treeL T ke p s z)
def treeE (s : TS (Tk α) α) : Asrt := exA fun l : List (Int × TB α) => andA (s.toks = eraT l) (starL [treeR T ke p ⟨l, s.pl, s.fc, s.last⟩, hoard (FT TT E ke) l])
end
section
variable {α : Type} {T TT E : TypeId} {ke : α → Value} {p : Nat}
variable {P : Program} {ops : Array Oper} {Q : Exit → Act → World → Prop} {N : Nat} {X : Nat → Prop} {w0 w : World} {G : Ghost} {fr : List (Nat × Value)} {L : List Asrt} {rest : List Oper} {c : Code} {e : Exit}
theorem Mem.shutT {s : TS (TB α) α} (z : Nat × Nat × Nat) (h : Mem X w0 G w (treeL T ke p s z ++ L)) : Mem X w0 G w (treeR T ke p s :: L) := by
  obtain ⟨F, h1, h2, h3⟩ := Sep.packL (treeL T ke p s z) h.sep
  exact ⟨h.since, h.has, F, ⟨z, h1⟩, h2, h3⟩
theorem Mem.openT {s : TS (TB α) α} (h : Mem X w0 G w (treeR T ke p s :: L)) : ∃ z, Mem X w0 G w (treeL T ke p s z ++ L) := by
  obtain ⟨z, hz⟩ := h.unex
  exact ⟨z, hz.unpack⟩
theorem r_openT {s : TS (TB α) α} (H : ∀ z : Nat × Nat × Nat, Runs P ops Q N X w0 G rest fr (box p 4 T (at_ (treeC s z)) :: mapA z.1 kI veB s.toks :: nestA ke z.2.1 s.pl :: nestA kI z.2.2 s.fc :: L)) : Runs P ops Q N X w0 G rest fr (treeR T ke p s :: L) := fun a w hS => by
  obtain ⟨z, hz⟩ := hS.mem.openT
  exact H z a w ⟨hS.fr, hz⟩
theorem c_openT {s : TS (TB α) α} (H : ∀ z : Nat × Nat × Nat, CRuns P c Q N X w0 G fr (box p 4 T (at_ (treeC s z)) :: mapA z.1 kI veB s.toks :: nestA ke z.2.1 s.pl :: nestA kI z.2.2 s.fc :: L)) : CRuns P c Q N X w0 G fr (treeR T ke p s :: L) := fun a w hS => by
  obtain ⟨z, hz⟩ := hS.mem.openT
  exact H z a w ⟨hS.fr, hz⟩
theorem r_shutT {s : TS (TB α) α} (z : Nat × Nat × Nat) (H : Runs P ops Q N X w0 G rest fr (treeR T ke p s :: L)) : Runs P ops Q N X w0 G rest fr (box p 4 T (at_ (treeC s z)) :: mapA z.1 kI veB s.toks :: nestA ke z.2.1 s.pl :: nestA kI z.2.2 s.fc :: L) := fun a w hS => H a w ⟨hS.fr, hS.mem.shutT z⟩
theorem c_shutT {s : TS (TB α) α} (z : Nat × Nat × Nat) (H : CRuns P c Q N X w0 G fr (treeR T ke p s :: L)) : CRuns P c Q N X w0 G fr (box p 4 T (at_ (treeC s z)) :: mapA z.1 kI veB s.toks :: nestA ke z.2.1 s.pl :: nestA kI z.2.2 s.fc :: L) := fun a w hS => H a w ⟨hS.fr, hS.mem.shutT z⟩
theorem e_shutT {s : TS (TB α) α} (z : Nat × Nat × Nat) (H : ERuns Q e N X w0 G fr (treeR T ke p s :: L)) : ERuns Q e N X w0 G fr (box p 4 T (at_ (treeC s z)) :: mapA z.1 kI veB s.toks :: nestA ke z.2.1 s.pl :: nestA kI z.2.2 s.fc :: L) := fun a w hS => H a w ⟨hS.fr, hS.mem.shutT z⟩
/-- A call that sees the tokens, and hands back something beside the tree. -/
theorem tree_see {f : FuncId} {vs : Array Value} {Z : Value → Asrt} {R : Value → Prop} {F : Nat → Prop} {s : TS (Tk α) α}
    (hc : ∀ (l : List (Int × TB α)) (G' : Ghost) (F' : Nat → Prop), s.toks = eraT l → GLe G G' → (∀ q ∈ l, TokAt G' ke q.2) → Has G' w → (treeR T ke p ⟨l, s.pl, s.fc, s.last⟩).holds w F' → (∀ b, F' b → G' b = none) →
      Calls P f vs w (Ret fun r w' => R r ∧ Kept (starL [Z r, treeR T ke p ⟨l, s.pl, s.fc, s.last⟩]) F' w w'))
    (hG : Has G w) (hA : (treeE T TT E ke p s).holds w F) (hF : ∀ b, F b → G b = none) : Calls P f vs w (Ret fun r w' => R r ∧ Kept (starL [Z r, treeE T TT E ke p s]) F w w') := by
  obtain ⟨l, hl, hA⟩ := hA
  refine (with_seen (H := hoard (FT TT E ke) l) (S := fun G' => ∀ q ∈ l, TokAt G' ke q.2) (R := R) (B := fun r => starL [Z r, treeR T ke p ⟨l, s.pl, s.fc, s.last⟩]) (fun F1 hM => ?_) (fun G' F' hle hs hG' hA' hF' => hc l G' F' hl hle hs hG' hA' hF') hG ((star_flip w F).1 hA) hF).mono (fun e w' hR => ?_)
  · obtain ⟨G', h1, h2, h3⟩ := hM.freezeH
    exact ⟨G', h1, h2, h3.has⟩
  · cases e with
    | returned r => exact ⟨hR.1, hR.2.imp (fun w F h => by
        obtain ⟨F1, F2, h1, ⟨F3, F4, h5, h6⟩, h3⟩ := (star_turn w F).1 h
        exact ⟨F1, F2, h1, ⟨F3, F4, ⟨l, hl, h5⟩, h6⟩, h3⟩)⟩
    | panicked c => exact hR.elim
    | outgrown => exact hR.elim
theorem tree_see0 {f : FuncId} {vs : Array Value} {R : Value → Prop} {F : Nat → Prop} {s : TS (Tk α) α}
    (hc : ∀ (l : List (Int × TB α)) (G' : Ghost) (F' : Nat → Prop), s.toks = eraT l → GLe G G' → (∀ q ∈ l, TokAt G' ke q.2) → Has G' w → (treeR T ke p ⟨l, s.pl, s.fc, s.last⟩).holds w F' → (∀ b, F' b → G' b = none) →
      Calls P f vs w (Ret fun r w' => R r ∧ Kept (treeR T ke p ⟨l, s.pl, s.fc, s.last⟩) F' w w'))
    (hG : Has G w) (hA : (treeE T TT E ke p s).holds w F) (hF : ∀ b, F b → G b = none) : Calls P f vs w (Ret fun r w' => R r ∧ Kept (treeE T TT E ke p s) F w w') := by
  obtain ⟨l, hl, hA⟩ := hA
  refine (with_seen (H := hoard (FT TT E ke) l) (S := fun G' => ∀ q ∈ l, TokAt G' ke q.2) (R := R) (B := fun r => treeR T ke p ⟨l, s.pl, s.fc, s.last⟩) (fun F1 hM => ?_) (fun G' F' hle hs hG' hA' hF' => hc l G' F' hl hle hs hG' hA' hF') hG ((star_flip w F).1 hA) hF).mono (fun e w' hR => ?_)
  · obtain ⟨G', h1, h2, h3⟩ := hM.freezeH
    exact ⟨G', h1, h2, h3.has⟩
  · cases e with
    | returned r => exact ⟨hR.1, hR.2.imp (fun w F h => ⟨l, hl, (star_flip w F).1 h⟩)⟩
    | panicked c => exact hR.elim
    | outgrown => exact hR.elim
theorem shut_row {Z : Asrt} {s : TS (TB α) α} (z : Nat × Nat × Nat) {w : World} {F : Nat → Prop} (h : (starL (Z :: treeL T ke p s z)).holds w F) : (starL [Z, treeR T ke p s]).holds w F := by
  obtain ⟨F1, F2, h1, h2, h3⟩ := h
  exact ⟨F1, F2, h1, (starL_oneE w F2).2 ⟨z, h2⟩, h3⟩
/-- A token's list is told anew: the map still leads to it. -/
theorem treeR_retell {s : TS (TB α) α} {k : Int} {u v : TB α} (hk : lkp s.toks k = some u) (hv : u.1 = v.1) {w : World} {F : Nat → Prop} (h : (treeR T ke p s).holds w F) : (treeR T ke p ⟨mput s.toks k v, s.pl, s.fc, s.last⟩).holds w F := by
  obtain ⟨z, F1, F2, h1, ⟨F3, F4, h3, h4⟩, h2⟩ := h
  exact ⟨z, F1, F2, h1, ⟨F3, F4, mapA_retell hk (by unfold veB; rw [hv]) h3, h4⟩, h2⟩
end
end Go.Gx

/- Trees of tokens in memory: looking one up, a row turned about, maps of maps opened and shut. Generic in the program. -/
namespace Go.Gx
open Go.RowKit Go.Sort Go.Lib
section
variable {κ ν : Type} [DecidableEq κ] {P : Program} {K : TypeId} {ke : κ → Value} {ve : ν → Value} {N : Nat} {X : Nat → Prop} {w0 : World} {G : Ghost} {l : List (Nat × Value)} {L : List Asrt}
variable {d i m : Nat} {ty : TypeId} {pos : String} {after : Array Edge} {gd : Option (Nat × Bool)} {x y : Operand} {T E : TypeId} {mv : List (κ × ν)} {k : κ} {zv : Value}
/-- What a map leads to, or the zero value. -/
theorem p_lookup_opt (hT : P.underlying T = some (.map K E)) (hk : KeyT P K ke) (hz : ZeroIs P E zv) (hx : ev l x = some (.map (some m))) (hL : L[i]? = some (mapA m ke ve mv)) (hy : ev l y = some (ke k)) :
    PV P N X w0 G l L ⟨some d, .lookup T x y false, ty, pos, after, gd⟩ (veO ve zv (lkp mv k)) := by
  cases ha : lkp mv k with
  | none => exact p_lookup_no (ve := ve) hT hk hz hx hL hy ha
  | some a => exact p_lookup_yes (a := a) (ve := ve) hT hk hz hx hL hy ha
end
section
variable {κ : Type} {ke : κ → Value} {m : Nat} {c0 : List (κ × List (Int × Int))} {l : List (κ × NM)}
variable {P : Program} {ops : Array Oper} {Q : Exit → Act → World → Prop} {N : Nat} {X : Nat → Prop} {w0 w : World} {G : Ghost} {fr : List (Nat × Value)} {L : List Asrt} {rest : List Oper} {c : Code} {e : Exit}
theorem Mem.shutN (hc : c0 = eraN l) (h : Mem X w0 G w (mapA m ke veN l :: hoard FN l :: L)) : Mem X w0 G w (nestA ke m c0 :: L) := by
  obtain ⟨F, h1, h2, h3⟩ := Sep.packL [mapA m ke veN l, hoard FN l] h.sep
  exact ⟨h.since, h.has, F, ⟨l, hc, h1⟩, h2, h3⟩
theorem Mem.openN (h : Mem X w0 G w (nestA ke m c0 :: L)) : ∃ l, c0 = eraN l ∧ Mem X w0 G w (mapA m ke veN l :: hoard FN l :: L) := by
  obtain ⟨l, hl⟩ := h.unex
  exact ⟨l, hl.unand.1, hl.unand.2.unpack⟩
theorem c_openN (H : ∀ l, c0 = eraN l → CRuns P c Q N X w0 G fr (mapA m ke veN l :: hoard FN l :: L)) : CRuns P c Q N X w0 G fr (nestA ke m c0 :: L) := fun a w hS => by
  obtain ⟨l, h1, h2⟩ := hS.mem.openN
  exact H l h1 a w ⟨hS.fr, h2⟩
theorem r_shutN (hc : c0 = eraN l) (H : Runs P ops Q N X w0 G rest fr (nestA ke m c0 :: L)) : Runs P ops Q N X w0 G rest fr (mapA m ke veN l :: hoard FN l :: L) := fun a w hS => H a w ⟨hS.fr, hS.mem.shutN hc⟩
theorem e_shutN (hc : c0 = eraN l) (H : ERuns Q e N X w0 G fr (nestA ke m c0 :: L)) : ERuns Q e N X w0 G fr (mapA m ke veN l :: hoard FN l :: L) := fun a w hS => H a w ⟨hS.fr, hS.mem.shutN hc⟩
end
section
variable {P : Program} {ops : Array Oper} {Q : Exit → Act → World → Prop} {N : Nat} {X : Nat → Prop} {w0 : World} {G : Ghost} {l : List (Nat × Value)} {L : List Asrt} {rest : List Oper} {d k : Nat} {ty : TypeId} {pos : String} {after : Array Edge} {gd : Option (Nat × Bool)}
/-- A call that changes one object, and hands back a value that is known but for a part. -/
theorem r_callov {f : FuncId} {xs : List Operand} {vs : List Value} {ats : Array TypeId} {A : Asrt} {B : Value → Asrt} {u : Value → Value} (hw : Wt ops l gd) (hd : Nat.blt d N = true) (hf : Callable P f) (hv : evs l xs = some vs) (hL : L[k]? = some A)
    (hc : ∀ w F, Has G w → A.holds w F → (∀ b, F b → G b = none) → Calls P f vs.toArray w (Ret fun r w' => ∃ v, r = u v ∧ Kept (B v) F w w'))
    (h : ∀ v, Runs P ops Q N X w0 G rest ((d, u v) :: l) (L.set k (B v))) : Runs P ops Q N X w0 G (⟨some d, .call ⟨.value (.func f), xs.toArray, ats⟩, ty, pos, after, gd⟩ :: rest) l L := by
  refine Runs.step hw (fun a w hS => ?_)
  show Oper.upon P _ a _ Q _
  rw [run_call hS.fr hv hf, Oper.upon_enter]
  obtain ⟨F, hA, hG, hput⟩ := hS.mem.take hL
  refine (hc w F hS.mem.has hA hG).mono (fun e w' hR => ?_)
  cases e with
  | returned r =>
    obtain ⟨v, rfl, hs, F', hB, hF'⟩ := hR
    exact h v _ _ ⟨hS.fr.put (by simpa using hd) _, hput w' _ F' hs hB hF'⟩
  | panicked c => exact hR.elim
  | outgrown => exact hR.elim
end
/-! ### a row of the call's own, turned about -/
def Rev1C (P : Program) {α : Type} [Inhabited α] (f : FuncId) (enc : α → Value) : Prop := ∀ (blk cap : Nat) (zs : List α) (w : World), Holds enc w blk 0 zs.toArray → zs.length ≤ 9223372036854775807 →
  Calls P f #[.slice (some ⟨blk, 0, none⟩) zs.length cap] w fun e w' => e = .returned (.tuple #[]) ∧ ∃ n, w' = putRow enc (Sort.ahead w n) blk 0 zs.reverse.toArray
def Rev1N (P : Program) (f : FuncId) : Prop := ∀ (p : Option Addr) (cap : Nat) (w : World), Calls P f #[.slice p 0 cap] w fun e w' => e = .returned (.tuple #[]) ∧ w' = w
section
variable {α : Type} [Inhabited α] {enc : α → Value}
variable {P : Program} {ops : Array Oper} {Q : Exit → Act → World → Prop} {N : Nat} {X : Nat → Prop} {w0 : World} {G : Ghost} {l : List (Nat × Value)} {L : List Asrt}
variable {rest : List Oper} {d k n : Nat} {ty : TypeId} {pos : String} {after : Array Edge} {gd : Option (Nat × Bool)} {v : Value} {E : TypeId} {zs : List α} {f g : FuncId} {xs : List Operand} {ats : Array TypeId}
omit [Inhabited α] in
theorem grow_none (w : World) : grow w #[] = w := by
  show ({ w with heap := w.heap ++ #[] } : World) = w
  rw [Array.append_empty]
theorem r_rev1 (hw : Wt ops l gd) (hd : Nat.blt d N = true) (hf : Callable P f) (hv : evs l xs = some [v]) (hL : L[k]? = some (rowA v E 1 zs.length (zs.flatMap fun a => [enc a]))) (hs : Rev1C P f enc) (hn : Rev1N P f) (hlen : zs.length < 4611686018427387904)
    (h : Runs P ops Q N X w0 G rest ((d, .tuple #[]) :: l) (L.set k (rowA v E 1 zs.reverse.length (zs.reverse.flatMap fun a => [enc a])))) : Runs P ops Q N X w0 G (⟨some d, .call ⟨.value (.func f), xs.toArray, ats⟩, ty, pos, after, gd⟩ :: rest) l L := by
  refine Runs.step hw (fun a w hS => ?_)
  show Oper.upon P _ a _ Q _
  rw [run_call hS.fr hv hf, Oper.upon_enter]
  obtain ⟨F, ⟨⟨hlen1, hown⟩, hF, hmax⟩, _, hput⟩ := hS.mem.take hL
  by_cases hz : zs.length = 0
  · have hz' : zs = [] := List.eq_nil_of_length_eq_zero hz
    subst hz'
    rw [List.reverse_nil, set_same hL] at h
    have hv2 : ∃ p c, v = .slice p 0 c := by
      rcases hown with ⟨rfl, _⟩ | ⟨g, cap, cur, rfl, _⟩
      · exact ⟨_, _, rfl⟩
      · exact ⟨_, _, rfl⟩
    obtain ⟨p, c, rfl⟩ := hv2
    refine (hn p c w).mono (fun e w' hR => ?_)
    obtain ⟨rfl, rfl⟩ := hR
    exact h _ _ ⟨hS.fr.put (by simpa using hd) _, hS.mem⟩
  · rcases hown with ⟨_, h0⟩ | ⟨g, cap, cur, rfl, _, hg, hnc, hcm, hcs, htk⟩
    · exact absurd h0 hz
    · have hcs' : cur.size = cap := by simpa using hcs
      have htk' : cur.toList.take zs.length = zs.map enc := by rw [← cells_one]; simpa using htk
      refine (hs g cap zs w (own_holds1 hg hcs' hnc htk') (by omega)).mono (fun e w' hR => ?_)
      obtain ⟨rfl, q, rfl⟩ := hR
      have hFg : F g := (hF g).2 rfl
      rw [← grow_none (putRow enc (Sort.ahead w q) g 0 zs.reverse.toArray)]
      refine h _ _ ⟨hS.fr.put (by simpa using hd) _, hput _ _ (fun b => b = g) (since_sort1 hFg) ?_ (fun b hb => .inl (hb ▸ hFg))⟩
      have h2 := own_after1 (enc := enc) (q := q) (os := #[]) (zs' := zs.reverse) hg hcs' hcm (by simpa using hnc)
      rw [List.length_reverse] at h2 ⊢
      exact h2
end
section
variable {α : Type}
theorem eraT_lkp (l : List (Int × TB α)) (k : Int) : lkp (eraT l) k = (lkp l k).map (·.2.2) := lkp_map (fun v : TB α => v.2.2) l k
theorem eraT_len (l : List (Int × TB α)) : (eraT l).length = l.length := by simp [eraT]
theorem eraT_mput (l : List (Int × TB α)) (k : Int) (v : TB α) : eraT (mput l k v) = mput (eraT l) k v.2.2 := mput_map (fun v : TB α => v.2.2) l k v
theorem eraT_mdel (l : List (Int × TB α)) (k : Int) : eraT (mdel l k) = mdel (eraT l) k := mdel_map (fun v : TB α => v.2.2) l k
end
section
variable {α : Type} {T TT E : TypeId} {ke : α → Value} {p : Nat}
variable {P : Program} {ops : Array Oper} {Q : Exit → Act → World → Prop} {N : Nat} {X : Nat → Prop} {w0 w : World} {G : Ghost} {fr : List (Nat × Value)} {L : List Asrt} {rest : List Oper} {c : Code} {e : Exit}
theorem tree_row0 {Z : Asrt} {s : TS (Tk α) α} {l : List (Int × TB α)} {w : World} {F : Nat → Prop} (hl : s.toks = eraT l) (h : (starL [Z, treeR T ke p ⟨l, s.pl, s.fc, s.last⟩, hoard (FT TT E ke) l]).holds w F) : (starL [Z, treeE T TT E ke p s]).holds w F := by
  obtain ⟨F1, F2, h1, h2, h3⟩ := h
  exact ⟨F1, F2, h1, (starL_oneE w F2).2 ⟨l, hl, h2⟩, h3⟩
theorem r_drop0 {A : Asrt} (H : Runs P ops Q N X w0 G rest fr L) : Runs P ops Q N X w0 G rest fr (A :: L) := fun a w hS => H a w ⟨hS.fr, hS.mem.imp (.drop (Imp.refl _))⟩
/-- A new token before the tree. -/
theorem put_shut {v : TB α} {s : TS (TB α) α} (z : Nat × Nat × Nat) {w : World} {F : Nat → Prop} (h : (starL (box v.1 4 TT (at_ (tkC ke v)) :: rowA v.2.1 E 1 v.2.2.kids.length (v.2.2.kids.flatMap cI) :: treeL T ke p s z)).holds w F) : (starL [tkA TT E ke v, treeR T ke p s]).holds w F := by
  obtain ⟨F1, F2, h1, h2, h3⟩ := (star_assoc _ _ _ w F).1 h
  exact ⟨F1, F2, (starL_two w F1).2 h1, (starL_oneE w F2).2 ⟨z, h2⟩, h3⟩
variable {l : List (Int × TB α)} {k : Int} {u v : TB α}
theorem r_ftok (hk : lkp l k = some v) (H : Runs P ops Q N X w0 G rest fr (box v.1 4 TT (at_ (tkC ke v)) :: rowA v.2.1 E 1 v.2.2.kids.length (v.2.2.kids.flatMap cI) :: hoard (FT TT E ke) (mdel l k) :: L)) : Runs P ops Q N X w0 G rest fr (hoard (FT TT E ke) l :: L) := fun a w hS =>
  H a w ⟨hS.fr, (hS.mem.focus hk).unpack⟩
theorem Mem.tokBack (hk : lkp l k = some u) (h : Mem X w0 G w (box v.1 4 TT (at_ (tkC ke v)) :: rowA v.2.1 E 1 v.2.2.kids.length (v.2.2.kids.flatMap cI) :: hoard (FT TT E ke) (mdel l k) :: L)) : Mem X w0 G w (hoard (FT TT E ke) (mput l k v) :: L) := by
  obtain ⟨F, h1, h2, h3⟩ := Sep.packL [box v.1 4 TT (at_ (tkC ke v)), rowA v.2.1 E 1 v.2.2.kids.length (v.2.2.kids.flatMap cI)] h.sep
  have h4 : Mem X w0 G w (FT TT E ke (k, v) :: hoard (FT TT E ke) (mdel l k) :: L) := ⟨h.since, h.has, F, h1, h2, h3⟩
  exact h4.unfocus hk
theorem r_tokBack (hk : lkp l k = some u) (H : Runs P ops Q N X w0 G rest fr (hoard (FT TT E ke) (mput l k v) :: L)) : Runs P ops Q N X w0 G rest fr (box v.1 4 TT (at_ (tkC ke v)) :: rowA v.2.1 E 1 v.2.2.kids.length (v.2.2.kids.flatMap cI) :: hoard (FT TT E ke) (mdel l k) :: L) := fun a w hS => H a w ⟨hS.fr, hS.mem.tokBack hk⟩
theorem r_fnewT (hk : lkp l k = none) (H : Runs P ops Q N X w0 G rest fr (hoard (FT TT E ke) (mput l k v) :: L)) : Runs P ops Q N X w0 G rest fr (tkA TT E ke v :: hoard (FT TT E ke) l :: L) := r_fnew (F := FT TT E ke) (k := k) v hk H
end
end Go.Gx

/- Trees of tokens, in plain words: what goes out with one. -/
namespace Go.Gx.T15
open Go.Gx
inductive RT (α : Type) where
  | mk (id : Int) (a : α) (f : Int) (ks : List (RT α))
abbrev Gn (α : Type) := Int × α × Int
def RT.id {α : Type} : RT α → Int | .mk i _ _ _ => i
mutual
def post {α : Type} : RT α → List (Gn α)
  | .mk i a f ks => postL ks ++ [(i, a, f)]
def postL {α : Type} : List (RT α) → List (Gn α)
  | [] => []
  | t :: ts => post t ++ postL ts
end
section
variable {α : Type} [DecidableEq α] {τ : Type}
def out1 (s : TS τ α) (g : Gn α) : TS τ α := ⟨mdel s.toks g.1, ndrop s.pl g.2.1 g.1, if g.2.2 = 0 then s.fc else ndrop s.fc g.2.2 g.1, s.last⟩
def outs (s : TS τ α) (gs : List (Gn α)) : TS τ α := gs.foldl out1 s
theorem outs_append (s : TS τ α) (a b : List (Gn α)) : outs s (a ++ b) = outs (outs s a) b := List.foldl_append
theorem outs_lkp {k : Int} : ∀ (gs : List (Gn α)) (s : TS τ α), k ∉ gs.map (·.1) → lkp (outs s gs).toks k = lkp s.toks k
  | [], _, _ => rfl
  | g :: t, s, h => by
    simp only [List.map_cons, List.mem_cons, not_or] at h
    show lkp (outs (out1 s g) t).toks k = _
    rw [outs_lkp t _ h.2]
    exact lkp_mdel_ne (fun e => h.1 e.symm)
theorem outs_last : ∀ (gs : List (Gn α)) (s : TS τ α), (outs s gs).last = s.last
  | [], _ => rfl
  | g :: t, s => outs_last t (out1 s g)
theorem outs_toks : ∀ (gs : List (Gn α)) (s : TS τ α), (outs s gs).toks = mdels s.toks (gs.map (·.1))
  | [], _ => rfl
  | g :: t, s => outs_toks t (out1 s g)
end
section
variable {α : Type}
theorem postL_append : ∀ (a b : List (RT α)), postL (a ++ b) = postL a ++ postL b
  | [], _ => rfl
  | t :: ts, b => by simp [postL, postL_append ts b]
theorem postL_next {ks : List (RT α)} {j : Nat} (d : RT α) (h : j < ks.length) : postL (ks.take (j + 1)) = postL (ks.take j) ++ post (ks.getD j d) := by
  rw [T10.take_next d h, postL_append]; simp [postL]
theorem post_sub {ks : List (RT α)} {j : Nat} (d : RT α) (h : j < ks.length) {q : Gn α} (hq : q ∈ post (ks.getD j d)) : q ∈ postL ks := by
  have e : ks = ks.take (j + 1) ++ ks.drop (j + 1) := (List.take_append_drop _ _).symm
  rw [e, postL_append, postL_next d h]; exact List.mem_append_left _ (List.mem_append_right _ hq)
mutual
/-- The tokens have these kids. -/
def Fits (B : Int → TB α) : RT α → Prop
  | .mk i a f ks => (B i).2.2.pla = a ∧ (B i).2.2.fac = f ∧ (B i).2.2.kids = ks.map RT.id ∧ FitsL B ks
def FitsL (B : Int → TB α) : List (RT α) → Prop
  | [] => True
  | t :: ts => Fits B t ∧ FitsL B ts
end
theorem fitsL_get {B : Int → TB α} : ∀ {ks : List (RT α)} {j : Nat} (d : RT α), FitsL B ks → j < ks.length → Fits B (ks.getD j d)
  | t :: ts, 0, _, h, _ => h.1
  | t :: ts, j + 1, d, h, hj => by simpa using fitsL_get (ks := ts) (j := j) d h.2 (by simpa using hj)
theorem post_after {ks : List (RT α)} {j : Nat} (d : RT α) (h : j < ks.length) (hn : ((postL ks).map (·.1)).Nodup) {q : Gn α} (hq : q ∈ post (ks.getD j d)) : q.1 ∉ (postL (ks.take j)).map (·.1) := by
  have e : ks = ks.take (j + 1) ++ ks.drop (j + 1) := (List.take_append_drop _ _).symm
  rw [e, postL_append, postL_next d h, List.map_append, List.map_append] at hn
  have h1 := (List.nodup_append.1 (List.nodup_append.1 hn).1).2.2
  exact fun hm => h1 _ hm _ (List.mem_map.2 ⟨q, hq, rfl⟩) rfl
theorem post_nodup {ks : List (RT α)} {j : Nat} (d : RT α) (h : j < ks.length) (hn : ((postL ks).map (·.1)).Nodup) : ((post (ks.getD j d)).map (·.1)).Nodup := by
  have e : ks = ks.take (j + 1) ++ ks.drop (j + 1) := (List.take_append_drop _ _).symm
  rw [e, postL_append, postL_next d h, List.map_append, List.map_append] at hn
  exact (List.nodup_append.1 (List.nodup_append.1 hn).1).2.1
theorem post_len {ks : List (RT α)} {j : Nat} (d : RT α) (h : j < ks.length) : (postL (ks.take j)).length + (post (ks.getD j d)).length ≤ (postL ks).length := by
  have e : ks = ks.take (j + 1) ++ ks.drop (j + 1) := (List.take_append_drop _ _).symm
  conv => rhs; rw [e, postL_append, postL_next d h]
  simp
end
/-! ### what is read -/
section
variable {α : Type}
def gT (l : List (Int × TB α)) (id : Int) : Option (Tk α) := (lkp l id).map (·.2.2)
theorem gT_some {l : List (Int × TB α)} {id : Int} {v : TB α} (h : lkp l id = some v) : gT l id = some v.2.2 := by rw [gT, h]; rfl
theorem gT_none {l : List (Int × TB α)} {id : Int} (h : lkp l id = none) : gT l id = none := by rw [gT, h]; rfl
theorem gT_era (l : List (Int × TB α)) : gT l = lkp (eraT l) := by
  funext id; exact (eraT_lkp l id).symm
/-- Parents are less. -/
def Ord (g : Int → Option (Tk α)) : Prop := ∀ id x, g id = some x → 1 ≤ id ∧ x.par < id
/-- The facts from one up. -/
def factsF : Nat → (Int → Option (Tk α)) → Int → List Int
  | 0, _, _ => []
  | n + 1, g, id => match g id with
    | none => []
    | some x => (if x.fac = 0 then [] else [x.fac]) ++ factsF n g x.par
theorem factsF_none {g : Int → Option (Tk α)} {id : Int} (h : g id = none) : ∀ n, factsF n g id = []
  | 0 => rfl
  | n + 1 => by unfold factsF; rw [h]
theorem factsF_some {g : Int → Option (Tk α)} {id : Int} {x : Tk α} (h : g id = some x) (n : Nat) : factsF (n + 1) g id = (if x.fac = 0 then [] else [x.fac]) ++ factsF n g x.par := by
  rw [factsF, h]
variable [DecidableEq α]
/-- The first one at a place, from one up. -/
def upF : Nat → (Int → Option (Tk α)) → Int → α → Int
  | 0, _, _, _ => 0
  | n + 1, g, id, a => match g id with
    | none => 0
    | some x => if x.pla = a then id else upF n g x.par a
theorem upF_none {g : Int → Option (Tk α)} {id : Int} {a : α} (h : g id = none) : ∀ n, upF n g id a = 0
  | 0 => rfl
  | n + 1 => by unfold upF; rw [h]
theorem upF_some {g : Int → Option (Tk α)} {id : Int} {a : α} {x : Tk α} (h : g id = some x) (n : Nat) : upF (n + 1) g id a = if x.pla = a then id else upF n g x.par a := by
  rw [upF, h]
end
def itemsN {κ : Type} [DecidableEq κ] (c : List (κ × List (Int × Int))) (k : κ) : List Int := sortI (((lkp c k).getD []).map Prod.fst)
def putB {α : Type} [DecidableEq α] (s : TS (TB α) α) (b : Nat) (par : Int) (a : α) (f : Int) : TS (TB α) α := ⟨mput s.toks (s.last + 1) (b, .slice none 0 0, ⟨a, par, f, []⟩), nput s.pl a (s.last + 1), if f = 0 then s.fc else nput s.fc f (s.last + 1), s.last + 1⟩
/-- A token more. -/
def addS {α : Type} [DecidableEq α] (s : TS (Tk α) α) (par : Int) (a : α) (f : Int) : TS (Tk α) α :=
  match lkp s.toks par with
  | none => s
  | some x => ⟨mput (mput s.toks (s.last + 1) ⟨a, par, f, []⟩) par ⟨x.pla, x.par, x.fac, x.kids ++ [s.last + 1]⟩, nput s.pl a (s.last + 1), if f = 0 then s.fc else nput s.fc f (s.last + 1), s.last + 1⟩
def newS {α : Type} [DecidableEq α] (a : α) : TS (Tk α) α := ⟨[(1, ⟨a, 0, 0, []⟩)], nput [] a 1, [], 1⟩
def gnC {α : Type} (ke : α → Value) (g : Gn α) : List Value := [.int .i64 g.1, ke g.2.1, .int .i64 g.2.2]
section
variable {α : Type} [DecidableEq α]
def addN (s : TS (Tk α) α) (par : Int) : Int := if (lkp s.toks par).isSome then s.last + 1 else 0
def addX (s : TS (Tk α) α) (par : Int) : Int := if (lkp s.toks par).isSome then 0 else 16
theorem addS_none {s : TS (Tk α) α} {l : List (Int × TB α)} {par : Int} {a : α} {f : Int} (hl : s.toks = eraT l) (hN : lkp l par = none) : addS s par a f = s ∧ addN s par = 0 ∧ addX s par = 16 := by
  have e : lkp s.toks par = none := by rw [hl, eraT_lkp, hN]; rfl
  refine ⟨?_, ?_, ?_⟩
  · unfold addS; rw [e]
  · unfold addN; rw [e]; rfl
  · unfold addX; rw [e]; rfl
theorem addS_some {s : TS (Tk α) α} {l : List (Int × TB α)} {par : Int} {a : α} {f : Int} {bx b2 : Nat} {kv v2 : Value} {x : Tk α} (hl : s.toks = eraT l) (hN : lkp l par = some (bx, kv, x)) :
    addS s par a f = ⟨eraT (mput (mput l (s.last + 1) (b2, .slice none 0 0, ⟨a, par, f, []⟩)) par (bx, v2, ⟨x.pla, x.par, x.fac, x.kids ++ [s.last + 1]⟩)), nput s.pl a (s.last + 1), if f = 0 then s.fc else nput s.fc f (s.last + 1), s.last + 1⟩ ∧ addN s par = s.last + 1 ∧ addX s par = 0 := by
  have e : lkp s.toks par = some x := by rw [hl, eraT_lkp, hN]; rfl
  refine ⟨?_, ?_, ?_⟩
  · unfold addS; rw [e, hl, eraT_mput, eraT_mput]
  · unfold addN; rw [e]; rfl
  · unfold addX; rw [e]; rfl
end
section
variable {α : Type}
mutual
/-- What stands below a token, as the tokens say. -/
def FitsG (g : Int → Option (Tk α)) : RT α → Prop
  | .mk i a f ks => (∃ x, g i = some x ∧ x.pla = a ∧ x.fac = f ∧ x.kids = ks.map RT.id) ∧ FitsGL g ks
def FitsGL (g : Int → Option (Tk α)) : List (RT α) → Prop
  | [] => True
  | t :: ts => FitsG g t ∧ FitsGL g ts
end
mutual
theorem fitsG_fits {g : Int → Option (Tk α)} {B : Int → TB α} (hB : ∀ i x, g i = some x → (B i).2.2 = x) : ∀ {T : RT α}, FitsG g T → Fits B T
  | .mk i a f ks, ⟨⟨x, h1, h2, h3, h4⟩, h5⟩ => ⟨by rw [hB i x h1, h2], by rw [hB i x h1, h3], by rw [hB i x h1, h4], fitsGL_fits hB h5⟩
theorem fitsGL_fits {g : Int → Option (Tk α)} {B : Int → TB α} (hB : ∀ i x, g i = some x → (B i).2.2 = x) : ∀ {ks : List (RT α)}, FitsGL g ks → FitsL B ks
  | [], _ => trivial
  | _ :: _, ⟨h1, h2⟩ => ⟨fitsG_fits hB h1, fitsGL_fits hB h2⟩
end
mutual
theorem fitsG_mem {g : Int → Option (Tk α)} : ∀ {T : RT α}, FitsG g T → ∀ q ∈ post T, ∃ x, g q.1 = some x
  | .mk i a f ks, ⟨⟨x, h1, h2, h3, h4⟩, h5⟩, q, hq => by
    rcases List.mem_append.1 hq with hq | hq
    · exact fitsGL_mem h5 q hq
    · rw [List.mem_singleton.1 hq]; exact ⟨x, h1⟩
theorem fitsGL_mem {g : Int → Option (Tk α)} : ∀ {ks : List (RT α)}, FitsGL g ks → ∀ q ∈ postL ks, ∃ x, g q.1 = some x
  | t :: ts, ⟨h1, h2⟩, q, hq => by
    rcases List.mem_append.1 hq with hq | hq
    · exact fitsG_mem h1 q hq
    · exact fitsGL_mem h2 q hq
end
def dflB (a : α) : TB α := (0, .int .i64 0, ⟨a, 0, 0, []⟩)
theorem mdel_mput_ne {κ ν : Type} [DecidableEq κ] {k k' : κ} {v : ν} (h : ¬ k' = k) : ∀ l : List (κ × ν), mdel (mput l k v) k' = mput (mdel l k') k v
  | [] => by
    have e : ¬ k = k' := fun e => h e.symm
    simp [mput, mdel, e]
  | p :: t => by
    obtain ⟨a, b⟩ := p
    by_cases e1 : a = k
    · subst e1
      have e2 : ¬ a = k' := fun e => h e.symm
      simp [mput, mdel, e2]
    · by_cases e2 : a = k'
      · subst e2; simp [mput, mdel, e1]
      · simp [mput, mdel, e1, e2, mdel_mput_ne h t]
theorem mdels_mput {κ ν : Type} [DecidableEq κ] {k : κ} {v : ν} : ∀ (ks : List κ) (l : List (κ × ν)), k ∉ ks → mdels (mput l k v) ks = mput (mdels l ks) k v
  | [], _, _ => rfl
  | k' :: t, l, h => by
    simp only [List.mem_cons, not_or] at h
    show mdels (mdel (mput l k v) k') t = _
    rw [mdel_mput_ne (fun e => h.1 e.symm), mdels_mput t _ h.2]; rfl
theorem mdels_lkp {κ ν : Type} [DecidableEq κ] {k : κ} : ∀ (ks : List κ) (l : List (κ × ν)), k ∉ ks → lkp (mdels l ks) k = lkp l k
  | [], _, _ => rfl
  | k' :: t, l, h => by
    simp only [List.mem_cons, not_or] at h
    show lkp (mdels (mdel l k') t) k = _
    rw [mdels_lkp t _ h.2, lkp_mdel_ne (fun e => h.1 e.symm)]
variable [DecidableEq α]
def eraS (s : TS (TB α) α) : TS (Tk α) α := ⟨eraT s.toks, s.pl, s.fc, s.last⟩
theorem outs_era : ∀ (gs : List (Gn α)) (s : TS (TB α) α), outs (eraS s) gs = eraS (outs s gs)
  | [], _ => rfl
  | g :: t, s => by
    show outs (out1 (eraS s) g) t = eraS (outs (out1 s g) t)
    rw [← outs_era t (out1 s g)]
    congr 1
    unfold out1 eraS
    simp only [eraT_mdel]
/-- A token's list, one kid less. -/
def lessS {τ : Type} (s : TS τ α) (k : Int) (x : τ) : TS τ α := ⟨mput s.toks k x, s.pl, s.fc, s.last⟩
def less (x : Tk α) (id : Int) : Tk α := ⟨x.pla, x.par, x.fac, x.kids.filter fun k => !decide (k = id)⟩
omit [DecidableEq α] in
theorem lessS_era (s : TS (TB α) α) (k : Int) (v : TB α) : eraS (lessS s k v) = lessS (eraS s) k v.2.2 := by
  unfold lessS eraS; simp only [eraT_mput]
end
section
variable {α : Type}
theorem eraT_some {l : List (Int × TB α)} {k : Int} {x : Tk α} (h : lkp (eraT l) k = some x) : ∃ b kv, lkp l k = some (b, kv, x) := by
  rw [eraT_lkp] at h
  cases e : lkp l k with
  | none => rw [e] at h; cases h
  | some v =>
    rw [e] at h
    simp only [Option.map_some, Option.some.injEq] at h
    exact ⟨v.1, v.2.1, by rw [← h]⟩
theorem post_id (T : RT α) : T.id ∈ (post T).map (·.1) := by
  obtain ⟨i, a, f, ks⟩ := T
  simp [post, RT.id]
variable [DecidableEq α]
theorem tree_del {T TT E : TypeId} {ke : α → Value} {p : Nat} {Z : Asrt} {s : TS (Tk α) α} {l : List (Int × TB α)} {k : Int} {V2 : TB α} {gs : List (Gn α)} {w : World} {F : Nat → Prop} (hl : s.toks = eraT l) (hpn : k ∉ gs.map (·.1))
    (h : (starL [Z, treeR T ke p (outs (lessS ⟨l, s.pl, s.fc, s.last⟩ k V2) gs), hoard (FT TT E ke) (mput (mdels l (gs.map (·.1))) k V2)]).holds w F) : (starL [Z, treeE T TT E ke p (outs (lessS s k V2.2.2) gs)]).holds w F := by
  have e1 : s = eraS ⟨l, s.pl, s.fc, s.last⟩ := by unfold eraS; rw [← hl]
  have e2 : outs (lessS s k V2.2.2) gs = eraS (outs (lessS ⟨l, s.pl, s.fc, s.last⟩ k V2) gs) := by
    conv => lhs; rw [e1, ← lessS_era]
    exact outs_era gs _
  have e3 : (outs (lessS (⟨l, s.pl, s.fc, s.last⟩ : TS (TB α) α) k V2) gs).toks = mput (mdels l (gs.map (·.1))) k V2 := by
    rw [outs_toks]; exact mdels_mput _ _ hpn
  rw [← e3] at h
  rw [e2]
  obtain ⟨F1, F2, h1, h2, h3⟩ := h
  exact ⟨F1, F2, h1, (starL_oneE w F2).2 ⟨_, rfl, h2⟩, h3⟩
end
end Go.Gx.T15

/- Walks: what Go functions of this chapter come to, each as a function on plain data; no condition but those that each theorem names. Printed by a program of this work (gen.py). -/
namespace Go.Proofs.Ytdcaehepmkhciaa
open Go.Gx Go.Gx Go.Gx.T10 Go.Gx.T12 Go.Gx.T10 Go.Gx.T11 Go.Gx.T15 Go.Gx.T12
theorem zr36 : ZeroIs Try.prog 36 (Value.map none) := by
 unfold ZeroIs
 kernel_rfl
theorem nput_in {κ : Type} [DecidableEq κ] {l : List (κ × NM)} {k : κ} {id : Int} {mi : Nat} {hi : List (Int × Int)} (h : lkp l k = some (mi, hi)) : nput (eraN l) k id = eraN (mput l k (mi, mput hi id 1)) := by
 rw [eraN_mput, nput, eraN_some h]; rfl

theorem nput_new {κ : Type} [DecidableEq κ] {l : List (κ × NM)} {k : κ} {id : Int} {mi : Nat} (h : lkp l k = none) : nput (eraN l) k id = eraN (mput l k (mi, mput [] id 1)) := by
 rw [eraN_mput, nput, eraN_none h]; rfl

theorem ndrop_none {κ : Type} [DecidableEq κ] {l : List (κ × NM)} {k : κ} {id : Int} (h : lkp l k = none) : ndrop (eraN l) k id = eraN l := by
 rw [ndrop, eraN_none h, if_pos (by simp [mdel]), mdel_none (eraN_none h)]

theorem ndrop_last {κ : Type} [DecidableEq κ] {l : List (κ × NM)} {k : κ} {id : Int} {mi : Nat} {hi : List (Int × Int)} (h : lkp l k = some (mi, hi)) (hD : (mdel hi id).length = 0) : ndrop (eraN l) k id = eraN (mdel l k) := by
 rw [ndrop, eraN_some h, if_pos (by simpa using hD), eraN_mdel]

theorem ndrop_more {κ : Type} [DecidableEq κ] {l : List (κ × NM)} {k : κ} {id : Int} {mi : Nat} {hi : List (Int × Int)} (h : lkp l k = some (mi, hi)) (hD : ¬ (mdel hi id).length = 0) : ndrop (eraN l) k id = eraN (mput l k (mi, mdel hi id)) := by
 rw [ndrop, eraN_some h, if_neg (by simpa using hD), eraN_mput]; rfl

theorem mdel_back {κ ν : Type} [DecidableEq κ] {l : List (κ × ν)} {k : κ} {m : Nat} {ke : κ → Value} {ve : ν → Value} (h : lkp l k = none) {w : World} {F : Nat → Prop} (hb : (mapA m ke ve (mdel l k)).holds w F) : (mapA m ke ve l).holds w F := by rwa [mdel_none h] at hb
theorem c_nputS {F : Nat → Prop} {G : Ghost} (m : Nat) (k : ByteArray) (id : Int) (c : List (ByteArray × List (Int × Int)))  (w : World) (hG : Has G w) (hA : (nestA kS m c).holds w F) (hFG : ∀ b, F b → G b = none) :
  Calls Try.prog 95 #[Value.map (some m), kS k, Value.int .i64 id] w (Ret fun r w' => r = Value.tuple #[] ∧ Kept (nestA kS m (nput c k id)) F w w') := by
 refine enterO (args := [_, _, _]) (G := G) (A := nestA kS m c) (l := [(0, Value.map (some m)), (1, kS k), (2, Value.int .i64 id)]) Try.func95 rfl Try.ntmps95 hG hA hFG ⟨rfl, rfl, rfl, trivial⟩ (Nat.le_of_ble_eq_true rfl) ?_
 refine c_unex (fun l => ?_)
 refine c_unand (fun hc => ?_)
 subst hc
 refine c_unpack ?_
 refine c_seq ?_
 refine c_seq ?_
 refine c_region ?_
 refine r_val .none rfl (p_move rfl) ?_
 refine r_val .none rfl (p_move rfl) ?_
 rcases hN : lkp l k with _ | ⟨mi, hi⟩
 ·
  refine r_val .none rfl (p_lookup_no (i := 0) Try.underlying116 (KeyT.string Try.underlying9) zr36 rfl rfl rfl hN) ?_
  refine r_val .none rfl (p_eq_map Try.underlying36 rfl rfl) ?_
  refine r_say (d := 9) (v := Value.bool true) rfl ?_
  refine r_nil ?_
  refine e_next ?_
  refine c_cond_t rfl ?_
  refine c_region ?_
  refine r_val .none rfl (p_move rfl) ?_
  refine r_val .none rfl (p_move rfl) ?_
  refine r_makemap .none rfl kI kI (fun m_1 => ?_)
  refine r_mapup (i := 1) (k := k) (a := (m_1, [])) .none Try.underlying116 (KeyT.string Try.underlying9) rfl rfl rfl rfl ?_
  refine r_nil ?_
  refine e_next ?_
  refine c_region ?_
  refine r_val .none rfl (p_move rfl) ?_
  refine r_val .none rfl (p_move rfl) ?_
  refine r_val .none rfl (p_lookup_yes (i := 1) Try.underlying116 (KeyT.string Try.underlying9) zr36 rfl rfl rfl (by rw [lkp_mput, if_pos rfl])) ?_
  refine r_val .none rfl (p_move rfl) ?_
  refine r_mapup (i := 0) (k := id) (a := (1 : Int)) .none Try.underlying36 (KeyT.int Try.underlying3) rfl rfl rfl rfl ?_
  refine r_nil ?_
  refine e_front (k := 2) rfl ?_
  refine e_front (k := 1) rfl ?_
  refine e_nnew (k := k) hN ?_
  refine e_front (k := 1) rfl ?_
  refine e_end0 Try.results95 (fun w hm => ?_)
  exact ⟨rfl, hm.kept [mapA m kS veN (mput l k (m_1, mput [] id 1)), hoard FN (mput l k (m_1, mput [] id 1))] (.keep (fun _ _ h => retellNew h) (.keep (fun _ _ h => h) (.nil))) (nestA kS m (nput (eraN l) k id)) (fun F' h => ⟨mput l k (m_1, mput [] id 1), nput_new hN, h⟩)⟩
 ·
  refine r_front (k := 1) rfl ?_
  refine r_nfocus hN ?_
  refine r_val .none rfl (p_lookup_yes (i := 2) Try.underlying116 (KeyT.string Try.underlying9) zr36 rfl rfl rfl hN) ?_
  refine r_val .none rfl (p_eq_map Try.underlying36 rfl rfl) ?_
  refine r_say (d := 9) (v := Value.bool false) rfl ?_
  refine r_nil ?_
  refine e_next ?_
  refine c_cond_f rfl ?_
  refine c_skip ?_
  refine e_next ?_
  refine c_region ?_
  refine r_val .none rfl (p_move rfl) ?_
  refine r_val .none rfl (p_move rfl) ?_
  refine r_val .none rfl (p_lookup_yes (i := 2) Try.underlying116 (KeyT.string Try.underlying9) zr36 rfl rfl rfl hN) ?_
  refine r_val .none rfl (p_move rfl) ?_
  refine r_mapup (i := 0) (k := id) (a := (1 : Int)) .none Try.underlying36 (KeyT.int Try.underlying3) rfl rfl rfl rfl ?_
  refine r_nil ?_
  refine e_front (k := 1) rfl ?_
  refine e_front (k := 1) rfl ?_
  refine e_nunfocus hN ?_
  refine e_front (k := 1) rfl ?_
  refine e_end0 Try.results95 (fun w hm => ?_)
  exact ⟨rfl, hm.kept [mapA m kS veN (mput l k (mi, mput hi id 1)), hoard FN (mput l k (mi, mput hi id 1))] (.keep (fun _ _ h => retellN (h' := mput hi id 1) hN h) (.keep (fun _ _ h => h) (.nil))) (nestA kS m (nput (eraN l) k id)) (fun F' h => ⟨mput l k (mi, mput hi id 1), nput_in hN, h⟩)⟩
theorem c_ndropS {F : Nat → Prop} {G : Ghost} (m : Nat) (k : ByteArray) (id : Int) (c : List (ByteArray × List (Int × Int)))  (w : World) (hG : Has G w) (hA : (nestA kS m c).holds w F) (hFG : ∀ b, F b → G b = none) :
  Calls Try.prog 98 #[Value.map (some m), kS k, Value.int .i64 id] w (Ret fun r w' => r = Value.tuple #[] ∧ Kept (nestA kS m (ndrop c k id)) F w w') := by
 refine enterO (args := [_, _, _]) (G := G) (A := nestA kS m c) (l := [(0, Value.map (some m)), (1, kS k), (2, Value.int .i64 id)]) Try.func98 rfl Try.ntmps98 hG hA hFG ⟨rfl, rfl, rfl, trivial⟩ (Nat.le_of_ble_eq_true rfl) ?_
 refine c_unex (fun l => ?_)
 refine c_unand (fun hc => ?_)
 subst hc
 refine c_unpack ?_
 refine c_seq ?_
 refine c_region ?_
 refine r_val .none rfl (p_move rfl) ?_
 refine r_val .none rfl (p_move rfl) ?_
 rcases hN : lkp l k with _ | ⟨mi, hi⟩
 ·
  refine r_val .none rfl (p_lookup_no (i := 0) Try.underlying116 (KeyT.string Try.underlying9) zr36 rfl rfl rfl hN) ?_
  refine r_val .none rfl (p_move rfl) ?_
  refine r_delete_nil .none Try.underlying36 (KeyT.int Try.underlying3) rfl rfl ?_
  refine r_nil ?_
  refine e_next ?_
  refine c_seq ?_
  refine c_region ?_
  refine r_val .none rfl (p_move rfl) ?_
  refine r_val .none rfl (p_move rfl) ?_
  refine r_val .none rfl (p_lookup_no (i := 0) Try.underlying116 (KeyT.string Try.underlying9) zr36 rfl rfl rfl hN) ?_
  refine r_val .none rfl (p_len_nilmap Try.underlying36 rfl) ?_
  refine r_val .none rfl (p_eq rfl rfl) ?_
  refine r_say (d := 14) (v := Value.bool true) rfl ?_
  refine r_nil ?_
  refine e_next ?_
  refine c_cond_t rfl ?_
  refine c_region ?_
  refine r_val .none rfl (p_move rfl) ?_
  refine r_val .none rfl (p_move rfl) ?_
  refine r_delete (i := 0) .none Try.underlying116 (KeyT.string Try.underlying9) rfl rfl rfl rfl ?_
  refine r_nil ?_
  refine e_end0 Try.results98 (fun w hm => ?_)
  exact ⟨rfl, hm.kept [mapA m kS veN (l), hoard FN (l)] (.keep (fun _ _ h => mdel_back hN h) (.keep (fun _ _ h => h) (.nil))) (nestA kS m (ndrop (eraN l) k id)) (fun F' h => ⟨l, ndrop_none hN, h⟩)⟩
 ·
  refine r_front (k := 1) rfl ?_
  refine r_nfocus hN ?_
  refine r_val .none rfl (p_lookup_yes (i := 2) Try.underlying116 (KeyT.string Try.underlying9) zr36 rfl rfl rfl hN) ?_
  refine r_val .none rfl (p_move rfl) ?_
  refine r_delete (i := 0) .none Try.underlying36 (KeyT.int Try.underlying3) rfl rfl rfl rfl ?_
  refine r_nil ?_
  refine e_next ?_
  refine c_seq ?_
  refine c_region ?_
  refine r_val .none rfl (p_move rfl) ?_
  refine r_val .none rfl (p_move rfl) ?_
  refine r_val .none rfl (p_lookup_yes (i := 2) Try.underlying116 (KeyT.string Try.underlying9) zr36 rfl rfl rfl hN) ?_
  refine r_val .none rfl (p_len_map (i := 0) Try.underlying36 rfl rfl) ?_
  refine r_val .none rfl (p_eq rfl rfl) ?_
  refine r_nil ?_
  refine e_next ?_
  refine c_splitd (d := 14) rfl (fun h_1 => ?_) (fun h_1 => ?_)
  ·
   have hD : (mdel hi id).length = 0 := by (have h9 := h_1; omega)
   first
    | (exfalso; omega)
    | (
     refine c_cond_t rfl ?_
     refine c_region ?_
     refine r_val .none rfl (p_move rfl) ?_
     refine r_val .none rfl (p_move rfl) ?_
     refine r_delete (i := 2) .none Try.underlying116 (KeyT.string Try.underlying9) rfl rfl rfl rfl ?_
     refine r_nil ?_
     refine e_front (k := 1) rfl ?_
     refine e_front (k := 2) rfl ?_
     refine e_end0 Try.results98 (fun w hm => ?_)
     exact ⟨rfl, hm.kept [mapA m kS veN (mdel l k), hoard FN (mdel l k)] (.keep (fun _ _ h => h) (.keep (fun _ _ h => h) (.drop (.nil)))) (nestA kS m (ndrop (eraN l) k id)) (fun F' h => ⟨mdel l k, ndrop_last hN hD, h⟩)⟩
     )
  ·
   have hD : ¬ (mdel hi id).length = 0 := by (have h9 := h_1; omega)
   first
    | (exfalso; omega)
    | (
     refine c_cond_f rfl ?_
     refine c_skip ?_
     refine e_front (k := 1) rfl ?_
     refine e_front (k := 1) rfl ?_
     refine e_nunfocus hN ?_
     refine e_front (k := 1) rfl ?_
     refine e_end0 Try.results98 (fun w hm => ?_)
     exact ⟨rfl, hm.kept [mapA m kS veN (mput l k (mi, mdel hi id)), hoard FN (mput l k (mi, mdel hi id))] (.keep (fun _ _ h => retellN (h' := mdel hi id) hN h) (.keep (fun _ _ h => h) (.nil))) (nestA kS m (ndrop (eraN l) k id)) (fun F' h => ⟨mput l k (mi, mdel hi id), ndrop_more hN hD, h⟩)⟩
     )
theorem c_nputI {F : Nat → Prop} {G : Ghost} (m : Nat) (k : Int) (id : Int) (c : List (Int × List (Int × Int)))  (w : World) (hG : Has G w) (hA : (nestA kI m c).holds w F) (hFG : ∀ b, F b → G b = none) :
  Calls Try.prog 96 #[Value.map (some m), kI k, Value.int .i64 id] w (Ret fun r w' => r = Value.tuple #[] ∧ Kept (nestA kI m (nput c k id)) F w w') := by
 refine enterO (args := [_, _, _]) (G := G) (A := nestA kI m c) (l := [(0, Value.map (some m)), (1, kI k), (2, Value.int .i64 id)]) Try.func96 rfl Try.ntmps96 hG hA hFG ⟨rfl, rfl, rfl, trivial⟩ (Nat.le_of_ble_eq_true rfl) ?_
 refine c_unex (fun l => ?_)
 refine c_unand (fun hc => ?_)
 subst hc
 refine c_unpack ?_
 refine c_seq ?_
 refine c_seq ?_
 refine c_region ?_
 refine r_val .none rfl (p_move rfl) ?_
 refine r_val .none rfl (p_move rfl) ?_
 rcases hN : lkp l k with _ | ⟨mi, hi⟩
 ·
  refine r_val .none rfl (p_lookup_no (i := 0) Try.underlying117 (KeyT.int Try.underlying3) zr36 rfl rfl rfl hN) ?_
  refine r_val .none rfl (p_eq_map Try.underlying36 rfl rfl) ?_
  refine r_say (d := 9) (v := Value.bool true) rfl ?_
  refine r_nil ?_
  refine e_next ?_
  refine c_cond_t rfl ?_
  refine c_region ?_
  refine r_val .none rfl (p_move rfl) ?_
  refine r_val .none rfl (p_move rfl) ?_
  refine r_makemap .none rfl kI kI (fun m_1 => ?_)
  refine r_mapup (i := 1) (k := k) (a := (m_1, [])) .none Try.underlying117 (KeyT.int Try.underlying3) rfl rfl rfl rfl ?_
  refine r_nil ?_
  refine e_next ?_
  refine c_region ?_
  refine r_val .none rfl (p_move rfl) ?_
  refine r_val .none rfl (p_move rfl) ?_
  refine r_val .none rfl (p_lookup_yes (i := 1) Try.underlying117 (KeyT.int Try.underlying3) zr36 rfl rfl rfl (by rw [lkp_mput, if_pos rfl])) ?_
  refine r_val .none rfl (p_move rfl) ?_
  refine r_mapup (i := 0) (k := id) (a := (1 : Int)) .none Try.underlying36 (KeyT.int Try.underlying3) rfl rfl rfl rfl ?_
  refine r_nil ?_
  refine e_front (k := 2) rfl ?_
  refine e_front (k := 1) rfl ?_
  refine e_nnew (k := k) hN ?_
  refine e_front (k := 1) rfl ?_
  refine e_end0 Try.results96 (fun w hm => ?_)
  exact ⟨rfl, hm.kept [mapA m kI veN (mput l k (m_1, mput [] id 1)), hoard FN (mput l k (m_1, mput [] id 1))] (.keep (fun _ _ h => retellNew h) (.keep (fun _ _ h => h) (.nil))) (nestA kI m (nput (eraN l) k id)) (fun F' h => ⟨mput l k (m_1, mput [] id 1), nput_new hN, h⟩)⟩
 ·
  refine r_front (k := 1) rfl ?_
  refine r_nfocus hN ?_
  refine r_val .none rfl (p_lookup_yes (i := 2) Try.underlying117 (KeyT.int Try.underlying3) zr36 rfl rfl rfl hN) ?_
  refine r_val .none rfl (p_eq_map Try.underlying36 rfl rfl) ?_
  refine r_say (d := 9) (v := Value.bool false) rfl ?_
  refine r_nil ?_
  refine e_next ?_
  refine c_cond_f rfl ?_
  refine c_skip ?_
  refine e_next ?_
  refine c_region ?_
  refine r_val .none rfl (p_move rfl) ?_
  refine r_val .none rfl (p_move rfl) ?_
  refine r_val .none rfl (p_lookup_yes (i := 2) Try.underlying117 (KeyT.int Try.underlying3) zr36 rfl rfl rfl hN) ?_
  refine r_val .none rfl (p_move rfl) ?_
  refine r_mapup (i := 0) (k := id) (a := (1 : Int)) .none Try.underlying36 (KeyT.int Try.underlying3) rfl rfl rfl rfl ?_
  refine r_nil ?_
  refine e_front (k := 1) rfl ?_
  refine e_front (k := 1) rfl ?_
  refine e_nunfocus hN ?_
  refine e_front (k := 1) rfl ?_
  refine e_end0 Try.results96 (fun w hm => ?_)
  exact ⟨rfl, hm.kept [mapA m kI veN (mput l k (mi, mput hi id 1)), hoard FN (mput l k (mi, mput hi id 1))] (.keep (fun _ _ h => retellN (h' := mput hi id 1) hN h) (.keep (fun _ _ h => h) (.nil))) (nestA kI m (nput (eraN l) k id)) (fun F' h => ⟨mput l k (mi, mput hi id 1), nput_in hN, h⟩)⟩
theorem c_ndropI {F : Nat → Prop} {G : Ghost} (m : Nat) (k : Int) (id : Int) (c : List (Int × List (Int × Int)))  (w : World) (hG : Has G w) (hA : (nestA kI m c).holds w F) (hFG : ∀ b, F b → G b = none) :
  Calls Try.prog 99 #[Value.map (some m), kI k, Value.int .i64 id] w (Ret fun r w' => r = Value.tuple #[] ∧ Kept (nestA kI m (ndrop c k id)) F w w') := by
 refine enterO (args := [_, _, _]) (G := G) (A := nestA kI m c) (l := [(0, Value.map (some m)), (1, kI k), (2, Value.int .i64 id)]) Try.func99 rfl Try.ntmps99 hG hA hFG ⟨rfl, rfl, rfl, trivial⟩ (Nat.le_of_ble_eq_true rfl) ?_
 refine c_unex (fun l => ?_)
 refine c_unand (fun hc => ?_)
 subst hc
 refine c_unpack ?_
 refine c_seq ?_
 refine c_region ?_
 refine r_val .none rfl (p_move rfl) ?_
 refine r_val .none rfl (p_move rfl) ?_
 rcases hN : lkp l k with _ | ⟨mi, hi⟩
 ·
  refine r_val .none rfl (p_lookup_no (i := 0) Try.underlying117 (KeyT.int Try.underlying3) zr36 rfl rfl rfl hN) ?_
  refine r_val .none rfl (p_move rfl) ?_
  refine r_delete_nil .none Try.underlying36 (KeyT.int Try.underlying3) rfl rfl ?_
  refine r_nil ?_
  refine e_next ?_
  refine c_seq ?_
  refine c_region ?_
  refine r_val .none rfl (p_move rfl) ?_
  refine r_val .none rfl (p_move rfl) ?_
  refine r_val .none rfl (p_lookup_no (i := 0) Try.underlying117 (KeyT.int Try.underlying3) zr36 rfl rfl rfl hN) ?_
  refine r_val .none rfl (p_len_nilmap Try.underlying36 rfl) ?_
  refine r_val .none rfl (p_eq rfl rfl) ?_
  refine r_say (d := 14) (v := Value.bool true) rfl ?_
  refine r_nil ?_
  refine e_next ?_
  refine c_cond_t rfl ?_
  refine c_region ?_
  refine r_val .none rfl (p_move rfl) ?_
  refine r_val .none rfl (p_move rfl) ?_
  refine r_delete (i := 0) .none Try.underlying117 (KeyT.int Try.underlying3) rfl rfl rfl rfl ?_
  refine r_nil ?_
  refine e_end0 Try.results99 (fun w hm => ?_)
  exact ⟨rfl, hm.kept [mapA m kI veN (l), hoard FN (l)] (.keep (fun _ _ h => mdel_back hN h) (.keep (fun _ _ h => h) (.nil))) (nestA kI m (ndrop (eraN l) k id)) (fun F' h => ⟨l, ndrop_none hN, h⟩)⟩
 ·
  refine r_front (k := 1) rfl ?_
  refine r_nfocus hN ?_
  refine r_val .none rfl (p_lookup_yes (i := 2) Try.underlying117 (KeyT.int Try.underlying3) zr36 rfl rfl rfl hN) ?_
  refine r_val .none rfl (p_move rfl) ?_
  refine r_delete (i := 0) .none Try.underlying36 (KeyT.int Try.underlying3) rfl rfl rfl rfl ?_
  refine r_nil ?_
  refine e_next ?_
  refine c_seq ?_
  refine c_region ?_
  refine r_val .none rfl (p_move rfl) ?_
  refine r_val .none rfl (p_move rfl) ?_
  refine r_val .none rfl (p_lookup_yes (i := 2) Try.underlying117 (KeyT.int Try.underlying3) zr36 rfl rfl rfl hN) ?_
  refine r_val .none rfl (p_len_map (i := 0) Try.underlying36 rfl rfl) ?_
  refine r_val .none rfl (p_eq rfl rfl) ?_
  refine r_nil ?_
  refine e_next ?_
  refine c_splitd (d := 14) rfl (fun h_1 => ?_) (fun h_1 => ?_)
  ·
   have hD : (mdel hi id).length = 0 := by (have h9 := h_1; omega)
   first
    | (exfalso; omega)
    | (
     refine c_cond_t rfl ?_
     refine c_region ?_
     refine r_val .none rfl (p_move rfl) ?_
     refine r_val .none rfl (p_move rfl) ?_
     refine r_delete (i := 2) .none Try.underlying117 (KeyT.int Try.underlying3) rfl rfl rfl rfl ?_
     refine r_nil ?_
     refine e_front (k := 1) rfl ?_
     refine e_front (k := 2) rfl ?_
     refine e_end0 Try.results99 (fun w hm => ?_)
     exact ⟨rfl, hm.kept [mapA m kI veN (mdel l k), hoard FN (mdel l k)] (.keep (fun _ _ h => h) (.keep (fun _ _ h => h) (.drop (.nil)))) (nestA kI m (ndrop (eraN l) k id)) (fun F' h => ⟨mdel l k, ndrop_last hN hD, h⟩)⟩
     )
  ·
   have hD : ¬ (mdel hi id).length = 0 := by (have h9 := h_1; omega)
   first
    | (exfalso; omega)
    | (
     refine c_cond_f rfl ?_
     refine c_skip ?_
     refine e_front (k := 1) rfl ?_
     refine e_front (k := 1) rfl ?_
     refine e_nunfocus hN ?_
     refine e_front (k := 1) rfl ?_
     refine e_end0 Try.results99 (fun w hm => ?_)
     exact ⟨rfl, hm.kept [mapA m kI veN (mput l k (mi, mdel hi id)), hoard FN (mput l k (mi, mdel hi id))] (.keep (fun _ _ h => retellN (h' := mdel hi id) hN h) (.keep (fun _ _ h => h) (.nil))) (nestA kI m (ndrop (eraN l) k id)) (fun F' h => ⟨mput l k (mi, mdel hi id), ndrop_more hN hD, h⟩)⟩
     )
end Go.Proofs.Ytdcaehepmkhciaa

/-
  DERIVED: THE SHELF's CONTRACTS AT THIS DUMP, IN PLAIN WORDS (tools/lay-plain.mjs out of 'TryShelf6.lean', which tools/lay-shelf.mjs wrote): THE SAME DECLARATIONS UNDER THE SAME NAMES: 'import', 'namespace', 'open', 'def', 'theorem' AND NOTHING ELSE: no command of the shelf's: FOR A HAND-IN. Each laying: the table of numbers ('.._ren') and one theorem, a field a fact of the dump's own or the kernel's comparison; each contract: ONE APPLICATION.
-/
namespace Go.Proofs
open Go.Shelf
def Try.lays128_ren : Go.Shelf.Ren := ⟨fun | 128 => 117 | n => n, fun | 51 => 175 | 3 => 3 | 4 => 4 | 46 => 165 | 5 => 5 | 9 => 9 | n => n, fun | n => n⟩
def Try.lays125_ren : Go.Shelf.Ren := ⟨fun | 125 => 107 | 128 => 117 | 129 => 118 | n => n, fun | 46 => 165 | 3 => 3 | 51 => 175 | 53 => 177 | 4 => 4 | 5 => 5 | 9 => 9 | n => n, fun | n => n⟩
def Try.lays215_ren : Go.Shelf.Ren := ⟨fun | 215 => 124 | n => n, fun | 3 => 3 | 4 => 4 | n => n, fun | n => n⟩
def Try.lays129_ren : Go.Shelf.Ren := ⟨fun | 129 => 118 | n => n, fun | 53 => 177 | 3 => 3 | 4 => 4 | 46 => 165 | 5 => 5 | 9 => 9 | n => n, fun | n => n⟩
def Try.lays189_ren : Go.Shelf.Ren := ⟨fun | 189 => 102 | 125 => 107 | 257 => 106 | 128 => 117 | 129 => 118 | 294 => 108 | 295 => 109 | 296 => 110 | 297 => 111 | 298 => 112 | 299 => 113 | 216 => 114 | 300 => 115 | 301 => 116 | 328 => 119 | 329 => 120 | 330 => 121 | 331 => 122 | 332 => 123 | 215 => 124 | 343 => 125 | n => n, fun | 28 => 42 | 3 => 3 | 46 => 165 | 0 => 0 | 51 => 175 | 53 => 177 | 4 => 4 | 183 => 168 | 182 => 167 | 131 => 46 | 5 => 5 | 9 => 9 | 218 => 178 | 222 => 182 | 228 => 184 | 229 => 87 | n => n, fun | n => n⟩
theorem Try.lays189 : Go.Proofs.Lays.n189 Try.prog Try.lays189_ren := {
  mixed := by kernel_rfl
  f125 := Try.func107.trans (congrArg some (by kernel_rfl))
  f128 := Try.func117.trans (congrArg some (by kernel_rfl))
  f129 := Try.func118.trans (congrArg some (by kernel_rfl))
  f189 := Try.func102.trans (congrArg some (by kernel_rfl))
  f215 := Try.func124.trans (congrArg some (by kernel_rfl))
  f216 := Try.func114.trans (congrArg some (by kernel_rfl))
  f257 := Try.func106.trans (congrArg some (by kernel_rfl))
  f294 := Try.func108.trans (congrArg some (by kernel_rfl))
  f295 := Try.func109.trans (congrArg some (by kernel_rfl))
  f296 := Try.func110.trans (congrArg some (by kernel_rfl))
  f297 := Try.func111.trans (congrArg some (by kernel_rfl))
  f298 := Try.func112.trans (congrArg some (by kernel_rfl))
  f299 := Try.func113.trans (congrArg some (by kernel_rfl))
  f300 := Try.func115.trans (congrArg some (by kernel_rfl))
  f301 := Try.func116.trans (congrArg some (by kernel_rfl))
  f328 := Try.func119.trans (congrArg some (by kernel_rfl))
  f329 := Try.func120.trans (congrArg some (by kernel_rfl))
  f330 := Try.func121.trans (congrArg some (by kernel_rfl))
  f331 := Try.func122.trans (congrArg some (by kernel_rfl))
  f332 := Try.func123.trans (congrArg some (by kernel_rfl))
  f343 := Try.func125.trans (congrArg some (by kernel_rfl))
  t0 := Try.underlying0
  a0 := Try.isAgg0
  z0 := Try.sizeOf0
  v0 := Try.zeroValue0
  t3 := Try.underlying3
  a3 := Try.isAgg3
  z3 := Try.sizeOf3
  v3 := Try.zeroValue3
  t4 := Try.underlying4
  a4 := Try.isAgg4
  z4 := Try.sizeOf4
  v4 := Try.zeroValue4
  t5 := Try.underlying5
  a5 := Try.isAgg5
  z5 := Try.sizeOf5
  v5 := Try.zeroValue5
  t9 := Try.underlying9
  a9 := Try.isAgg9
  z9 := Try.sizeOf9
  v9 := Try.zeroValue9
  t28 := Try.underlying42
  a28 := Try.isAgg42
  z28 := Try.sizeOf42
  v28 := Try.zeroValue42
  t46 := Try.underlying165
  a46 := Try.isAgg165
  z46 := Try.sizeOf165
  v46 := Try.zeroValue165
  t51 := Try.underlying175
  a51 := Try.isAgg175
  z51 := Try.sizeOf175
  v51 := Try.zeroValue175
  t53 := Try.underlying177
  a53 := Try.isAgg177
  z53 := Try.sizeOf177
  v53 := Try.zeroValue177
  t131 := Try.underlying46
  a131 := Try.isAgg46
  z131 := Try.sizeOf46
  v131 := Try.zeroValue46
  t182 := Try.underlying167
  a182 := Try.isAgg167
  z182 := Try.sizeOf167
  v182 := Try.zeroValue167
  t183 := Try.underlying168
  a183 := Try.isAgg168
  z183 := Try.sizeOf168
  v183 := Try.zeroValue168
  t218 := Try.underlying178
  a218 := Try.isAgg178
  z218 := Try.sizeOf178
  v218 := Try.zeroValue178
  t222 := Try.underlying182
  a222 := Try.isAgg182
  z222 := Try.sizeOf182
  v222 := Try.zeroValue182
  t228 := Try.underlying184
  a228 := Try.isAgg184
  z228 := Try.sizeOf184
  v228 := Try.zeroValue184
  t229 := Try.underlying87
  a229 := Try.isAgg87
  z229 := Try.sizeOf87
  v229 := Try.zeroValue87 }
open Go.Sort Go.RowKit in
theorem Try.slices_Sort_int (blk off cap : Nat) (zs : List Int) (w : World) (hH : Holds (Value.int .i64) w blk off zs.toArray) (hblk : blk < w.heap.size) (hsz : zs.length < 4611686018427387904) :
    Calls Try.prog 102 #[.slice (some ⟨blk, off, none⟩) zs.length cap] w fun e w' =>
      e = .returned (.tuple #[]) ∧ ∃ n os, w' = grow (putRow (Value.int .i64) (Sort.ahead w n) blk off (zs.mergeSort fun x y => decide (x ≤ y)).toArray) os := Any.slices_Sort_int Try.lays189 blk off cap zs w hH hblk hsz
def Try.lays112_ren : Go.Shelf.Ren := ⟨fun | 112 => 85 | n => n, fun | 28 => 42 | 3 => 3 | 4 => 4 | 0 => 0 | n => n, fun | n => n⟩
theorem Try.lays112 : Go.Proofs.Lays.n112 Try.prog Try.lays112_ren := {
  mixed := by kernel_rfl
  f112 := Try.func85.trans (congrArg some (by kernel_rfl))
  t0 := Try.underlying0
  a0 := Try.isAgg0
  z0 := Try.sizeOf0
  v0 := Try.zeroValue0
  t3 := Try.underlying3
  a3 := Try.isAgg3
  z3 := Try.sizeOf3
  v3 := Try.zeroValue3
  t4 := Try.underlying4
  a4 := Try.isAgg4
  z4 := Try.sizeOf4
  v4 := Try.zeroValue4
  t28 := Try.underlying42
  a28 := Try.isAgg42
  z28 := Try.sizeOf42
  v28 := Try.zeroValue42 }
open Go.RowKit Go.Lib Go.Sort in
/-- slices.Reverse at []int: "Reverse reverses the elements of the slice in place.": THE SLICE's CELLS HOLD 'zs.reverse' BEHIND THE CALL; all else is as it was, but for the count of draws (the exchange 's[i], s[j] = s[j], s[i]' draws its order, once a round). IN THE WORDS OF slices.Sort's CONTRACT: 'Holds': the cells hold zs and none is frozen; 'putRow': the world with those cells holding another array. A slice of length 0 that is not nil is among them ('zs = []'); nil: '.._nil'. (LAID: no walk: one application.) -/
theorem Try.slices_Reverse_int (blk off cap : Nat) (zs : List Int) (w : World) (hH : Holds (Value.int .i64) w blk off zs.toArray) (hsz : zs.length ≤ 9223372036854775807) :
    Calls Try.prog 85 #[.slice (some ⟨blk, off, none⟩) zs.length cap] w fun e w' => e = .returned (.tuple #[]) ∧ ∃ n, w' = putRow (Value.int .i64) (Sort.ahead w n) blk off zs.reverse.toArray := Any.slices_Reverse_int Try.lays112 blk off cap zs w hH hsz
open Go.RowKit Go.Lib Go.Sort in
/-- The same at a slice of length 0, a nil one too: nothing is read, nothing written, nothing drawn. (LAID: no walk: one application.) -/
theorem Try.slices_Reverse_int_empty (a : Option Addr) (cap : Nat) (w : World) :
    Calls Try.prog 85 #[.slice a 0 cap] w fun e w' => e = .returned (.tuple #[]) ∧ w' = w := Any.slices_Reverse_int_empty Try.lays112 a cap w
def Try.laysNm215_ren : Go.Shelf.Ren := ⟨fun | 15 => 68 | n => n, fun | 22 => 42 | 3 => 3 | 4 => 4 | n => n, fun | n => n⟩
def Try.laysNm237_ren : Go.Shelf.Ren := ⟨fun | 37 => 124 | n => n, fun | 3 => 3 | 4 => 4 | n => n, fun | n => n⟩
def Try.laysNm231_ren : Go.Shelf.Ren := ⟨fun | 31 => 114 | 37 => 124 | n => n, fun | 3 => 3 | 4 => 4 | n => n, fun | n => n⟩
open Go.RowKit Go.Sort in
/-- .. and plain. (LAID: no walk: one application.) -/
theorem Try.slices_Sort_int_none (p : Option Addr) (cap : Nat) (w : World) :
    Calls Try.prog 102 #[.slice p 0 cap] w fun e w' => e = .returned (.tuple #[]) ∧ w' = w := Any.slices_Sort_int_none Try.lays189 p cap w
def Try.laysSlE041_f68_ren : Go.Shelf.Ren := ⟨fun | 41 => 68 | n => n, fun | 22 => 42 | 23 => 3 | 4 => 4 | n => n, fun | n => n⟩
def Try.keysI_ren : Go.Shelf.Ren := ⟨fun | 7 => 74 | 10 => 103 | n => n, fun | 23 => 36 | 26 => 3 | 3 => 3 | 28 => 143 | 0 => 0 | 27 => 142 | 33 => 106 | 4 => 4 | n => n, fun | n => n⟩
theorem Try.keysI : Go.Proofs.SlLaysZI.n7 Try.prog Try.keysI_ren := {
  mixed := by kernel_rfl
  f7 := ⟨Try.f74.name, by decide, Try.func74.trans (congrArg some (by kernel_rfl))⟩
  f10 := ⟨Try.f103.name, by decide, Try.func103.trans (congrArg some (by kernel_rfl))⟩
  t0 := Try.underlying0
  a0 := Try.isAgg0
  z0 := Try.sizeOf0
  v0 := Try.zeroValue0
  t4 := Try.underlying4
  a4 := Try.isAgg4
  z4 := Try.sizeOf4
  v4 := Try.zeroValue4
  t23 := Try.underlying36
  a23 := Try.isAgg36
  z23 := Try.sizeOf36
  v23 := Try.zeroValue36
  t26 := Try.underlying3
  a26 := Try.isAgg3
  z26 := Try.sizeOf3
  v26 := Try.zeroValue3
  t27 := Try.underlying142
  a27 := Try.isAgg142
  z27 := Try.sizeOf142
  v27 := Try.zeroValue142
  t28 := Try.underlying143
  a28 := Try.isAgg143
  z28 := Try.sizeOf143
  v28 := Try.zeroValue143
  t33 := Try.underlying106
  a33 := Try.isAgg106
  z33 := Try.sizeOf106
  v33 := Try.zeroValue106 }
def Try.sortedI_ren : Go.Shelf.Ren := ⟨fun | 6 => 73 | 8 => 101 | 9 => 102 | 11 => 105 | 13 => 107 | 12 => 106 | 23 => 117 | 24 => 118 | 14 => 108 | 15 => 109 | 16 => 110 | 17 => 111 | 18 => 112 | 19 => 113 | 20 => 114 | 21 => 115 | 22 => 116 | 25 => 119 | 26 => 120 | 27 => 121 | 28 => 122 | 29 => 123 | 30 => 124 | 31 => 125 | n => n, fun | 26 => 3 | 28 => 143 | 24 => 42 | 0 => 0 | 3 => 3 | 37 => 165 | 48 => 175 | 50 => 177 | 4 => 4 | 40 => 168 | 39 => 167 | 45 => 46 | 5 => 5 | 9 => 9 | 51 => 178 | 55 => 182 | 57 => 184 | 58 => 87 | 33 => 106 | n => n, fun | n => n⟩
theorem Try.sortedI : Go.Proofs.SlLaysZI.n6 Try.prog Try.sortedI_ren := {
  mixed := by kernel_rfl
  f6 := ⟨Try.f73.name, by decide, Try.func73.trans (congrArg some (by kernel_rfl))⟩
  f8 := ⟨Try.f101.name, by decide, Try.func101.trans (congrArg some (by kernel_rfl))⟩
  f11 := ⟨Try.f105.name, by decide, Try.func105.trans (congrArg some (by kernel_rfl))⟩
  t0 := Try.underlying0
  a0 := Try.isAgg0
  z0 := Try.sizeOf0
  v0 := Try.zeroValue0
  t24 := Try.underlying42
  a24 := Try.isAgg42
  z24 := Try.sizeOf42
  v24 := Try.zeroValue42
  t26 := Try.underlying3
  a26 := Try.isAgg3
  z26 := Try.sizeOf3
  v26 := Try.zeroValue3
  t28 := Try.underlying143
  a28 := Try.isAgg143
  z28 := Try.sizeOf143
  v28 := Try.zeroValue143
  i26 := by kernel_rfl }
end Go.Proofs

/-
  Chapter 03, the plain side: terms, bindings as functions on numbers.
-/
namespace Go.Gx.T3

def cl (n : Int) : Nat := (min (max n 0) 32).toNat
def vi (b : Bool) : Int := if b then 1 else 0
def termRight (b : Bool) (n : Int) : Bool := decide (1 ≤ n ∧ n ≤ if b then 32 else 4096)
def tripleRight (a b c : Int) : Bool := decide ((1 ≤ a ∧ a ≤ 4096) ∧ (1 ≤ b ∧ b ≤ 4096) ∧ 1 ≤ c ∧ c ≤ 4096)
def updI (B : Nat → Int) (k : Nat) (t : Int) : Nat → Int := fun i => if i = k then t else B i
def heldTo (B : Nat → Int) (k : Nat) : Nat → Int := fun i => if i < k then min (max (B i) 0) 4096 else B i
def heldB (B : Nat → Int) : Nat → Int := fun i => if i = 0 then 0 else min (max (B i) 0) 4096
def fit1 (v : Bool) (n t : Int) (B : Nat → Int) : Option (Nat → Int) :=
  if v = true then (if B (cl n) = 0 then some (updI B (cl n) t) else if B (cl n) = t then some B else none) else if n = t then some B else none

def fitTo (v0 : Bool) (n0 : Int) (v1 : Bool) (n1 : Int) (v2 : Bool) (n2 : Int) (t0 t1 t2 : Int) (B : Nat → Int) : Nat → Option (Nat → Int)
  | 0 => some B
  | 1 => fit1 v0 n0 t0 B
  | 2 => (fit1 v0 n0 t0 B).bind (fit1 v1 n1 t1)
  | _ => ((fit1 v0 n0 t0 B).bind (fit1 v1 n1 t1)).bind (fit1 v2 n2 t2)

def fit (v0 : Bool) (n0 : Int) (v1 : Bool) (n1 : Int) (v2 : Bool) (n2 : Int) (t0 t1 t2 : Int) (B : Nat → Int) : Option (Nat → Int) :=
  ((fit1 v0 n0 t0 B).bind (fit1 v1 n1 t1)).bind (fit1 v2 n2 t2)

section
variable {v0 : Bool} {n0 : Int} {v1 : Bool} {n1 : Int} {v2 : Bool} {n2 t0 t1 t2 : Int} {B Bk : Nat → Int}
end

def fine (v0 : Bool) (n0 : Int) (v1 : Bool) (n1 : Int) (v2 : Bool) (n2 : Int) : Bool := termRight v0 n0 && (termRight v1 n1 && termRight v2 n2)

def owns (v : Bool) (n : Int) (k : Nat) : Bool := v && decide (n = (k : Int))
def ownTo (v0 : Bool) (n0 : Int) (v1 : Bool) (n1 : Int) (v2 : Bool) (n2 : Int) (k : Nat) : Nat → Bool
  | 0 => false
  | 1 => owns v0 n0 k
  | 2 => owns v0 n0 k || owns v1 n1 k
  | _ => owns v0 n0 k || owns v1 n1 k || owns v2 n2 k

section
variable (v0 : Bool) (n0 : Int) (v1 : Bool) (n1 : Int) (v2 : Bool) (n2 : Int) (k : Nat)
end

end Go.Gx.T3

/- Plain laws of conditions: trees; what is wrong with one; no program in sight. -/
namespace Go.Gx.T4
open Go.Gx Go.Gx.T3

/-- A condition but for what stands below it. -/
structure Hd where
  k : Int
  v0 : Bool
  n0 : Int
  v1 : Bool
  n1 : Int
  v2 : Bool
  n2 : Int
inductive CT where
  | mk (h : Hd) (subs : List CT)
namespace CT
def h : CT → Hd | .mk h _ => h
def subs : CT → List CT | .mk _ l => l
end CT
abbrev h0 : Hd := ⟨0, false, 0, false, 0, false, 0⟩
abbrev d0 : CT × Value := (.mk h0 [], .slice none 0 0)
/-- The cells of a condition: the program's own, and the document's. -/
def cvC (p : CT × Value) : List Value := [.int .i64 p.1.h.k, .bool p.1.h.v0, .int .i64 p.1.h.n0, .bool p.1.h.v1, .int .i64 p.1.h.n1, .bool p.1.h.v2, .int .i64 p.1.h.n2, p.2]
def rvC (p : CT × Value) : List Value := [.int .i64 p.1.h.k, .int .i64 (vi p.1.h.v0), .int .i64 p.1.h.n0, .int .i64 (vi p.1.h.v1), .int .i64 p.1.h.n1, .int .i64 (vi p.1.h.v2), .int .i64 p.1.h.n2, p.2]
abbrev Cs (G : Ghost) (v : Value) (l : List CT) : Prop := Tr CT.subs cvC 8 d0 G v l
abbrev Rs (G : Ghost) (v : Value) (l : List CT) : Prop := Tr CT.subs rvC 8 d0 G v l

/-! ### what is wrong -/
def headOk (h : Hd) : Bool := termRight h.v0 h.n0 && (termRight h.v1 h.n1 && termRight h.v2 h.n2)
def headNone (h : Hd) : Bool := !h.v0 && decide (h.n0 = 0) && (!h.v1 && decide (h.n1 = 0)) && (!h.v2 && decide (h.n2 = 0))
mutual
def check : CT → Int → Int
  | .mk h l, d => if 3 < max d 1 then 5 else if h.k = 3 then (if headNone h = false then 4 else if l.length = 0 then 2 else checkL l (max d 1 + 1)) else if h.k ≠ 1 ∧ h.k ≠ 2 then 3 else if headOk h = false ∨ 0 < l.length then 4 else 0
def checkL : List CT → Int → Int
  | [], _ => 0
  | c :: t, d => if check c d = 0 then checkL t d else check c d
end
mutual
theorem check_up : ∀ (c : CT) (d : Int), 1 ≤ d → check c (d + 1) = 0 → check c d = 0
  | .mk h l, d, hd, hc => by
    have h1 : max d 1 = d := by omega
    have h2 : max (d + 1) 1 = d + 1 := by omega
    rw [check, h1]
    rw [check, h2] at hc
    by_cases c1 : 3 < d + 1
    · rw [if_pos c1] at hc; omega
    rw [if_neg c1] at hc
    rw [if_neg (by omega)]
    by_cases c2 : h.k = 3
    · rw [if_pos c2] at hc ⊢
      by_cases c3 : headNone h = false
      · rw [if_pos c3] at hc; omega
      rw [if_neg c3] at hc ⊢
      by_cases c4 : l.length = 0
      · rw [if_pos c4] at hc; omega
      rw [if_neg c4] at hc ⊢
      exact checkL_up l (d + 1) (by omega) hc
    · rw [if_neg c2] at hc ⊢; exact hc
theorem checkL_up : ∀ (l : List CT) (d : Int), 1 ≤ d → checkL l (d + 1) = 0 → checkL l d = 0
  | [], _, _, _ => by rw [checkL]
  | c :: t, d, hd, hc => by
    rw [checkL] at hc ⊢
    by_cases c1 : check c (d + 1) = 0
    · rw [if_pos c1] at hc
      rw [if_pos (check_up c d hd c1)]
      exact checkL_up t d hd hc
    · rw [if_neg c1] at hc; exact absurd hc c1
end
/-- Whether it was right at the depth ahead. -/
def rgt (c : CT) (s : Nat) : Bool := decide (s = 1 ∨ check c ((s : Int) - 1) = 0)
/-! ### how many there are, and how deep -/
mutual
def size : CT → Nat
  | .mk _ l => 1 + sizeL l
def sizeL : List CT → Nat
  | [] => 0
  | c :: t => size c + sizeL t
end
section
variable (m : Int)
mutual
def small : CT → Int → Int → Bool × Int
  | .mk _ l, deep, n => if m < n + 1 ∨ deep < 0 then (false, n + 1) else smallL l (deep - 1) (n + 1)
def smallL : List CT → Int → Int → Bool × Int
  | [], _, n => (true, n)
  | c :: t, deep, n => if (small c deep n).1 = true then smallL t deep (small c deep n).2 else (false, (small c deep n).2)
end
end
mutual
theorem small_lt (m : Int) : ∀ (c : CT) (deep n : Int), 0 ≤ n → n ≤ m → n ≤ (small m c deep n).2 ∧ (small m c deep n).2 ≤ m + 1 ∧ ((small m c deep n).1 = true → (small m c deep n).2 ≤ m)
  | .mk h l, deep, n, h0, h1 => by
    rw [small]
    split
    · exact ⟨by omega, by omega, fun h => by cases h⟩
    · have := smallL_lt m l (deep - 1) (n + 1) (by omega) (by omega)
      exact ⟨by omega, this.2.1, this.2.2⟩
theorem smallL_lt (m : Int) : ∀ (l : List CT) (deep n : Int), 0 ≤ n → n ≤ m → n ≤ (smallL m l deep n).2 ∧ (smallL m l deep n).2 ≤ m + 1 ∧ ((smallL m l deep n).1 = true → (smallL m l deep n).2 ≤ m)
  | [], _, n, h0, h1 => by
    rw [smallL]; exact ⟨Int.le_refl _, by simp; omega, fun _ => h1⟩
  | c :: t, deep, n, h0, h1 => by
    have hc := small_lt m c deep n h0 h1
    rw [smallL]
    split
    · rename_i hy
      have := smallL_lt m t deep (small m c deep n).2 (by omega) (hc.2.2 hy)
      exact ⟨by omega, this.2.1, this.2.2⟩
    · exact ⟨hc.1, hc.2.1, fun h => by cases h⟩
end

abbrev cA : CT := .mk ⟨1, false, 1, false, 1, true, 1⟩ []
abbrev cB (c : CT) : CT := .mk ⟨3, false, 0, false, 0, false, 0⟩ [c]
mutual
theorem small_size (m : Int) : ∀ (c : CT) (deep n : Int), (small m c deep n).1 = true → (small m c deep n).2 = n + size c
  | .mk h l, deep, n, hs => by
    rw [small] at hs ⊢
    split at hs
    · cases hs
    · rename_i hc
      rw [if_neg hc, smallL_size m l (deep - 1) (n + 1) hs, size]
      omega
theorem smallL_size (m : Int) : ∀ (l : List CT) (deep n : Int), (smallL m l deep n).1 = true → (smallL m l deep n).2 = n + sizeL l
  | [], _, n, _ => by rw [smallL, sizeL]; simp
  | c :: t, deep, n, hs => by
    rw [smallL] at hs ⊢
    split at hs
    · rename_i hc
      rw [if_pos hc, smallL_size m t deep _ hs, small_size m c deep n hc, sizeL]
      omega
    · cases hs
end
theorem starL_one {A : Asrt} {w : World} {F : Nat → Prop} (h : (starL [A]).holds w F) : A.holds w F := by
  obtain ⟨F1, F2, h1, h2, _, h4⟩ := h
  have e : F = F1 := by
    funext b
    refine propext ((h4 b).trans ⟨fun h => ?_, .inl⟩)
    rcases h with h | h
    · exact h
    · exact (h2.2 b h).elim
  rw [e]; exact h1
/-- A number in a cell. -/
abbrev cntA (T p : Nat) (n : Int) : Asrt := box p 1 T (at_ [.int .i64 n])
end Go.Gx.T4

/- Plain laws of steps: trees with tests; what conditions are compiled to; no program in sight. -/
namespace Go.Gx.T8
open Go.Gx Go.Gx.T3 Go.Gx.T4

abbrev TD := Int × Int × Int
def tC (t : TD) : List Value := [.int .i64 t.1, .int .i64 t.2.1, .int .i64 t.2.2]
abbrev t0 : TD := (0, 0, 0)
/-- A step but for what stands below it. -/
structure SH where
  k : Int
  k0 : Int
  k1 : Int
  k2 : Int
  ts : List TD
inductive ST where
  | mk (h : SH) (subs : List ST)
def ST.h : ST → SH | .mk h _ => h
def ST.subs : ST → List ST | .mk _ l => l
abbrev SVal := ST × Value × Value
abbrev s0 : SVal := (.mk ⟨0, 0, 0, 0, []⟩ [], .slice none 0 0, .slice none 0 0)
def sC (p : SVal) : List Value := [.int .i64 p.1.h.k, .int .i64 p.1.h.k0, .int .i64 p.1.h.k1, .int .i64 p.1.h.k2, p.2.1, p.2.2]
/-- The value v is a slice of steps. -/
inductive Ss (G : Ghost) : Value → List ST → Prop
  | mk {v : Value} (rs : List SVal) (h : SlL G v 6 sC s0 rs) (ht : ∀ p ∈ rs, SlL G p.2.1 3 tC t0 p.1.h.ts) (hs : ∀ p ∈ rs, Ss G p.2.2 p.1.subs) : Ss G v (rs.map Prod.fst)
theorem Ss.inv {G : Ghost} {v : Value} {l : List ST} (h : Ss G v l) : ∃ rs : List SVal, SlL G v 6 sC s0 rs ∧ (∀ p ∈ rs, SlL G p.2.1 3 tC t0 p.1.h.ts) ∧ (∀ p ∈ rs, Ss G p.2.2 p.1.subs) ∧ l = rs.map Prod.fst := by
  cases h with
  | mk rs h ht hs => exact ⟨rs, h, ht, hs, rfl⟩
theorem Ss.mono {G G' : Ghost} {v : Value} {l : List ST} (h : Ss G v l) (hle : GLe G G') : Ss G' v l := by
  induction h with
  | mk rs h ht _ ih => exact .mk rs (h.mono hle) (fun p hp => (ht p hp).mono hle) ih
theorem Ss.one {G : Ghost} {v : Value} {l : List ST} (h : Ss G v l) : v.oneCell' = true := by
  cases h with
  | mk rs h _ _ => exact h.one
theorem Ss.nil {G : Ghost} : Ss G (.slice none 0 0) [] := Ss.mk [] (SlG.nil _ _ _) (by simp) (by simp)

/-- A part of a slice of trees, from its beginning on. -/
theorem Tr.take {α : Type} {subs : α → List α} {cf : α × Value → List Value} {sz k : Nat} {d : α × Value} {G : Ghost} {v : Value} {rs : List (α × Value)} (hk : k ≤ rs.length) (h : SlG G v k sz (fun i => at_ (cf (rs.getD i d)))) (hs : ∀ p ∈ rs, Tr subs cf sz d G p.2 (subs p.1)) : SlL G v sz cf d (rs.take k) ∧ Tr subs cf sz d G v ((rs.take k).map Prod.fst) := by
  have h1 : SlL G v sz cf d (rs.take k) := by
    unfold SlL
    rw [List.length_take, Nat.min_eq_left hk]
    refine h.congr fun i hi j _ => ?_
    simp [List.getD, List.getElem?_take, hi]
  exact ⟨h1, Tr.mk _ h1 fun p hp => hs p (List.mem_of_mem_take hp)⟩

/-! ### where a variable is bound -/
def firstF (h : Hd) (v : Int) : Option Int :=
  if h.v0 = true ∧ h.n0 = v then some 0 else if h.v1 = true ∧ h.n1 = v then some 1 else if h.v2 = true ∧ h.n2 = v then some 2 else none
def bound (v : Int) : List CT → Int → Option (Int × Int)
  | [], _ => none
  | c :: t, b => if c.h.k = 1 then (match firstF c.h v with | some f => some (b, f) | none => bound v t (b + 1)) else bound v t b
/-! ### steps -/
def vF (h : Hd) : Nat → Bool | 0 => h.v0 | 1 => h.v1 | _ => h.v2
def nF (h : Hd) : Nat → Int | 0 => h.n0 | 1 => h.n1 | _ => h.n2
/-- Is term g what term f is? -/
def sameF (h : Hd) (g f : Nat) : Bool := decide (vF h g = vF h f) && decide (nF h g = nF h f)
/-- The first term ahead of term f, from g on, that is alike. -/
def dupF (h : Hd) (f : Nat) : Option Int := if f ≥ 1 ∧ sameF h 0 f = true then some 0 else if f ≥ 2 ∧ sameF h 1 f = true then some 1 else none
/-- The test of field f. -/
def testF (ch : List CT) (h : Hd) (f : Nat) : List TD :=
  if vF h f = true then (match bound (nF h f) ch 0 with
    | some x => [((f : Int), x.1, x.2)]
    | none => match dupF h f with | some g => [((f : Int), -1, g)] | none => []) else []
def testsTo (ch : List CT) (h : Hd) : Nat → List TD
  | 0 => []
  | f + 1 => testsTo ch h f ++ testF ch h f
def keyTo (h : Hd) (f i : Nat) : Int := if i < f ∧ vF h i = false then nF h i else 0
mutual
def stepOf : List CT → CT → ST
  | ch, .mk h l => if h.k = 3 then .mk ⟨h.k, 0, 0, 0, []⟩ (stepsOf ch l) else .mk ⟨h.k, keyTo h 3 0, keyTo h 3 1, keyTo h 3 2, testsTo ch h 3⟩ []
def stepsOf : List CT → List CT → List ST
  | _, [] => []
  | ch, c :: t => stepOf ch c :: stepsOf (ch ++ [c]) t
end
theorem testsTo_len (ch : List CT) (h : Hd) : ∀ f, (testsTo ch h f).length ≤ f
  | 0 => Nat.le_refl _
  | f + 1 => by
    have := testsTo_len ch h f
    have h2 : (testF ch h f).length ≤ 1 := by
      unfold testF; repeat' split
      all_goals simp
    rw [testsTo, List.length_append]; omega
theorem T3 {ch : List CT} {h : Hd} {f : Nat} {g : Int} (hv : vF h f = true) (hb : (bound (nF h f) ch 0).isSome = false) (hd : dupF h f = some g) : testF ch h f = [((f : Int), -1, g)] := by
  unfold testF
  have hn : bound (nF h f) ch 0 = none := by
    cases e : bound (nF h f) ch 0 with
    | none => rfl
    | some x => rw [e] at hb; cases hb
  rw [if_pos hv, hn, hd]
theorem T4 {ch : List CT} {h : Hd} {f : Nat} (hv : vF h f = true) (hb : (bound (nF h f) ch 0).isSome = false) (hd : dupF h f = none) : testF ch h f = [] := by
  unfold testF
  have hn : bound (nF h f) ch 0 = none := by
    cases e : bound (nF h f) ch 0 with
    | none => rfl
    | some x => rw [e] at hb; cases hb
  rw [if_pos hv, hn, hd]
/-! ### right conditions, and few -/
def fineL (l : List CT) : Bool := (small 18 (.mk h0 l) 5 0).1 && ((l.all fun c => decide (check c 1 = 0)) && decide (sizeL l ≤ 16))
end Go.Gx.T8
namespace Go.Gx.T8
open Go.Gx Go.Gx.T3 Go.Gx.T4
theorem Ss.len {G : Ghost} {v : Value} {l : List ST} (h : Ss G v l) : ∃ a cap, v = .slice a l.length cap := by
  cases h with
  | mk rs h _ _ => obtain ⟨a, c, e⟩ := SlG.len h; exact ⟨a, c, by simpa using e⟩
mutual
/-- How many steps and tests there are. -/
def ssz : ST → Nat
  | .mk h l => 1 + h.ts.length + sszL l
def sszL : List ST → Nat
  | [] => 0
  | s :: t => ssz s + sszL t
end
mutual
theorem ssz_of : ∀ (c : CT) (ch : List CT), ssz (stepOf ch c) ≤ 4 * size c
  | .mk h l, ch => by
    rw [stepOf, size]
    split
    · have := sszL_of l ch
      rw [ssz]; simp; omega
    · have := testsTo_len ch h 3
      rw [ssz, sszL]; simp; omega
theorem sszL_of : ∀ (l : List CT) (ch : List CT), sszL (stepsOf ch l) ≤ 4 * sizeL l
  | [], _ => by simp [stepsOf, sszL]
  | c :: t, ch => by
    have h1 := ssz_of c ch
    have h2 := sszL_of t (ch ++ [c])
    rw [stepsOf, sszL, sizeL]; omega
end
end Go.Gx.T8

/- Plain laws of chains of conditions; no program in sight. -/
namespace Go.Gx
theorem RowAt.congr {G : Ghost} {b o n : Nat} {f g : Nat → Value} (h : RowAt G b o n f) (e : ∀ i, i < n → f i = g i) : RowAt G b o n g := by
  obtain ⟨c, T, fr, h1, h2⟩ := h
  exact ⟨c, T, fr, h1, fun j hj => by rw [h2 j hj, e j hj]⟩
end Go.Gx
namespace Go.Gx.T6
open Go.Gx Go.Gx.T3 Go.Gx.T4 Go.Gx.T8

theorem nil_rs {α : Type} {G : Ghost} {n c : Nat} {sz : Nat} {cells : α → List Value} {e : α} {rs : List α} (h : SlL G (.slice none n c) sz cells e rs) : rs = [] := by
  obtain ⟨a, cap, e1, _, h2⟩ := h
  simp only [Value.slice.injEq] at e1
  obtain ⟨rfl, _⟩ := e1
  rcases rs with _ | ⟨x, t⟩
  · rfl
  · obtain ⟨_, _, e3, _⟩ := h2 (by simp)
    cases e3

mutual
/-- The chains of what stands in a condition, and its own. -/
def chain1 : List CT → CT → List (List CT)
  | ah, .mk h l => (if h.k = 3 then chains ah l else []) ++ [ah ++ [.mk h l]]
/-- The chains of conditions behind a beginning. -/
def chains : List CT → List CT → List (List CT)
  | _, [] => []
  | ah, c :: t => chain1 ah c ++ chains (ah ++ [c]) t
end
mutual
theorem chain1_len : ∀ (c : CT) (ah : List CT), (chain1 ah c).length ≤ size c
  | .mk h l, ah => by
    have := chains_len l ah
    rw [chain1, size]
    split <;> simp <;> omega
theorem chains_len : ∀ (l : List CT) (ah : List CT), (chains ah l).length ≤ sizeL l
  | [], _ => by simp [chains, sizeL]
  | c :: t, ah => by
    have h1 := chain1_len c ah
    have h2 := chains_len t (ah ++ [c])
    rw [chains, sizeL, List.length_append]; omega
end
/-- What is known of the chains that were found: each is a slice of conditions. -/
abbrev ChC (G : Ghost) (z : List (List CT × Value)) : Prop := ∀ q ∈ z, Cs G q.2 q.1
theorem ChC.mono {G G' : Ghost} {z : List (List CT × Value)} (h : ChC G z) (hle : GLe G G') : ChC G' z := fun q hq => (h q hq).mono hle
/-! ### alike -/
def hEq (a b : Hd) : Bool := decide (a.k = b.k) && csEq [.bool a.v0, .int .i64 a.n0, .bool a.v1, .int .i64 a.n1, .bool a.v2, .int .i64 a.n2] [.bool b.v0, .int .i64 b.n0, .bool b.v1, .int .i64 b.n1, .bool b.v2, .int .i64 b.n2]
def hRb (a b : Hd) : Bool := csEq [.int .i64 (vi a.v0), .int .i64 a.n0, .int .i64 (vi a.v1), .int .i64 a.n1, .int .i64 (vi a.v2), .int .i64 a.n2] [.int .i64 (vi b.v0), .int .i64 b.n0, .int .i64 (vi b.v1), .int .i64 b.n1, .int .i64 (vi b.v2), .int .i64 b.n2]
theorem hEq_iff (a b : Hd) : hEq a b = true ↔ a = b := by
  obtain ⟨a0, a1, a2, a3, a4, a5, a6⟩ := a
  obtain ⟨b0, b1, b2, b3, b4, b5, b6⟩ := b
  simp [hEq, csEq, cEq]
mutual
def ceq : CT → CT → Bool
  | .mk h l, .mk h' l' => hEq h h' && ceqL l l'
def ceqL : List CT → List CT → Bool
  | [], [] => true
  | c :: t, c' :: t' => ceq c c' && ceqL t t'
  | _, _ => false
end
mutual
theorem ceq_iff : ∀ (a b : CT), ceq a b = true ↔ a = b
  | .mk h l, .mk h' l' => by
    rw [ceq, Bool.and_eq_true, hEq_iff, ceqL_iff l l']
    simp
theorem ceqL_iff : ∀ (l l' : List CT), ceqL l l' = true ↔ l = l'
  | [], [] => by simp [ceqL]
  | [], _ :: _ => by simp [ceqL]
  | _ :: _, [] => by simp [ceqL]
  | c :: t, c' :: t' => by
    rw [ceqL, Bool.and_eq_true, ceq_iff c c', ceqL_iff t t']
    simp
end
/-- The chains that conditions end themselves. -/
def ownC (l : List CT) : List Int := (List.range l.length).map fun i => (sizeL (l.take (i + 1)) : Int) - 1
def ownCTo (l : List CT) (k : Nat) : List Int := (List.range k).map fun i => (sizeL (l.take (i + 1)) : Int) - 1
abbrev RhC (G : Ghost) (z : List (List CT × Value)) : Prop := ∀ q ∈ z, Rs G q.2 q.1
theorem RhC.mono {G G' : Ghost} {z : List (List CT × Value)} (h : RhC G z) (hle : GLe G G') : RhC G' z := fun q hq => (h q hq).mono hle
end Go.Gx.T6

/- Walks: what Go functions of this chapter come to, each as a function on plain data; no condition but those that each theorem names. Printed by a program of this work (gen.py). -/
namespace Go.Proofs.Ytdcaehepmkhciaa
open Go.Gx Go.Gx Go.Gx.T10 Go.Gx.T12 Go.Gx.T10 Go.Gx.T11 Go.Gx.T15 Go.Gx.T12 Go.Gx.T6 Go.Gx.T4
theorem sz9 : SzIs Try.prog 9 1 := by
 unfold SzIs
 kernel_rfl
theorem sz42 : SzIs Try.prog 42 1 := by
 unfold SzIs
 kernel_rfl
theorem sz115 : SzIs Try.prog 115 1 := by
 unfold SzIs
 kernel_rfl
theorem zr120 : ZeroIs Try.prog 120 (Value.pointer none) := by
 unfold ZeroIs
 kernel_rfl
theorem cl68 : Callable Try.prog 68 := callable Try.func68 (by kernel_rfl) rfl
theorem cl85 : Callable Try.prog 85 := callable Try.func85 (by kernel_rfl) rfl
theorem bs3_10i2 (a0 : IntKind) (a1 : Int) : Instr.fill (fun i => some (i * 1, 1)) ((Array.range (1 * 1)).map ((Value.int .i64 0).cells[· % (Value.int .i64 0).cells.size]!)) [(0, Value.int a0 a1)] = some #[Value.int a0 a1] := by
 kernel_rfl
theorem revI : Rev1C Try.prog 85 kI := fun blk cap zs w hH hsz => Try.slices_Reverse_int blk 0 cap zs w hH hsz
theorem revI0 : Rev1N Try.prog 85 := fun p cap w => Try.slices_Reverse_int_empty p cap w
theorem c_cloneI_a (a : Option Addr) (cap : Nat) (rs : List (Int)) {G : Ghost} (hr : SlL G (Value.slice a rs.length cap) 1 cI (0 : Int) rs) (hlen : rs.length ≤ 1000) (w : World) (hG : Has G w) :
  Calls Try.prog 68 #[Value.slice a rs.length cap] w (Ret fun r w' => Since nX w w' ∧ ∃ F', (rowA r 3 1 (rs).length ((rs).flatMap cI)).holds w' F' ∧ ∀ b, F' b → w.heap.size ≤ b) := by
 refine enter (args := [_]) (X := nX) (G := G) (l := [(0, Value.slice a rs.length cap)]) Try.func68 rfl Try.ntmps68 hG ⟨rfl, trivial⟩ (Nat.le_of_ble_eq_true rfl) ?_
 refine c_seq ?_
 refine c_region ?_
 refine r_val .none rfl (p_assign rfl) ?_
 refine r_nil ?_
 refine e_next ?_
 refine c_seq ?_
 refine c_seq ?_
 refine c_region ?_
 refine r_val .none rfl (p_move rfl) ?_
 refine r_val .none rfl (p_eqnil Try.underlying42 rfl rfl) ?_
 refine r_nil ?_
 refine e_next ?_
 refine c_split (d := 4) rfl (fun h_1 => ?_) (fun h_1 => ?_)
 ·
  have hrs : rs = [] := by cases a with | none => exact nil_rs hr | some x => cases h_1
  refine c_cond_t rfl ?_
  refine c_seq ?_
  refine c_region ?_
  refine r_val .none rfl (p_assign rfl) ?_
  refine r_nilrow 3 1 ?_
  refine r_nil ?_
  refine e_next ?_
  refine c_ret ?_
  refine e_ret_then ?_
  refine e_ret1 Try.results68 (.tmp rfl .nil) (fun w hm => hm.made [rowA (.slice none 0 0) 3 1 (rs).length ((rs).flatMap cI)] (.keep (fun _ _ h => rowA_congr (by rw [hrs]; rfl) (by rw [hrs]; rfl) _ _ h) (.nil)) _ (fun F' h => starL_one h))
 ·
  refine c_cond_f rfl ?_
  refine c_skip ?_
  refine e_next ?_
  refine c_seq ?_
  refine c_region ?_
  refine r_bslice0 .none rfl Try.underlying42 el3 (fun v_2 => ?_)
  refine r_val .none rfl (p_move rfl) ?_
  refine r_append_g (k := 0) .none rfl Try.underlying42 el3 rfl (by decide) rfl rfl rfl hr (fun _ _ _ hj => one_lit rfl rfl _ hj) (by simp only [maxLen]; omega) (by omega) (fun v_3 => ?_)
  refine r_row1 (k := 0) rfl (fun o_4 => ?_)
  refine r_val .none rfl (p_assign rfl) ?_
  refine r_nil ?_
  refine e_next ?_
  refine c_ret ?_
  refine e_ret1 Try.results68 (.tmp rfl .nil) (fun w hm => hm.made [rowA v_3 3 1 (rs).length ((rs).flatMap cI)] (.keep (fun _ _ h => rowA_congr (by omega) (by rw [flat_all (cells := cI) (fun _ => rfl)]; rfl) _ _ h) (.nil)) _ (fun F' h => starL_one h))
theorem c_cloneI (v : Value) (rs : List (Int)) {G : Ghost} (hr : SlL G v 1 cI (0 : Int) rs) (hlen : rs.length ≤ 1000) (w : World) (hG : Has G w) : Calls Try.prog 68 #[v] w (Ret fun r w' => Since nX w w' ∧ ∃ F', (rowA r 3 1 (rs).length ((rs).flatMap cI)).holds w' F' ∧ ∀ b, F' b → w.heap.size ≤ b) := by
 obtain ⟨a, cap, rfl⟩ := SlG.len hr
 exact c_cloneI_a a cap rs hr hlen w hG
theorem c_tlenS {F : Nat → Prop} {G : Ghost} (p : Nat)  (s : TS (TB ByteArray) ByteArray) (hT : ∀ q ∈ s.toks, TokAt G kS q.2)  (w : World) (hG : Has G w) (hA : (treeR 119 kS p s).holds w F) (hFG : ∀ b, F b → G b = none) :
  Calls Try.prog 16 #[Value.pointer (some ⟨p, 0, none⟩)] w (Ret fun r w' => r = Value.int .i64 (s.toks.length : Nat) ∧ Kept (treeR 119 kS p s) F w w') := by
 refine enterO (args := [_]) (G := G) (A := treeR 119 kS p s) (l := [(0, Value.pointer (some ⟨p, 0, none⟩))]) Try.func16 rfl Try.ntmps16 hG hA hFG ⟨rfl, trivial⟩ (Nat.le_of_ble_eq_true rfl) ?_
 refine c_openT (fun z => ?_)
 obtain ⟨q, m2, m3⟩ := z
 dsimp only [treeC]
 refine c_seq ?_
 refine c_region ?_
 refine r_val .none rfl (p_assign rfl) ?_
 refine r_nil ?_
 refine e_next ?_
 refine c_seq ?_
 refine c_region ?_
 refine r_val .none rfl (p_move rfl) ?_
 refine r_val .none rfl (p_nilcheck rfl) ?_
 refine r_val .none rfl (p_field Try.underlying119 rfl sz115 rfl) ?_
 refine r_val .none rfl (p_ld (k := 0) Try.underlying115 rfl rfl rfl (by first | exact of_decide_eq_true rfl | omega) (rfl : _ = Value.map _)) ?_
 refine r_val .none rfl (p_len_map (i := 1) Try.underlying115 rfl rfl) ?_
 refine r_val .none rfl (p_assign rfl) ?_
 refine r_nil ?_
 refine e_next ?_
 refine c_ret ?_
 refine e_ret1 Try.results16 (.tmp rfl .nil) (fun w hm => ⟨?_, hm.kept [box p 4 119 (at_ (treeC (s) (q, m2, m3))), mapA q kI veB (s).toks, nestA kS m2 (s).pl, nestA kI m3 (s).fc] (.keep (fun _ _ h => h) (.keep (fun _ _ h => h) (.keep (fun _ _ h => h) (.keep (fun _ _ h => h) (.nil))))) (treeR 119 kS p s) (fun F' h => ⟨(q, m2, m3), h⟩)⟩)
 rfl
theorem c_tparS {F : Nat → Prop} {G : Ghost} (p : Nat) (id : Int) (s : TS (TB ByteArray) ByteArray) (hT : ∀ q ∈ s.toks, TokAt G kS q.2)  (w : World) (hG : Has G w) (hA : (treeR 119 kS p s).holds w F) (hFG : ∀ b, F b → G b = none) :
  Calls Try.prog 15 #[Value.pointer (some ⟨p, 0, none⟩), Value.int .i64 id] w (Ret fun r w' => r = Value.int .i64 (((gT s.toks id).map Tk.par).getD 0) ∧ Kept (treeR 119 kS p s) F w w') := by
 refine enterO (args := [_, _]) (G := G) (A := treeR 119 kS p s) (l := [(0, Value.pointer (some ⟨p, 0, none⟩)), (1, Value.int .i64 id)]) Try.func15 rfl Try.ntmps15 hG hA hFG ⟨rfl, rfl, trivial⟩ (Nat.le_of_ble_eq_true rfl) ?_
 refine c_openT (fun z => ?_)
 obtain ⟨q, m2, m3⟩ := z
 dsimp only [treeC]
 refine c_seq ?_
 refine c_region ?_
 refine r_val .none rfl (p_assign rfl) ?_
 refine r_nil ?_
 refine e_next ?_
 refine c_seq ?_
 refine c_seq ?_
 refine c_region ?_
 refine r_val .none rfl (p_move rfl) ?_
 refine r_val .none rfl (p_nilcheck rfl) ?_
 refine r_val .none rfl (p_field Try.underlying119 rfl sz115 rfl) ?_
 refine r_val .none rfl (p_ld (k := 0) Try.underlying115 rfl rfl rfl (by first | exact of_decide_eq_true rfl | omega) (rfl : _ = Value.map _)) ?_
 refine r_val .none rfl (p_move rfl) ?_
 rcases hN : lkp s.toks id with _ | ⟨bx, kv, x⟩
 ·
  refine r_val .none rfl (p_lookup_no (i := 1) Try.underlying115 (KeyT.int Try.underlying3) zr120 rfl rfl rfl hN) ?_
  refine r_val .none rfl (p_assign rfl) ?_
  refine r_nil ?_
  refine e_next ?_
  refine c_seq ?_
  refine c_region ?_
  refine r_val .none rfl (p_move rfl) ?_
  refine r_val .none rfl (p_ne_ptr Try.underlying120 (by first | exact .inr rfl | exact .inl rfl) rfl rfl) ?_
  refine r_say (d := 13) (v := Value.bool false) rfl ?_
  refine r_nil ?_
  refine e_next ?_
  refine c_cond_f rfl ?_
  refine c_skip ?_
  refine e_next ?_
  refine c_seq ?_
  refine c_region ?_
  refine r_val .none rfl (p_assign rfl) ?_
  refine r_nil ?_
  refine e_next ?_
  refine c_ret ?_
  refine e_ret1 Try.results15 (.tmp rfl .nil) (fun w hm => ⟨?_, hm.kept [box p 4 119 (at_ (treeC (s) (q, m2, m3))), mapA q kI veB (s).toks, nestA kS m2 (s).pl, nestA kI m3 (s).fc] (.keep (fun _ _ h => h) (.keep (fun _ _ h => h) (.keep (fun _ _ h => h) (.keep (fun _ _ h => h) (.nil))))) (treeR 119 kS p s) (fun F' h => ⟨(q, m2, m3), h⟩)⟩)
  (rw [gT_none hN]; rfl)
 ·
  have hR : RowAt G bx 0 4 (at_ [kS x.pla, .int .i64 x.par, .int .i64 x.fac, kv]) := (hT _ (lkp_some hN)).1
  have hK : SlL G kv 1 cI (0 : Int) x.kids := (hT _ (lkp_some hN)).2
  refine r_val .none rfl (p_lookup_yes (i := 1) Try.underlying115 (KeyT.int Try.underlying3) zr120 rfl rfl rfl hN) ?_
  refine r_val .none rfl (p_assign rfl) ?_
  refine r_nil ?_
  refine e_next ?_
  refine c_seq ?_
  refine c_region ?_
  refine r_val .none rfl (p_move rfl) ?_
  refine r_val .none rfl (p_ne_ptr Try.underlying120 (by first | exact .inr rfl | exact .inl rfl) rfl rfl) ?_
  refine r_say (d := 13) (v := Value.bool true) rfl ?_
  refine r_nil ?_
  refine e_next ?_
  refine c_cond_t rfl ?_
  refine c_seq ?_
  refine c_region ?_
  refine r_val .none rfl (p_move rfl) ?_
  refine r_val .none rfl (p_nilcheck rfl) ?_
  refine r_val .none rfl (p_field Try.underlying122 rfl sz3 rfl) ?_
  refine r_val .none rfl (p_ldg (j := 1) Try.underlying3 rfl rfl hR (by first | exact of_decide_eq_true rfl | omega) (rfl : _ = Value.int _ _)) ?_
  refine r_val .none rfl (p_assign rfl) ?_
  refine r_nil ?_
  refine e_next ?_
  refine c_ret ?_
  refine e_ret_then ?_
  refine e_ret1 Try.results15 (.tmp rfl .nil) (fun w hm => ⟨?_, hm.kept [box p 4 119 (at_ (treeC (s) (q, m2, m3))), mapA q kI veB (s).toks, nestA kS m2 (s).pl, nestA kI m3 (s).fc] (.keep (fun _ _ h => h) (.keep (fun _ _ h => h) (.keep (fun _ _ h => h) (.keep (fun _ _ h => h) (.nil))))) (treeR 119 kS p s) (fun F' h => ⟨(q, m2, m3), h⟩)⟩)
  (rw [gT_some hN]; rfl)
theorem c_tfactS {F : Nat → Prop} {G : Ghost} (p : Nat) (id : Int) (s : TS (TB ByteArray) ByteArray) (hT : ∀ q ∈ s.toks, TokAt G kS q.2)  (w : World) (hG : Has G w) (hA : (treeR 119 kS p s).holds w F) (hFG : ∀ b, F b → G b = none) :
  Calls Try.prog 52 #[Value.pointer (some ⟨p, 0, none⟩), Value.int .i64 id] w (Ret fun r w' => r = Value.int .i64 (((gT s.toks id).map Tk.fac).getD 0) ∧ Kept (treeR 119 kS p s) F w w') := by
 refine enterO (args := [_, _]) (G := G) (A := treeR 119 kS p s) (l := [(0, Value.pointer (some ⟨p, 0, none⟩)), (1, Value.int .i64 id)]) Try.func52 rfl Try.ntmps52 hG hA hFG ⟨rfl, rfl, trivial⟩ (Nat.le_of_ble_eq_true rfl) ?_
 refine c_openT (fun z => ?_)
 obtain ⟨q, m2, m3⟩ := z
 dsimp only [treeC]
 refine c_seq ?_
 refine c_region ?_
 refine r_val .none rfl (p_assign rfl) ?_
 refine r_nil ?_
 refine e_next ?_
 refine c_seq ?_
 refine c_seq ?_
 refine c_region ?_
 refine r_val .none rfl (p_move rfl) ?_
 refine r_val .none rfl (p_nilcheck rfl) ?_
 refine r_val .none rfl (p_field Try.underlying119 rfl sz115 rfl) ?_
 refine r_val .none rfl (p_ld (k := 0) Try.underlying115 rfl rfl rfl (by first | exact of_decide_eq_true rfl | omega) (rfl : _ = Value.map _)) ?_
 refine r_val .none rfl (p_move rfl) ?_
 rcases hN : lkp s.toks id with _ | ⟨bx, kv, x⟩
 ·
  refine r_val .none rfl (p_lookup_no (i := 1) Try.underlying115 (KeyT.int Try.underlying3) zr120 rfl rfl rfl hN) ?_
  refine r_val .none rfl (p_assign rfl) ?_
  refine r_nil ?_
  refine e_next ?_
  refine c_seq ?_
  refine c_region ?_
  refine r_val .none rfl (p_move rfl) ?_
  refine r_val .none rfl (p_ne_ptr Try.underlying120 (by first | exact .inr rfl | exact .inl rfl) rfl rfl) ?_
  refine r_say (d := 13) (v := Value.bool false) rfl ?_
  refine r_nil ?_
  refine e_next ?_
  refine c_cond_f rfl ?_
  refine c_skip ?_
  refine e_next ?_
  refine c_seq ?_
  refine c_region ?_
  refine r_val .none rfl (p_assign rfl) ?_
  refine r_nil ?_
  refine e_next ?_
  refine c_ret ?_
  refine e_ret1 Try.results52 (.tmp rfl .nil) (fun w hm => ⟨?_, hm.kept [box p 4 119 (at_ (treeC (s) (q, m2, m3))), mapA q kI veB (s).toks, nestA kS m2 (s).pl, nestA kI m3 (s).fc] (.keep (fun _ _ h => h) (.keep (fun _ _ h => h) (.keep (fun _ _ h => h) (.keep (fun _ _ h => h) (.nil))))) (treeR 119 kS p s) (fun F' h => ⟨(q, m2, m3), h⟩)⟩)
  (rw [gT_none hN]; rfl)
 ·
  have hR : RowAt G bx 0 4 (at_ [kS x.pla, .int .i64 x.par, .int .i64 x.fac, kv]) := (hT _ (lkp_some hN)).1
  have hK : SlL G kv 1 cI (0 : Int) x.kids := (hT _ (lkp_some hN)).2
  refine r_val .none rfl (p_lookup_yes (i := 1) Try.underlying115 (KeyT.int Try.underlying3) zr120 rfl rfl rfl hN) ?_
  refine r_val .none rfl (p_assign rfl) ?_
  refine r_nil ?_
  refine e_next ?_
  refine c_seq ?_
  refine c_region ?_
  refine r_val .none rfl (p_move rfl) ?_
  refine r_val .none rfl (p_ne_ptr Try.underlying120 (by first | exact .inr rfl | exact .inl rfl) rfl rfl) ?_
  refine r_say (d := 13) (v := Value.bool true) rfl ?_
  refine r_nil ?_
  refine e_next ?_
  refine c_cond_t rfl ?_
  refine c_seq ?_
  refine c_region ?_
  refine r_val .none rfl (p_move rfl) ?_
  refine r_val .none rfl (p_nilcheck rfl) ?_
  refine r_val .none rfl (p_field Try.underlying122 rfl sz3 rfl) ?_
  refine r_val .none rfl (p_ldg (j := 2) Try.underlying3 rfl rfl hR (by first | exact of_decide_eq_true rfl | omega) (rfl : _ = Value.int _ _)) ?_
  refine r_val .none rfl (p_assign rfl) ?_
  refine r_nil ?_
  refine e_next ?_
  refine c_ret ?_
  refine e_ret_then ?_
  refine e_ret1 Try.results52 (.tmp rfl .nil) (fun w hm => ⟨?_, hm.kept [box p 4 119 (at_ (treeC (s) (q, m2, m3))), mapA q kI veB (s).toks, nestA kS m2 (s).pl, nestA kI m3 (s).fc] (.keep (fun _ _ h => h) (.keep (fun _ _ h => h) (.keep (fun _ _ h => h) (.keep (fun _ _ h => h) (.nil))))) (treeR 119 kS p s) (fun F' h => ⟨(q, m2, m3), h⟩)⟩)
  (rw [gT_some hN]; rfl)
theorem c_tplaceS {F : Nat → Prop} {G : Ghost} (p : Nat) (id : Int) (s : TS (TB ByteArray) ByteArray) (hT : ∀ q ∈ s.toks, TokAt G kS q.2)  (w : World) (hG : Has G w) (hA : (treeR 119 kS p s).holds w F) (hFG : ∀ b, F b → G b = none) :
  Calls Try.prog 14 #[Value.pointer (some ⟨p, 0, none⟩), Value.int .i64 id] w (Ret fun r w' => r = Value.tuple #[kS (((gT s.toks id).map Tk.pla).getD ByteArray.empty), Value.bool (gT s.toks id).isSome] ∧ Kept (treeR 119 kS p s) F w w') := by
 refine enterO (args := [_, _]) (G := G) (A := treeR 119 kS p s) (l := [(0, Value.pointer (some ⟨p, 0, none⟩)), (1, Value.int .i64 id)]) Try.func14 rfl Try.ntmps14 hG hA hFG ⟨rfl, rfl, trivial⟩ (Nat.le_of_ble_eq_true rfl) ?_
 refine c_openT (fun z => ?_)
 obtain ⟨q, m2, m3⟩ := z
 dsimp only [treeC]
 refine c_seq ?_
 refine c_region ?_
 refine r_val .none rfl (p_assign rfl) ?_
 refine r_val .none rfl (p_assign rfl) ?_
 refine r_nil ?_
 refine e_next ?_
 refine c_seq ?_
 refine c_seq ?_
 refine c_region ?_
 refine r_val .none rfl (p_move rfl) ?_
 refine r_val .none rfl (p_nilcheck rfl) ?_
 refine r_val .none rfl (p_field Try.underlying119 rfl sz115 rfl) ?_
 refine r_val .none rfl (p_ld (k := 0) Try.underlying115 rfl rfl rfl (by first | exact of_decide_eq_true rfl | omega) (rfl : _ = Value.map _)) ?_
 refine r_val .none rfl (p_move rfl) ?_
 rcases hN : lkp s.toks id with _ | ⟨bx, kv, x⟩
 ·
  refine r_val .none rfl (p_lookup_no (i := 1) Try.underlying115 (KeyT.int Try.underlying3) zr120 rfl rfl rfl hN) ?_
  refine r_val .none rfl (p_assign rfl) ?_
  refine r_nil ?_
  refine e_next ?_
  refine c_seq ?_
  refine c_region ?_
  refine r_val .none rfl (p_move rfl) ?_
  refine r_val .none rfl (p_ne_ptr Try.underlying120 (by first | exact .inr rfl | exact .inl rfl) rfl rfl) ?_
  refine r_say (d := 15) (v := Value.bool false) rfl ?_
  refine r_nil ?_
  refine e_next ?_
  refine c_cond_f rfl ?_
  refine c_skip ?_
  refine e_next ?_
  refine c_seq ?_
  refine c_region ?_
  refine r_val .none rfl (p_assign rfl) ?_
  refine r_nil ?_
  refine e_next ?_
  refine c_seq ?_
  refine c_region ?_
  refine r_val .none rfl (p_move rfl) ?_
  refine r_val .none rfl (p_assign rfl) ?_
  refine r_val .none rfl (p_assign rfl) ?_
  refine r_nil ?_
  refine e_next ?_
  refine c_ret ?_
  refine e_retn Try.results14 (.tmp rfl (.tmp rfl .nil)) rfl (fun w hm => ⟨?_, hm.kept [box p 4 119 (at_ (treeC (s) (q, m2, m3))), mapA q kI veB (s).toks, nestA kS m2 (s).pl, nestA kI m3 (s).fc] (.keep (fun _ _ h => h) (.keep (fun _ _ h => h) (.keep (fun _ _ h => h) (.keep (fun _ _ h => h) (.nil))))) (treeR 119 kS p s) (fun F' h => ⟨(q, m2, m3), h⟩)⟩)
  (rw [gT_none hN]; rfl)
 ·
  have hR : RowAt G bx 0 4 (at_ [kS x.pla, .int .i64 x.par, .int .i64 x.fac, kv]) := (hT _ (lkp_some hN)).1
  have hK : SlL G kv 1 cI (0 : Int) x.kids := (hT _ (lkp_some hN)).2
  refine r_val .none rfl (p_lookup_yes (i := 1) Try.underlying115 (KeyT.int Try.underlying3) zr120 rfl rfl rfl hN) ?_
  refine r_val .none rfl (p_assign rfl) ?_
  refine r_nil ?_
  refine e_next ?_
  refine c_seq ?_
  refine c_region ?_
  refine r_val .none rfl (p_move rfl) ?_
  refine r_val .none rfl (p_ne_ptr Try.underlying120 (by first | exact .inr rfl | exact .inl rfl) rfl rfl) ?_
  refine r_say (d := 15) (v := Value.bool true) rfl ?_
  refine r_nil ?_
  refine e_next ?_
  refine c_cond_t rfl ?_
  refine c_seq ?_
  refine c_region ?_
  refine r_val .none rfl (p_move rfl) ?_
  refine r_val .none rfl (p_nilcheck rfl) ?_
  refine r_val .none rfl (p_field Try.underlying122 rfl sz9 rfl) ?_
  refine r_val .none rfl (p_ldg (j := 0) Try.underlying9 rfl rfl hR (by first | exact of_decide_eq_true rfl | omega) (rfl : _ = Value.string _)) ?_
  refine r_val .none rfl (p_assign rfl) ?_
  refine r_val .none rfl (p_assign rfl) ?_
  refine r_nil ?_
  refine e_next ?_
  refine c_ret ?_
  refine e_ret_then ?_
  refine e_retn Try.results14 (.tmp rfl (.tmp rfl .nil)) rfl (fun w hm => ⟨?_, hm.kept [box p 4 119 (at_ (treeC (s) (q, m2, m3))), mapA q kI veB (s).toks, nestA kS m2 (s).pl, nestA kI m3 (s).fc] (.keep (fun _ _ h => h) (.keep (fun _ _ h => h) (.keep (fun _ _ h => h) (.keep (fun _ _ h => h) (.nil))))) (treeR 119 kS p s) (fun F' h => ⟨(q, m2, m3), h⟩)⟩)
  (rw [gT_some hN]; rfl)
theorem c_tkidsS {F : Nat → Prop} {G : Ghost} (p : Nat) (id : Int) (s : TS (TB ByteArray) ByteArray) (hT : ∀ q ∈ s.toks, TokAt G kS q.2) (hkl : ∀ v, lkp s.toks id = some v → v.2.2.kids.length ≤ 1000) (w : World) (hG : Has G w) (hA : (treeR 119 kS p s).holds w F) (hFG : ∀ b, F b → G b = none) :
  Calls Try.prog 88 #[Value.pointer (some ⟨p, 0, none⟩), Value.int .i64 id] w (Ret fun r w' => Kept (starL [rowA r 3 1 ((((gT s.toks id).map Tk.kids).getD [])).length (((((gT s.toks id).map Tk.kids).getD [])).flatMap cI), treeR 119 kS p s]) F w w') := by
 refine enterO (args := [_, _]) (G := G) (A := treeR 119 kS p s) (l := [(0, Value.pointer (some ⟨p, 0, none⟩)), (1, Value.int .i64 id)]) Try.func88 rfl Try.ntmps88 hG hA hFG ⟨rfl, rfl, trivial⟩ (Nat.le_of_ble_eq_true rfl) ?_
 refine c_openT (fun z => ?_)
 obtain ⟨q, m2, m3⟩ := z
 dsimp only [treeC]
 refine c_seq ?_
 refine c_region ?_
 refine r_val .none rfl (p_assign rfl) ?_
 refine r_nil ?_
 refine e_next ?_
 refine c_seq ?_
 refine c_seq ?_
 refine c_region ?_
 refine r_val .none rfl (p_move rfl) ?_
 refine r_val .none rfl (p_nilcheck rfl) ?_
 refine r_val .none rfl (p_field Try.underlying119 rfl sz115 rfl) ?_
 refine r_val .none rfl (p_ld (k := 0) Try.underlying115 rfl rfl rfl (by first | exact of_decide_eq_true rfl | omega) (rfl : _ = Value.map _)) ?_
 refine r_val .none rfl (p_move rfl) ?_
 rcases hN : lkp s.toks id with _ | ⟨bx, kv, x⟩
 ·
  refine r_val .none rfl (p_lookup_no (i := 1) Try.underlying115 (KeyT.int Try.underlying3) zr120 rfl rfl rfl hN) ?_
  refine r_val .none rfl (p_assign rfl) ?_
  refine r_nil ?_
  refine e_next ?_
  refine c_seq ?_
  refine c_region ?_
  refine r_val .none rfl (p_move rfl) ?_
  refine r_val .none rfl (p_ne_ptr Try.underlying120 (by first | exact .inr rfl | exact .inl rfl) rfl rfl) ?_
  refine r_say (d := 13) (v := Value.bool false) rfl ?_
  refine r_nil ?_
  refine e_next ?_
  refine c_cond_f rfl ?_
  refine c_skip ?_
  refine e_next ?_
  refine c_seq ?_
  refine c_region ?_
  refine r_val .none rfl (p_assign rfl) ?_
  refine r_nil ?_
  refine e_next ?_
  refine c_ret ?_
  refine e_nilrow 0 3 1 ?_
  refine e_front (k := 4) rfl ?_
  refine e_front (k := 4) rfl ?_
  refine e_front (k := 4) rfl ?_
  refine e_front (k := 4) rfl ?_
  refine e_front (k := 4) rfl ?_
  refine e_ret1 Try.results88 (.tmp rfl .nil) (fun w hm => hm.kept ([rowA (.slice none 0 0) 3 1 ((((gT s.toks id).map Tk.kids).getD [])).length (((((gT s.toks id).map Tk.kids).getD [])).flatMap cI)] ++ [box p 4 119 (at_ (treeC (s) (q, m2, m3))), mapA q kI veB (s).toks, nestA kS m2 (s).pl, nestA kI m3 (s).fc]) (.keep (fun _ _ h => by rw [gT_none hN]; exact h) (.keep (fun _ _ h => h) (.keep (fun _ _ h => h) (.keep (fun _ _ h => h) (.keep (fun _ _ h => h) (.nil)))))) (starL [rowA (.slice none 0 0) 3 1 ((((gT s.toks id).map Tk.kids).getD [])).length (((((gT s.toks id).map Tk.kids).getD [])).flatMap cI), treeR 119 kS p s]) (fun F' h => shut_row (q, m2, m3) h))
 ·
  have hR : RowAt G bx 0 4 (at_ [kS x.pla, .int .i64 x.par, .int .i64 x.fac, kv]) := (hT _ (lkp_some hN)).1
  have hK : SlL G kv 1 cI (0 : Int) x.kids := (hT _ (lkp_some hN)).2
  refine r_val .none rfl (p_lookup_yes (i := 1) Try.underlying115 (KeyT.int Try.underlying3) zr120 rfl rfl rfl hN) ?_
  refine r_val .none rfl (p_assign rfl) ?_
  refine r_nil ?_
  refine e_next ?_
  refine c_seq ?_
  refine c_region ?_
  refine r_val .none rfl (p_move rfl) ?_
  refine r_val .none rfl (p_ne_ptr Try.underlying120 (by first | exact .inr rfl | exact .inl rfl) rfl rfl) ?_
  refine r_say (d := 13) (v := Value.bool true) rfl ?_
  refine r_nil ?_
  refine e_next ?_
  refine c_cond_t rfl ?_
  refine c_seq ?_
  refine c_region ?_
  refine r_val .none rfl (p_move rfl) ?_
  refine r_val .none rfl (p_nilcheck rfl) ?_
  refine r_val .none rfl (p_field Try.underlying122 rfl sz42 rfl) ?_
  refine r_val .none rfl (p_ldg (j := 3) Try.underlying42 rfl rfl hR (by first | exact of_decide_eq_true rfl | omega) rfl) ?_
  refine r_callrow (vs := [_]) .none rfl cl68 rfl (fun w hw => c_cloneI _ _ hK (hkl _ hN) w hw) (fun v_1 => ?_)
  refine r_val .none rfl (p_assign rfl) ?_
  refine r_nil ?_
  refine e_next ?_
  refine c_ret ?_
  refine e_ret_then ?_
  refine e_front (k := 4) rfl ?_
  refine e_front (k := 4) rfl ?_
  refine e_front (k := 4) rfl ?_
  refine e_front (k := 4) rfl ?_
  refine e_front (k := 4) rfl ?_
  refine e_ret1 Try.results88 (.tmp rfl .nil) (fun w hm => hm.kept ([rowA v_1 3 1 ((((gT s.toks id).map Tk.kids).getD [])).length (((((gT s.toks id).map Tk.kids).getD [])).flatMap cI)] ++ [box p 4 119 (at_ (treeC (s) (q, m2, m3))), mapA q kI veB (s).toks, nestA kS m2 (s).pl, nestA kI m3 (s).fc]) (.keep (fun _ _ h => by rw [gT_some hN]; exact h) (.keep (fun _ _ h => h) (.keep (fun _ _ h => h) (.keep (fun _ _ h => h) (.keep (fun _ _ h => h) (.nil)))))) (starL [rowA v_1 3 1 ((((gT s.toks id).map Tk.kids).getD [])).length (((((gT s.toks id).map Tk.kids).getD [])).flatMap cI), treeR 119 kS p s]) (fun F' h => shut_row (q, m2, m3) h))
theorem c_tupS {F : Nat → Prop} {G : Ghost} (p : Nat) (id : Int) (a : ByteArray) (s : TS (TB ByteArray) ByteArray) (hT : ∀ q ∈ s.toks, TokAt G kS q.2) (hO : Ord (gT s.toks)) (hid : id ≤ s.last) (w : World) (hG : Has G w) (hA : (treeR 119 kS p s).holds w F) (hFG : ∀ b, F b → G b = none) :
  Calls Try.prog 93 #[Value.pointer (some ⟨p, 0, none⟩), Value.int .i64 id, kS a] w (Ret fun r w' => r = Value.tuple #[Value.int .i64 (upF (s.last.toNat + 1) (gT s.toks) id a), Value.bool (decide (0 < upF (s.last.toNat + 1) (gT s.toks) id a))] ∧ Kept (treeR 119 kS p s) F w w') := by
 refine enterO (args := [_, _, _]) (G := G) (A := treeR 119 kS p s) (l := [(0, Value.pointer (some ⟨p, 0, none⟩)), (1, Value.int .i64 id), (2, kS a)]) Try.func93 rfl Try.ntmps93 hG hA hFG ⟨rfl, rfl, rfl, trivial⟩ (Nat.le_of_ble_eq_true rfl) ?_
 refine c_openT (fun z => ?_)
 obtain ⟨q, m2, m3⟩ := z
 dsimp only [treeC]
 refine c_seq ?_
 refine c_region ?_
 refine r_val .none rfl (p_assign rfl) ?_
 refine r_val .none rfl (p_assign rfl) ?_
 refine r_nil ?_
 refine e_next ?_
 refine c_seq ?_
 refine c_seq ?_
 refine c_region ?_
 refine r_val .none rfl (p_move rfl) ?_
 refine r_val .none rfl (p_nilcheck rfl) ?_
 refine r_val .none rfl (p_field Try.underlying119 rfl sz115 rfl) ?_
 refine r_val .none rfl (p_ld (k := 0) Try.underlying115 rfl rfl rfl (by first | exact of_decide_eq_true rfl | omega) (rfl : _ = Value.map _)) ?_
 refine r_val .none rfl (p_move rfl) ?_
 refine r_val .none rfl (p_lookup_opt (i := 1) Try.underlying115 (KeyT.int Try.underlying3) zr120 rfl rfl rfl ) ?_
 refine r_val .none rfl (p_assign rfl) ?_
 refine r_nil ?_
 refine e_next ?_
 refine c_block ?_
 refine c_name (d := 0) rfl (fun u_1 hu_1 => ?_)
 refine c_name (d := 2) rfl (fun u_2 hu_2 => ?_)
 refine c_nameL (k := 0) rfl (fun A_3 hA_3 => ?_)
 refine c_nameL (k := 1) rfl (fun A_4 hA_4 => ?_)
 refine c_nameL (k := 2) rfl (fun A_5 hA_5 => ?_)
 refine c_nameL (k := 3) rfl (fun A_6 hA_6 => ?_)
 refine c_loop (σ := Int × Nat) (fun s' => [(8, veO veB (.pointer none) (lkp s.toks s'.1)), (1, Value.int .i64 s'.1), (0, u_1), (2, u_2)]) (fun s' => [A_3, A_4, A_5, A_6]) (fun _ => _) (fun s' => upF s'.2 (gT s.toks) s'.1 a = upF (s.last.toNat + 1) (gT s.toks) id a ∧ s'.1 ≤ s.last ∧ s'.1 < s'.2) (fun s' => s'.2) ((id, s.last.toNat + 1)) ⟨rfl, hid, by omega⟩ rfl ⟨rfl, rfl, rfl, rfl, trivial⟩ (.keep (fun _ _ h => h) (.keep (fun _ _ h => h) (.keep (fun _ _ h => h) (.keep (fun _ _ h => h) (.nil))))) (fun s' hphi => ?_)
 subst hu_1
 subst hu_2
 subst hA_3
 subst hA_4
 subst hA_5
 subst hA_6
 obtain ⟨i, n⟩ := s'
 obtain ⟨hup, hi, hn⟩ := hphi
 dsimp only at hup hi hn ⊢
 refine c_seq ?_
 refine c_seq ?_
 refine c_region ?_
 rcases hN2 : lkp s.toks i with _ | ⟨bx2, kv2, x2⟩
 ·
  refine r_val .none rfl (p_move rfl) ?_
  refine r_val .none rfl (p_ne_ptr Try.underlying120 (by first | exact .inr rfl | exact .inl rfl) rfl rfl) ?_
  refine r_say (d := 16) (v := Value.bool false) rfl ?_
  refine r_nil ?_
  refine e_next ?_
  refine c_cond_f rfl ?_
  refine c_exit ?_
  refine e_exit_then ?_
  refine e_exit_then ?_
  refine e_exit_block ?_
  refine e_next ?_
  refine c_seq ?_
  refine c_region ?_
  refine r_val .none rfl (p_assign rfl) ?_
  refine r_val .none rfl (p_assign rfl) ?_
  refine r_nil ?_
  refine e_next ?_
  refine c_ret ?_
  refine e_retn Try.results93 (.tmp rfl (.tmp rfl .nil)) rfl (fun w hm => ⟨?_, hm.kept [box p 4 119 (at_ (treeC (s) (q, m2, m3))), mapA q kI veB (s).toks, nestA kS m2 (s).pl, nestA kI m3 (s).fc] (.keep (fun _ _ h => h) (.keep (fun _ _ h => h) (.keep (fun _ _ h => h) (.keep (fun _ _ h => h) (.nil))))) (treeR 119 kS p s) (fun F' h => ⟨(q, m2, m3), h⟩)⟩)
  rw [← hup, upF_none (gT_none hN2)]
  rfl
 ·
  have hR2 : RowAt G bx2 0 4 (at_ [kS x2.pla, .int .i64 x2.par, .int .i64 x2.fac, kv2]) := (hT _ (lkp_some hN2)).1
  have hK2 : SlL G kv2 1 cI (0 : Int) x2.kids := (hT _ (lkp_some hN2)).2
  obtain ⟨h1i, hpi⟩ := hO i x2 (gT_some hN2)
  obtain ⟨n1, rfl⟩ : ∃ n1, n = n1 + 1 := ⟨n - 1, by omega⟩
  refine r_val .none rfl (p_move rfl) ?_
  refine r_val .none rfl (p_ne_ptr Try.underlying120 (by first | exact .inr rfl | exact .inl rfl) rfl rfl) ?_
  refine r_say (d := 16) (v := Value.bool true) rfl ?_
  refine r_nil ?_
  refine e_next ?_
  refine c_cond_t rfl ?_
  refine c_skip ?_
  refine e_next ?_
  refine c_seq ?_
  refine c_block ?_
  refine c_seq ?_
  refine c_seq ?_
  refine c_region ?_
  refine r_val .none rfl (p_move rfl) ?_
  refine r_val .none rfl (p_nilcheck rfl) ?_
  refine r_val .none rfl (p_field Try.underlying122 rfl sz9 rfl) ?_
  refine r_val .none rfl (p_ldg (j := 0) Try.underlying9 rfl rfl hR2 (by first | exact of_decide_eq_true rfl | omega) (rfl : _ = Value.string _)) ?_
  refine r_val .none rfl (p_move rfl) ?_
  refine r_val .none rfl (p_eqs rfl rfl) ?_
  refine r_nil ?_
  refine e_next ?_
  refine c_splitd (d := 28) rfl (fun h_7 => ?_) (fun h_7 => ?_)
  ·
   have hU : x2.pla = a := h_7
   first
    | (exfalso; omega)
    | (
     refine c_cond_t rfl ?_
     refine c_seq ?_
     refine c_region ?_
     refine r_val .none rfl (p_move rfl) ?_
     refine r_val .none rfl (p_assign rfl) ?_
     refine r_val .none rfl (p_assign rfl) ?_
     refine r_nil ?_
     refine e_next ?_
     refine c_ret ?_
     refine e_ret_then ?_
     refine e_ret_block ?_
     refine e_ret_then ?_
     refine e_ret_then ?_
     refine e_ret_block ?_
     refine e_ret_then ?_
     refine e_retn Try.results93 (.tmp rfl (.tmp rfl .nil)) rfl (fun w hm => ⟨?_, hm.kept [box p 4 119 (at_ (treeC (s) (q, m2, m3))), mapA q kI veB (s).toks, nestA kS m2 (s).pl, nestA kI m3 (s).fc] (.keep (fun _ _ h => h) (.keep (fun _ _ h => h) (.keep (fun _ _ h => h) (.keep (fun _ _ h => h) (.nil))))) (treeR 119 kS p s) (fun F' h => ⟨(q, m2, m3), h⟩)⟩)
     rw [← hup, upF_some (gT_some hN2), if_pos hU]
     rw [decide_eq_true (by omega : 0 < i)]
     )
  ·
   have hU : ¬ x2.pla = a := h_7
   first
    | (exfalso; omega)
    | (
     refine c_cond_f rfl ?_
     refine c_skip ?_
     refine e_next ?_
     refine c_region ?_
     refine r_val .none rfl (p_move rfl) ?_
     refine r_val .none rfl (p_nilcheck rfl) ?_
     refine r_val .none rfl (p_field Try.underlying122 rfl sz3 rfl) ?_
     refine r_val .none rfl (p_ldg (j := 1) Try.underlying3 rfl rfl hR2 (by first | exact of_decide_eq_true rfl | omega) (rfl : _ = Value.int _ _)) ?_
     refine r_val .none rfl (p_assign rfl) ?_
     refine r_nil ?_
     refine e_norm_block ?_
     refine e_next ?_
     refine c_region ?_
     refine r_val .none rfl (p_move rfl) ?_
     refine r_val .none rfl (p_nilcheck rfl) ?_
     refine r_val .none rfl (p_field Try.underlying119 rfl sz115 rfl) ?_
     refine r_val .none rfl (p_ld (k := 0) Try.underlying115 rfl rfl rfl (by first | exact of_decide_eq_true rfl | omega) (rfl : _ = Value.map _)) ?_
     refine r_val .none rfl (p_move rfl) ?_
     refine r_val .none rfl (p_lookup_opt (i := 1) Try.underlying115 (KeyT.int Try.underlying3) zr120 rfl rfl rfl ) ?_
     refine r_val .none rfl (p_assign rfl) ?_
     refine r_nil ?_
     refine e_round ((x2.par, n1)) ⟨⟨by rw [← hup, upF_some (gT_some hN2), if_neg hU], by dsimp only; omega, by dsimp only; omega⟩, by dsimp only; omega⟩ rfl ⟨rfl, rfl, rfl, rfl, trivial⟩ (.keep (fun _ _ h => h) (.keep (fun _ _ h => h) (.keep (fun _ _ h => h) (.keep (fun _ _ h => h) (.nil)))))
     )
theorem c_tfactsS {F : Nat → Prop} {G : Ghost} (p : Nat) (id : Int) (s : TS (TB ByteArray) ByteArray) (hT : ∀ q ∈ s.toks, TokAt G kS q.2) (hO : Ord (gT s.toks)) (hid : id ≤ s.last) (hsl : s.last ≤ 1000) (w : World) (hG : Has G w) (hA : (treeR 119 kS p s).holds w F) (hFG : ∀ b, F b → G b = none) :
  Calls Try.prog 51 #[Value.pointer (some ⟨p, 0, none⟩), Value.int .i64 id] w (Ret fun r w' => Kept (starL [rowA r 3 1 ((factsF (s.last.toNat + 1) (gT s.toks) id).reverse).length (((factsF (s.last.toNat + 1) (gT s.toks) id).reverse).flatMap cI), treeR 119 kS p s]) F w w') := by
 refine enterO (args := [_, _]) (G := G) (A := treeR 119 kS p s) (l := [(0, Value.pointer (some ⟨p, 0, none⟩)), (1, Value.int .i64 id)]) Try.func51 rfl Try.ntmps51 hG hA hFG ⟨rfl, rfl, trivial⟩ (Nat.le_of_ble_eq_true rfl) ?_
 refine c_openT (fun z => ?_)
 obtain ⟨q, m2, m3⟩ := z
 dsimp only [treeC]
 refine c_seq ?_
 refine c_region ?_
 refine r_val .none rfl (p_assign rfl) ?_
 refine r_nil ?_
 refine e_next ?_
 refine c_seq ?_
 refine c_region ?_
 refine r_val .none rfl (p_assign rfl) ?_
 refine r_nil ?_
 refine e_next ?_
 refine c_seq ?_
 refine c_seq ?_
 refine c_region ?_
 refine r_val .none rfl (p_move rfl) ?_
 refine r_val .none rfl (p_nilcheck rfl) ?_
 refine r_val .none rfl (p_field Try.underlying119 rfl sz115 rfl) ?_
 refine r_val .none rfl (p_ld (k := 0) Try.underlying115 rfl rfl rfl (by first | exact of_decide_eq_true rfl | omega) (rfl : _ = Value.map _)) ?_
 refine r_val .none rfl (p_move rfl) ?_
 refine r_val .none rfl (p_lookup_opt (i := 1) Try.underlying115 (KeyT.int Try.underlying3) zr120 rfl rfl rfl ) ?_
 refine r_val .none rfl (p_assign rfl) ?_
 refine r_nil ?_
 refine e_next ?_
 refine c_block ?_
 refine c_nilrow 3 1 ?_
 refine c_name (d := 0) rfl (fun u_1 hu_1 => ?_)
 refine c_name (d := 4) rfl (fun u_2 hu_2 => ?_)
 refine c_nameL (k := 1) rfl (fun A_3 hA_3 => ?_)
 refine c_nameL (k := 2) rfl (fun A_4 hA_4 => ?_)
 refine c_nameL (k := 3) rfl (fun A_5 hA_5 => ?_)
 refine c_nameL (k := 4) rfl (fun A_6 hA_6 => ?_)
 refine c_loop (σ := Int × Nat × List Int × Value) (fun s' => [(6, veO veB (.pointer none) (lkp s.toks s'.1)), (5, s'.2.2.2), (0, u_1), (4, u_2)]) (fun s' => [rowA (s'.2.2.2) 3 1 (s'.2.2.1).length ((s'.2.2.1).flatMap cI), A_3, A_4, A_5, A_6]) (fun _ => _) (fun s' => s'.2.2.1 ++ factsF s'.2.1 (gT s.toks) s'.1 = factsF (s.last.toNat + 1) (gT s.toks) id ∧ s'.1 ≤ s.last ∧ s'.1 < s'.2.1 ∧ s'.2.2.1.length + s'.2.1 ≤ s.last.toNat + 1) (fun s' => s'.2.1) ((id, s.last.toNat + 1, [], _)) ⟨rfl, hid, by dsimp only; omega, by simp⟩ rfl ⟨rfl, rfl, rfl, rfl, trivial⟩ (.keep (fun _ _ h => rowA_nil rfl _ _ h) (.keep (fun _ _ h => h) (.keep (fun _ _ h => h) (.keep (fun _ _ h => h) (.keep (fun _ _ h => h) (.nil)))))) (fun s' hphi => ?_)
 subst hu_1
 subst hu_2
 subst hA_3
 subst hA_4
 subst hA_5
 subst hA_6
 obtain ⟨i, n, fs, fv⟩ := s'
 obtain ⟨hfs, hi, hn, hln⟩ := hphi
 dsimp only at hfs hi hn hln ⊢
 refine c_seq ?_
 refine c_seq ?_
 refine c_region ?_
 rcases hN2 : lkp s.toks i with _ | ⟨bx2, kv2, x2⟩
 ·
  refine r_val .none rfl (p_move rfl) ?_
  refine r_val .none rfl (p_ne_ptr Try.underlying120 (by first | exact .inr rfl | exact .inl rfl) rfl rfl) ?_
  refine r_say (d := 14) (v := Value.bool false) rfl ?_
  refine r_nil ?_
  refine e_next ?_
  refine c_cond_f rfl ?_
  refine c_exit ?_
  refine e_exit_then ?_
  refine e_exit_then ?_
  refine e_exit_block ?_
  refine e_next ?_
  refine c_seq ?_
  refine c_region ?_
  refine r_val .none rfl (p_move rfl) ?_
  refine r_rev1 (k := 0) (zs := fs) (enc := kI) .none rfl cl85 rfl rfl revI revI0 (by omega) ?_
  refine r_nil ?_
  refine e_next ?_
  refine c_seq ?_
  refine c_region ?_
  refine r_val .none rfl (p_move rfl) ?_
  refine r_val .none rfl (p_assign rfl) ?_
  refine r_nil ?_
  refine e_next ?_
  refine c_ret ?_
  refine e_front (k := 4) rfl ?_
  refine e_front (k := 4) rfl ?_
  refine e_front (k := 4) rfl ?_
  refine e_front (k := 4) rfl ?_
  refine e_front (k := 4) rfl ?_
  refine e_ret1 Try.results51 (.tmp rfl .nil) (fun w hm => hm.kept ([rowA fv 3 1 ((factsF (s.last.toNat + 1) (gT s.toks) id).reverse).length (((factsF (s.last.toNat + 1) (gT s.toks) id).reverse).flatMap cI)] ++ [box p 4 119 (at_ (treeC (s) (q, m2, m3))), mapA q kI veB (s).toks, nestA kS m2 (s).pl, nestA kI m3 (s).fc]) (.keep (fun _ _ h => by rw [← hfs, factsF_none (gT_none hN2), List.append_nil]; exact h) (.keep (fun _ _ h => h) (.keep (fun _ _ h => h) (.keep (fun _ _ h => h) (.keep (fun _ _ h => h) (.nil)))))) (starL [rowA fv 3 1 ((factsF (s.last.toNat + 1) (gT s.toks) id).reverse).length (((factsF (s.last.toNat + 1) (gT s.toks) id).reverse).flatMap cI), treeR 119 kS p s]) (fun F' h => shut_row (q, m2, m3) h))
 ·
  have hR2 : RowAt G bx2 0 4 (at_ [kS x2.pla, .int .i64 x2.par, .int .i64 x2.fac, kv2]) := (hT _ (lkp_some hN2)).1
  have hK2 : SlL G kv2 1 cI (0 : Int) x2.kids := (hT _ (lkp_some hN2)).2
  obtain ⟨h1i, hpi⟩ := hO i x2 (gT_some hN2)
  obtain ⟨n1, rfl⟩ : ∃ n1, n = n1 + 1 := ⟨n - 1, by omega⟩
  refine r_val .none rfl (p_move rfl) ?_
  refine r_val .none rfl (p_ne_ptr Try.underlying120 (by first | exact .inr rfl | exact .inl rfl) rfl rfl) ?_
  refine r_say (d := 14) (v := Value.bool true) rfl ?_
  refine r_nil ?_
  refine e_next ?_
  refine c_cond_t rfl ?_
  refine c_skip ?_
  refine e_next ?_
  refine c_seq ?_
  refine c_block ?_
  refine c_seq ?_
  refine c_region ?_
  refine r_val .none rfl (p_move rfl) ?_
  refine r_val .none rfl (p_nilcheck rfl) ?_
  refine r_val .none rfl (p_field Try.underlying122 rfl sz3 rfl) ?_
  refine r_val .none rfl (p_ldg (j := 2) Try.underlying3 rfl rfl hR2 (by first | exact of_decide_eq_true rfl | omega) (rfl : _ = Value.int _ _)) ?_
  refine r_val .none rfl (p_ne rfl rfl) ?_
  refine r_nil ?_
  refine e_next ?_
  refine c_splitd (d := 28) rfl (fun h_7 => ?_) (fun h_7 => ?_)
  ·
   have hU : ¬ x2.fac = 0 := h_7
   first
    | (exfalso; omega)
    | (
     refine c_cond_t rfl ?_
     refine c_region ?_
     refine r_val .none rfl (p_move rfl) ?_
     refine r_val .none rfl (p_move rfl) ?_
     refine r_val .none rfl (p_nilcheck rfl) ?_
     refine r_val .none rfl (p_field Try.underlying122 rfl sz3 rfl) ?_
     refine r_val .none rfl (p_ldg (j := 2) Try.underlying3 rfl rfl hR2 (by first | exact of_decide_eq_true rfl | omega) (rfl : _ = Value.int _ _)) ?_
     refine r_bslice (vs := [(0, Value.int _ _)]) (c := #[_]) .none rfl Try.underlying42 el3 rfl rfl rfl (bs3_10i2 _ _) (IsRow.lit _) (fun b_1 => ?_)
     refine r_append (k := 1) (k2 := 0) .none rfl Try.underlying42 el3 rfl (by decide) rfl rfl rfl rfl rfl (one_lit rfl rfl) (by simp only [maxLen]; omega) (by omega) (fun v_8 => ?_)
     refine r_row1 (k := 1) rfl (fun o_9 => ?_)
     refine r_val .none rfl (p_assign rfl) ?_
     refine r_nil ?_
     refine e_norm_block ?_
     refine e_next ?_
     refine c_region_q mixed (by kernel_rfl) ?_
     refine q_val .none rfl (p_move rfl) ?_
     refine q_val .none rfl (p_nilcheck rfl) ?_
     refine q_val .none rfl (p_field Try.underlying119 rfl sz115 rfl) ?_
     refine q_val .none rfl (p_ld (k := 2) Try.underlying115 rfl rfl rfl (by first | exact of_decide_eq_true rfl | omega) (rfl : _ = Value.map _)) ?_
     refine q_val .none rfl (p_move rfl) ?_
     refine q_val .none rfl (p_nilcheck rfl) ?_
     refine q_val .none rfl (p_field Try.underlying122 rfl sz3 rfl) ?_
     refine q_val .none rfl (p_ldg (j := 1) Try.underlying3 rfl rfl hR2 (by first | exact of_decide_eq_true rfl | omega) (rfl : _ = Value.int _ _)) ?_
     refine q_val .none rfl (p_lookup_opt (i := 3) Try.underlying115 (KeyT.int Try.underlying3) zr120 rfl rfl rfl ) ?_
     refine q_val .none rfl (p_assign rfl) ?_
     refine q_nil ?_
     refine e_round ((x2.par, n1, fs ++ [x2.fac], _)) ⟨⟨by rw [← hfs, factsF_some (gT_some hN2), if_neg hU, ← List.append_assoc], by dsimp only; omega, by dsimp only; omega, by simp; omega⟩, by dsimp only; omega⟩ rfl ⟨rfl, rfl, rfl, rfl, trivial⟩ (.drop (.keep (fun _ _ h => rowA_snoc rfl rfl rfl rfl _ _ h) (.keep (fun _ _ h => h) (.keep (fun _ _ h => h) (.keep (fun _ _ h => h) (.keep (fun _ _ h => h) (.nil)))))))
     )
  ·
   have hU : x2.fac = 0 := Decidable.not_not.1 h_7
   first
    | (exfalso; omega)
    | (
     refine c_cond_f rfl ?_
     refine c_skip ?_
     refine e_norm_block ?_
     refine e_next ?_
     refine c_region_q mixed (by kernel_rfl) ?_
     refine q_val .none rfl (p_move rfl) ?_
     refine q_val .none rfl (p_nilcheck rfl) ?_
     refine q_val .none rfl (p_field Try.underlying119 rfl sz115 rfl) ?_
     refine q_val .none rfl (p_ld (k := 1) Try.underlying115 rfl rfl rfl (by first | exact of_decide_eq_true rfl | omega) (rfl : _ = Value.map _)) ?_
     refine q_val .none rfl (p_move rfl) ?_
     refine q_val .none rfl (p_nilcheck rfl) ?_
     refine q_val .none rfl (p_field Try.underlying122 rfl sz3 rfl) ?_
     refine q_val .none rfl (p_ldg (j := 1) Try.underlying3 rfl rfl hR2 (by first | exact of_decide_eq_true rfl | omega) (rfl : _ = Value.int _ _)) ?_
     refine q_val .none rfl (p_lookup_opt (i := 2) Try.underlying115 (KeyT.int Try.underlying3) zr120 rfl rfl rfl ) ?_
     refine q_val .none rfl (p_assign rfl) ?_
     refine q_nil ?_
     refine e_round ((x2.par, n1, fs, _)) ⟨⟨by rw [← hfs, factsF_some (gT_some hN2), if_pos hU, List.nil_append], by dsimp only; omega, by dsimp only; omega, by dsimp only; omega⟩, by dsimp only; omega⟩ rfl ⟨rfl, rfl, rfl, rfl, trivial⟩ (.keep (fun _ _ h => h) (.keep (fun _ _ h => h) (.keep (fun _ _ h => h) (.keep (fun _ _ h => h) (.keep (fun _ _ h => h) (.nil))))))
     )
end Go.Proofs.Ytdcaehepmkhciaa

/- Walks: what Go functions of this chapter come to, each as a function on plain data; no condition but those that each theorem names. Printed by a program of this work (gen.py). -/
namespace Go.Proofs.Ytdcaehepmkhciaa
open Go.Gx Go.Gx Go.Gx.T10 Go.Gx.T12 Go.Gx.T10 Go.Gx.T11
theorem cl73 : Callable Try.prog 73 := callable Try.func73 (by kernel_rfl) rfl
theorem cl74 : Callable Try.prog 74 := callable Try.func74 (by kernel_rfl) rfl
def storeA (p : Nat) (u : List (Tri × Int)) (t : Int) (c : SC) : Asrt := exA fun z : Nat × Nat × List (Tri × NM) => andA (c = eraN z.2.2) (starL [box p 2 138 (at_ [.pointer (some ⟨z.1, 0, none⟩), .map (some z.2.1)]), tallyT z.1 u t, mapA z.2.1 kT veN z.2.2, hoard FN z.2.2])
theorem sortsI6 (m : Nat) : Go.Proofs.AnyZI.SortsIn Try.prog Try.sortedI_ren Fence.wide m :=
 ⟨fun blk off cap ss W hH hblk hsz => callsIn_wide.2 (Try.slices_Sort_int blk off cap ss W hH hblk hsz), fun p cap W => callsIn_wide.2 (Try.slices_Sort_int_none p cap W)⟩
theorem keysO_new (m : Option Nat) (w : World) : Calls Try.prog 74 #[.map m] w (Ret fun r w' => ∃ p, r = .func (.func 103) #[] #[.pointer (some ⟨p, 0, none⟩)] ∧ Since nX w w' ∧ ∃ F', (box p 1 36 (at_ [.map m])).holds w' F' ∧ ∀ b, F' b → w.heap.size ≤ b) := by
 refine ((callsIn_wide (n := 5)).1 (Go.Proofs.AnyZI.keys_in Try.keysI Fence.wide 5 trivial rfl m w)).mono (fun e w' hR => ?_)
 obtain ⟨rfl, rfl⟩ := hR
 refine ⟨_, rfl, ⟨rfl, rfl, rfl, by show _ ≤ (w.heap.push _).size; simp, fun k hk _ => ?_⟩, fun b => b = w.heap.size, ⟨⟨#[.map m], by show (w.heap.push _)[w.heap.size]? = _; rw [Array.getElem?_push, if_pos rfl]; rfl, IsRow.lit [_]⟩, fun _ => Iff.rfl⟩, fun b hb => by omega⟩
 show (w.heap.push _)[k]? = _
 rw [Array.getElem?_push, if_neg (by omega)]
theorem sortedI_c : KeysC Try.prog 73 103 3 := by
 intro Bm b nn D0 w hcell hlt hown hmax hbytes
 have hseq : SeqGives Fence.wide 2 Try.prog 103 #[.pointer (some ⟨Bm, 0, none⟩)] encZ (fun ss => ss.Perm (intKeys D0)) (Maps.size D0) w :=
  Go.Proofs.AnyZI.keys_gives (ρ := Try.keysI_ren) { Try.keysI with } Fence.wide _ trivial rfl (by omega) Bm b nn D0 _ hlt hcell hown
 refine ((callsIn_wide (n := 5)).1 (Go.Proofs.AnyZI.sorted_in Try.sortedI Fence.wide 5 trivial trivial trivial trivial rfl (by omega) (sortsI6 _) (enters_of Try.func102 (by kernel_rfl) rfl) 103 #[.pointer (some ⟨Bm, 0, none⟩)] trivial (enters_of Try.func103 (by kernel_rfl) rfl) _ _ hmax hbytes _ hseq)).mono (fun e w' hR => ?_)
 obtain ⟨v, ss, he, hS, hrow, _, hb⟩ := hR
 exact ⟨v, ss, he, hS, hrow, hb⟩
theorem sortedI_n : KeysNil Try.prog 73 103 3 := by
 intro Bm w hcell hlt
 have hseq : SeqGives Fence.wide 2 Try.prog 103 #[.pointer (some ⟨Bm, 0, none⟩)] encZ (fun ss : List Int => ss = []) 0 w :=
  Go.Proofs.AnyZI.keys_gives_nil (ρ := Try.keysI_ren) { Try.keysI with } Fence.wide _ trivial rfl Bm w hlt hcell
 refine ((callsIn_wide (n := 5)).1 (Go.Proofs.AnyZI.sorted_in Try.sortedI Fence.wide 5 trivial trivial trivial trivial rfl (by omega) (sortsI6 _) (enters_of Try.func102 (by kernel_rfl) rfl) 103 #[.pointer (some ⟨Bm, 0, none⟩)] trivial (enters_of Try.func103 (by kernel_rfl) rfl) _ 0 (Nat.zero_le _) (by omega) _ hseq)).mono (fun e w' hR => ?_)
 obtain ⟨v, ss, he, rfl, hrow, _, hb⟩ := hR
 exact ⟨v, he, by have h9 := hrow; simp only [List.mergeSort_nil, List.map_nil, List.length_nil] at h9; exact h9, hb⟩
end Go.Proofs.Ytdcaehepmkhciaa

/- Walks: what Go functions of this chapter come to, each as a function on plain data; no condition but those that each theorem names. Printed by a program of this work (gen.py). -/
namespace Go.Proofs.Ytdcaehepmkhciaa
open Go.Gx Go.Gx Go.Gx.T10 Go.Gx.T12 Go.Gx.T10 Go.Gx.T11 Go.Gx.T15 Go.Gx.T12 Go.Gx.T6 Go.Gx.T4
theorem sz116 : SzIs Try.prog 116 1 := by
 unfold SzIs
 kernel_rfl
theorem sz117 : SzIs Try.prog 117 1 := by
 unfold SzIs
 kernel_rfl
theorem c_twithS {F : Nat → Prop} {G : Ghost} (p : Nat) (k : Int) (s : TS (TB ByteArray) ByteArray) (hT : ∀ q ∈ s.toks, TokAt G kS q.2) (hwf : ∀ h, lkp s.fc k = some h → (∀ q ∈ h, (Lit.int .i64 q.1).wf = true) ∧ h.length ≤ 5000) (w : World) (hG : Has G w) (hA : (treeR 119 kS p s).holds w F) (hFG : ∀ b, F b → G b = none) :
  Calls Try.prog 53 #[Value.pointer (some ⟨p, 0, none⟩), Value.int .i64 k] w (Ret fun r w' => Kept (starL [rowA r 3 1 ((itemsN s.fc k)).length (((itemsN s.fc k)).flatMap cI), treeR 119 kS p s]) F w w') := by
 refine enterO (args := [_, _]) (G := G) (A := treeR 119 kS p s) (l := [(0, Value.pointer (some ⟨p, 0, none⟩)), (1, Value.int .i64 k)]) Try.func53 rfl Try.ntmps53 hG hA hFG ⟨rfl, rfl, trivial⟩ (Nat.le_of_ble_eq_true rfl) ?_
 refine c_openT (fun z => ?_)
 obtain ⟨q, m2, m3⟩ := z
 dsimp only [treeC]
 refine c_front (k := 3) rfl ?_
 refine c_openN (fun l hc => ?_)
 refine c_seq ?_
 refine c_region ?_
 refine r_val .none rfl (p_assign rfl) ?_
 refine r_nil ?_
 refine e_next ?_
 refine c_seq ?_
 refine c_region ?_
 refine r_val .none rfl (p_move rfl) ?_
 refine r_val .none rfl (p_nilcheck rfl) ?_
 refine r_val .none rfl (p_field Try.underlying119 rfl sz117 rfl) ?_
 refine r_val .none rfl (p_ld (k := 2) Try.underlying117 rfl rfl rfl (by first | exact of_decide_eq_true rfl | omega) (rfl : _ = Value.map _)) ?_
 refine r_val .none rfl (p_move rfl) ?_
 rcases hN : lkp l k with _ | ⟨mi, hi⟩
 ·
  refine r_val .none rfl (p_lookup_no (i := 0) Try.underlying117 (KeyT.int Try.underlying3) zr36 rfl rfl rfl hN) ?_
  refine r_callnew (S := fun p => box p 1 36 (at_ [.map none])) (vr := fun p => .func (.func 103) #[] #[.pointer (some ⟨p, 0, none⟩)]) .none rfl cl74 rfl (fun w hw => keysO_new _ w) (fun p_1 => ?_)
  refine r_sorted_nil (j := 0) .none rfl cl73 rfl rfl sortedI_n (fun v_2 => ?_)
  refine r_val .none rfl (p_assign rfl) ?_
  refine r_nil ?_
  refine e_next ?_
  refine c_ret ?_
  refine e_front (k := 3) rfl ?_
  refine e_front (k := 3) rfl ?_
  refine e_shutN hc ?_
  refine e_front (k := 5) rfl ?_
  refine e_front (k := 5) rfl ?_
  refine e_front (k := 5) rfl ?_
  refine e_front (k := 4) rfl ?_
  refine e_ret1 Try.results53 (.tmp rfl .nil) (fun w hm => hm.kept ([rowA v_2 3 1 ((itemsN s.fc k)).length (((itemsN s.fc k)).flatMap cI)] ++ [box p 4 119 (at_ (treeC (s) (q, m2, m3))), mapA q kI veB (s).toks, nestA kS m2 (s).pl, nestA kI m3 (s).fc]) (.keep (fun _ _ h => rowA_congr (by unfold itemsN sortI; rw [hc, eraN_none hN]; simp) (by unfold itemsN sortI; rw [hc, eraN_none hN]; simp) _ _ h) (.keep (fun _ _ h => h) (.keep (fun _ _ h => h) (.keep (fun _ _ h => h) (.keep (fun _ _ h => h) (.drop (.nil))))))) (starL [rowA v_2 3 1 ((itemsN s.fc k)).length (((itemsN s.fc k)).flatMap cI), treeR 119 kS p s]) (fun F' h => shut_row (q, m2, m3) h))
 ·
  refine r_front (k := 1) rfl ?_
  refine r_nfocus hN ?_
  refine r_val .none rfl (p_lookup_yes (i := 2) Try.underlying117 (KeyT.int Try.underlying3) zr36 rfl rfl rfl hN) ?_
  refine r_callnew (S := fun p => box p 1 36 (at_ [.map (some mi)])) (vr := fun p => .func (.func 103) #[] #[.pointer (some ⟨p, 0, none⟩)]) .none rfl cl74 rfl (fun w hw => keysO_new _ w) (fun p_3 => ?_)
  refine r_sorted (i := 1) (j := 0) .none rfl cl73 rfl rfl rfl sortedI_c Try.underlying3 (hwf _ (by rw [hc]; exact eraN_some hN)).1 (by have h9 := (hwf _ (by rw [hc]; exact eraN_some hN)).2; omega) (fun v_4 => ?_)
  refine r_val .none rfl (p_assign rfl) ?_
  refine r_nil ?_
  refine e_next ?_
  refine c_ret ?_
  refine e_front (k := 3) rfl ?_
  refine e_front (k := 3) rfl ?_
  refine e_nunfocus hN ?_
  rw [mput_same hN]
  refine e_front (k := 3) rfl ?_
  refine e_shutN hc ?_
  refine e_front (k := 5) rfl ?_
  refine e_front (k := 5) rfl ?_
  refine e_front (k := 5) rfl ?_
  refine e_front (k := 4) rfl ?_
  refine e_ret1 Try.results53 (.tmp rfl .nil) (fun w hm => hm.kept ([rowA v_4 3 1 ((itemsN s.fc k)).length (((itemsN s.fc k)).flatMap cI)] ++ [box p 4 119 (at_ (treeC (s) (q, m2, m3))), mapA q kI veB (s).toks, nestA kS m2 (s).pl, nestA kI m3 (s).fc]) (.keep (fun _ _ h => by unfold itemsN; rw [hc, eraN_some hN]; exact h) (.keep (fun _ _ h => h) (.keep (fun _ _ h => h) (.keep (fun _ _ h => h) (.keep (fun _ _ h => h) (.drop (.nil))))))) (starL [rowA v_4 3 1 ((itemsN s.fc k)).length (((itemsN s.fc k)).flatMap cI), treeR 119 kS p s]) (fun F' h => shut_row (q, m2, m3) h))
theorem c_tatS {F : Nat → Prop} {G : Ghost} (p : Nat) (k : ByteArray) (s : TS (TB ByteArray) ByteArray) (hT : ∀ q ∈ s.toks, TokAt G kS q.2) (hwf : ∀ h, lkp s.pl k = some h → (∀ q ∈ h, (Lit.int .i64 q.1).wf = true) ∧ h.length ≤ 5000) (w : World) (hG : Has G w) (hA : (treeR 119 kS p s).holds w F) (hFG : ∀ b, F b → G b = none) :
  Calls Try.prog 90 #[Value.pointer (some ⟨p, 0, none⟩), kS k] w (Ret fun r w' => Kept (starL [rowA r 3 1 ((itemsN s.pl k)).length (((itemsN s.pl k)).flatMap cI), treeR 119 kS p s]) F w w') := by
 refine enterO (args := [_, _]) (G := G) (A := treeR 119 kS p s) (l := [(0, Value.pointer (some ⟨p, 0, none⟩)), (1, kS k)]) Try.func90 rfl Try.ntmps90 hG hA hFG ⟨rfl, rfl, trivial⟩ (Nat.le_of_ble_eq_true rfl) ?_
 refine c_openT (fun z => ?_)
 obtain ⟨q, m2, m3⟩ := z
 dsimp only [treeC]
 refine c_front (k := 2) rfl ?_
 refine c_openN (fun l hc => ?_)
 refine c_seq ?_
 refine c_region ?_
 refine r_val .none rfl (p_assign rfl) ?_
 refine r_nil ?_
 refine e_next ?_
 refine c_seq ?_
 refine c_region ?_
 refine r_val .none rfl (p_move rfl) ?_
 refine r_val .none rfl (p_nilcheck rfl) ?_
 refine r_val .none rfl (p_field Try.underlying119 rfl sz116 rfl) ?_
 refine r_val .none rfl (p_ld (k := 2) Try.underlying116 rfl rfl rfl (by first | exact of_decide_eq_true rfl | omega) (rfl : _ = Value.map _)) ?_
 refine r_val .none rfl (p_move rfl) ?_
 rcases hN : lkp l k with _ | ⟨mi, hi⟩
 ·
  refine r_val .none rfl (p_lookup_no (i := 0) Try.underlying116 (KeyT.string Try.underlying9) zr36 rfl rfl rfl hN) ?_
  refine r_callnew (S := fun p => box p 1 36 (at_ [.map none])) (vr := fun p => .func (.func 103) #[] #[.pointer (some ⟨p, 0, none⟩)]) .none rfl cl74 rfl (fun w hw => keysO_new _ w) (fun p_1 => ?_)
  refine r_sorted_nil (j := 0) .none rfl cl73 rfl rfl sortedI_n (fun v_2 => ?_)
  refine r_val .none rfl (p_assign rfl) ?_
  refine r_nil ?_
  refine e_next ?_
  refine c_ret ?_
  refine e_front (k := 3) rfl ?_
  refine e_front (k := 3) rfl ?_
  refine e_shutN hc ?_
  refine e_front (k := 5) rfl ?_
  refine e_front (k := 1) rfl ?_
  refine e_front (k := 5) rfl ?_
  refine e_front (k := 5) rfl ?_
  refine e_front (k := 4) rfl ?_
  refine e_ret1 Try.results90 (.tmp rfl .nil) (fun w hm => hm.kept ([rowA v_2 3 1 ((itemsN s.pl k)).length (((itemsN s.pl k)).flatMap cI)] ++ [box p 4 119 (at_ (treeC (s) (q, m2, m3))), mapA q kI veB (s).toks, nestA kS m2 (s).pl, nestA kI m3 (s).fc]) (.keep (fun _ _ h => rowA_congr (by unfold itemsN sortI; rw [hc, eraN_none hN]; simp) (by unfold itemsN sortI; rw [hc, eraN_none hN]; simp) _ _ h) (.keep (fun _ _ h => h) (.keep (fun _ _ h => h) (.keep (fun _ _ h => h) (.keep (fun _ _ h => h) (.drop (.nil))))))) (starL [rowA v_2 3 1 ((itemsN s.pl k)).length (((itemsN s.pl k)).flatMap cI), treeR 119 kS p s]) (fun F' h => shut_row (q, m2, m3) h))
 ·
  refine r_front (k := 1) rfl ?_
  refine r_nfocus hN ?_
  refine r_val .none rfl (p_lookup_yes (i := 2) Try.underlying116 (KeyT.string Try.underlying9) zr36 rfl rfl rfl hN) ?_
  refine r_callnew (S := fun p => box p 1 36 (at_ [.map (some mi)])) (vr := fun p => .func (.func 103) #[] #[.pointer (some ⟨p, 0, none⟩)]) .none rfl cl74 rfl (fun w hw => keysO_new _ w) (fun p_3 => ?_)
  refine r_sorted (i := 1) (j := 0) .none rfl cl73 rfl rfl rfl sortedI_c Try.underlying3 (hwf _ (by rw [hc]; exact eraN_some hN)).1 (by have h9 := (hwf _ (by rw [hc]; exact eraN_some hN)).2; omega) (fun v_4 => ?_)
  refine r_val .none rfl (p_assign rfl) ?_
  refine r_nil ?_
  refine e_next ?_
  refine c_ret ?_
  refine e_front (k := 3) rfl ?_
  refine e_front (k := 3) rfl ?_
  refine e_nunfocus hN ?_
  rw [mput_same hN]
  refine e_front (k := 3) rfl ?_
  refine e_shutN hc ?_
  refine e_front (k := 5) rfl ?_
  refine e_front (k := 1) rfl ?_
  refine e_front (k := 5) rfl ?_
  refine e_front (k := 5) rfl ?_
  refine e_front (k := 4) rfl ?_
  refine e_ret1 Try.results90 (.tmp rfl .nil) (fun w hm => hm.kept ([rowA v_4 3 1 ((itemsN s.pl k)).length (((itemsN s.pl k)).flatMap cI)] ++ [box p 4 119 (at_ (treeC (s) (q, m2, m3))), mapA q kI veB (s).toks, nestA kS m2 (s).pl, nestA kI m3 (s).fc]) (.keep (fun _ _ h => by unfold itemsN; rw [hc, eraN_some hN]; exact h) (.keep (fun _ _ h => h) (.keep (fun _ _ h => h) (.keep (fun _ _ h => h) (.keep (fun _ _ h => h) (.drop (.nil))))))) (starL [rowA v_4 3 1 ((itemsN s.pl k)).length (((itemsN s.pl k)).flatMap cI), treeR 119 kS p s]) (fun F' h => shut_row (q, m2, m3) h))
end Go.Proofs.Ytdcaehepmkhciaa

/- Walks: what Go functions of this chapter come to, each as a function on plain data; no condition but those that each theorem names. Printed by a program of this work (gen.py). -/
namespace Go.Proofs.Ytdcaehepmkhciaa
open Go.Gx Go.Gx Go.Gx.T10 Go.Gx.T12 Go.Gx.T10 Go.Gx.T11 Go.Gx.T15 Go.Gx.T12 Go.Gx.T6 Go.Gx.T4
theorem cl95 : Callable Try.prog 95 := callable Try.func95 (by kernel_rfl) rfl
theorem cl96 : Callable Try.prog 96 := callable Try.func96 (by kernel_rfl) rfl
theorem bl122_0s1_1i1_2i1 (x0 : ByteArray) (x1 : Int) (x2 : Int) : Program.built Try.prog 122 [(0, Value.string x0), (1, Value.int .i64 x1), (2, Value.int .i64 x2)] = some #[Value.string x0, Value.int .i64 x1, Value.int .i64 x2, Value.slice none 0 0] := by
 kernel_rfl
theorem c_tputS {F : Nat → Prop} {G : Ghost} (p : Nat) (par : Int) (a : ByteArray) (f : Int) (s : TS (TB ByteArray) ByteArray) (hl : 0 ≤ s.last ∧ s.last ≤ 1000) (w : World) (hG : Has G w) (hA : (treeR 119 kS p s).holds w F) (hFG : ∀ b, F b → G b = none) :
  Calls Try.prog 61 #[Value.pointer (some ⟨p, 0, none⟩), Value.int .i64 par, kS a, Value.int .i64 f] w (Ret fun r w' => r = Value.int .i64 (s.last + 1) ∧ Kept (exA fun b : Nat => starL [tkA 122 3 kS (b, .slice none 0 0, ⟨a, par, f, []⟩), treeR 119 kS p (putB s b par a f)]) F w w') := by
 refine enterO (args := [_, _, _, _]) (G := G) (A := treeR 119 kS p s) (l := [(0, Value.pointer (some ⟨p, 0, none⟩)), (1, Value.int .i64 par), (2, kS a), (3, Value.int .i64 f)]) Try.func61 rfl Try.ntmps61 hG hA hFG ⟨rfl, rfl, rfl, rfl, trivial⟩ (Nat.le_of_ble_eq_true rfl) ?_
 refine c_openT (fun z => ?_)
 obtain ⟨q, m2, m3⟩ := z
 dsimp only [treeC]
 refine c_seq ?_
 refine c_region ?_
 refine r_val .none rfl (p_assign rfl) ?_
 refine r_nil ?_
 refine e_next ?_
 refine c_seq ?_
 refine c_region ?_
 refine r_val .none rfl (p_move rfl) ?_
 refine r_val .none rfl (p_nilcheck rfl) ?_
 refine r_val .none rfl (p_field Try.underlying119 rfl sz3 rfl) ?_
 refine r_val .none rfl (p_ld (k := 0) Try.underlying3 rfl rfl rfl (by first | exact of_decide_eq_true rfl | omega) (rfl : _ = Value.int _ _)) ?_
 refine r_val .none rfl (p_add rfl rfl (by omega)) ?_
 refine r_val .none rfl (p_nilcheck rfl) ?_
 refine r_val .none rfl (p_field Try.underlying119 rfl sz3 rfl) ?_
 refine r_st (k := 0) .none sz3 rfl rfl rfl rfl (by first | exact of_decide_eq_true rfl | omega) ?_
 refine r_nil ?_
 refine e_next ?_
 refine c_seq ?_
 refine c_region_d (fun _ => false) _ mixed (.keep (fun _ _ h => h) (.drop (.keep (fun _ _ h => h) (.keep (fun _ _ h => h) (.nil))))) ?_
 refine d_val1 0 rfl rfl (by kernel_rfl) (fun _ _ => rfl) .none rfl (p_move rfl) ?_
 refine d_val1 1 rfl rfl (by kernel_rfl) (fun _ _ => rfl) .none rfl (p_nilcheck rfl) ?_
 refine d_val1 2 rfl rfl (by kernel_rfl) (fun _ _ => rfl) .none rfl (p_field Try.underlying119 rfl sz115 rfl) ?_
 refine d_val1 3 rfl rfl (by kernel_rfl) (fun _ _ => rfl) .none rfl (p_ld (k := 0) Try.underlying115 rfl rfl rfl (by first | exact of_decide_eq_true rfl | omega) (rfl : _ = Value.map _)) ?_
 refine d_val1 4 rfl rfl (by kernel_rfl) (fun _ _ => rfl) .none rfl (p_move rfl) ?_
 refine d_val1 5 rfl rfl (by kernel_rfl) (fun _ _ => rfl) .none rfl (p_nilcheck rfl) ?_
 refine d_val1 6 rfl rfl (by kernel_rfl) (fun _ _ => rfl) .none rfl (p_field Try.underlying119 rfl sz3 rfl) ?_
 refine d_val1 7 rfl rfl (by kernel_rfl) (fun _ _ => rfl) .none rfl (p_ld (k := 0) Try.underlying3 rfl rfl rfl (by first | exact of_decide_eq_true rfl | omega) (rfl : _ = Value.int _ _)) ?_
 refine d_val1 8 rfl rfl (by kernel_rfl) (fun _ _ => rfl) .none rfl (p_move rfl) ?_
 refine d_val1 9 rfl rfl (by kernel_rfl) (fun _ _ => rfl) .none rfl (p_move rfl) ?_
 refine d_val1 10 rfl rfl (by kernel_rfl) (fun _ _ => rfl) .none rfl (p_move rfl) ?_
 refine d_val1 11 rfl rfl (by kernel_rfl) (fun _ _ => rfl) .none rfl (p_build (vs := [(0, Value.string _), (1, Value.int _ _), (2, Value.int _ _)]) rfl (bl122_0s1_1i1_2i1 _ _ _)) ?_
 refine d_eff 12 rfl (by kernel_rfl) (fun K_1 hKK_1 hcK_1 => ?_)
 refine r_box .none rfl rfl (IsRow.lit _) (fun b_1 => ?_)
 refine r_nil (e_d (i := 12) (brk := (fun _ => false)) (ph' := true) hKK_1 hcK_1 rfl (fun _ => GLe.refl _) (fun _ => .drop (.keep (fun _ _ h => h) (.drop (.keep (fun _ _ h => h) (.keep (fun _ _ h => h) (.nil)))))) ?_)
 clear hKK_1 hcK_1 K_1
 refine d_eff 13 rfl (by kernel_rfl) (fun K_2 hKK_2 hcK_2 => ?_)
 refine r_mapup (i := 2) (k := s.last + 1) (a := (b_1, .slice none 0 0, ⟨a, par, f, []⟩)) .none Try.underlying115 (KeyT.int Try.underlying3) rfl rfl rfl rfl ?_
 refine r_nil (e_d (i := 13) (brk := (fun _ => false)) (ph' := true) hKK_2 hcK_2 rfl (fun _ => GLe.refl _) (fun _ => .drop (.keep (fun _ _ h => h) (.drop (.keep (fun _ _ h => h) (.keep (fun _ _ h => h) (.nil)))))) ?_)
 clear hKK_2 hcK_2 K_2
 refine d_nil (by kernel_rfl) ?_
 refine e_next ?_
 refine c_seq ?_
 refine c_region_d (fun _ => false) _ mixed (.keep (fun _ _ h => h) (.keep (fun _ _ h => h) (.keep (fun _ _ h => h) (.drop (.keep (fun _ _ h => h) (.nil)))))) ?_
 refine d_val1 0 rfl rfl (by kernel_rfl) (fun _ _ => rfl) .none rfl (p_move rfl) ?_
 refine d_val1 1 rfl rfl (by kernel_rfl) (fun _ _ => rfl) .none rfl (p_nilcheck rfl) ?_
 refine d_val1 2 rfl rfl (by kernel_rfl) (fun _ _ => rfl) .none rfl (p_field Try.underlying119 rfl sz116 rfl) ?_
 refine d_val1 3 rfl rfl (by kernel_rfl) (fun _ _ => rfl) .none rfl (p_ld (k := 1) Try.underlying116 rfl rfl rfl (by first | exact of_decide_eq_true rfl | omega) (rfl : _ = Value.map _)) ?_
 refine d_val1 4 rfl rfl (by kernel_rfl) (fun _ _ => rfl) .none rfl (p_move rfl) ?_
 refine d_val1 5 rfl rfl (by kernel_rfl) (fun _ _ => rfl) .none rfl (p_move rfl) ?_
 refine d_val1 6 rfl rfl (by kernel_rfl) (fun _ _ => rfl) .none rfl (p_nilcheck rfl) ?_
 refine d_val1 7 rfl rfl (by kernel_rfl) (fun _ _ => rfl) .none rfl (p_field Try.underlying119 rfl sz3 rfl) ?_
 refine d_val1 8 rfl rfl (by kernel_rfl) (fun _ _ => rfl) .none rfl (p_ld (k := 1) Try.underlying3 rfl rfl rfl (by first | exact of_decide_eq_true rfl | omega) (rfl : _ = Value.int _ _)) ?_
 refine d_eff 9 rfl (by kernel_rfl) (fun K_3 hKK_3 hcK_3 => ?_)
 refine r_callo (k := 3) (vs := [_, _, _]) .none rfl cl95 rfl rfl (fun w F hw hA hFG => c_nputS _ _ _ _ w hw hA hFG) ?_
 refine r_nil (e_d (i := 9) (brk := (fun _ => false)) (ph' := true) hKK_3 hcK_3 rfl (fun _ => GLe.refl _) (fun _ => .keep (fun _ _ h => h) (.keep (fun _ _ h => h) (.keep (fun _ _ h => h) (.drop (.keep (fun _ _ h => h) (.nil)))))) ?_)
 clear hKK_3 hcK_3 K_3
 refine d_nil (by kernel_rfl) ?_
 refine e_next ?_
 refine c_seq ?_
 refine c_seq ?_
 refine c_region ?_
 refine r_val .none rfl (p_move rfl) ?_
 refine r_val .none rfl (p_ne rfl rfl) ?_
 refine r_nil ?_
 refine e_next ?_
 refine c_splitd (d := 40) rfl (fun h_4 => ?_) (fun h_4 => ?_)
 ·
  have hf : ¬ f = 0 := h_4
  first
   | (exfalso; omega)
   | (
    refine c_cond_t rfl ?_
    refine c_region_d (fun _ => false) _ mixed (.keep (fun _ _ h => h) (.keep (fun _ _ h => h) (.keep (fun _ _ h => h) (.keep (fun _ _ h => h) (.drop (.nil)))))) ?_
    refine d_val1 0 rfl rfl (by kernel_rfl) (fun _ _ => rfl) .none rfl (p_move rfl) ?_
    refine d_val1 1 rfl rfl (by kernel_rfl) (fun _ _ => rfl) .none rfl (p_nilcheck rfl) ?_
    refine d_val1 2 rfl rfl (by kernel_rfl) (fun _ _ => rfl) .none rfl (p_field Try.underlying119 rfl sz117 rfl) ?_
    refine d_val1 3 rfl rfl (by kernel_rfl) (fun _ _ => rfl) .none rfl (p_ld (k := 1) Try.underlying117 rfl rfl rfl (by first | exact of_decide_eq_true rfl | omega) (rfl : _ = Value.map _)) ?_
    refine d_val1 4 rfl rfl (by kernel_rfl) (fun _ _ => rfl) .none rfl (p_move rfl) ?_
    refine d_val1 5 rfl rfl (by kernel_rfl) (fun _ _ => rfl) .none rfl (p_move rfl) ?_
    refine d_val1 6 rfl rfl (by kernel_rfl) (fun _ _ => rfl) .none rfl (p_nilcheck rfl) ?_
    refine d_val1 7 rfl rfl (by kernel_rfl) (fun _ _ => rfl) .none rfl (p_field Try.underlying119 rfl sz3 rfl) ?_
    refine d_val1 8 rfl rfl (by kernel_rfl) (fun _ _ => rfl) .none rfl (p_ld (k := 1) Try.underlying3 rfl rfl rfl (by first | exact of_decide_eq_true rfl | omega) (rfl : _ = Value.int _ _)) ?_
    refine d_eff 9 rfl (by kernel_rfl) (fun K_5 hKK_5 hcK_5 => ?_)
    refine r_callo (k := 4) (vs := [_, _, _]) .none rfl cl96 rfl rfl (fun w F hw hA hFG => c_nputI _ _ _ _ w hw hA hFG) ?_
    refine r_nil (e_d (i := 9) (brk := (fun _ => false)) (ph' := true) hKK_5 hcK_5 rfl (fun _ => GLe.refl _) (fun _ => .keep (fun _ _ h => h) (.keep (fun _ _ h => h) (.keep (fun _ _ h => h) (.keep (fun _ _ h => h) (.drop (.nil)))))) ?_)
    clear hKK_5 hcK_5 K_5
    refine d_nil (by kernel_rfl) ?_
    refine e_next ?_
    refine c_seq ?_
    refine c_region ?_
    refine r_val .none rfl (p_move rfl) ?_
    refine r_val .none rfl (p_nilcheck rfl) ?_
    refine r_val .none rfl (p_field Try.underlying119 rfl sz3 rfl) ?_
    refine r_val .none rfl (p_ld (k := 1) Try.underlying3 rfl rfl rfl (by first | exact of_decide_eq_true rfl | omega) (rfl : _ = Value.int _ _)) ?_
    refine r_val .none rfl (p_assign rfl) ?_
    refine r_nil ?_
    refine e_next ?_
    refine c_ret ?_
    refine e_nilrow 0 3 1 ?_
    refine e_front (k := 5) rfl ?_
    refine e_front (k := 5) rfl ?_
    refine e_front (k := 5) rfl ?_
    refine e_front (k := 5) rfl ?_
    refine e_front (k := 4) rfl ?_
    refine e_front (k := 5) rfl ?_
    refine e_ret1 Try.results61 (.tmp rfl .nil) (fun w hm => ⟨rfl, hm.kept ([box b_1 4 122 (at_ (tkC kS (b_1, .slice none 0 0, ⟨a, par, f, []⟩))), rowA (.slice none 0 0) 3 1 0 []] ++ [box p 4 119 (at_ (treeC ((putB s b_1 par a f)) (q, m2, m3))), mapA q kI veB ((putB s b_1 par a f)).toks, nestA kS m2 ((putB s b_1 par a f)).pl, nestA kI m3 ((putB s b_1 par a f)).fc]) (.keep (fun _ _ h => box_congr (fun i hi => by match i, hi with | 0, _ => rfl | 1, _ => rfl | 2, _ => rfl | 3, _ => rfl) _ _ h) (.keep (fun _ _ h => h) (.keep (fun _ _ h => box_congr (fun i hi => by match i, hi with | 0, _ => rfl | 1, _ => rfl | 2, _ => rfl | 3, _ => rfl) _ _ h) (.keep (fun _ _ h => h) (.keep (fun _ _ h => h) (.keep (fun _ _ h => by show (nestA kI m3 (if f = 0 then _ else _)).holds _ _; rw [if_neg hf]; exact h) (.nil))))))) (exA fun b : Nat => starL [tkA 122 3 kS (b, .slice none 0 0, ⟨a, par, f, []⟩), treeR 119 kS p (putB s b par a f)]) (fun F' h => ⟨b_1, put_shut (v := (b_1, .slice none 0 0, ⟨a, par, f, []⟩)) (q, m2, m3) h⟩)⟩)
    )
 ·
  have hf : f = 0 := Decidable.not_not.1 h_4
  first
   | (exfalso; omega)
   | (
    refine c_cond_f rfl ?_
    refine c_skip ?_
    refine e_next ?_
    refine c_seq ?_
    refine c_region ?_
    refine r_val .none rfl (p_move rfl) ?_
    refine r_val .none rfl (p_nilcheck rfl) ?_
    refine r_val .none rfl (p_field Try.underlying119 rfl sz3 rfl) ?_
    refine r_val .none rfl (p_ld (k := 1) Try.underlying3 rfl rfl rfl (by first | exact of_decide_eq_true rfl | omega) (rfl : _ = Value.int _ _)) ?_
    refine r_val .none rfl (p_assign rfl) ?_
    refine r_nil ?_
    refine e_next ?_
    refine c_ret ?_
    refine e_nilrow 0 3 1 ?_
    refine e_front (k := 5) rfl ?_
    refine e_front (k := 5) rfl ?_
    refine e_front (k := 5) rfl ?_
    refine e_front (k := 5) rfl ?_
    refine e_front (k := 4) rfl ?_
    refine e_front (k := 5) rfl ?_
    refine e_ret1 Try.results61 (.tmp rfl .nil) (fun w hm => ⟨rfl, hm.kept ([box b_1 4 122 (at_ (tkC kS (b_1, .slice none 0 0, ⟨a, par, f, []⟩))), rowA (.slice none 0 0) 3 1 0 []] ++ [box p 4 119 (at_ (treeC ((putB s b_1 par a f)) (q, m2, m3))), mapA q kI veB ((putB s b_1 par a f)).toks, nestA kS m2 ((putB s b_1 par a f)).pl, nestA kI m3 ((putB s b_1 par a f)).fc]) (.keep (fun _ _ h => box_congr (fun i hi => by match i, hi with | 0, _ => rfl | 1, _ => rfl | 2, _ => rfl | 3, _ => rfl) _ _ h) (.keep (fun _ _ h => h) (.keep (fun _ _ h => box_congr (fun i hi => by match i, hi with | 0, _ => rfl | 1, _ => rfl | 2, _ => rfl | 3, _ => rfl) _ _ h) (.keep (fun _ _ h => h) (.keep (fun _ _ h => h) (.keep (fun _ _ h => by show (nestA kI m3 (if f = 0 then _ else _)).holds _ _; rw [if_pos hf]; exact h) (.nil))))))) (exA fun b : Nat => starL [tkA 122 3 kS (b, .slice none 0 0, ⟨a, par, f, []⟩), treeR 119 kS p (putB s b par a f)]) (fun F' h => ⟨b_1, put_shut (v := (b_1, .slice none 0 0, ⟨a, par, f, []⟩)) (q, m2, m3) h⟩)⟩)
    )
end Go.Proofs.Ytdcaehepmkhciaa

/- Walks: what Go functions of this chapter come to, each as a function on plain data; no condition but those that each theorem names. Printed by a program of this work (gen.py). -/
namespace Go.Proofs.Ytdcaehepmkhciaa
open Go.Gx Go.Gx Go.Gx.T10 Go.Gx.T12 Go.Gx.T10 Go.Gx.T11 Go.Gx.T15 Go.Gx.T12 Go.Gx.T6 Go.Gx.T4
theorem cl61 : Callable Try.prog 61 := callable Try.func61 (by kernel_rfl) rfl
theorem bl119_0m1_1m1_2m1_3i1 (x0 : Option Nat) (x1 : Option Nat) (x2 : Option Nat) (x3 : Int) : Program.built Try.prog 119 [(0, Value.map x0), (1, Value.map x1), (2, Value.map x2), (3, Value.int .i64 x3)] = some #[Value.map x0, Value.map x1, Value.map x2, Value.int .i64 x3] := by
 kernel_rfl
theorem c_tnewS (a : ByteArray) {G : Ghost}  (w : World) (hG : Has G w) :
  Calls Try.prog 10 #[kS a] w (Ret fun r w' => ∃ p, r = Value.pointer (some ⟨p, 0, none⟩) ∧ Since nX w w' ∧ ∃ F', (treeE 119 122 3 kS p (newS a)).holds w' F' ∧ ∀ b, F' b → w.heap.size ≤ b) := by
 refine enter (args := [_]) (X := nX) (G := G) (l := [(0, kS a)]) Try.func10 rfl Try.ntmps10 hG ⟨rfl, trivial⟩ (Nat.le_of_ble_eq_true rfl) ?_
 refine c_seq ?_
 refine c_region ?_
 refine r_val .none rfl (p_assign rfl) ?_
 refine r_nil ?_
 refine e_next ?_
 refine c_seq ?_
 refine c_region ?_
 refine r_makemap .none rfl kI (veB (α := ByteArray)) (fun m_1 => ?_)
 refine r_makemap .none rfl kS veN (fun m_2 => ?_)
 refine r_makemap .none rfl kI veN (fun m_3 => ?_)
 refine r_val .none rfl (p_build (vs := [(0, Value.map _), (1, Value.map _), (2, Value.map _), (3, Value.int _ _)]) rfl (bl119_0m1_1m1_2m1_3i1 _ _ _ _)) ?_
 refine r_box .none rfl rfl (IsRow.lit _) (fun b_1 => ?_)
 refine r_val .none rfl (p_assign rfl) ?_
 refine r_nil ?_
 refine e_next ?_
 refine c_seq ?_
 refine c_region ?_
 refine r_val .none rfl (p_move rfl) ?_
 refine r_val .none rfl (p_move rfl) ?_
 refine r_hnil (FN (κ := Int)) ?_
 refine r_front (k := 2) rfl ?_
 refine r_shutN (c0 := []) rfl ?_
 refine r_hnil (FN (κ := ByteArray)) ?_
 refine r_front (k := 3) rfl ?_
 refine r_shutN (c0 := []) rfl ?_
 refine r_front (k := 3) rfl ?_
 refine r_front (k := 3) rfl ?_
 refine r_front (k := 3) rfl ?_
 refine r_front (k := 3) rfl ?_
 refine r_front (k := 3) rfl ?_
 refine r_front (k := 3) rfl ?_
 refine r_shutT (s := ⟨[], [], [], 0⟩) (m_1, m_2, m_3) ?_
 refine r_callo (k := 0) (vs := [_, _, _, _]) .none rfl cl61 rfl rfl (fun w F hw hA hFG => c_tputS b_1 0 a 0 ⟨[], [], [], 0⟩ (by decide) w hw hA hFG) ?_
 refine r_unex (fun bt => ?_)
 refine r_unpack ?_
 refine r_nil ?_
 refine e_next ?_
 refine c_seq ?_
 refine c_region ?_
 refine r_val .none rfl (p_move rfl) ?_
 refine r_val .none rfl (p_assign rfl) ?_
 refine r_nil ?_
 refine e_next ?_
 refine c_ret ?_
 refine e_hnil (FT 122 3 kS) ?_
 refine e_front (k := 1) rfl ?_
 refine e_fnew (F := FT 122 3 kS) (k := (1 : Int)) (bt, .slice none 0 0, ⟨a, 0, 0, []⟩) rfl ?_
 refine e_front (k := 1) rfl ?_
 refine e_ret1 Try.results10 (.tmp rfl .nil) (fun w hm => ⟨_, rfl, hm.made [treeR 119 kS b_1 ⟨[((1 : Int), (bt, .slice none 0 0, ⟨a, 0, 0, []⟩))], nput [] a 1, [], 1⟩, hoard (FT 122 3 kS) ([((1 : Int), (bt, .slice none 0 0, ⟨a, 0, 0, []⟩))])] (.keep (fun _ _ h => h) (.keep (fun _ _ h => h) .nil)) (treeE 119 122 3 kS _ (newS a)) (fun F' h => ⟨[((1 : Int), (bt, .slice none 0 0, ⟨a, 0, 0, []⟩))], rfl, h⟩)⟩)
theorem c_taddS {F : Nat → Prop} {G : Ghost} (p : Nat) (par : Int) (a : ByteArray) (f : Int) (s : TS (Tk ByteArray) ByteArray) (hla : 0 ≤ s.last ∧ s.last ≤ 1000) (hlo : ∀ id x, lkp s.toks id = some x → id ≤ s.last) (hkl : ∀ id x, lkp s.toks id = some x → x.kids.length ≤ 1000) (w : World) (hG : Has G w) (hA : (treeE 119 122 3 kS p s).holds w F) (hFG : ∀ b, F b → G b = none) :
  Calls Try.prog 13 #[Value.pointer (some ⟨p, 0, none⟩), Value.int .i64 par, kS a, Value.int .i64 f] w (Ret fun r w' => r = Value.tuple #[Value.int .i64 (addN s par), Value.int .i64 (addX s par)] ∧ Kept (treeE 119 122 3 kS p (addS s par a f)) F w w') := by
 refine enterO (args := [_, _, _, _]) (G := G) (A := treeE 119 122 3 kS p s) (l := [(0, Value.pointer (some ⟨p, 0, none⟩)), (1, Value.int .i64 par), (2, kS a), (3, Value.int .i64 f)]) Try.func13 rfl Try.ntmps13 hG hA hFG ⟨rfl, rfl, rfl, rfl, trivial⟩ (Nat.le_of_ble_eq_true rfl) ?_
 refine c_unex (fun l => ?_)
 refine c_unand (fun hl => ?_)
 refine c_unpack ?_
 refine c_openT (fun z => ?_)
 obtain ⟨q, m2, m3⟩ := z
 dsimp only [treeC]
 have hno : lkp l (s.last + 1) = none := by (cases hq : lkp l (s.last + 1) with | none => rfl | some v => (have h9 := hlo (s.last + 1) v.2.2 (by rw [hl, eraT_lkp, hq]; rfl); omega))
 refine c_seq ?_
 refine c_region ?_
 refine r_val .none rfl (p_assign rfl) ?_
 refine r_val .none rfl (p_assign rfl) ?_
 refine r_nil ?_
 refine e_next ?_
 refine c_seq ?_
 refine c_region ?_
 refine r_val .none rfl (p_move rfl) ?_
 refine r_val .none rfl (p_nilcheck rfl) ?_
 refine r_val .none rfl (p_field Try.underlying119 rfl sz115 rfl) ?_
 refine r_val .none rfl (p_ld (k := 0) Try.underlying115 rfl rfl rfl (by first | exact of_decide_eq_true rfl | omega) (rfl : _ = Value.map _)) ?_
 refine r_val .none rfl (p_move rfl) ?_
 rcases hN : lkp l par with _ | ⟨bx, kv, x⟩
 ·
  refine r_val .none rfl (p_lookup_no (i := 1) Try.underlying115 (KeyT.int Try.underlying3) zr120 rfl rfl rfl hN) ?_
  refine r_val .none rfl (p_assign rfl) ?_
  refine r_nil ?_
  refine e_next ?_
  refine c_seq ?_
  refine c_seq ?_
  refine c_region ?_
  refine r_val .none rfl (p_move rfl) ?_
  refine r_val .none rfl (p_eq_ptr Try.underlying120 (by first | exact .inr rfl | exact .inl rfl) rfl rfl) ?_
  refine r_say (d := 19) (v := Value.bool true) rfl ?_
  refine r_nil ?_
  refine e_next ?_
  refine c_cond_t rfl ?_
  refine c_seq ?_
  refine c_region ?_
  refine r_val .none rfl (p_assign rfl) ?_
  refine r_val .none rfl (p_assign rfl) ?_
  refine r_nil ?_
  refine e_next ?_
  refine c_ret ?_
  refine e_ret_then ?_
  refine e_front (k := 3) rfl ?_
  refine e_front (k := 3) rfl ?_
  refine e_front (k := 3) rfl ?_
  refine e_front (k := 3) rfl ?_
  refine e_shutT (s := ⟨l, s.pl, s.fc, s.last⟩) (q, m2, m3) ?_
  refine e_retn Try.results13 (.tmp rfl (.tmp rfl .nil)) rfl (fun w hm => ?_)
  obtain ⟨e1, e2, e3⟩ := addS_none (a := a) (f := f) hl hN
  rw [e1, e2, e3]
  exact ⟨rfl, hm.kept [treeR 119 kS p ⟨l, s.pl, s.fc, s.last⟩, hoard (FT 122 3 kS) (l)] (.keep (fun _ _ h => h) (.keep (fun _ _ h => h) .nil)) (treeE 119 122 3 kS p s) (fun F' h => ⟨l, hl, h⟩)⟩
 ·
  have hle : par ≤ s.last := hlo par x (by rw [hl, eraT_lkp, hN]; rfl)
  refine r_val .none rfl (p_lookup_yes (i := 1) Try.underlying115 (KeyT.int Try.underlying3) zr120 rfl rfl rfl hN) ?_
  refine r_val .none rfl (p_assign rfl) ?_
  refine r_nil ?_
  refine e_next ?_
  refine c_seq ?_
  refine c_seq ?_
  refine c_region ?_
  refine r_val .none rfl (p_move rfl) ?_
  refine r_val .none rfl (p_eq_ptr Try.underlying120 (by first | exact .inr rfl | exact .inl rfl) rfl rfl) ?_
  refine r_say (d := 19) (v := Value.bool false) rfl ?_
  refine r_nil ?_
  refine e_next ?_
  refine c_cond_f rfl ?_
  refine c_skip ?_
  refine e_next ?_
  refine c_seq ?_
  refine c_region ?_
  refine r_val .none rfl (p_move rfl) ?_
  refine r_val .none rfl (p_move rfl) ?_
  refine r_val .none rfl (p_move rfl) ?_
  refine r_val .none rfl (p_move rfl) ?_
  refine r_front (k := 3) rfl ?_
  refine r_front (k := 3) rfl ?_
  refine r_front (k := 3) rfl ?_
  refine r_front (k := 3) rfl ?_
  refine r_shutT (s := ⟨l, s.pl, s.fc, s.last⟩) (q, m2, m3) ?_
  refine r_callo (k := 0) (vs := [_, _, _, _]) .none rfl cl61 rfl rfl (fun w F hw hA hFG => c_tputS p par a f ⟨l, s.pl, s.fc, s.last⟩ hla w hw hA hFG) ?_
  refine r_unex (fun b2 => ?_)
  refine r_unpack ?_
  refine r_front (k := 2) rfl ?_
  refine r_front (k := 1) rfl ?_
  refine r_fnewT (k := s.last + 1) hno ?_
  have hk2 : lkp (mput l (s.last + 1) (b2, .slice none 0 0, ⟨a, par, f, []⟩)) par = some (bx, kv, x) := by rw [lkp_mput, if_neg (by omega)]; exact hN
  refine r_ftok hk2 ?_
  dsimp only [tkC]
  refine r_row1 (k := 1) rfl (fun o1 => ?_)
  refine r_val .none rfl (p_assign rfl) ?_
  refine r_nil ?_
  refine e_next ?_
  refine c_seq ?_
  refine c_region ?_
  have hkb : x.kids.length ≤ 1000 := hkl par x (by rw [hl, eraT_lkp, hN]; rfl)
  refine r_val .none rfl (p_move rfl) ?_
  refine r_val .none rfl (p_move rfl) ?_
  refine r_val .none rfl (p_nilcheck rfl) ?_
  refine r_val .none rfl (p_field Try.underlying122 rfl sz42 rfl) ?_
  refine r_val .none rfl (p_ld (k := 0) Try.underlying42 rfl rfl rfl (by first | exact of_decide_eq_true rfl | omega) rfl) ?_
  refine r_val .none rfl (p_move rfl) ?_
  refine r_bslice (vs := [(0, Value.int _ _)]) (c := #[_]) .none rfl Try.underlying42 el3 rfl rfl rfl (bs3_10i2 _ _) (IsRow.lit _) (fun b_1 => ?_)
  refine r_append (k := 2) (k2 := 0) .none rfl Try.underlying42 el3 rfl (by decide) rfl rfl rfl rfl rfl (one_lit rfl rfl) (by simp only [maxLen]; omega) (by omega) (fun v_1 => ?_)
  refine r_row1 (k := 2) rfl (fun o_2 => ?_)
  refine r_val .none rfl (p_nilcheck rfl) ?_
  refine r_val .none rfl (p_field Try.underlying122 rfl sz42 rfl) ?_
  refine r_st (k := 1) .none sz42 rfl rfl o_2 rfl (by first | exact of_decide_eq_true rfl | omega) ?_
  refine r_drop0 ?_
  refine r_front (k := 3) rfl ?_
  refine r_front (k := 3) rfl ?_
  refine r_front (k := 3) rfl ?_
  refine r_front (k := 3) rfl ?_
  refine r_conv (B := box bx 4 122 (at_ (tkC kS (bx, v_1, ⟨x.pla, x.par, x.fac, x.kids ++ [s.last + 1]⟩)))) (k := 0) rfl (fun _ _ h => box_congr (fun i hi => by match i, hi with | 0, _ => rfl | 1, _ => rfl | 2, _ => rfl | 3, _ => rfl) _ _ h) ?_
  refine r_conv (B := rowA v_1 3 1 (x.kids ++ [s.last + 1]).length ((x.kids ++ [s.last + 1]).flatMap cI)) (k := 1) rfl (fun _ _ h => rowA_snoc rfl rfl rfl rfl _ _ h) ?_
  dsimp only [List.set_cons_zero, List.set_cons_succ]
  refine r_tokBack (v := (bx, v_1, ⟨x.pla, x.par, x.fac, x.kids ++ [s.last + 1]⟩)) hk2 ?_
  refine r_front (k := 1) rfl ?_
  refine r_nil ?_
  refine e_next ?_
  refine c_seq ?_
  refine c_region ?_
  refine r_val .none rfl (p_move rfl) ?_
  refine r_val .none rfl (p_assign rfl) ?_
  refine r_val .none rfl (p_assign rfl) ?_
  refine r_nil ?_
  refine e_next ?_
  refine c_ret ?_
  refine e_retn Try.results13 (.tmp rfl (.tmp rfl .nil)) rfl (fun w hm => ?_)
  obtain ⟨e1, e2, e3⟩ := addS_some (a := a) (f := f) (b2 := b2) (v2 := v_1) hl hN
  rw [e1, e2, e3]
  exact ⟨rfl, hm.kept [treeR 119 kS p ⟨(mput (mput l (s.last + 1) (b2, .slice none 0 0, ⟨a, par, f, []⟩)) par (bx, v_1, ⟨x.pla, x.par, x.fac, x.kids ++ [s.last + 1]⟩)), nput s.pl a (s.last + 1), if f = 0 then s.fc else nput s.fc f (s.last + 1), s.last + 1⟩, hoard (FT 122 3 kS) ((mput (mput l (s.last + 1) (b2, .slice none 0 0, ⟨a, par, f, []⟩)) par (bx, v_1, ⟨x.pla, x.par, x.fac, x.kids ++ [s.last + 1]⟩)))] (.keep (fun _ _ h => treeR_retell (u := (bx, kv, x)) (v := (bx, v_1, ⟨x.pla, x.par, x.fac, x.kids ++ [s.last + 1]⟩)) hk2 rfl h) (.keep (fun _ _ h => h) .nil)) (treeE 119 122 3 kS p _) (fun F' h => ⟨(mput (mput l (s.last + 1) (b2, .slice none 0 0, ⟨a, par, f, []⟩)) par (bx, v_1, ⟨x.pla, x.par, x.fac, x.kids ++ [s.last + 1]⟩)), rfl, h⟩)⟩
end Go.Proofs.Ytdcaehepmkhciaa

/- Walks: what Go functions of this chapter come to, each as a function on plain data; no condition but those that each theorem names. Printed by a program of this work (gen.py). -/
namespace Go.Proofs.Ytdcaehepmkhciaa
open Go.Gx Go.Gx Go.Gx.T10 Go.Gx.T12 Go.Gx.T10 Go.Gx.T11 Go.Gx.T15 Go.Gx.T12 Go.Gx.T6 Go.Gx.T4
theorem cl64 : Callable Try.prog 64 := callable Try.func64 (by kernel_rfl) rfl
theorem cl98 : Callable Try.prog 98 := callable Try.func98 (by kernel_rfl) rfl
theorem cl99 : Callable Try.prog 99 := callable Try.func99 (by kernel_rfl) rfl
theorem bl40_0i1_1s1_2i1 (x0 : Int) (x1 : ByteArray) (x2 : Int) : Program.built Try.prog 40 [(0, Value.int .i64 x0), (1, Value.string x1), (2, Value.int .i64 x2)] = some #[Value.int .i64 x0, Value.string x1, Value.int .i64 x2] := by
 kernel_rfl
theorem bs40_10a3 (a0 a1 a2 : Value) : Instr.fill (fun i => some (i * 3, 3)) ((Array.range (1 * 3)).map ((Value.agg #[Value.int .i64 0, Value.string ⟨#[]⟩, Value.int .i64 0]).cells[· % (Value.agg #[Value.int .i64 0, Value.string ⟨#[]⟩, Value.int .i64 0]).cells.size]!)) [(0, Value.agg #[a0, a1, a2])] = some #[a0, a1, a2] := by
 kernel_rfl
theorem el40 : ElemIs Try.prog 40 3 32 (Value.agg #[Value.int .i64 0, Value.string ⟨#[]⟩, Value.int .i64 0]) := by
 unfold ElemIs
 kernel_rfl
theorem map_id_getD {α : Type} {ks : List (RT α)} {j : Nat} (d : RT α) (h : j < ks.length) : (ks.map RT.id).getD j 0 = (ks.getD j d).id := by simp [List.getD, h]
def BelowIsS (n : Nat) : Prop := ∀ (p : Nat) (T : RT ByteArray) (B : Int → TB ByteArray) (s : TS (TB ByteArray) ByteArray) (ov : Value) (out : List (Gn ByteArray)) (G : Ghost) (F : Nat → Prop) (w : World), SizeOf.sizeOf T ≤ n → Fits B T → (∀ q ∈ post T, lkp s.toks q.1 = some (B q.1)) → (∀ q ∈ post T, TokAt G kS (B q.1)) → ((post T).map (·.1)).Nodup → out.length + (post T).length ≤ 1000 → Has G w → (starL [rowA ov 40 3 (out).length ((out).flatMap (gnC kS)), treeR 119 kS p s]).holds w F → (∀ b, F b → G b = none) → Calls Try.prog 64 #[.pointer (some ⟨p, 0, none⟩), .int .i64 T.id, ov] w (Ret fun r w' => Kept (starL [rowA r 40 3 ((out ++ post T)).length (((out ++ post T)).flatMap (gnC kS)), treeR 119 kS p (outs s (post T))]) F w w')
def BelowIsI (n : Nat) : Prop := ∀ (p : Nat) (T : RT Int) (B : Int → TB Int) (s : TS (TB Int) Int) (ov : Value) (out : List (Gn Int)) (G : Ghost) (F : Nat → Prop) (w : World), SizeOf.sizeOf T ≤ n → Fits B T → (∀ q ∈ post T, lkp s.toks q.1 = some (B q.1)) → (∀ q ∈ post T, TokAt G kI (B q.1)) → ((post T).map (·.1)).Nodup → out.length + (post T).length ≤ 1000 → Has G w → (starL [rowA ov 53 3 (out).length ((out).flatMap (gnC kI)), treeR 127 kI p s]).holds w F → (∀ b, F b → G b = none) → Calls Try.prog 67 #[.pointer (some ⟨p, 0, none⟩), .int .i64 T.id, ov] w (Ret fun r w' => Kept (starL [rowA r 53 3 ((out ++ post T)).length (((out ++ post T)).flatMap (gnC kI)), treeR 127 kI p (outs s (post T))]) F w w')
theorem c_belowS_s {F : Nat → Prop} {G : Ghost} (n : Nat) (ih : BelowIsS n) (p : Nat) (id : Int) (a : ByteArray) (f : Int) (ks : List (RT ByteArray)) (bx : Nat) (kv : Value) (xp : Int) (B : Int → TB ByteArray) (s : TS (TB ByteArray) ByteArray) (ov : Value) (out : List (Gn ByteArray)) (hz : SizeOf.sizeOf ks ≤ n) (hB : B id = (bx, kv, ⟨a, xp, f, ks.map RT.id⟩)) (hfl : FitsL B ks) (hin : ∀ q ∈ post (RT.mk id a f ks), lkp s.toks q.1 = some (B q.1)) (htok : ∀ q ∈ post (RT.mk id a f ks), TokAt G kS (B q.1)) (hndL : ((postL ks).map (·.1)).Nodup) (hroom : out.length + ((postL ks).length + 1) ≤ 1000) (w : World) (hG : Has G w) (hA : (starL [rowA ov 40 3 (out).length ((out).flatMap (gnC kS)), treeR 119 kS p s]).holds w F) (hFG : ∀ b, F b → G b = none) :
  Calls Try.prog 64 #[Value.pointer (some ⟨p, 0, none⟩), Value.int .i64 id, ov] w (Ret fun r w' => Kept (starL [rowA r 40 3 ((out ++ post (RT.mk id a f ks))).length (((out ++ post (RT.mk id a f ks))).flatMap (gnC kS)), treeR 119 kS p (outs s (post (RT.mk id a f ks)))]) F w w') := by
 refine enterO (args := [_, _, _]) (G := G) (A := starL [rowA ov 40 3 (out).length ((out).flatMap (gnC kS)), treeR 119 kS p s]) (l := [(0, Value.pointer (some ⟨p, 0, none⟩)), (1, Value.int .i64 id), (2, ov)]) Try.func64 rfl Try.ntmps64 hG hA hFG ⟨rfl, rfl, rfl, trivial⟩ (Nat.le_of_ble_eq_true rfl) ?_
 have hmem : (id, a, f) ∈ post (RT.mk id a f ks) := List.mem_append_right _ (List.mem_singleton.2 rfl)
 have hin0 : lkp s.toks id = some (bx, kv, ⟨a, xp, f, ks.map RT.id⟩) := by rw [← hB]; exact hin _ hmem
 have ht0 : TokAt G kS (bx, kv, ⟨a, xp, f, ks.map RT.id⟩) := by rw [← hB]; exact htok _ hmem
 have hR : RowAt G bx 0 4 (at_ [kS a, .int .i64 xp, .int .i64 f, kv]) := ht0.1
 have hK : SlL G kv 1 cI (0 : Int) (ks.map RT.id) := ht0.2
 have hlk : (ks.map RT.id).length = ks.length := List.length_map _
 refine c_unpack ?_
 refine c_row1 (k := 0) rfl (fun oo => ?_)
 refine c_front (k := 1) rfl ?_
 refine c_openT (fun z => ?_)
 obtain ⟨q, m2, m3⟩ := z
 dsimp only [treeC]
 refine c_seq ?_
 refine c_region ?_
 refine r_val .none rfl (p_assign rfl) ?_
 refine r_nil ?_
 refine e_next ?_
 refine c_seq ?_
 refine c_region ?_
 refine r_val .none rfl (p_move rfl) ?_
 refine r_val .none rfl (p_nilcheck rfl) ?_
 refine r_val .none rfl (p_field Try.underlying119 rfl sz115 rfl) ?_
 refine r_val .none rfl (p_ld (k := 0) Try.underlying115 rfl rfl rfl (by first | exact of_decide_eq_true rfl | omega) (rfl : _ = Value.map _)) ?_
 refine r_val .none rfl (p_move rfl) ?_
 refine r_val .none rfl (p_lookup_yes (i := 1) (k := id) Try.underlying115 (KeyT.int Try.underlying3) zr120 rfl rfl rfl hin0) ?_
 refine r_val .none rfl (p_assign rfl) ?_
 refine r_nil ?_
 refine e_next ?_
 refine c_seq ?_
 refine c_seq ?_
 refine c_region ?_
 refine r_val .none rfl (p_move rfl) ?_
 refine r_val .none rfl (p_nilcheck rfl) ?_
 refine r_val .none rfl (p_field Try.underlying122 rfl sz42 rfl) ?_
 refine r_val .none rfl (p_ldg (j := 3) Try.underlying42 rfl rfl hR (by first | exact of_decide_eq_true rfl | omega) rfl) ?_
 refine r_val .none rfl (p_leng Try.underlying42 rfl hK) ?_
 have bd_1 := (hK).bound
 refine r_val .none rfl (p_move rfl) ?_
 refine r_nil ?_
 refine e_next ?_
 refine c_block ?_
 refine c_front (k := 3) rfl ?_
 refine c_front (k := 3) rfl ?_
 refine c_front (k := 3) rfl ?_
 refine c_front (k := 3) rfl ?_
 refine c_shutT (s := s) (q, m2, m3) ?_
 refine c_front (k := 1) rfl ?_
 refine c_name (d := 0) rfl (fun u_2 hu_2 => ?_)
 refine c_name (d := 1) rfl (fun u_3 hu_3 => ?_)
 refine c_name (d := 6) rfl (fun u_4 hu_4 => ?_)
 refine c_name (d := 7) rfl (fun u_5 hu_5 => ?_)
 refine c_name (d := 19) rfl (fun u_6 hu_6 => ?_)
 refine c_name (d := 20) rfl (fun u_7 hu_7 => ?_)
 refine c_loop (σ := Nat × Value) (fun s' => [(21, Value.int .i64 (s'.1 : Nat)), (2, s'.2), (0, u_2), (1, u_3), (6, u_4), (7, u_5), (19, u_6), (20, u_7)]) (fun s' => [rowA (s'.2) 40 3 ((out ++ postL (ks.take s'.1))).length (((out ++ postL (ks.take s'.1))).flatMap (gnC kS)), treeR 119 kS p (outs s (postL (ks.take s'.1)))]) (fun _ => _) (fun s' => s'.1 ≤ ks.length) (fun s' => ks.length - s'.1) ((0, _)) (Nat.zero_le _) rfl ⟨rfl, rfl, rfl, rfl, rfl, rfl, rfl, rfl, trivial⟩ (.keep (fun _ _ h => by rw [List.take_zero]; show (rowA _ _ _ (out ++ []).length ((out ++ []).flatMap _)).holds _ _; rw [List.append_nil]; exact h) (.keep (fun _ _ h => h) (.nil))) (fun s' hphi => ?_)
 subst hu_2
 subst hu_3
 subst hu_4
 subst hu_5
 subst hu_6
 subst hu_7
 obtain ⟨j, ov2⟩ := s'
 dsimp only at hphi ⊢
 refine c_seq ?_
 refine c_region ?_
 refine r_val .none rfl (p_lt rfl rfl) ?_
 refine r_nil ?_
 refine e_next ?_
 refine c_seq ?_
 refine c_splitd (d := 22) rfl (fun h_8 => ?_) (fun h_8 => ?_)
 ·
  have hjk : j < ks.length := by (have h9 := h_8; omega)
  have hzj : SizeOf.sizeOf (ks.getD j (RT.mk 0 ByteArray.empty 0 [])) ≤ n := Nat.le_of_lt (Nat.lt_of_lt_of_le (List.sizeOf_lt_of_mem (getD_mem (i := j) (d := (RT.mk 0 ByteArray.empty 0 [])) hjk)) hz)
  first
   | (exfalso; omega)
   | (
    refine c_cond_t rfl ?_
    refine c_skip ?_
    refine e_next ?_
    refine c_seq ?_
    refine c_block ?_
    refine c_seq ?_
    refine c_region ?_
    refine r_iaddr_g .none rfl Try.underlying42 sz3 rfl hK rfl (by first | exact of_decide_eq_true rfl | omega) (fun p_10 o_11 R_9 => ?_)
    refine r_val .none rfl (p_ldg0 Try.underlying3 rfl rfl R_9 (by first | exact of_decide_eq_true rfl | omega) (rfl : _ = Value.int _ _)) ?_
    rw [show (ks.map RT.id).getD j 0 = (ks.getD j (RT.mk 0 ByteArray.empty 0 [])).id from map_id_getD (RT.mk 0 ByteArray.empty 0 []) hjk]
    refine r_val .none rfl (p_assign rfl) ?_
    refine r_nil ?_
    refine e_next ?_
    refine c_region ?_
    refine r_val .none rfl (p_move rfl) ?_
    refine r_val .none rfl (p_move rfl) ?_
    refine r_val .none rfl (p_move rfl) ?_
    refine r_front (k := 1) rfl ?_
    refine r_front (k := 1) rfl ?_
    refine r_pack [_, _] ?_
    refine r_callor (k := 0) (vs := [_, _, _]) .none rfl cl64 rfl rfl (fun w F hw hA hFG => ih p (ks.getD j (RT.mk 0 ByteArray.empty 0 [])) B (outs s (postL (ks.take j))) ov2 (out ++ postL (ks.take j)) _ F w hzj (fitsL_get (RT.mk 0 ByteArray.empty 0 []) hfl hjk) (fun q hq => by rw [outs_lkp _ _ (post_after (RT.mk 0 ByteArray.empty 0 []) hjk hndL hq)]; exact hin q (List.mem_append_left _ (post_sub (RT.mk 0 ByteArray.empty 0 []) hjk hq))) (fun q hq => htok q (List.mem_append_left _ (post_sub (RT.mk 0 ByteArray.empty 0 []) hjk hq))) (post_nodup (RT.mk 0 ByteArray.empty 0 []) hjk hndL) (by have h8 := post_len (RT.mk 0 ByteArray.empty 0 []) hjk; rw [List.length_append]; omega) hw hA hFG) (fun r_12 => ?_)
    refine r_unpack ?_
    refine r_val .none rfl (p_assign rfl) ?_
    refine r_nil ?_
    refine e_norm_block ?_
    refine e_next ?_
    refine c_region ?_
    refine r_val .none rfl (p_add rfl rfl (by omega)) ?_
    refine r_val .none rfl (p_move rfl) ?_
    refine r_nil ?_
    refine e_round ((j + 1, _)) ⟨by dsimp only; omega, by dsimp only; omega⟩ rfl ⟨rfl, rfl, rfl, rfl, rfl, rfl, rfl, rfl, trivial⟩ (.keep (fun _ _ h => by rw [postL_next (RT.mk 0 ByteArray.empty 0 []) hjk, ← List.append_assoc]; exact h) (.keep (fun _ _ h => by rw [postL_next (RT.mk 0 ByteArray.empty 0 []) hjk, outs_append]; exact h) (.nil)))
    )
 ·
  first
   | (exfalso; omega)
   | (
    refine c_cond_f rfl ?_
    refine c_exit ?_
    refine e_exit_then ?_
    refine e_exit_then ?_
    refine e_exit_block ?_
    refine e_next ?_
    refine c_seq ?_
    refine c_region ?_
    refine r_front (k := 1) rfl ?_
    refine r_openT (fun z => ?_)
    obtain ⟨q, m2, m3⟩ := z
    dsimp only [treeC]
    have hj9 : ks.take j = ks := List.take_of_length_le (by omega)
    refine r_val .none rfl (p_move rfl) ?_
    refine r_val .none rfl (p_nilcheck rfl) ?_
    refine r_val .none rfl (p_field Try.underlying119 rfl sz115 rfl) ?_
    refine r_val .none rfl (p_ld (k := 0) Try.underlying115 rfl rfl rfl (by first | exact of_decide_eq_true rfl | omega) (rfl : _ = Value.map _)) ?_
    refine r_val .none rfl (p_move rfl) ?_
    refine r_delete (i := 1) (k := id) .none Try.underlying115 (KeyT.int Try.underlying3) rfl rfl rfl rfl ?_
    refine r_nil ?_
    refine e_next ?_
    refine c_seq ?_
    refine c_region_d (fun _ => false) _ mixed (.keep (fun _ _ h => h) (.keep (fun _ _ h => h) (.drop (.keep (fun _ _ h => h) (.keep (fun _ _ h => h) (.nil)))))) ?_
    refine d_val1 0 rfl rfl (by kernel_rfl) (fun _ _ => rfl) .none rfl (p_move rfl) ?_
    refine d_val1 1 rfl rfl (by kernel_rfl) (fun _ _ => rfl) .none rfl (p_nilcheck rfl) ?_
    refine d_val1 2 rfl rfl (by kernel_rfl) (fun _ _ => rfl) .none rfl (p_field Try.underlying119 rfl sz116 rfl) ?_
    refine d_val1 3 rfl rfl (by kernel_rfl) (fun _ _ => rfl) .none rfl (p_ld (k := 0) Try.underlying116 rfl rfl rfl (by first | exact of_decide_eq_true rfl | omega) (rfl : _ = Value.map _)) ?_
    refine d_val1 4 rfl rfl (by kernel_rfl) (fun _ _ => rfl) .none rfl (p_move rfl) ?_
    refine d_val1 5 rfl rfl (by kernel_rfl) (fun _ _ => rfl) .none rfl (p_nilcheck rfl) ?_
    refine d_val1 6 rfl rfl (by kernel_rfl) (fun _ _ => rfl) .none rfl (p_field Try.underlying122 rfl sz9 rfl) ?_
    refine d_val1 7 rfl rfl (by kernel_rfl) (fun _ _ => rfl) .none rfl (p_ldg (j := 0) Try.underlying9 rfl rfl hR (by first | exact of_decide_eq_true rfl | omega) (rfl : _ = Value.string _)) ?_
    refine d_val1 8 rfl rfl (by kernel_rfl) (fun _ _ => rfl) .none rfl (p_move rfl) ?_
    refine d_eff 9 rfl (by kernel_rfl) (fun K_13 hKK_13 hcK_13 => ?_)
    refine r_callo (k := 2) (vs := [_, _, _]) .none rfl cl98 rfl rfl (fun w F hw hA hFG => c_ndropS _ _ _ _ w hw hA hFG) ?_
    refine r_nil (e_d (i := 9) (brk := (fun _ => false)) (ph' := true) hKK_13 hcK_13 rfl (fun _ => GLe.refl _) (fun _ => .keep (fun _ _ h => h) (.keep (fun _ _ h => h) (.drop (.keep (fun _ _ h => h) (.keep (fun _ _ h => h) (.nil)))))) ?_)
    clear hKK_13 hcK_13 K_13
    refine d_nil (by kernel_rfl) ?_
    refine e_next ?_
    refine c_seq ?_
    refine c_seq ?_
    refine c_region ?_
    refine r_val .none rfl (p_move rfl) ?_
    refine r_val .none rfl (p_nilcheck rfl) ?_
    refine r_val .none rfl (p_field Try.underlying122 rfl sz3 rfl) ?_
    refine r_val .none rfl (p_ldg (j := 2) Try.underlying3 rfl rfl hR (by first | exact of_decide_eq_true rfl | omega) (rfl : _ = Value.int _ _)) ?_
    refine r_val .none rfl (p_ne rfl rfl) ?_
    refine r_nil ?_
    refine e_next ?_
    refine c_splitd (d := 49) rfl (fun h_14 => ?_) (fun h_14 => ?_)
    ·
     have hf : ¬ f = 0 := h_14
     first
      | (exfalso; omega)
      | (
       refine c_cond_t rfl ?_
       refine c_region_d (fun _ => false) _ mixed (.keep (fun _ _ h => h) (.keep (fun _ _ h => h) (.keep (fun _ _ h => h) (.drop (.keep (fun _ _ h => h) (.nil)))))) ?_
       refine d_val1 0 rfl rfl (by kernel_rfl) (fun _ _ => rfl) .none rfl (p_move rfl) ?_
       refine d_val1 1 rfl rfl (by kernel_rfl) (fun _ _ => rfl) .none rfl (p_nilcheck rfl) ?_
       refine d_val1 2 rfl rfl (by kernel_rfl) (fun _ _ => rfl) .none rfl (p_field Try.underlying119 rfl sz117 rfl) ?_
       refine d_val1 3 rfl rfl (by kernel_rfl) (fun _ _ => rfl) .none rfl (p_ld (k := 0) Try.underlying117 rfl rfl rfl (by first | exact of_decide_eq_true rfl | omega) (rfl : _ = Value.map _)) ?_
       refine d_val1 4 rfl rfl (by kernel_rfl) (fun _ _ => rfl) .none rfl (p_move rfl) ?_
       refine d_val1 5 rfl rfl (by kernel_rfl) (fun _ _ => rfl) .none rfl (p_nilcheck rfl) ?_
       refine d_val1 6 rfl rfl (by kernel_rfl) (fun _ _ => rfl) .none rfl (p_field Try.underlying122 rfl sz3 rfl) ?_
       refine d_val1 7 rfl rfl (by kernel_rfl) (fun _ _ => rfl) .none rfl (p_ldg (j := 2) Try.underlying3 rfl rfl hR (by first | exact of_decide_eq_true rfl | omega) (rfl : _ = Value.int _ _)) ?_
       refine d_val1 8 rfl rfl (by kernel_rfl) (fun _ _ => rfl) .none rfl (p_move rfl) ?_
       refine d_eff 9 rfl (by kernel_rfl) (fun K_15 hKK_15 hcK_15 => ?_)
       refine r_callo (k := 3) (vs := [_, _, _]) .none rfl cl99 rfl rfl (fun w F hw hA hFG => c_ndropI _ _ _ _ w hw hA hFG) ?_
       refine r_nil (e_d (i := 9) (brk := (fun _ => false)) (ph' := true) hKK_15 hcK_15 rfl (fun _ => GLe.refl _) (fun _ => .keep (fun _ _ h => h) (.keep (fun _ _ h => h) (.keep (fun _ _ h => h) (.drop (.keep (fun _ _ h => h) (.nil)))))) ?_)
       clear hKK_15 hcK_15 K_15
       refine d_nil (by kernel_rfl) ?_
       refine e_next ?_
       refine c_seq ?_
       refine c_region_d (fun _ => false) _ mixed (.keep (fun _ _ h => h) (.keep (fun _ _ h => h) (.keep (fun _ _ h => h) (.keep (fun _ _ h => h) (.drop (.nil)))))) ?_
       refine d_val1 0 rfl rfl (by kernel_rfl) (fun _ _ => rfl) .none rfl (p_move rfl) ?_
       refine d_val1 1 rfl rfl (by kernel_rfl) (fun _ _ => rfl) .none rfl (p_move rfl) ?_
       refine d_val1 2 rfl rfl (by kernel_rfl) (fun _ _ => rfl) .none rfl (p_move rfl) ?_
       refine d_val1 3 rfl rfl (by kernel_rfl) (fun _ _ => rfl) .none rfl (p_nilcheck rfl) ?_
       refine d_val1 4 rfl rfl (by kernel_rfl) (fun _ _ => rfl) .none rfl (p_field Try.underlying122 rfl sz9 rfl) ?_
       refine d_val1 5 rfl rfl (by kernel_rfl) (fun _ _ => rfl) .none rfl (p_ldg (j := 0) Try.underlying9 rfl rfl hR (by first | exact of_decide_eq_true rfl | omega) (rfl : _ = Value.string _)) ?_
       refine d_val1 6 rfl rfl (by kernel_rfl) (fun _ _ => rfl) .none rfl (p_move rfl) ?_
       refine d_val1 7 rfl rfl (by kernel_rfl) (fun _ _ => rfl) .none rfl (p_nilcheck rfl) ?_
       refine d_val1 8 rfl rfl (by kernel_rfl) (fun _ _ => rfl) .none rfl (p_field Try.underlying122 rfl sz3 rfl) ?_
       refine d_val1 9 rfl rfl (by kernel_rfl) (fun _ _ => rfl) .none rfl (p_ldg (j := 2) Try.underlying3 rfl rfl hR (by first | exact of_decide_eq_true rfl | omega) (rfl : _ = Value.int _ _)) ?_
       refine d_val1 10 rfl rfl (by kernel_rfl) (fun _ _ => rfl) .none rfl (p_build (vs := [(0, Value.int _ _), (1, Value.string _), (2, Value.int _ _)]) rfl (bl40_0i1_1s1_2i1 _ _ _)) ?_
       refine d_eff 11 rfl (by kernel_rfl) (fun K_16 hKK_16 hcK_16 => ?_)
       refine r_bslice (vs := [(0, Value.agg #[_, _, _])]) (c := #[_, _, _]) .none rfl Try.underlying28 el40 rfl rfl rfl (bs40_10a3 _ _ _) (IsRow.lit _) (fun b_1 => ?_)
       refine r_nil (e_d (i := 11) (brk := (fun _ => false)) (ph' := true) hKK_16 hcK_16 rfl (fun _ => GLe.refl _) (fun _ => .drop (.keep (fun _ _ h => h) (.keep (fun _ _ h => h) (.keep (fun _ _ h => h) (.keep (fun _ _ h => h) (.drop (.nil))))))) ?_)
       clear hKK_16 hcK_16 K_16
       refine d_eff 12 rfl (by kernel_rfl) (fun K_17 hKK_17 hcK_17 => ?_)
       refine r_append (k := 5) (k2 := 0) .none rfl Try.underlying28 el40 rfl (by decide) rfl rfl rfl rfl rfl (one_lit rfl rfl) (by simp only [maxLen]; rw [hj9, List.length_append]; omega) (by rw [hj9, List.length_append]; omega) (fun v_18 => ?_)
       refine r_row1 (k := 5) rfl (fun o_19 => ?_)
       refine r_nil (e_d (i := 12) (brk := (fun _ => false)) (ph' := true) hKK_17 hcK_17 rfl (fun _ => GLe.refl _) (fun _ => .drop (.keep (fun _ _ h => h) (.keep (fun _ _ h => h) (.keep (fun _ _ h => h) (.keep (fun _ _ h => h) (.drop (.nil))))))) ?_)
       clear hKK_17 hcK_17 K_17
       refine d_val1 13 rfl rfl (by kernel_rfl) (fun _ _ => rfl) .none rfl (p_assign rfl) ?_
       refine d_nil (by kernel_rfl) ?_
       refine e_next ?_
       refine c_ret ?_
       have hpost : outs s (post (RT.mk id a f ks)) = out1 (outs s (postL (ks.take j))) (id, a, f) := by rw [hj9, post, outs_append]; rfl
       refine e_front (k := 4) rfl ?_
       refine e_front (k := 4) rfl ?_
       refine e_front (k := 4) rfl ?_
       refine e_front (k := 4) rfl ?_
       refine e_front (k := 5) rfl ?_
       refine e_ret1 Try.results64 (.tmp rfl .nil) (fun w hm => hm.kept ([rowA v_18 40 3 ((out ++ post (RT.mk id a f ks))).length (((out ++ post (RT.mk id a f ks))).flatMap (gnC kS))] ++ [box p 4 119 (at_ (treeC ((outs s (post (RT.mk id a f ks)))) (q, m2, m3))), mapA q kI veB ((outs s (post (RT.mk id a f ks)))).toks, nestA kS m2 ((outs s (post (RT.mk id a f ks)))).pl, nestA kI m3 ((outs s (post (RT.mk id a f ks)))).fc]) (.keep (fun _ _ h => rowA_snoc (l := out ++ postL (ks.take j)) (x := (id, a, f)) (by rw [hj9]; simp [post]) rfl rfl rfl _ _ h) (.keep (fun _ _ h => by rw [hpost]; exact h) (.keep (fun _ _ h => by rw [hpost]; exact h) (.keep (fun _ _ h => by rw [hpost]; exact h) (.keep (fun _ _ h => by rw [hpost]; show (nestA kI m3 (if f = 0 then _ else _)).holds _ _; rw [if_neg hf]; exact h) (.drop (.nil))))))) (starL [rowA v_18 40 3 ((out ++ post (RT.mk id a f ks))).length (((out ++ post (RT.mk id a f ks))).flatMap (gnC kS)), treeR 119 kS p (outs s (post (RT.mk id a f ks)))]) (fun F' h => shut_row (q, m2, m3) h))
       )
    ·
     have hf : f = 0 := Decidable.not_not.1 h_14
     first
      | (exfalso; omega)
      | (
       refine c_cond_f rfl ?_
       refine c_skip ?_
       refine e_next ?_
       refine c_seq ?_
       refine c_region_d (fun _ => false) _ mixed (.keep (fun _ _ h => h) (.keep (fun _ _ h => h) (.keep (fun _ _ h => h) (.keep (fun _ _ h => h) (.drop (.nil)))))) ?_
       refine d_val1 0 rfl rfl (by kernel_rfl) (fun _ _ => rfl) .none rfl (p_move rfl) ?_
       refine d_val1 1 rfl rfl (by kernel_rfl) (fun _ _ => rfl) .none rfl (p_move rfl) ?_
       refine d_val1 2 rfl rfl (by kernel_rfl) (fun _ _ => rfl) .none rfl (p_move rfl) ?_
       refine d_val1 3 rfl rfl (by kernel_rfl) (fun _ _ => rfl) .none rfl (p_nilcheck rfl) ?_
       refine d_val1 4 rfl rfl (by kernel_rfl) (fun _ _ => rfl) .none rfl (p_field Try.underlying122 rfl sz9 rfl) ?_
       refine d_val1 5 rfl rfl (by kernel_rfl) (fun _ _ => rfl) .none rfl (p_ldg (j := 0) Try.underlying9 rfl rfl hR (by first | exact of_decide_eq_true rfl | omega) (rfl : _ = Value.string _)) ?_
       refine d_val1 6 rfl rfl (by kernel_rfl) (fun _ _ => rfl) .none rfl (p_move rfl) ?_
       refine d_val1 7 rfl rfl (by kernel_rfl) (fun _ _ => rfl) .none rfl (p_nilcheck rfl) ?_
       refine d_val1 8 rfl rfl (by kernel_rfl) (fun _ _ => rfl) .none rfl (p_field Try.underlying122 rfl sz3 rfl) ?_
       refine d_val1 9 rfl rfl (by kernel_rfl) (fun _ _ => rfl) .none rfl (p_ldg (j := 2) Try.underlying3 rfl rfl hR (by first | exact of_decide_eq_true rfl | omega) (rfl : _ = Value.int _ _)) ?_
       refine d_val1 10 rfl rfl (by kernel_rfl) (fun _ _ => rfl) .none rfl (p_build (vs := [(0, Value.int _ _), (1, Value.string _), (2, Value.int _ _)]) rfl (bl40_0i1_1s1_2i1 _ _ _)) ?_
       refine d_eff 11 rfl (by kernel_rfl) (fun K_20 hKK_20 hcK_20 => ?_)
       refine r_bslice (vs := [(0, Value.agg #[_, _, _])]) (c := #[_, _, _]) .none rfl Try.underlying28 el40 rfl rfl rfl (bs40_10a3 _ _ _) (IsRow.lit _) (fun b_2 => ?_)
       refine r_nil (e_d (i := 11) (brk := (fun _ => false)) (ph' := true) hKK_20 hcK_20 rfl (fun _ => GLe.refl _) (fun _ => .drop (.keep (fun _ _ h => h) (.keep (fun _ _ h => h) (.keep (fun _ _ h => h) (.keep (fun _ _ h => h) (.drop (.nil))))))) ?_)
       clear hKK_20 hcK_20 K_20
       refine d_eff 12 rfl (by kernel_rfl) (fun K_21 hKK_21 hcK_21 => ?_)
       refine r_append (k := 5) (k2 := 0) .none rfl Try.underlying28 el40 rfl (by decide) rfl rfl rfl rfl rfl (one_lit rfl rfl) (by simp only [maxLen]; rw [hj9, List.length_append]; omega) (by rw [hj9, List.length_append]; omega) (fun v_22 => ?_)
       refine r_row1 (k := 5) rfl (fun o_23 => ?_)
       refine r_nil (e_d (i := 12) (brk := (fun _ => false)) (ph' := true) hKK_21 hcK_21 rfl (fun _ => GLe.refl _) (fun _ => .drop (.keep (fun _ _ h => h) (.keep (fun _ _ h => h) (.keep (fun _ _ h => h) (.keep (fun _ _ h => h) (.drop (.nil))))))) ?_)
       clear hKK_21 hcK_21 K_21
       refine d_val1 13 rfl rfl (by kernel_rfl) (fun _ _ => rfl) .none rfl (p_assign rfl) ?_
       refine d_nil (by kernel_rfl) ?_
       refine e_next ?_
       refine c_ret ?_
       have hpost : outs s (post (RT.mk id a f ks)) = out1 (outs s (postL (ks.take j))) (id, a, f) := by rw [hj9, post, outs_append]; rfl
       refine e_front (k := 4) rfl ?_
       refine e_front (k := 4) rfl ?_
       refine e_front (k := 4) rfl ?_
       refine e_front (k := 4) rfl ?_
       refine e_front (k := 5) rfl ?_
       refine e_ret1 Try.results64 (.tmp rfl .nil) (fun w hm => hm.kept ([rowA v_22 40 3 ((out ++ post (RT.mk id a f ks))).length (((out ++ post (RT.mk id a f ks))).flatMap (gnC kS))] ++ [box p 4 119 (at_ (treeC ((outs s (post (RT.mk id a f ks)))) (q, m2, m3))), mapA q kI veB ((outs s (post (RT.mk id a f ks)))).toks, nestA kS m2 ((outs s (post (RT.mk id a f ks)))).pl, nestA kI m3 ((outs s (post (RT.mk id a f ks)))).fc]) (.keep (fun _ _ h => rowA_snoc (l := out ++ postL (ks.take j)) (x := (id, a, f)) (by rw [hj9]; simp [post]) rfl rfl rfl _ _ h) (.keep (fun _ _ h => by rw [hpost]; exact h) (.keep (fun _ _ h => by rw [hpost]; exact h) (.keep (fun _ _ h => by rw [hpost]; exact h) (.keep (fun _ _ h => by rw [hpost]; show (nestA kI m3 (if f = 0 then _ else _)).holds _ _; rw [if_pos hf]; exact h) (.drop (.nil))))))) (starL [rowA v_22 40 3 ((out ++ post (RT.mk id a f ks))).length (((out ++ post (RT.mk id a f ks))).flatMap (gnC kS)), treeR 119 kS p (outs s (post (RT.mk id a f ks)))]) (fun F' h => shut_row (q, m2, m3) h))
       )
    )
theorem c_belowS : ∀ n, BelowIsS n
 | 0 => fun p T B s ov out G F w hz => by cases T; simp at hz
 | n + 1 => fun p T B s ov out G F w hz hfit hin htok hnd hroom hG hA hFG => by
  obtain ⟨id, a, f, ks⟩ := T
  obtain ⟨h1, h2, h3, h4⟩ := hfit
  have hl : (post (RT.mk id a f ks)).length = (postL ks).length + 1 := by simp [post]
  refine c_belowS_s n (c_belowS n) p id a f ks (B id).1 (B id).2.1 (B id).2.2.par B s ov out (by simp at hz; omega) (by rw [← h1, ← h2, ← h3]) h4 hin htok ?_ (by omega) w hG hA hFG
  rw [post, List.map_append] at hnd
  exact (List.nodup_append.1 hnd).1
end Go.Proofs.Ytdcaehepmkhciaa

/- Walks: what Go functions of this chapter come to, each as a function on plain data; no condition but those that each theorem names. Printed by a program of this work (gen.py). -/
namespace Go.Proofs.Ytdcaehepmkhciaa
open Go.Gx Go.Gx Go.Gx.T10 Go.Gx.T12 Go.Gx.T10 Go.Gx.T11 Go.Gx.T15 Go.Gx.T12 Go.Gx.T6 Go.Gx.T4

theorem c_tdel1S (k id : Int) (b : Nat) {G : Ghost} (hR : RowAt G b 0 1 (at_ [.int .i64 id])) (w : World) (hG : Has G w) :
  Calls Try.prog 63 #[Value.int .i64 k, Value.pointer (some ⟨b, 0, none⟩)] w (Ret fun r w' => r = Value.bool (decide (k = id)) ∧ Since nX w w') := by
 refine enter (args := [_, _]) (X := nX) (G := G) (l := [(0, Value.int .i64 k), (1, Value.pointer (some ⟨b, 0, none⟩))]) Try.func63 rfl Try.ntmps63 hG ⟨rfl, rfl, trivial⟩ (Nat.le_of_ble_eq_true rfl) ?_
 refine c_seq ?_
 refine c_region ?_
 refine r_val .none rfl (p_assign rfl) ?_
 refine r_nil ?_
 refine e_next ?_
 refine c_seq ?_
 refine c_region ?_
 refine r_val .none rfl (p_move rfl) ?_
 refine r_val .none rfl (p_ldg0 Try.underlying3 rfl rfl hR (by first | exact of_decide_eq_true rfl | omega) (rfl : _ = Value.int _ _)) ?_
 refine r_val .none rfl (p_eq rfl rfl) ?_
 refine r_val .none rfl (p_assign rfl) ?_
 refine r_nil ?_
 refine e_next ?_
 refine c_ret ?_
 refine e_ret1 Try.results63 (.tmp rfl .nil) (fun w hm => ⟨?_, hm.since⟩)
 rfl
theorem c_tdelnoS {F : Nat → Prop} {G : Ghost} (p : Nat) (id : Int) (s : TS (Tk ByteArray) ByteArray) (hno : id = 1 ∨ lkp s.toks id = none) (w : World) (hG : Has G w) (hA : (treeE 119 122 3 kS p s).holds w F) (hFG : ∀ b, F b → G b = none) :
  Calls Try.prog 12 #[Value.pointer (some ⟨p, 0, none⟩), Value.int .i64 id] w (Ret fun r w' => ∃ v, r = Value.tuple #[v, Value.int .i64 (if id = 1 then (13 : Int) else 16)] ∧ Kept (starL [rowA v 40 3 (([] : List (Gn ByteArray))).length ((([] : List (Gn ByteArray))).flatMap (gnC kS)), treeE 119 122 3 kS p s]) F w w') := by
 refine enterO (args := [_, _]) (G := G) (A := treeE 119 122 3 kS p s) (l := [(0, Value.pointer (some ⟨p, 0, none⟩)), (1, Value.int .i64 id)]) Try.func12 rfl Try.ntmps12 hG hA hFG ⟨rfl, rfl, trivial⟩ (Nat.le_of_ble_eq_true rfl) ?_
 refine c_unex (fun l => ?_)
 refine c_unand (fun hl => ?_)
 refine c_unpack ?_
 refine c_openT (fun z => ?_)
 obtain ⟨q, m2, m3⟩ := z
 dsimp only [treeC]
 refine c_seq ?_
 refine c_region ?_
 refine r_box .none rfl rfl (IsRow.lit [_]) (fun b_1 => ?_)
 refine r_val .none rfl (p_assign rfl) ?_
 refine r_val .none rfl (p_assign rfl) ?_
 refine r_nil ?_
 refine e_next ?_
 refine c_seq ?_
 rcases hN : lkp l id with _ | v0
 ·
  refine c_region_q mixed (by kernel_rfl) ?_
  refine q_val .none rfl (p_move rfl) ?_
  refine q_val .none rfl (p_nilcheck rfl) ?_
  refine q_val .none rfl (p_field Try.underlying119 rfl sz115 rfl) ?_
  refine q_val .none rfl (p_ld (k := 1) Try.underlying115 rfl rfl rfl (by first | exact of_decide_eq_true rfl | omega) (rfl : _ = Value.map _)) ?_
  refine q_val .none rfl (p_ld (k := 0) Try.underlying3 rfl rfl rfl (by first | exact of_decide_eq_true rfl | omega) (rfl : _ = Value.int _ _)) ?_
  refine q_val .none rfl (p_lookup_no (i := 2) Try.underlying115 (KeyT.int Try.underlying3) zr120 rfl rfl rfl hN) ?_
  refine q_val .none rfl (p_assign rfl) ?_
  refine q_nil ?_
  refine e_next ?_
  refine c_seq ?_
  refine c_block ?_
  refine c_seq ?_
  refine c_region ?_
  refine r_val .none rfl (p_ld (k := 0) Try.underlying3 rfl rfl rfl (by first | exact of_decide_eq_true rfl | omega) (rfl : _ = Value.int _ _)) ?_
  refine r_val .none rfl (p_eq rfl rfl) ?_
  refine r_val .none rfl (p_assign rfl) ?_
  refine r_nil ?_
  refine e_next ?_
  refine c_splitd (d := 14) rfl (fun h_1 => ?_) (fun h_1 => ?_)
  ·
   have h1 : id = 1 := h_1
   first
    | (exfalso; first | omega)
    | (
     refine c_cond_t rfl ?_
     refine c_seq ?_
     refine c_region ?_
     refine r_val .none rfl (p_assign rfl) ?_
     refine r_val .none rfl (p_assign rfl) ?_
     refine r_nil ?_
     refine e_next ?_
     refine c_ret ?_
     refine e_ret_block ?_
     refine e_ret_then ?_
     refine e_front (k := 4) rfl ?_
     refine e_front (k := 4) rfl ?_
     refine e_front (k := 4) rfl ?_
     refine e_front (k := 4) rfl ?_
     refine e_shutT (s := ⟨l, s.pl, s.fc, s.last⟩) (q, m2, m3) ?_
     refine e_nilrow 0 40 3 ?_
     refine e_front (k := 3) rfl ?_
     refine e_front (k := 2) rfl ?_
     refine e_front (k := 2) rfl ?_
     refine e_retn Try.results12 (.tmp rfl (.tmp rfl .nil)) rfl (fun w hm => ⟨_, ?_, hm.kept [rowA (.slice none 0 0) 40 3 (([] : List (Gn ByteArray))).length ((([] : List (Gn ByteArray))).flatMap (gnC kS)), treeR 119 kS p ⟨l, s.pl, s.fc, s.last⟩, hoard (FT 122 3 kS) (l)] (.keep (fun _ _ h => h) (.keep (fun _ _ h => h) (.keep (fun _ _ h => h) (.drop (.nil))))) (starL [rowA (.slice none 0 0) 40 3 (([] : List (Gn ByteArray))).length ((([] : List (Gn ByteArray))).flatMap (gnC kS)), treeE 119 122 3 kS p s]) (fun F' h => tree_row0 hl h)⟩)
     first
     | (rw [if_pos h1]; done)
     | (rw [if_neg h1]; done)
     )
  ·
   have h1 : ¬ id = 1 := h_1
   skip
   first
    | (exfalso; first | omega)
    | (
     refine c_cond_f rfl ?_
     refine c_seq ?_
     refine c_region ?_
     refine r_val .none rfl (p_move rfl) ?_
     refine r_val .none rfl (p_eq_ptr Try.underlying120 (by first | exact .inr rfl | exact .inl rfl) rfl rfl) ?_
     refine r_say (d := 19) (v := Value.bool true) rfl ?_
     refine r_val .none rfl (p_assign rfl) ?_
     refine r_nil ?_
     refine e_next ?_
     refine c_cond_t rfl ?_
     refine c_seq ?_
     refine c_region ?_
     refine r_val .none rfl (p_assign rfl) ?_
     refine r_val .none rfl (p_assign rfl) ?_
     refine r_nil ?_
     refine e_next ?_
     refine c_ret ?_
     refine e_ret_block ?_
     refine e_ret_then ?_
     refine e_front (k := 4) rfl ?_
     refine e_front (k := 4) rfl ?_
     refine e_front (k := 4) rfl ?_
     refine e_front (k := 4) rfl ?_
     refine e_shutT (s := ⟨l, s.pl, s.fc, s.last⟩) (q, m2, m3) ?_
     refine e_nilrow 0 40 3 ?_
     refine e_front (k := 3) rfl ?_
     refine e_front (k := 2) rfl ?_
     refine e_front (k := 2) rfl ?_
     refine e_retn Try.results12 (.tmp rfl (.tmp rfl .nil)) rfl (fun w hm => ⟨_, ?_, hm.kept [rowA (.slice none 0 0) 40 3 (([] : List (Gn ByteArray))).length ((([] : List (Gn ByteArray))).flatMap (gnC kS)), treeR 119 kS p ⟨l, s.pl, s.fc, s.last⟩, hoard (FT 122 3 kS) (l)] (.keep (fun _ _ h => h) (.keep (fun _ _ h => h) (.keep (fun _ _ h => h) (.drop (.nil))))) (starL [rowA (.slice none 0 0) 40 3 (([] : List (Gn ByteArray))).length ((([] : List (Gn ByteArray))).flatMap (gnC kS)), treeE 119 122 3 kS p s]) (fun F' h => tree_row0 hl h)⟩)
     first
     | (rw [if_pos h1]; done)
     | (rw [if_neg h1]; done)
     )
 ·
  refine c_region_q mixed (by kernel_rfl) ?_
  refine q_val .none rfl (p_move rfl) ?_
  refine q_val .none rfl (p_nilcheck rfl) ?_
  refine q_val .none rfl (p_field Try.underlying119 rfl sz115 rfl) ?_
  refine q_val .none rfl (p_ld (k := 1) Try.underlying115 rfl rfl rfl (by first | exact of_decide_eq_true rfl | omega) (rfl : _ = Value.map _)) ?_
  refine q_val .none rfl (p_ld (k := 0) Try.underlying3 rfl rfl rfl (by first | exact of_decide_eq_true rfl | omega) (rfl : _ = Value.int _ _)) ?_
  refine q_val .none rfl (p_lookup_yes (i := 2) Try.underlying115 (KeyT.int Try.underlying3) zr120 rfl rfl rfl hN) ?_
  refine q_val .none rfl (p_assign rfl) ?_
  refine q_nil ?_
  refine e_next ?_
  refine c_seq ?_
  refine c_block ?_
  refine c_seq ?_
  refine c_region ?_
  refine r_val .none rfl (p_ld (k := 0) Try.underlying3 rfl rfl rfl (by first | exact of_decide_eq_true rfl | omega) (rfl : _ = Value.int _ _)) ?_
  refine r_val .none rfl (p_eq rfl rfl) ?_
  refine r_val .none rfl (p_assign rfl) ?_
  refine r_nil ?_
  refine e_next ?_
  refine c_splitd (d := 14) rfl (fun h_2 => ?_) (fun h_2 => ?_)
  ·
   have h1 : id = 1 := h_2
   first
    | (exfalso; first | omega)
    | (
     refine c_cond_t rfl ?_
     refine c_seq ?_
     refine c_region ?_
     refine r_val .none rfl (p_assign rfl) ?_
     refine r_val .none rfl (p_assign rfl) ?_
     refine r_nil ?_
     refine e_next ?_
     refine c_ret ?_
     refine e_ret_block ?_
     refine e_ret_then ?_
     refine e_front (k := 4) rfl ?_
     refine e_front (k := 4) rfl ?_
     refine e_front (k := 4) rfl ?_
     refine e_front (k := 4) rfl ?_
     refine e_shutT (s := ⟨l, s.pl, s.fc, s.last⟩) (q, m2, m3) ?_
     refine e_nilrow 0 40 3 ?_
     refine e_front (k := 3) rfl ?_
     refine e_front (k := 2) rfl ?_
     refine e_front (k := 2) rfl ?_
     refine e_retn Try.results12 (.tmp rfl (.tmp rfl .nil)) rfl (fun w hm => ⟨_, ?_, hm.kept [rowA (.slice none 0 0) 40 3 (([] : List (Gn ByteArray))).length ((([] : List (Gn ByteArray))).flatMap (gnC kS)), treeR 119 kS p ⟨l, s.pl, s.fc, s.last⟩, hoard (FT 122 3 kS) (l)] (.keep (fun _ _ h => h) (.keep (fun _ _ h => h) (.keep (fun _ _ h => h) (.drop (.nil))))) (starL [rowA (.slice none 0 0) 40 3 (([] : List (Gn ByteArray))).length ((([] : List (Gn ByteArray))).flatMap (gnC kS)), treeE 119 122 3 kS p s]) (fun F' h => tree_row0 hl h)⟩)
     first
     | (rw [if_pos h1]; done)
     | (rw [if_neg h1]; done)
     )
  ·
   have h1 : ¬ id = 1 := h_2
   have hx : False := by (rcases hno with h | h; exact h1 h; rw [hl, eraT_lkp, hN] at h; cases h)
   exact hx.elim
end Go.Proofs.Ytdcaehepmkhciaa

/- Walks: what Go functions of this chapter come to, each as a function on plain data; no condition but those that each theorem names. Printed by a program of this work (gen.py). -/
namespace Go.Proofs.Ytdcaehepmkhciaa
open Go.Gx Go.Gx Go.Gx.T10 Go.Gx.T12 Go.Gx.T10 Go.Gx.T11 Go.Gx.T15 Go.Gx.T12 Go.Gx.T6 Go.Gx.T4
theorem cl62 : Callable Try.prog 62 := callable Try.func62 (by kernel_rfl) rfl
theorem cl63 : Callable Try.prog 63 := callable Try.func63 (by kernel_rfl) rfl
theorem kept_true {F : Nat → Prop} {w w' : World} (h : Since nX w w') : Kept (pureA True) F w w' := ⟨⟨h.os, h.tape, h.output, h.size, fun k hk _ => h.block k hk id⟩, fun _ => False, ⟨trivial, fun _ h => h⟩, fun _ h => h.elim⟩
theorem c_tdelyesS {F : Nat → Prop} {G : Ghost} (p : Nat) (id : Int) (s : TS (Tk ByteArray) ByteArray) (T : RT ByteArray) (x xp : Tk ByteArray) (hid : ¬ id = 1) (hx : lkp s.toks id = some x) (hp : lkp s.toks x.par = some xp) (hTi : T.id = id) (hfit : FitsG (lkp s.toks) T) (hnd : ((post T).map (·.1)).Nodup) (hpn : ¬ x.par ∈ ((post T).map (·.1))) (hlen : (post T).length ≤ 1000) (w : World) (hG : Has G w) (hA : (treeE 119 122 3 kS p s).holds w F) (hFG : ∀ b, F b → G b = none) :
  Calls Try.prog 12 #[Value.pointer (some ⟨p, 0, none⟩), Value.int .i64 id] w (Ret fun r w' => ∃ v, r = Value.tuple #[v, Value.int .i64 0] ∧ Kept (starL [rowA v 40 3 ((post T)).length (((post T)).flatMap (gnC kS)), treeE 119 122 3 kS p (outs (lessS s x.par (less xp id)) (post T))]) F w w') := by
 refine enterO (args := [_, _]) (G := G) (A := treeE 119 122 3 kS p s) (l := [(0, Value.pointer (some ⟨p, 0, none⟩)), (1, Value.int .i64 id)]) Try.func12 rfl Try.ntmps12 hG hA hFG ⟨rfl, rfl, trivial⟩ (Nat.le_of_ble_eq_true rfl) ?_
 refine c_unex (fun l => ?_)
 refine c_unand (fun hl => ?_)
 refine c_unpack ?_
 refine c_openT (fun z => ?_)
 obtain ⟨q, m2, m3⟩ := z
 dsimp only [treeC]
 subst hTi
 rw [hl] at hx hp
 obtain ⟨bx, kv, hN⟩ := eraT_some hx
 obtain ⟨bp, kp, hP⟩ := eraT_some hp
 obtain ⟨B, hB⟩ : ∃ B : Int → TB ByteArray, ∀ k v, lkp l k = some v → B k = v := ⟨fun k => (lkp l k).getD (dflB ByteArray.empty), fun k v h => by (show (lkp l k).getD _ = v; rw [h]; rfl)⟩
 rw [hl] at hfit
 have hfitB : Fits B T := fitsG_fits (fun k y hy => by (obtain ⟨b, kv, h⟩ := eraT_some hy; rw [hB _ _ h])) hfit
 have hin : ∀ k ∈ ((post T).map (·.1)), lkp l k = some (B k) := by (intro k hk; obtain ⟨q, hq, rfl⟩ := List.mem_map.1 hk; obtain ⟨y, hy⟩ := fitsG_mem hfit q hq; obtain ⟨b, kv, h⟩ := eraT_some hy; rw [hB _ _ h]; exact h)
 refine c_front (k := 4) rfl ?_
 refine c_freezeS (ks := ((post T).map (·.1))) B hnd hin (fun G_1 hn_2 ht => ?_)
 have hBx : B T.id = (bx, kv, x) := hB _ _ hN
 have hR : RowAt G_1 bx 0 4 (at_ [kS x.pla, .int .i64 x.par, .int .i64 x.fac, kv]) := by (have h9 := (ht _ (post_id T)).1; rw [hBx] at h9; exact h9)
 have hK : SlL G_1 kv 1 cI (0 : Int) x.kids := by (have h9 := (ht _ (post_id T)).2; rw [hBx] at h9; exact h9)
 refine c_seq ?_
 refine c_region ?_
 refine r_box .none rfl rfl (IsRow.lit [_]) (fun b_1 => ?_)
 refine r_val .none rfl (p_assign rfl) ?_
 refine r_val .none rfl (p_assign rfl) ?_
 refine r_nil ?_
 refine e_next ?_
 refine c_seq ?_
 refine c_region_q mixed (by kernel_rfl) ?_
 refine q_val .none rfl (p_move rfl) ?_
 refine q_val .none rfl (p_nilcheck rfl) ?_
 refine q_val .none rfl (p_field Try.underlying119 rfl sz115 rfl) ?_
 refine q_val .none rfl (p_ld (k := 2) Try.underlying115 rfl rfl rfl (by first | exact of_decide_eq_true rfl | omega) (rfl : _ = Value.map _)) ?_
 refine q_val .none rfl (p_ld (k := 0) Try.underlying3 rfl rfl rfl (by first | exact of_decide_eq_true rfl | omega) (rfl : _ = Value.int _ _)) ?_
 refine q_val .none rfl (p_lookup_yes (i := 3) Try.underlying115 (KeyT.int Try.underlying3) zr120 rfl rfl rfl hN) ?_
 refine q_val .none rfl (p_assign rfl) ?_
 refine q_nil ?_
 refine e_next ?_
 refine c_seq ?_
 refine c_block ?_
 refine c_seq ?_
 refine c_region ?_
 refine r_val .none rfl (p_ld (k := 0) Try.underlying3 rfl rfl rfl (by first | exact of_decide_eq_true rfl | omega) (rfl : _ = Value.int _ _)) ?_
 refine r_val .none rfl (p_eq rfl rfl) ?_
 refine r_val .none rfl (p_assign rfl) ?_
 refine r_nil ?_
 refine e_next ?_
 refine c_splitd (d := 14) rfl (fun h_3 => ?_) (fun h_3 => ?_)
 ·
  have hx : False := hid (by have h9 := h_3; omega)
  exact hx.elim
 ·
  skip
  first
   | (exfalso; first | omega)
   | (
    refine c_cond_f rfl ?_
    refine c_seq ?_
    refine c_region ?_
    refine r_val .none rfl (p_move rfl) ?_
    refine r_val .none rfl (p_eq_ptr Try.underlying120 (by first | exact .inr rfl | exact .inl rfl) rfl rfl) ?_
    refine r_say (d := 19) (v := Value.bool false) rfl ?_
    refine r_val .none rfl (p_assign rfl) ?_
    refine r_nil ?_
    refine e_next ?_
    refine c_cond_f rfl ?_
    refine c_skip ?_
    refine e_norm_block ?_
    refine e_next ?_
    refine c_seq ?_
    refine c_region_q mixed (by kernel_rfl) ?_
    refine q_val .none rfl (p_move rfl) ?_
    refine q_val .none rfl (p_nilcheck rfl) ?_
    refine q_val .none rfl (p_field Try.underlying119 rfl sz115 rfl) ?_
    refine q_val .none rfl (p_ld (k := 2) Try.underlying115 rfl rfl rfl (by first | exact of_decide_eq_true rfl | omega) (rfl : _ = Value.map _)) ?_
    refine q_val .none rfl (p_move rfl) ?_
    refine q_val .none rfl (p_nilcheck rfl) ?_
    refine q_val .none rfl (p_field Try.underlying122 rfl sz3 rfl) ?_
    refine q_val .none rfl (p_ldg (j := 1) Try.underlying3 rfl rfl hR (by first | exact of_decide_eq_true rfl | omega) (rfl : _ = Value.int _ _)) ?_
    refine q_val .none rfl (p_lookup_yes (i := 3) Try.underlying115 (KeyT.int Try.underlying3) zr120 rfl rfl rfl hP) ?_
    refine q_val .none rfl (p_assign rfl) ?_
    refine q_nil ?_
    refine e_next ?_
    refine c_seq ?_
    refine c_region ?_
    refine r_front (k := 1) rfl ?_
    have hP2 : lkp (mdels l ((post T).map (·.1))) x.par = some (bp, kp, xp) := by rw [mdels_lkp _ _ hpn]; exact hP
    refine r_ftok hP2 ?_
    dsimp only [tkC]
    refine r_row1 (k := 1) rfl (fun o1 => ?_)
    refine r_val .none rfl (p_move rfl) ?_
    refine r_val .none rfl (p_move rfl) ?_
    refine r_val .none rfl (p_nilcheck rfl) ?_
    refine r_val .none rfl (p_field Try.underlying122 rfl sz42 rfl) ?_
    refine r_val .none rfl (p_ld (k := 0) Try.underlying42 rfl rfl rfl (by first | exact of_decide_eq_true rfl | omega) rfl) ?_
    refine r_freezeX (k := 3) rfl (fun G_4 hn_5 hR_6 => ?_)
    replace ht := fun k hk => TokAt.mono (ht k hk) hn_5.le
    replace hR := hR.mono hn_5.le
    replace hK := hK.mono hn_5.le
    refine r_val .none rfl (p_mkfunc (vs := [_]) rfl) ?_
    refine r_hnil (FN (κ := Int)) ?_
    refine r_front (k := 2) rfl ?_
    refine r_pack [_, _] ?_
    refine r_callor (k := 0) (vs := [_, _]) .none rfl cl62 rfl rfl (fun w F hw hA hFG => c_delI kp xp.kids 63 [.pointer (some ⟨b_1, 0, none⟩)] (fun _ : Unit => pureA True) (fun (k : Int) (_ : Unit) => (decide (k = T.id), ())) () cl63 (fun k s w F hw hA hF => (c_tdel1S k T.id _ hR_6 w hw).mono (fun e w' hR => by cases e with | returned r => exact ⟨hR.1, kept_true hR.2⟩ | panicked c => exact hR.elim | outgrown => exact hR.elim)) w hw hA hFG) (fun r_7 => ?_)
    refine r_unpack ?_
    refine r_front (k := 1) rfl ?_
    refine r_drop0 ?_
    refine r_row1 (k := 0) rfl (fun o_8 => ?_)
    refine r_val .none rfl (p_nilcheck rfl) ?_
    refine r_val .none rfl (p_field Try.underlying122 rfl sz42 rfl) ?_
    refine r_st (k := 1) .none sz42 rfl rfl o_8 rfl (by first | exact of_decide_eq_true rfl | omega) ?_
    refine r_front (k := 2) rfl ?_
    refine r_front (k := 1) rfl ?_
    refine r_front (k := 2) rfl ?_
    refine r_conv (B := box bp 4 122 (at_ (tkC kS (bp, r_7, less xp T.id)))) (k := 0) rfl (fun _ _ h => box_congr (fun i hi => by match i, hi with | 0, _ => rfl | 1, _ => rfl | 2, _ => rfl | 3, _ => rfl) _ _ h) ?_
    refine r_conv (B := rowA r_7 3 1 (less xp T.id).kids.length ((less xp T.id).kids.flatMap cI)) (k := 1) rfl (fun _ _ h => rowA_congr (by rw [dels_pure]; rfl) (by rw [dels_pure]; rfl) _ _ h) ?_
    dsimp only [List.set_cons_zero, List.set_cons_succ]
    refine r_tokBack (v := (bp, r_7, less xp T.id)) hP2 ?_
    refine r_nil ?_
    refine e_next ?_
    refine c_seq ?_
    refine c_region ?_
    refine r_val .none rfl (p_move rfl) ?_
    refine r_val .none rfl (p_ldg0 Try.underlying3 rfl rfl hR_6 (by first | exact of_decide_eq_true rfl | omega) (rfl : _ = Value.int _ _)) ?_
    refine r_front (k := 4) rfl ?_
    refine r_front (k := 4) rfl ?_
    refine r_front (k := 4) rfl ?_
    refine r_front (k := 4) rfl ?_
    refine r_shutT (s := ⟨l, s.pl, s.fc, s.last⟩) (q, m2, m3) ?_
    refine r_conv (B := treeR 119 kS p (lessS ⟨l, s.pl, s.fc, s.last⟩ x.par (bp, r_7, less xp T.id))) (k := 0) rfl (fun _ _ h => treeR_retell (u := (bp, kp, xp)) (v := (bp, r_7, less xp T.id)) hP rfl h) ?_
    dsimp only [List.set_cons_zero]
    refine r_nilrow 40 3 ?_
    refine r_pack [_, _] ?_
    refine r_callor (k := 0) (vs := [_, _, _]) .none rfl cl64 rfl rfl (fun w F hw hA hFG => c_belowS (SizeOf.sizeOf T) p T B (lessS ⟨l, s.pl, s.fc, s.last⟩ x.par (bp, r_7, less xp T.id)) (.slice none 0 0) [] _ F w (Nat.le_refl _) hfitB (fun q hq => by (have hm : q.1 ∈ (post T).map (·.1) := List.mem_map.2 ⟨q, hq, rfl⟩; show lkp (mput l x.par _) q.1 = _; rw [lkp_mput, if_neg (fun e => hpn (by rw [e]; exact hm))]; exact hin _ hm)) (fun q hq => ht _ (List.mem_map.2 ⟨q, hq, rfl⟩)) hnd (by simpa using hlen) hw hA hFG) (fun r_9 => ?_)
    refine r_unpack ?_
    refine r_val .none rfl (p_assign rfl) ?_
    refine r_val .none rfl (p_assign rfl) ?_
    refine r_nil ?_
    refine e_next ?_
    refine c_ret ?_
    refine e_front (k := 2) rfl ?_
    refine e_front (k := 2) rfl ?_
    refine e_front (k := 2) rfl ?_
    refine e_retn Try.results12 (.tmp rfl (.tmp rfl .nil)) rfl (fun w hm => ⟨_, rfl, hm.kept [rowA r_9 40 3 ((post T)).length (((post T)).flatMap (gnC kS)), treeR 119 kS p (outs (lessS ⟨l, s.pl, s.fc, s.last⟩ x.par (bp, r_7, less xp T.id)) (post T)), hoard (FT 122 3 kS) (mput (mdels l ((post T).map (·.1))) x.par (bp, r_7, less xp T.id))] (.keep (fun _ _ h => h) (.keep (fun _ _ h => h) (.keep (fun _ _ h => h) (.nil)))) (starL [rowA r_9 40 3 ((post T)).length (((post T)).flatMap (gnC kS)), treeE 119 122 3 kS p (outs (lessS s x.par (less xp T.id)) (post T))]) (fun F' h => tree_del (V2 := (bp, r_7, less xp T.id)) hl hpn h)⟩)
    )
end Go.Proofs.Ytdcaehepmkhciaa

/- Plain laws of counting: what is counted does not hang on the order; no program in sight. -/
namespace Go.Gx.T10
open Go.Gx
section
variable {κ : Type} [DecidableEq κ]
theorem Tal.perm {l : List (κ × Int)} {ns ms : List κ} (h : Tal l ns) (hp : ns.Perm ms) : Tal l ms :=
  ⟨h.nodup, h.pos, fun k => by rw [h.eq k, num_def, num_def, hp.count_eq]⟩
theorem Tal.front {l : List (κ × Int)} {ns : List κ} {i : Nat} {e : κ} (h : Tal l (ns.drop i)) (hi : i < ns.length) : Tal (tDrop l (ns.getD i e)) (ns.drop (i + 1)) ∧ 1 ≤ cnt l (ns.getD i e) := by
  have e1 : ns.drop i = ns.getD i e :: ns.drop (i + 1) := by
    rw [List.drop_eq_getElem_cons hi]; simp [List.getD, hi]
  rw [e1] at h
  refine ⟨(h.perm (List.perm_append_singleton _ _).symm).drop, ?_⟩
  rw [h.eq, num_def, List.count_cons_self]; omega
end
end Go.Gx.T10

/- Plain laws of memories: each has just the facts that there are and that have its key; no program in sight. -/
namespace Go.Gx.T12
open Go.Gx Go.Gx.T10 Go.Gx.T11
theorem allK_mem {t k : Tri} : k ∈ allK t ↔ hasK t k = true := by
  obtain ⟨a, b, c⟩ := t
  obtain ⟨x, y, z⟩ := k
  simp only [allK, hasK, List.mem_cons, List.mem_nil_iff, or_false, decide_eq_true_eq, Prod.mk.injEq]
  constructor
  · rintro (h | h | h | h | h | h | h | h) <;> (obtain ⟨rfl, rfl, rfl⟩ := h; simp)
  · rintro ⟨h1 | h1, h2 | h2, h3 | h3⟩ <;> simp [h1, h2, h3]
theorem touched_iff {u : List (Tri × Int)} {t k : Tri} : k ∈ touched u t ↔ hasK t k = true ∧ ¬ cnt u k = 0 := by
  unfold touched
  rw [List.mem_filter, allK_mem]
  simp
/-- What is done in one memory. -/
def inM (h : List (Int × Int)) (id : Int) : List (Int × Int) := if 0 < (lkp h id).getD 0 then h else mput h id 1
def outM (h : List (Int × Int)) (id : Int) : List (Int × Int) := if (lkp h id).getD 0 = 0 then h else mdel h id
theorem putC_lkp (c : SC) (x k : Tri) (id : Int) : lkp (putC c x id).2 k = if x = k then (lkp c k).map (fun h => inM h id) else lkp c k := by
  unfold putC
  cases e : lkp c x with
  | none => by_cases h : x = k; (subst h; simp [e]); simp [h]
  | some h0 =>
    by_cases h : x = k
    · subst h
      simp only [inM, e]
      split
      · rename_i hi; simp [e, hi]
      · rename_i hi; simp [lkp_mput, hi]
    · simp only [h, if_false]
      split
      · rfl
      · simp [lkp_mput, h]
theorem takeC_lkp (c : SC) (x k : Tri) (id : Int) : lkp (takeC c x id).2 k = if x = k then (lkp c k).map (fun h => outM h id) else lkp c k := by
  unfold takeC
  cases e : lkp c x with
  | none => by_cases h : x = k; (subst h; simp [e]); simp [h]
  | some h0 =>
    by_cases h : x = k
    · subst h
      simp only [outM, e]
      split
      · rename_i hi; simp [e, hi]
      · rename_i hi; simp [lkp_mput, hi]
    · simp only [h, if_false]
      split
      · rfl
      · simp [lkp_mput, h]
/-- What a memory has: each id once, those that S says. -/
structure Mm (h : List (Int × Int)) (S : Int → Prop) : Prop where
  nd : (h.map (·.1)).Nodup
  one : ∀ q ∈ h, q.2 = 1
  mem : ∀ id, (lkp h id).isSome = true ↔ S id
theorem Mm.val {h : List (Int × Int)} {S : Int → Prop} (m : Mm h S) (id : Int) : (lkp h id).getD 0 = if (lkp h id).isSome = true then 1 else 0 := by
  cases e : lkp h id with
  | none => rfl
  | some v =>
    have h9 : v = 1 := m.one _ (lkp_some e)
    simp [h9]
theorem Mm.pos {h : List (Int × Int)} {S : Int → Prop} (m : Mm h S) (id : Int) : 0 < (lkp h id).getD 0 ↔ S id := by
  rw [m.val, ← m.mem]; split <;> simp_all
theorem Mm.zero {h : List (Int × Int)} {S : Int → Prop} (m : Mm h S) (id : Int) : (lkp h id).getD 0 = 0 ↔ ¬ S id := by
  rw [m.val, ← m.mem]; split <;> simp_all
theorem Mm.congr {h : List (Int × Int)} {S T : Int → Prop} (m : Mm h S) (e : ∀ id, S id ↔ T id) : Mm h T := ⟨m.nd, m.one, fun id => (m.mem id).trans (e id)⟩
theorem Mm.nil : Mm [] (fun _ => False) := ⟨by simp, by simp, by simp [lkp]⟩
theorem Mm.put {h : List (Int × Int)} {S : Int → Prop} (m : Mm h S) (id : Int) : Mm (mput h id 1) (fun x => x = id ∨ S x) := by
  refine ⟨mput_nodup m.nd _ _, fun q hq => ?_, fun x => ?_⟩
  · rcases mem_mput hq with rfl | hq
    · rfl
    · exact m.one q hq
  · rw [lkp_mput]
    by_cases e : id = x
    · subst e; simp
    · rw [if_neg e, m.mem]; constructor
      · exact .inr
      · rintro (h | h); exact absurd h.symm e; exact h
theorem Mm.inM {h : List (Int × Int)} {S : Int → Prop} (m : Mm h S) (id : Int) : Mm (inM h id) (fun x => x = id ∨ S x) := by
  unfold T12.inM
  split
  · rename_i hi
    exact m.congr (fun x => ⟨.inr, fun h => by rcases h with rfl | h; exact (m.pos _).1 hi; exact h⟩)
  · exact m.put id
theorem Mm.outM {h : List (Int × Int)} {S : Int → Prop} (m : Mm h S) (id : Int) : Mm (outM h id) (fun x => ¬ x = id ∧ S x) := by
  unfold T12.outM
  split
  · rename_i hi
    exact m.congr (fun x => ⟨fun h => ⟨fun e => (m.zero id).1 hi (e ▸ h), h⟩, fun h => h.2⟩)
  · refine ⟨mdel_nodup m.nd _, fun q hq => m.one q ((mdel_sub h id).subset hq), fun x => ?_⟩
    rw [lkp_mdel m.nd]
    by_cases e : id = x
    · subst e; simp
    · rw [if_neg e, m.mem]
      exact ⟨fun h => ⟨fun h2 => e h2.symm, h⟩, fun h => h.2⟩
/-- All memories, of some keys: what they have. -/
structure Me (c : SC) (S : Tri → Int → Prop) : Prop where
  mm : ∀ k h, lkp c k = some h → Mm h (S k)
theorem Me.put {c : SC} {S : Tri → Int → Prop} (m : Me c S) (x : Tri) (id : Int) : Me (putC c x id).2 (fun k i => (k = x ∧ i = id) ∨ S k i) := ⟨fun k h e => by
  rw [putC_lkp] at e
  by_cases hx : x = k
  · subst hx
    rw [if_pos rfl] at e
    cases e0 : lkp c x with
    | none => rw [e0] at e; cases e
    | some h0 =>
      rw [e0] at e; simp only [Option.map_some, Option.some.injEq] at e; subst e
      exact ((m.mm x h0 e0).inM id).congr (fun i => by simp)
  · rw [if_neg hx] at e
    exact (m.mm k h e).congr (fun i => ⟨.inr, fun h => by rcases h with h | h; exact absurd h.1.symm hx; exact h⟩)⟩
theorem Me.take {c : SC} {S : Tri → Int → Prop} (m : Me c S) (x : Tri) (id : Int) : Me (takeC c x id).2 (fun k i => ¬ (k = x ∧ i = id) ∧ S k i) := ⟨fun k h e => by
  rw [takeC_lkp] at e
  by_cases hx : x = k
  · subst hx
    rw [if_pos rfl] at e
    cases e0 : lkp c x with
    | none => rw [e0] at e; cases e
    | some h0 =>
      rw [e0] at e; simp only [Option.map_some, Option.some.injEq] at e; subst e
      exact ((m.mm x h0 e0).outM id).congr (fun i => by simp)
  · rw [if_neg hx] at e
    exact (m.mm k h e).congr (fun i => ⟨fun h => ⟨fun h2 => hx h2.1.symm, h⟩, fun h => h.2⟩)⟩
theorem Me.congr {c : SC} {S T : Tri → Int → Prop} (m : Me c S) (e : ∀ k h, lkp c k = some h → ∀ i, S k i ↔ T k i) : Me c T := ⟨fun k h hk => (m.mm k h hk).congr (e k h hk)⟩
/-- Nothing is wanted, or not, by it. -/
def Keep (c c' : SC) : Prop := ∀ k, lkp c' k = none ↔ lkp c k = none
theorem keep_put (c : SC) (x : Tri) (id : Int) : Keep c (putC c x id).2 := fun k => by
  rw [putC_lkp]; split <;> simp
theorem keep_take (c : SC) (x : Tri) (id : Int) : Keep c (takeC c x id).2 := fun k => by
  rw [takeC_lkp]; split <;> simp
theorem Keep.trans {a b c : SC} (h : Keep a b) (g : Keep b c) : Keep a c := fun k => (g k).trans (h k)
theorem dels_put (id : Int) : ∀ (l : List Tri) (c : SC) (S : Tri → Int → Prop), Me c S → Me (dels (fun x c => (!(putC c x id).1, (putC c x id).2)) l c).2 (fun k i => (k ∈ l ∧ i = id) ∨ S k i) ∧ Keep c (dels (fun x c => (!(putC c x id).1, (putC c x id).2)) l c).2
  | [], c, S, m => ⟨m.congr (fun _ _ _ i => by simp), fun _ => Iff.rfl⟩
  | x :: t, c, S, m => by
    obtain ⟨h1, h2⟩ := dels_put id t _ _ (m.put x id)
    simp only [dels]
    refine ⟨h1.congr (fun k _ _ i => ?_), (keep_put c x id).trans h2⟩
    simp only [List.mem_cons]
    constructor
    · rintro (⟨h, e⟩ | ⟨h, e⟩ | h)
      · exact .inl ⟨.inr h, e⟩
      · exact .inl ⟨.inl h, e⟩
      · exact .inr h
    · rintro (⟨h | h, e⟩ | h)
      · exact .inr (.inl ⟨h, e⟩)
      · exact .inl ⟨h, e⟩
      · exact .inr (.inr h)
theorem dels_take (id : Int) : ∀ (l : List Tri) (c : SC) (S : Tri → Int → Prop), Me c S → Me (dels (fun x c => (!(takeC c x id).1, (takeC c x id).2)) l c).2 (fun k i => ¬ (k ∈ l ∧ i = id) ∧ S k i) ∧ Keep c (dels (fun x c => (!(takeC c x id).1, (takeC c x id).2)) l c).2
  | [], c, S, m => ⟨m.congr (fun _ _ _ i => by simp), fun _ => Iff.rfl⟩
  | x :: t, c, S, m => by
    obtain ⟨h1, h2⟩ := dels_take id t _ _ (m.take x id)
    simp only [dels]
    refine ⟨h1.congr (fun k _ _ i => ?_), (keep_take c x id).trans h2⟩
    simp only [List.mem_cons]
    constructor
    · rintro ⟨h, h', hs⟩
      exact ⟨fun ⟨ho, e⟩ => by rcases ho with ho | ho; exact h' ⟨ho, e⟩; exact h ⟨ho, e⟩, hs⟩
    · rintro ⟨h, hs⟩
      exact ⟨fun ⟨ho, e⟩ => h ⟨.inr ho, e⟩, fun ⟨ho, e⟩ => h ⟨.inl ho, e⟩, hs⟩
theorem fillC_mm (k : Tri) : ∀ (fs : List FD) (h : List (Int × Int)) (S : Int → Prop), Mm h S → Mm (fillC k fs h) (fun i => S i ∨ ∃ f ∈ fs, f.1 = i ∧ hasK f.2 k = true)
  | [], h, S, m => m.congr (fun i => by simp)
  | f :: t, h, S, m => by
    unfold fillC
    rw [List.foldl_cons]
    by_cases e : hasK f.2 k = true
    · rw [if_pos e]
      refine (fillC_mm k t _ _ (m.put f.1)).congr (fun i => ?_)
      simp only [List.mem_cons]
      constructor
      · rintro ((h1 | h1) | ⟨g, hg, h2⟩)
        · exact .inr ⟨f, .inl rfl, h1.symm, e⟩
        · exact .inl h1
        · exact .inr ⟨g, .inr hg, h2⟩
      · rintro (h1 | ⟨g, hg, h2, h3⟩)
        · exact .inl (.inr h1)
        · rcases hg with rfl | hg
          · exact .inl (.inl h2.symm)
          · exact .inr ⟨g, hg, h2, h3⟩
    · rw [if_neg e]
      refine (fillC_mm k t _ _ m).congr (fun i => ?_)
      simp only [List.mem_cons]
      constructor
      · rintro (h1 | ⟨g, hg, h2⟩)
        · exact .inl h1
        · exact .inr ⟨g, .inr hg, h2⟩
      · rintro (h1 | ⟨g, hg, h2, h3⟩)
        · exact .inl h1
        · rcases hg with rfl | hg
          · exact absurd h3 e
          · exact .inr ⟨g, hg, h2, h3⟩
/-! ### facts that come and go -/
def SK (fs : List FD) (k : Tri) (i : Int) : Prop := ∃ f ∈ fs, f.1 = i ∧ hasK f.2 k = true
structure Whole (u : List (Tri × Int)) (c : SC) (fs : List FD) (ns : List Tri) (n : Nat) : Prop where
  tal : Tal u ns
  sync : ∀ k, cnt u k = 0 ↔ lkp c k = none
  me : Me c (SK fs)
  inc : (fs.map Prod.fst).Pairwise (· < ·)
  bd : ∀ f ∈ fs, 1 ≤ f.1 ∧ f.1 ≤ (n : Int)
theorem Whole.start : Whole [] [] [] [] 0 := ⟨Tal.nil, fun k => by simp [cnt, lkp], ⟨fun k h e => by simp [lkp] at e⟩, by simp, by simp⟩
theorem Whole.add {u : List (Tri × Int)} {c : SC} {fs : List FD} {ns : List Tri} {n : Nat} (h : Whole u c fs ns n) (t : Tri) : Whole u (doneC putC u c ((n : Int) + 1, t)).2 (fs ++ [((n : Int) + 1, t)]) ns (n + 1) := by
  obtain ⟨h1, h2⟩ := dels_put ((n : Int) + 1) (touched u t) c _ h.me
  refine ⟨h.tal, fun k => (h.sync k).trans (h2 k).symm, h1.congr (fun k h0 hk i => ?_), ?_, fun f hf => ?_⟩
  · have hw : ¬ cnt u k = 0 := fun e => by
      have h9 := (h2 k).2 ((h.sync k).1 e)
      have h8 : lkp (dels (fun x c => (!(putC c x ((n : Int) + 1)).1, (putC c x ((n : Int) + 1)).2)) (touched u t) c).2 k = some h0 := hk
      rw [h9] at h8; cases h8
    rw [touched_iff]
    unfold SK
    constructor
    · rintro (⟨⟨h3, _⟩, rfl⟩ | ⟨f, hf, h4⟩)
      · exact ⟨_, List.mem_append_right _ (List.mem_singleton.2 rfl), rfl, h3⟩
      · exact ⟨f, List.mem_append_left _ hf, h4⟩
    · rintro ⟨f, hf, h4, h5⟩
      rcases List.mem_append.1 hf with hf | hf
      · exact .inr ⟨f, hf, h4, h5⟩
      · rw [List.mem_singleton.1 hf] at h4 h5; exact .inl ⟨⟨h5, hw⟩, h4.symm⟩
  · rw [List.map_append]
    refine List.pairwise_append.2 ⟨h.inc, by simp, fun a ha b hb => ?_⟩
    obtain ⟨f, hf, rfl⟩ := List.mem_map.1 ha
    simp only [List.map_cons, List.map_nil, List.mem_singleton] at hb
    have := (h.bd f hf).2
    omega
  · rcases List.mem_append.1 hf with hf | hf
    · have := h.bd f hf; omega
    · rw [List.mem_singleton.1 hf]; dsimp only; omega
theorem inc_inj {fs : List FD} (h : (fs.map Prod.fst).Pairwise (· < ·)) {f g : FD} (hf : f ∈ fs) (hg : g ∈ fs) (e : f.1 = g.1) : f = g := by
  induction fs with
  | nil => cases hf
  | cons x t ih =>
    simp only [List.map_cons, List.pairwise_cons] at h
    rcases List.mem_cons.1 hf with h1 | h1
    · rcases List.mem_cons.1 hg with h2 | h2
      · rw [h1, h2]
      · subst h1; have := h.1 g.1 (List.mem_map.2 ⟨g, h2, rfl⟩); omega
    · rcases List.mem_cons.1 hg with h2 | h2
      · subst h2; have := h.1 f.1 (List.mem_map.2 ⟨f, h1, rfl⟩); omega
      · exact ih h.2 h1 h2
/-- The list without the fact at a place. -/
def cutF (fs : List FD) (k : Nat) : List FD := fs.take k ++ fs.drop (k + 1)
theorem cutF_mem {fs : List FD} {k : Nat} (hk : k < fs.length) (hi : (fs.map Prod.fst).Pairwise (· < ·)) {f : FD} : f ∈ cutF fs k ↔ f ∈ fs ∧ ¬ f.1 = (fs.getD k (0, zT)).1 := by
  have e : fs = fs.take k ++ fs.getD k (0, zT) :: fs.drop (k + 1) := by
    have h1 := List.take_append_drop k fs
    rw [List.drop_eq_getElem_cons hk] at h1
    have h2 : fs.getD k (0, zT) = fs[k] := by simp [List.getD, hk]
    rw [h2]; exact h1.symm
  have hm : fs.getD k (0, zT) ∈ fs := by
    have h2 : fs.getD k (0, zT) = fs[k] := by simp [List.getD, hk]
    rw [h2]; exact List.getElem_mem hk
  constructor
  · intro h
    have hf : f ∈ fs := by
      unfold cutF at h
      rcases List.mem_append.1 h with h | h
      · exact List.mem_of_mem_take h
      · exact List.mem_of_mem_drop h
    refine ⟨hf, fun e2 => ?_⟩
    rw [e] at hi
    simp only [List.map_append, List.map_cons] at hi
    obtain ⟨_, h4, h5⟩ := List.pairwise_append.1 hi
    rcases List.mem_append.1 h with h | h
    · have := h5 f.1 (List.mem_map.2 ⟨f, h, rfl⟩) (fs.getD k (0, zT)).1 (by simp)
      omega
    · have := List.rel_of_pairwise_cons h4 (List.mem_map.2 ⟨f, h, rfl⟩)
      omega
  · rintro ⟨hf, hne⟩
    rw [e] at hf
    unfold cutF
    rcases List.mem_append.1 hf with h | h
    · exact List.mem_append_left _ h
    · rcases List.mem_cons.1 h with h | h
      · exact absurd (congrArg Prod.fst h) hne
      · exact List.mem_append_right _ h
theorem Whole.del {u : List (Tri × Int)} {c : SC} {fs : List FD} {ns : List Tri} {n : Nat} (h : Whole u c fs ns n) {k : Nat} (hk : k < fs.length) : Whole u (doneC takeC u c (fs.getD k (0, zT))).2 (cutF fs k) ns n := by
  obtain ⟨h1, h2⟩ := dels_take (fs.getD k (0, zT)).1 (touched u (fs.getD k (0, zT)).2) c _ h.me
  have hm : fs.getD k (0, zT) ∈ fs := by
    have h2 : fs.getD k (0, zT) = fs[k] := by simp [List.getD, hk]
    rw [h2]; exact List.getElem_mem hk
  refine ⟨h.tal, fun k => (h.sync k).trans (h2 k).symm, h1.congr (fun x h0 hx i => ?_), ?_, fun f hf => h.bd f ((cutF_mem hk h.inc).1 hf).1⟩
  · have hw : ¬ cnt u x = 0 := fun e => by
      have h9 := (h2 x).2 ((h.sync x).1 e)
      have h8 : lkp (dels (fun x c => (!(takeC c x (fs.getD k (0, zT)).1).1, (takeC c x (fs.getD k (0, zT)).1).2)) (touched u (fs.getD k (0, zT)).2) c).2 x = some h0 := hx
      rw [h9] at h8; cases h8
    rw [touched_iff]
    unfold SK
    constructor
    · rintro ⟨h3, f, hf, h4, h5⟩
      refine ⟨f, (cutF_mem hk h.inc).2 ⟨hf, fun e => h3 ⟨⟨?_, hw⟩, by omega⟩⟩, h4, h5⟩
      rw [← inc_inj h.inc hf hm e]; exact h5
    · rintro ⟨f, hf, h4, h5⟩
      obtain ⟨h6, h7⟩ := (cutF_mem hk h.inc).1 hf
      exact ⟨fun h8 => h7 (by omega), f, h6, h4, h5⟩
  · have h3 : (cutF fs k).Sublist fs := by
      have e : fs = fs.take k ++ fs.drop k := (List.take_append_drop k fs).symm
      unfold cutF
      conv => rhs; rw [e]
      refine List.Sublist.append (List.Sublist.refl _) ?_
      rw [← List.drop_drop]; exact List.drop_sublist 1 _
    exact h.inc.sublist (h3.map _)
theorem Whole.want {u : List (Tri × Int)} {c : SC} {fs : List FD} {ns : List Tri} {n : Nat} (h : Whole u c fs ns n) (k : Tri) : Whole (tAdd u k) (wantC c k fs (cnt u k)) fs (ns ++ [k]) n := by
  have h0 : 0 ≤ cnt u k := by rw [h.tal.eq]; omega
  refine ⟨h.tal.add k, fun x => ?_, ?_, h.inc, h.bd⟩
  · rw [tAdd, cnt_mput]
    by_cases e : k = x
    · subst e
      rw [if_pos rfl]
      unfold wantC
      constructor
      · intro h9; omega
      · intro h9
        split at h9
        · rw [lkp_mput, if_pos rfl] at h9; cases h9
        · rename_i h8; exact absurd ((h.sync k).2 h9) h8
    · rw [if_neg e, h.sync]
      unfold wantC
      split
      · rw [lkp_mput, if_neg e]
      · rfl
  · unfold wantC
    split
    · refine ⟨fun x h1 hx => ?_⟩
      rw [lkp_mput] at hx
      by_cases e : k = x
      · subst e
        rw [if_pos rfl] at hx
        simp only [Option.some.injEq] at hx
        subst hx
        exact (fillC_mm k fs [] _ Mm.nil).congr (fun i => by unfold SK; simp)
      · rw [if_neg e] at hx
        exact h.me.mm x h1 hx
    · exact h.me
theorem Whole.inv {u : List (Tri × Int)} {c : SC} {fs : List FD} {ns : List Tri} {n : Nat} (h : Whole u c fs ns n) (k : Tri) : cnt u k = 0 → lkp c k = none := (h.sync k).1
theorem ilt_unique : ∀ {a b : List Int}, a.Pairwise (· < ·) → b.Pairwise (· < ·) → (∀ z, z ∈ a ↔ z ∈ b) → a = b
  | [], [], _, _, _ => rfl
  | [], y :: _, _, _, h => by simpa using (h y).2 (by simp)
  | x :: _, [], _, _, h => by simpa using (h x).1 (by simp)
  | x :: t, y :: u, h1, h2, h => by
    have e : x = y := by
      rcases List.mem_cons.1 ((h x).1 (by simp)) with e | hx
      · exact e
      rcases List.mem_cons.1 ((h y).2 (by simp)) with e | hy
      · exact e.symm
      have a1 := List.rel_of_pairwise_cons h2 hx
      have a2 := List.rel_of_pairwise_cons h1 hy
      omega
    subst e
    congr 1
    refine ilt_unique h1.of_cons h2.of_cons fun z => ?_
    have hz := h z
    simp only [List.mem_cons] at hz
    constructor
    · intro hm
      rcases hz.1 (.inr hm) with rfl | h3
      · have := List.rel_of_pairwise_cons h1 hm; omega
      · exact h3
    · intro hm
      rcases hz.2 (.inr hm) with rfl | h3
      · have := List.rel_of_pairwise_cons h2 hm; omega
      · exact h3
theorem sortI_lt {zs : List Int} (hn : zs.Nodup) : (sortI zs).Pairwise (· < ·) := by
  have h1 : (sortI zs).Pairwise (fun a b => decide (a ≤ b) = true) := List.pairwise_mergeSort (fun a b c h1 h2 => by simp at *; omega) (fun a b => by simp; omega) zs
  have h2 : (sortI zs).Nodup := ((List.mergeSort_perm zs _).nodup_iff).2 hn
  refine (h1.and h2).imp fun {a b} h => ?_
  have := h.1; have := h.2
  simp at *; omega
theorem lkp_keys {h : List (Int × Int)} {id : Int} : id ∈ h.map Prod.fst ↔ (lkp h id).isSome = true := by
  cases e : lkp h id with
  | none =>
    rw [lkp_none] at e
    simp only [Option.isSome_none, Bool.false_eq_true, iff_false]
    intro hm
    obtain ⟨p, hp, rfl⟩ := List.mem_map.1 hm
    exact e p hp rfl
  | some v => simp only [Option.isSome_some, iff_true]; exact List.mem_map.2 ⟨_, lkp_some e, rfl⟩
theorem num_pos {κ : Type} [DecidableEq κ] {ns : List κ} {k : κ} (h : k ∈ ns) : 0 < num ns k := by rw [num_def]; exact List.count_pos_iff.2 h
/-- The ids of a memory are those of the facts with its key. -/
theorem Whole.items {u : List (Tri × Int)} {c : SC} {fs : List FD} {ns : List Tri} {n : Nat} (h : Whole u c fs ns n) {k : Tri} (hk : k ∈ ns) : itemsC c k = (fs.filter fun f => hasK f.2 k).map Prod.fst := by
  have hw : ¬ cnt u k = 0 := by
    rw [h.tal.eq]
    have := num_pos hk
    omega
  cases e : lkp c k with
  | none => exact absurd ((h.sync k).2 e) hw
  | some g =>
    have m := h.me.mm k g e
    unfold itemsC
    rw [e]
    show sortI (g.map Prod.fst) = _
    refine ilt_unique (sortI_lt m.nd) (h.inc.sublist (List.filter_sublist.map _)) fun z => ?_
    have hp : z ∈ sortI (List.map Prod.fst g) ↔ z ∈ List.map Prod.fst g := (List.mergeSort_perm _ _).mem_iff
    rw [hp, lkp_keys, m.mem]
    unfold SK
    simp only [List.mem_map, List.mem_filter]
    constructor
    · rintro ⟨f, hf, h1, h2⟩; exact ⟨f, ⟨hf, h2⟩, h1⟩
    · rintro ⟨f, ⟨hf, h2⟩, h1⟩; exact ⟨f, hf, h1, h2⟩
theorem nd_len {l : List Int} {n : Nat} (hn : l.Pairwise (· < ·)) (hb : ∀ x ∈ l, 1 ≤ x ∧ x ≤ (n : Int)) : l.length ≤ n := by
  have key : ∀ (l : List Int) (a : Int), l.Pairwise (· < ·) → (∀ x ∈ l, a < x ∧ x ≤ (n : Int)) → (l.length : Int) ≤ (n : Int) - a ∨ l = [] := by
    intro l
    induction l with
    | nil => intro _ _ _; exact .inr rfl
    | cons x t ih =>
      intro a hp hb
      left
      have h1 := hb x (by simp)
      rcases ih x hp.of_cons (fun y hy => ⟨List.rel_of_pairwise_cons hp hy, (hb y (by simp [hy])).2⟩) with h2 | h2
      · simp; omega
      · subst h2; simp; omega
  rcases key l 0 hn (fun x hx => by have := hb x hx; omega) with h | h
  · omega
  · subst h; simp
theorem Whole.len {u : List (Tri × Int)} {c : SC} {fs : List FD} {ns : List Tri} {n : Nat} (h : Whole u c fs ns n) : fs.length ≤ n := by
  have := nd_len h.inc (fun x hx => by obtain ⟨f, hf, rfl⟩ := List.mem_map.1 hx; exact h.bd f hf)
  simpa using this
theorem Whole.wf {u : List (Tri × Int)} {c : SC} {fs : List FD} {ns : List Tri} {n : Nat} (h : Whole u c fs ns n) (hn : n ≤ 1000) (k : Tri) : ∀ g, lkp c k = some g → (∀ q ∈ g, (Lit.int .i64 q.1).wf = true) ∧ g.length ≤ 5000 := by
  intro g hg
  have m := h.me.mm k g hg
  have hb : ∀ x ∈ g.map Prod.fst, 1 ≤ x ∧ x ≤ (n : Int) := fun x hx => by
    obtain ⟨f, hf, rfl, _⟩ := (m.mem x).1 (lkp_keys.1 hx)
    exact h.bd f hf
  refine ⟨fun q hq => wf_mk (by have := hb q.1 (List.mem_map.2 ⟨q, hq, rfl⟩); omega), ?_⟩
  have h1 := nd_len (sortI_lt m.nd) (fun x hx => hb x (((List.mergeSort_perm _ _).mem_iff : x ∈ sortI (List.map Prod.fst g) ↔ _).1 hx))
  have h2 : (sortI (List.map (fun x => x.1) g)).length = g.length := by unfold sortI; rw [List.length_mergeSort]; simp
  omega
end Go.Gx.T12

/- Plain laws of trees of tokens: what stays so, whatever comes and goes. -/
namespace Go.Gx.T15
open Go.Gx Go.Gx.T10 Go.Gx.T12
theorem nodup_len {zs : List Int} {n : Nat} (hn : zs.Nodup) (hb : ∀ x ∈ zs, 1 ≤ x ∧ x ≤ (n : Int)) : zs.length ≤ n := by
  have hp := List.mergeSort_perm zs (fun a b => decide (a ≤ b))
  have h1 := nd_len (sortI_lt hn) (fun x hx => hb x (hp.mem_iff.1 hx))
  have h2 : (sortI zs).length = zs.length := by unfold sortI; rw [List.length_mergeSort]
  omega
theorem nodup_same {a b : List Int} (ha : a.Nodup) (hb : b.Nodup) (h : ∀ x, x ∈ a ↔ x ∈ b) : a.length = b.length := by
  have hpa := List.mergeSort_perm a (fun a b => decide (a ≤ b))
  have hpb := List.mergeSort_perm b (fun a b => decide (a ≤ b))
  have e : sortI a = sortI b := ilt_unique (sortI_lt ha) (sortI_lt hb) (fun x => by
    have h1 : x ∈ sortI a ↔ x ∈ a := hpa.mem_iff
    have h2 : x ∈ sortI b ↔ x ∈ b := hpb.mem_iff
    rw [h1, h2, h])
  have h1 : (sortI a).length = a.length := by unfold sortI; rw [List.length_mergeSort]
  have h2 : (sortI b).length = b.length := by unfold sortI; rw [List.length_mergeSort]
  rw [← h1, ← h2, e]
theorem mdels_nodup {κ ν : Type} [DecidableEq κ] : ∀ (ks : List κ) (l : List (κ × ν)), (l.map (·.1)).Nodup → ((mdels l ks).map (·.1)).Nodup
  | [], _, h => h
  | k :: t, l, h => mdels_nodup t (mdel l k) (mdel_nodup h k)
theorem mdels_none {κ ν : Type} [DecidableEq κ] {k : κ} : ∀ (ks : List κ) (l : List (κ × ν)), (l.map (·.1)).Nodup → (k ∈ ks ∨ lkp l k = none) → lkp (mdels l ks) k = none
  | [], _, _, h => by rcases h with h | h; cases h; exact h
  | k' :: t, l, hn, h => by
    show lkp (mdels (mdel l k') t) k = none
    refine mdels_none t _ (mdel_nodup hn k') ?_
    rw [lkp_mdel hn]
    rcases h with h | h
    · rcases List.mem_cons.1 h with rfl | h
      · right; rw [if_pos rfl]
      · exact .inl h
    · right; split; rfl; exact h
section
variable {α : Type}
/-- One is another, or above it. -/
inductive Anc (g : Int → Option (Tk α)) (a : Int) : Int → Prop
  | refl : Anc g a a
  | step {k : Int} {x : Tk α} : g k = some x → Anc g a x.par → Anc g a k
theorem Anc.le {g : Int → Option (Tk α)} {a k : Int} (hO : Ord g) (h : Anc g a k) : a ≤ k := by
  induction h with
  | refl => exact Int.le_refl _
  | step h1 _ ih => have := (hO _ _ h1).2; omega
theorem Anc.trans {g : Int → Option (Tk α)} {a b c : Int} (h : Anc g a b) (k : Anc g b c) : Anc g a c := by
  induction k with
  | refl => exact h
  | step h1 _ ih => exact .step h1 ih
theorem Anc.both {g : Int → Option (Tk α)} {a b c : Int} (h : Anc g a c) (k : Anc g b c) : Anc g a b ∨ Anc g b a := by
  induction h with
  | refl => exact .inr k
  | step h1 h2 ih =>
    cases k with
    | refl => exact .inl (.step h1 h2)
    | step h3 h4 =>
      rw [h1] at h3
      simp only [Option.some.injEq] at h3
      subst h3
      exact ih h4
mutual
theorem fitsG_closed {g : Int → Option (Tk α)} : ∀ {T : RT α}, FitsG g T → ∀ q ∈ (post T).map (·.1), ∀ y, g q = some y → ∀ k ∈ y.kids, k ∈ (post T).map (·.1)
  | .mk i a f ks, ⟨⟨x, h1, _, _, h4⟩, h5⟩, q, hq, y, hy, k, hk => by
    rw [post, List.map_append] at hq ⊢
    rcases List.mem_append.1 hq with hq | hq
    · exact List.mem_append_left _ (fitsGL_closed h5 q hq y hy k hk)
    · simp only [List.map_cons, List.map_nil, List.mem_singleton] at hq
      subst hq
      rw [h1] at hy
      simp only [Option.some.injEq] at hy
      subst hy
      rw [h4] at hk
      exact List.mem_append_left _ (kids_in ks k hk)
theorem fitsGL_closed {g : Int → Option (Tk α)} : ∀ {ks : List (RT α)}, FitsGL g ks → ∀ q ∈ (postL ks).map (·.1), ∀ y, g q = some y → ∀ k ∈ y.kids, k ∈ (postL ks).map (·.1)
  | t :: ts, ⟨h1, h2⟩, q, hq, y, hy, k, hk => by
    rw [postL, List.map_append] at hq ⊢
    rcases List.mem_append.1 hq with hq | hq
    · exact List.mem_append_left _ (fitsG_closed h1 q hq y hy k hk)
    · exact List.mem_append_right _ (fitsGL_closed h2 q hq y hy k hk)
theorem kids_in : ∀ (ks : List (RT α)) (k : Int), k ∈ ks.map RT.id → k ∈ (postL ks).map (·.1)
  | t :: ts, k, hk => by
    rw [postL, List.map_append]
    simp only [List.map_cons, List.mem_cons] at hk
    rcases hk with rfl | hk
    · exact List.mem_append_left _ (post_id t)
    · exact List.mem_append_right _ (kids_in ts k hk)
end
variable [DecidableEq α]
structure TInv (s : TS (Tk α) α) : Prop where
  nd : (s.toks.map (·.1)).Nodup
  lo : 1 ≤ s.last
  rng : ∀ id x, lkp s.toks id = some x → 1 ≤ id ∧ id ≤ s.last ∧ x.par < id ∧ 0 ≤ x.par
  par : ∀ id x, lkp s.toks id = some x → ¬ id = 1 → ∃ y, lkp s.toks x.par = some y ∧ id ∈ y.kids
  kid : ∀ id x, lkp s.toks id = some x → ∀ k ∈ x.kids, ∃ y, lkp s.toks k = some y ∧ y.par = id
  up : ∀ id x, lkp s.toks id = some x → x.kids.Pairwise (· < ·)
  root : ∃ x, lkp s.toks 1 = some x ∧ x.par = 0
omit [DecidableEq α] in
theorem TInv.ord {s : TS (Tk α) α} (h : TInv s) : Ord (lkp s.toks) := fun id x e => ⟨(h.rng id x e).1, (h.rng id x e).2.2.1⟩
theorem TInv.new (a : α) : TInv (newS a) := by
  have key : ∀ id x, lkp (newS a).toks id = some x → id = 1 ∧ x = ⟨a, 0, 0, []⟩ := by
    intro id x e
    simp only [newS, lkp] at e
    split at e
    · rename_i h1; simp only [Option.some.injEq] at e; exact ⟨h1.symm, e.symm⟩
    · cases e
  refine ⟨by simp [newS], by simp [newS], fun id x e => ?_, fun id x e hne => absurd (key id x e).1 hne, fun id x e k hk => ?_, fun id x e => ?_, ⟨⟨a, 0, 0, []⟩, by simp [newS, lkp], rfl⟩⟩
  · obtain ⟨rfl, rfl⟩ := key id x e; simp [newS]
  · obtain ⟨rfl, rfl⟩ := key id x e; cases hk
  · obtain ⟨rfl, rfl⟩ := key id x e; simp
omit [DecidableEq α] in
theorem TInv.kidle {s : TS (Tk α) α} (h : TInv s) {id : Int} {x : Tk α} (e : lkp s.toks id = some x) {k : Int} (hk : k ∈ x.kids) : id < k ∧ k ≤ s.last := by
  obtain ⟨y, h1, h2⟩ := h.kid id x e k hk
  have := h.rng k y h1
  omega
omit [DecidableEq α] in
theorem TInv.klen {s : TS (Tk α) α} (h : TInv s) {id : Int} {x : Tk α} (e : lkp s.toks id = some x) : x.kids.length ≤ s.last.toNat := by
  refine nd_len (h.up id x e) (fun k hk => ?_)
  have h1 := h.kidle e hk
  have h2 := h.rng id x e
  omega
theorem add_lkp {s : TS (Tk α) α} {par : Int} {a : α} {f : Int} {x : Tk α} (hx : lkp s.toks par = some x) (k : Int) :
    lkp (addS s par a f).toks k = if par = k then some ⟨x.pla, x.par, x.fac, x.kids ++ [s.last + 1]⟩ else if s.last + 1 = k then some ⟨a, par, f, []⟩ else lkp s.toks k := by
  unfold addS; rw [hx]; simp only [lkp_mput]
theorem add_no {s : TS (Tk α) α} {par : Int} {a : α} {f : Int} (hx : lkp s.toks par = none) : addS s par a f = s := by unfold addS; rw [hx]
theorem add_last {s : TS (Tk α) α} {par : Int} {a : α} {f : Int} : (addS s par a f).last = if (lkp s.toks par).isSome then s.last + 1 else s.last := by
  unfold addS; cases lkp s.toks par <;> rfl
theorem TInv.add {s : TS (Tk α) α} (h : TInv s) (par : Int) (a : α) (f : Int) : TInv (addS s par a f) := by
  cases hx : lkp s.toks par with
  | none => rw [add_no hx]; exact h
  | some x =>
    have hr := h.rng par x hx
    have hlk := add_lkp (a := a) (f := f) hx
    have hlast : (addS s par a f).last = s.last + 1 := by rw [add_last, hx]; rfl
    have hfresh : lkp s.toks (s.last + 1) = none := by
      cases e : lkp s.toks (s.last + 1) with
      | none => rfl
      | some y => have := h.rng _ y e; omega
    have old : ∀ id y, lkp s.toks id = some y → ∃ y', lkp (addS s par a f).toks id = some y' ∧ y'.par = y.par ∧ (∀ k, k ∈ y.kids → k ∈ y'.kids) := by
      intro id y e
      rw [hlk]
      by_cases h1 : par = id
      · subst h1; rw [hx] at e; simp only [Option.some.injEq] at e; subst e
        rw [if_pos rfl]; exact ⟨_, rfl, rfl, fun k hk => List.mem_append_left _ hk⟩
      · have h2 : ¬ s.last + 1 = id := by have := h.rng id y e; omega
        rw [if_neg h1, if_neg h2]; exact ⟨y, e, rfl, fun _ hk => hk⟩
    have new : lkp (addS s par a f).toks (s.last + 1) = some ⟨a, par, f, []⟩ := by rw [hlk, if_neg (by omega), if_pos rfl]
    have inv : ∀ id y, lkp (addS s par a f).toks id = some y → (id = par ∧ y = ⟨x.pla, x.par, x.fac, x.kids ++ [s.last + 1]⟩) ∨ (id = s.last + 1 ∧ y = ⟨a, par, f, []⟩) ∨ (¬ id = par ∧ lkp s.toks id = some y) := by
      intro id y e
      rw [hlk] at e
      split at e
      · rename_i h1; simp only [Option.some.injEq] at e; exact .inl ⟨h1.symm, e.symm⟩
      · rename_i h0
        split at e
        · rename_i h1; simp only [Option.some.injEq] at e; exact .inr (.inl ⟨h1.symm, e.symm⟩)
        · exact .inr (.inr ⟨fun e2 => h0 e2.symm, e⟩)
    have hlo := h.lo
    refine ⟨?_, by rw [hlast]; omega, fun id y e => ?_, fun id y e hne => ?_, fun id y e k hk => ?_, fun id y e => ?_, ?_⟩
    · have e2 : (addS s par a f).toks = mput (mput s.toks (s.last + 1) ⟨a, par, f, []⟩) par ⟨x.pla, x.par, x.fac, x.kids ++ [s.last + 1]⟩ := by unfold addS; rw [hx]
      rw [e2]; exact mput_nodup (mput_nodup h.nd _ _) _ _
    · rw [hlast]
      rcases inv id y e with ⟨rfl, rfl⟩ | ⟨rfl, rfl⟩ | ⟨_, e⟩
      · exact ⟨hr.1, by omega, hr.2.2⟩
      · exact ⟨by omega, by omega, by dsimp only; omega, by dsimp only; omega⟩
      · have := h.rng id y e; exact ⟨this.1, by omega, this.2.2⟩
    · rcases inv id y e with ⟨rfl, rfl⟩ | ⟨rfl, rfl⟩ | ⟨_, e⟩
      · obtain ⟨z, h1, h2⟩ := h.par _ x hx hne
        obtain ⟨z', h3, _, h4⟩ := old _ z h1
        exact ⟨z', h3, h4 _ h2⟩
      · obtain ⟨z', h3, _, _⟩ := old _ x hx
        refine ⟨_, by dsimp only; rw [hlk, if_pos rfl], List.mem_append_right _ (List.mem_singleton.2 rfl)⟩
      · obtain ⟨z, h1, h2⟩ := h.par _ y e hne
        obtain ⟨z', h3, _, h4⟩ := old _ z h1
        exact ⟨z', h3, h4 _ h2⟩
    · rcases inv id y e with ⟨rfl, rfl⟩ | ⟨rfl, rfl⟩ | ⟨_, e⟩
      · rcases List.mem_append.1 hk with hk | hk
        · obtain ⟨z, h1, h2⟩ := h.kid _ x hx k hk
          obtain ⟨z', h3, h4, _⟩ := old _ z h1
          exact ⟨z', h3, h4.trans h2⟩
        · rw [List.mem_singleton.1 hk]; exact ⟨_, new, rfl⟩
      · cases hk
      · obtain ⟨z, h1, h2⟩ := h.kid _ y e k hk
        obtain ⟨z', h3, h4, _⟩ := old _ z h1
        exact ⟨z', h3, h4.trans h2⟩
    · rcases inv id y e with ⟨rfl, rfl⟩ | ⟨rfl, rfl⟩ | ⟨_, e⟩
      · refine List.pairwise_append.2 ⟨h.up _ x hx, by simp, fun k hk z hz => ?_⟩
        rw [List.mem_singleton.1 hz]
        have := (h.kidle hx hk).2
        omega
      · simp
      · exact h.up id y e
    · obtain ⟨z, h1, h2⟩ := h.root
      obtain ⟨z', h3, h4, _⟩ := old _ z h1
      exact ⟨z', h3, h4.trans h2⟩
/-- What goes out with a token. -/
structure Goes (s : TS (Tk α) α) (id : Int) (T : RT α) : Prop where
  top : T.id = id
  fit : FitsG (lkp s.toks) T
  nd : ((post T).map (·.1)).Nodup
  anc : ∀ k ∈ (post T).map (·.1), Anc (lkp s.toks) id k
omit [DecidableEq α] in
theorem TInv.goes {s : TS (Tk α) α} (h : TInv s) : ∀ (n : Nat) (id : Int) (x : Tk α), lkp s.toks id = some x → (s.last - id).toNat < n → ∃ T, Goes s id T
  | 0, _, _, _, hn => absurd hn (Nat.not_lt_zero _)
  | n + 1, id, x, hx, hn => by
    have kids : ∀ ks : List Int, (∀ k ∈ ks, k ∈ x.kids) → ks.Pairwise (· < ·) → ∃ Ts : List (RT α), Ts.map RT.id = ks ∧ FitsGL (lkp s.toks) Ts ∧ ((postL Ts).map (·.1)).Nodup ∧ ∀ k ∈ (postL Ts).map (·.1), ∃ c ∈ ks, Anc (lkp s.toks) c k := by
      intro ks
      induction ks with
      | nil => exact fun _ _ => ⟨[], rfl, trivial, by simp [postL], by simp [postL]⟩
      | cons k t ih =>
        intro hm hp
        obtain ⟨Ts, h1, h2, h3, h4⟩ := ih (fun c hc => hm c (List.mem_cons_of_mem _ hc)) hp.of_cons
        have hk := hm k (List.mem_cons_self ..)
        obtain ⟨y, hy, hyp⟩ := h.kid id x hx k hk
        have hlt := h.kidle hx hk
        have hr := h.rng id x hx
        obtain ⟨T, g1, g2, g3, g4⟩ := h.goes n k y hy (by omega)
        refine ⟨T :: Ts, by simp [g1, h1], ⟨g2, h2⟩, ?_, fun c hc => ?_⟩
        · rw [postL, List.map_append]
          refine List.nodup_append.2 ⟨g3, h3, fun a ha b hb e => ?_⟩
          subst e
          obtain ⟨c, hc, hca⟩ := h4 a hb
          have hka := g4 a ha
          have hkc : k < c := List.rel_of_pairwise_cons hp hc
          have hcx := hm c (List.mem_cons_of_mem _ hc)
          obtain ⟨yc, hyc, hycp⟩ := h.kid id x hx c hcx
          rcases hka.both hca with h5 | h5
          · cases h5 with
            | refl => omega
            | step h6 h7 =>
              rw [hyc] at h6; simp only [Option.some.injEq] at h6; subst h6
              rw [hycp] at h7
              have := h7.le h.ord
              omega
          · have := h5.le h.ord; omega
        · rw [postL, List.map_append] at hc
          rcases List.mem_append.1 hc with hc | hc
          · exact ⟨k, List.mem_cons_self .., g4 c hc⟩
          · obtain ⟨c', h5, h6⟩ := h4 c hc; exact ⟨c', List.mem_cons_of_mem _ h5, h6⟩
    obtain ⟨Ts, h1, h2, h3, h4⟩ := kids x.kids (fun _ hk => hk) (h.up id x hx)
    refine ⟨.mk id x.pla x.fac Ts, rfl, ⟨⟨x, hx, rfl, rfl, h1.symm⟩, h2⟩, ?_, fun k hk => ?_⟩
    · rw [post, List.map_append]
      refine List.nodup_append.2 ⟨h3, by simp, fun a ha b hb e => ?_⟩
      simp only [List.map_cons, List.map_nil, List.mem_singleton] at hb
      subst e; subst hb
      obtain ⟨c, hc, hca⟩ := h4 a ha
      have h5 := h.kidle hx hc
      have h6 := hca.le h.ord
      omega
    · rw [post, List.map_append] at hk
      rcases List.mem_append.1 hk with hk | hk
      · obtain ⟨c, hc, hca⟩ := h4 k hk
        obtain ⟨y, hy, hyp⟩ := h.kid id x hx c hc
        have : Anc (lkp s.toks) id c := .step hy (by rw [hyp]; exact .refl)
        exact this.trans hca
      · simp only [List.map_cons, List.map_nil, List.mem_singleton] at hk
        rw [hk]; exact .refl
end
end Go.Gx.T15
