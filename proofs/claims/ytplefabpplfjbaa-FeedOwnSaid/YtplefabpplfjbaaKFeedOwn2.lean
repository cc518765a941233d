/- Texts of this work, laid together: a logic of steps, plain laws, and walks of Go functions, each without a condition but those that its theorems name. -/
import Derived.Test.YtplefabpplfjbaaKFeedOwn1
import Derived.Test.YtplefabpplfjbaaRows
/- Plain laws of chains of conditions; no program in sight. -/
namespace Go.Gx
theorem RowAt.congr {G : Ghost} {b o n : Nat} {f g : Nat → Value} (h : RowAt G b o n f) (e : ∀ i, i < n → f i = g i) : RowAt G b o n g := by
  obtain ⟨c, T, fr, h1, h2⟩ := h
  exact ⟨c, T, fr, h1, fun j hj => by rw [h2 j hj, e j hj]⟩
end Go.Gx
namespace Go.Gx.T6
open Go.Gx Go.Gx.T3 Go.Gx.T4 Go.Gx.T8

theorem nil_rs {α : Type} {G : Ghost} {n c : Nat} {sz : Nat} {cells : α → List Value} {e : α} {rs : List α} (h : SlL G (.slice none n c) sz cells e rs) : rs = [] := by
  obtain ⟨a, cap, e1, _, h2⟩ := h
  simp only [Value.slice.injEq] at e1
  obtain ⟨rfl, _⟩ := e1
  rcases rs with _ | ⟨x, t⟩
  · rfl
  · obtain ⟨_, _, e3, _⟩ := h2 (by simp)
    cases e3

mutual
/-- The chains of what stands in a condition, and its own. -/
def chain1 : List CT → CT → List (List CT)
  | ah, .mk h l => (if h.k = 3 then chains ah l else []) ++ [ah ++ [.mk h l]]
/-- The chains of conditions behind a beginning. -/
def chains : List CT → List CT → List (List CT)
  | _, [] => []
  | ah, c :: t => chain1 ah c ++ chains (ah ++ [c]) t
end
mutual
theorem chain1_len : ∀ (c : CT) (ah : List CT), (chain1 ah c).length ≤ size c
  | .mk h l, ah => by
    have := chains_len l ah
    rw [chain1, size]
    split <;> simp <;> omega
theorem chains_len : ∀ (l : List CT) (ah : List CT), (chains ah l).length ≤ sizeL l
  | [], _ => by simp [chains, sizeL]
  | c :: t, ah => by
    have h1 := chain1_len c ah
    have h2 := chains_len t (ah ++ [c])
    rw [chains, sizeL, List.length_append]; omega
end
/-- What is known of the chains that were found: each is a slice of conditions. -/
abbrev ChC (G : Ghost) (z : List (List CT × Value)) : Prop := ∀ q ∈ z, Cs G q.2 q.1
theorem ChC.mono {G G' : Ghost} {z : List (List CT × Value)} (h : ChC G z) (hle : GLe G G') : ChC G' z := fun q hq => (h q hq).mono hle
/-! ### alike -/
def hEq (a b : Hd) : Bool := decide (a.k = b.k) && csEq [.bool a.v0, .int .i64 a.n0, .bool a.v1, .int .i64 a.n1, .bool a.v2, .int .i64 a.n2] [.bool b.v0, .int .i64 b.n0, .bool b.v1, .int .i64 b.n1, .bool b.v2, .int .i64 b.n2]
def hRb (a b : Hd) : Bool := csEq [.int .i64 (vi a.v0), .int .i64 a.n0, .int .i64 (vi a.v1), .int .i64 a.n1, .int .i64 (vi a.v2), .int .i64 a.n2] [.int .i64 (vi b.v0), .int .i64 b.n0, .int .i64 (vi b.v1), .int .i64 b.n1, .int .i64 (vi b.v2), .int .i64 b.n2]
theorem hEq_iff (a b : Hd) : hEq a b = true ↔ a = b := by
  obtain ⟨a0, a1, a2, a3, a4, a5, a6⟩ := a
  obtain ⟨b0, b1, b2, b3, b4, b5, b6⟩ := b
  simp [hEq, csEq, cEq]
mutual
def ceq : CT → CT → Bool
  | .mk h l, .mk h' l' => hEq h h' && ceqL l l'
def ceqL : List CT → List CT → Bool
  | [], [] => true
  | c :: t, c' :: t' => ceq c c' && ceqL t t'
  | _, _ => false
end
mutual
theorem ceq_iff : ∀ (a b : CT), ceq a b = true ↔ a = b
  | .mk h l, .mk h' l' => by
    rw [ceq, Bool.and_eq_true, hEq_iff, ceqL_iff l l']
    simp
theorem ceqL_iff : ∀ (l l' : List CT), ceqL l l' = true ↔ l = l'
  | [], [] => by simp [ceqL]
  | [], _ :: _ => by simp [ceqL]
  | _ :: _, [] => by simp [ceqL]
  | c :: t, c' :: t' => by
    rw [ceqL, Bool.and_eq_true, ceq_iff c c', ceqL_iff t t']
    simp
end
/-- The chains that conditions end themselves. -/
def ownC (l : List CT) : List Int := (List.range l.length).map fun i => (sizeL (l.take (i + 1)) : Int) - 1
def ownCTo (l : List CT) (k : Nat) : List Int := (List.range k).map fun i => (sizeL (l.take (i + 1)) : Int) - 1
abbrev RhC (G : Ghost) (z : List (List CT × Value)) : Prop := ∀ q ∈ z, Rs G q.2 q.1
theorem RhC.mono {G G' : Ghost} {z : List (List CT × Value)} (h : RhC G z) (hle : GLe G G') : RhC G' z := fun q hq => (h q hq).mono hle
end Go.Gx.T6

/- Walks: what Go functions of this chapter come to, each as a function on plain data; no condition but those that each theorem names. Printed by a program of this work (gen.py). -/
namespace Go.Proofs.Ytplefabpplfjbaa
open Go.Gx Go.Gx.T21 Go.Gx.T6 Go.Gx.T4
theorem mixed : Try.prog.follows .mixedOrders = true := by
 kernel_rfl
theorem sz3 : SzIs Try.prog 3 1 := by
 unfold SzIs
 kernel_rfl
theorem sz67 : SzIs Try.prog 67 1 := by
 unfold SzIs
 kernel_rfl
theorem sz71 : SzIs Try.prog 71 1 := by
 unfold SzIs
 kernel_rfl
theorem zr70 : ZeroIs Try.prog 70 (Value.pointer none) := by
 unfold ZeroIs
 kernel_rfl
theorem bl69_0m1 (x0 : Option Nat) : Program.built Try.prog 69 [(0, Value.map x0)] = some #[Value.map x0, Value.int .i64 0] := by
 kernel_rfl
theorem bl73_0c1 (x0 : Option Nat) : Program.built Try.prog 73 [(0, Value.chan x0)] = some #[Value.chan x0, Value.int .i64 0] := by
 kernel_rfl
theorem el3 : ElemIs Try.prog 3 1 8 (Value.int .i64 0) := by
 unfold ElemIs
 kernel_rfl
theorem el36 : ElemIs Try.prog 36 3 48 (Value.agg #[Value.bool false, Value.string ⟨#[]⟩, Value.slice none 0 0]) := by
 unfold ElemIs
 kernel_rfl
theorem e_conv1 {Q : Exit → Act → World → Prop} {e : Exit} {N : Nat} {X : Nat → Prop} {w0 : World} {G : Ghost} {l : List (Nat × Value)} {L : List Asrt} {A B : Asrt} (hI : ∀ w F, A.holds w F → B.holds w F) (h : ERuns Q e N X w0 G l (B :: L)) : ERuns Q e N X w0 G l (A :: L) := fun a w hS => h a w ⟨hS.fr, hS.mem.since, hS.mem.has, Sep.one (fun _ hf => hI _ _ hf) hS.mem.sep⟩
theorem c_cloneI_a (a : Option Addr) (cap : Nat) (rs : List (Int)) {G : Ghost} (hr : SlL G (Value.slice a rs.length cap) 1 cI (0 : Int) rs) (hlen : rs.length ≤ 1000) (w : World) (hG : Has G w) :
  Calls Try.prog 24 #[Value.slice a rs.length cap] w (Ret fun r w' => Since nX w w' ∧ ∃ F', (rowA r 3 1 (rs).length ((rs).flatMap cI)).holds w' F' ∧ ∀ b, F' b → w.heap.size ≤ b) := by
 refine enter (args := [_]) (X := nX) (G := G) (l := [(0, Value.slice a rs.length cap)]) Try.func24 rfl Try.ntmps24 hG ⟨rfl, trivial⟩ (Nat.le_of_ble_eq_true rfl) ?_
 refine c_seq ?_
 refine c_region ?_
 refine r_val .none rfl (p_assign rfl) ?_
 refine r_nil ?_
 refine e_next ?_
 refine c_seq ?_
 refine c_seq ?_
 refine c_region ?_
 refine r_val .none rfl (p_move rfl) ?_
 refine r_val .none rfl (p_eqnil Try.underlying22 rfl rfl) ?_
 refine r_nil ?_
 refine e_next ?_
 refine c_split (d := 4) rfl (fun h_1 => ?_) (fun h_1 => ?_)
 ·
  have hrs : rs = [] := by cases a with | none => exact nil_rs hr | some x => cases h_1
  refine c_cond_t rfl ?_
  refine c_seq ?_
  refine c_region ?_
  refine r_val .none rfl (p_assign rfl) ?_
  refine r_nilrow 3 1 ?_
  refine r_nil ?_
  refine e_next ?_
  refine c_ret ?_
  refine e_ret_then ?_
  refine e_ret1 Try.results24 (.tmp rfl .nil) (fun w hm => hm.made [rowA (.slice none 0 0) 3 1 (rs).length ((rs).flatMap cI)] (.keep (fun _ _ h => rowA_congr (by rw [hrs]; rfl) (by rw [hrs]; rfl) _ _ h) (.nil)) _ (fun F' h => starL_one h))
 ·
  refine c_cond_f rfl ?_
  refine c_skip ?_
  refine e_next ?_
  refine c_seq ?_
  refine c_region ?_
  refine r_bslice0 .none rfl Try.underlying22 el3 (fun v_2 => ?_)
  refine r_val .none rfl (p_move rfl) ?_
  refine r_append_g (k := 0) .none rfl Try.underlying22 el3 rfl (by decide) rfl rfl rfl hr (fun _ _ _ hj => one_lit rfl rfl _ hj) (by simp only [maxLen]; omega) (by omega) (fun v_3 => ?_)
  refine r_row1 (k := 0) rfl (fun o_4 => ?_)
  refine r_val .none rfl (p_assign rfl) ?_
  refine r_nil ?_
  refine e_next ?_
  refine c_ret ?_
  refine e_ret1 Try.results24 (.tmp rfl .nil) (fun w hm => hm.made [rowA v_3 3 1 (rs).length ((rs).flatMap cI)] (.keep (fun _ _ h => rowA_congr (by omega) (by rw [flat_all (cells := cI) (fun _ => rfl)]; rfl) _ _ h) (.nil)) _ (fun F' h => starL_one h))
theorem c_cloneI (v : Value) (rs : List (Int)) {G : Ghost} (hr : SlL G v 1 cI (0 : Int) rs) (hlen : rs.length ≤ 1000) (w : World) (hG : Has G w) : Calls Try.prog 24 #[v] w (Ret fun r w' => Since nX w w' ∧ ∃ F', (rowA r 3 1 (rs).length ((rs).flatMap cI)).holds w' F' ∧ ∀ b, F' b → w.heap.size ≤ b) := by
 obtain ⟨a, cap, rfl⟩ := SlG.len hr
 exact c_cloneI_a a cap rs hr hlen w hG
theorem c_fnew {G : Ghost}  (w : World) (hG : Has G w) :
  Calls Try.prog 6 #[] w (Ret fun r w' => ∃ p, r = Value.pointer (some ⟨p, 0, none⟩) ∧ Since nX w w' ∧ ∃ F', (feedA 69 73 3 p ([], 0)).holds w' F' ∧ ∀ b, F' b → w.heap.size ≤ b) := by
 refine enter (args := []) (X := nX) (G := G) (l := []) Try.func6 rfl Try.ntmps6 hG trivial (Nat.le_of_ble_eq_true rfl) ?_
 refine c_seq ?_
 refine c_region ?_
 refine r_val .none rfl (p_assign rfl) ?_
 refine r_nil ?_
 refine e_next ?_
 refine c_seq ?_
 refine c_region ?_
 refine r_makemap .none rfl kI veL (fun m_1 => ?_)
 refine r_val .none rfl (p_build (vs := [(0, Value.map _)]) rfl (bl69_0m1 _)) ?_
 refine r_box .none rfl rfl (IsRow.lit _) (fun b_1 => ?_)
 refine r_val .none rfl (p_assign rfl) ?_
 refine r_nil ?_
 refine e_next ?_
 refine c_ret ?_
 refine e_hnil (lisA 73 3) ?_
 refine e_front (k := 2) rfl ?_
 refine e_front (k := 2) rfl ?_
 refine e_ret1 Try.results6 (.tmp rfl .nil) (fun w hm => ⟨_, rfl, hm.made [box b_1 2 69 (at_ [.map (some m_1), .int .i64 0]), mapA m_1 kI veL ([] : List (Int × LB)), hoard (lisA 73 3) []] (.keep (fun _ _ h => box_congr (fun i hi => by match i, hi with | 0, _ => rfl | 1, _ => rfl) _ _ h) (.keep (fun _ _ h => h) (.keep (fun _ _ h => h) (.nil)))) (feedA 69 73 3 _ ([], 0)) (fun F' h => ⟨(m_1, []), rfl, h⟩)⟩)
theorem c_fopen {F : Nat → Prop} {G : Ghost} (p : Nat) (room : Int) (s : FS) (hk : ∀ id x, lkp s.1 id = some x → id ≤ s.2) (hla : 0 ≤ s.2 ∧ s.2 ≤ 1000000) (w : World) (hG : Has G w) (hA : (feedA 69 73 3 p s).holds w F) (hFG : ∀ b, F b → G b = none) :
  Calls Try.prog 9 #[Value.pointer (some ⟨p, 0, none⟩), Value.int .i64 room] w (Ret fun r w' => r = Value.tuple #[Value.int .i64 (openI s room), Value.int .i64 (openE s room)] ∧ Kept (feedA 69 73 3 p (openS s room)) F w w') := by
 refine enterO (args := [_, _]) (G := G) (A := feedA 69 73 3 p s) (l := [(0, Value.pointer (some ⟨p, 0, none⟩)), (1, Value.int .i64 room)]) Try.func9 rfl Try.ntmps9 hG hA hFG ⟨rfl, rfl, trivial⟩ (Nat.le_of_ble_eq_true rfl) ?_
 refine c_unex (fun z => ?_)
 obtain ⟨m, l⟩ := z
 refine c_unand (fun hc => ?_)
 dsimp only at hc ⊢
 refine c_unpack ?_
 have hno : lkp l (s.2 + 1) = none := by (cases hq : lkp l (s.2 + 1) with | none => rfl | some v => (have h9 := hk (s.2 + 1) (eraL v) (by rw [hc, eraF_lkp, hq]; rfl); omega))
 have hsl : (s.1.length : Int) = (l.length : Int) := by rw [hc, eraF_len]
 refine c_seq ?_
 refine c_region ?_
 refine r_val .none rfl (p_assign rfl) ?_
 refine r_val .none rfl (p_assign rfl) ?_
 refine r_nil ?_
 refine e_next ?_
 refine c_seq ?_
 refine c_block ?_
 refine c_seq ?_
 refine c_region ?_
 refine r_val .none rfl (p_move rfl) ?_
 refine r_val .none rfl (p_lt rfl rfl) ?_
 refine r_val .none rfl (p_move rfl) ?_
 refine r_splitd (d := 9) rfl (fun h_1 => ?_) (fun h_1 => ?_)
 ·
  have hR : room < 1 ∨ 1000 < room := .inl h_1
  first
   | (exfalso; omega)
   | (
    refine r_skip rfl (.no rfl rfl) ?_
    refine r_skip rfl (.no rfl rfl) ?_
    refine r_val .none rfl (p_pick_t rfl rfl) ?_
    refine r_val .none rfl (p_assign rfl) ?_
    refine r_nil ?_
    refine e_next ?_
    refine c_cond_t rfl ?_
    refine c_seq ?_
    refine c_region ?_
    refine r_val .none rfl (p_assign rfl) ?_
    refine r_val .none rfl (p_assign rfl) ?_
    refine r_nil ?_
    refine e_next ?_
    refine c_ret ?_
    refine e_ret_block ?_
    refine e_ret_then ?_
    refine e_retn Try.results9 (.tmp rfl (.tmp rfl .nil)) rfl (fun w hm => ?_)
    rw [openI, openE, openS, if_pos hR, if_pos hR, if_pos hR]
    exact ⟨rfl, hm.kept [box p 2 69 (at_ [.map (some m), .int .i64 (s.2)]), mapA m kI veL (l), hoard (lisA 73 3) (l)] (.keep (fun _ _ h => h) (.keep (fun _ _ h => h) (.keep (fun _ _ h => h) (.nil)))) (feedA 69 73 3 p (s)) (fun F' h => ⟨(m, l), hc, h⟩)⟩
    )
 ·
  have hR1 : ¬ room < 1 := h_1
  first
   | (exfalso; omega)
   | (
    refine r_val (.some rfl rfl) rfl (p_move rfl) ?_
    refine r_val (.some rfl rfl) rfl (p_gt rfl rfl) ?_
    refine r_val .none rfl (p_pick_f rfl rfl) ?_
    refine r_val .none rfl (p_assign rfl) ?_
    refine r_nil ?_
    refine e_next ?_
    refine c_splitd (d := 6) rfl (fun h_2 => ?_) (fun h_2 => ?_)
    ·
     have hR : room < 1 ∨ 1000 < room := by (have h9 := h_2; omega)
     first
      | (exfalso; omega)
      | (
       refine c_cond_t rfl ?_
       refine c_seq ?_
       refine c_region ?_
       refine r_val .none rfl (p_assign rfl) ?_
       refine r_val .none rfl (p_assign rfl) ?_
       refine r_nil ?_
       refine e_next ?_
       refine c_ret ?_
       refine e_ret_block ?_
       refine e_ret_then ?_
       refine e_retn Try.results9 (.tmp rfl (.tmp rfl .nil)) rfl (fun w hm => ?_)
       rw [openI, openE, openS, if_pos hR, if_pos hR, if_pos hR]
       exact ⟨rfl, hm.kept [box p 2 69 (at_ [.map (some m), .int .i64 (s.2)]), mapA m kI veL (l), hoard (lisA 73 3) (l)] (.keep (fun _ _ h => h) (.keep (fun _ _ h => h) (.keep (fun _ _ h => h) (.nil)))) (feedA 69 73 3 p (s)) (fun F' h => ⟨(m, l), hc, h⟩)⟩
       )
    ·
     have hR : ¬ (room < 1 ∨ 1000 < room) := by (have h9 := h_2; omega)
     first
      | (exfalso; omega)
      | (
       refine c_cond_f rfl ?_
       refine c_seq ?_
       refine c_region ?_
       refine r_val .none rfl (p_move rfl) ?_
       refine r_val .none rfl (p_nilcheck rfl) ?_
       refine r_val .none rfl (p_field Try.underlying69 rfl sz67 rfl) ?_
       refine r_val .none rfl (p_ld (k := 0) Try.underlying67 rfl rfl rfl (by first | exact of_decide_eq_true rfl | omega) (rfl : _ = Value.map _)) ?_
       refine r_val .none rfl (p_len_map (i := 1) Try.underlying67 rfl rfl) ?_
       refine r_val .none rfl (p_ge rfl rfl) ?_
       refine r_val .none rfl (p_assign rfl) ?_
       refine r_nil ?_
       refine e_next ?_
       refine c_splitd (d := 13) rfl (fun h_3 => ?_) (fun h_3 => ?_)
       ·
        have hB : 16 ≤ (s.1.length : Int) := by (have h9 := h_3; omega)
        first
         | (exfalso; omega)
         | (
          refine c_cond_t rfl ?_
          refine c_seq ?_
          refine c_region ?_
          refine r_val .none rfl (p_assign rfl) ?_
          refine r_val .none rfl (p_assign rfl) ?_
          refine r_nil ?_
          refine e_next ?_
          refine c_ret ?_
          refine e_ret_block ?_
          refine e_ret_then ?_
          refine e_retn Try.results9 (.tmp rfl (.tmp rfl .nil)) rfl (fun w hm => ?_)
          rw [openI, openE, openS, if_neg hR, if_neg hR, if_neg hR, if_pos hB, if_pos hB, if_pos hB]
          exact ⟨rfl, hm.kept [box p 2 69 (at_ [.map (some m), .int .i64 (s.2)]), mapA m kI veL (l), hoard (lisA 73 3) (l)] (.keep (fun _ _ h => h) (.keep (fun _ _ h => h) (.keep (fun _ _ h => h) (.nil)))) (feedA 69 73 3 p (s)) (fun F' h => ⟨(m, l), hc, h⟩)⟩
          )
       ·
        have hB : ¬ 16 ≤ (s.1.length : Int) := by (have h9 := h_3; omega)
        first
         | (exfalso; omega)
         | (
          refine c_cond_f rfl ?_
          refine c_skip ?_
          refine e_norm_block ?_
          refine e_next ?_
          refine c_seq ?_
          refine c_region ?_
          refine r_val .none rfl (p_move rfl) ?_
          refine r_val .none rfl (p_nilcheck rfl) ?_
          refine r_val .none rfl (p_field Try.underlying69 rfl sz3 rfl) ?_
          refine r_val .none rfl (p_ld (k := 0) Try.underlying3 rfl rfl rfl (by first | exact of_decide_eq_true rfl | omega) (rfl : _ = Value.int _ _)) ?_
          refine r_val .none rfl (p_add rfl rfl (by omega)) ?_
          refine r_val .none rfl (p_nilcheck rfl) ?_
          refine r_val .none rfl (p_field Try.underlying69 rfl sz3 rfl) ?_
          refine r_st (k := 0) .none sz3 rfl rfl rfl rfl (by first | exact of_decide_eq_true rfl | omega) ?_
          refine r_nil ?_
          refine e_next ?_
          refine c_seq ?_
          refine c_region_d (fun _ => false) _ mixed (.keep (fun _ _ h => h) (.drop (.keep (fun _ _ h => h) (.nil)))) ?_
          refine d_val1 0 rfl rfl (by kernel_rfl) (fun _ _ => rfl) .none rfl (p_move rfl) ?_
          refine d_val1 1 rfl rfl (by kernel_rfl) (fun _ _ => rfl) .none rfl (p_nilcheck rfl) ?_
          refine d_val1 2 rfl rfl (by kernel_rfl) (fun _ _ => rfl) .none rfl (p_field Try.underlying69 rfl sz67 rfl) ?_
          refine d_val1 3 rfl rfl (by kernel_rfl) (fun _ _ => rfl) .none rfl (p_ld (k := 0) Try.underlying67 rfl rfl rfl (by first | exact of_decide_eq_true rfl | omega) (rfl : _ = Value.map _)) ?_
          refine d_val1 4 rfl rfl (by kernel_rfl) (fun _ _ => rfl) .none rfl (p_move rfl) ?_
          refine d_val1 5 rfl rfl (by kernel_rfl) (fun _ _ => rfl) .none rfl (p_nilcheck rfl) ?_
          refine d_val1 6 rfl rfl (by kernel_rfl) (fun _ _ => rfl) .none rfl (p_field Try.underlying69 rfl sz3 rfl) ?_
          refine d_val1 7 rfl rfl (by kernel_rfl) (fun _ _ => rfl) .none rfl (p_ld (k := 0) Try.underlying3 rfl rfl rfl (by first | exact of_decide_eq_true rfl | omega) (rfl : _ = Value.int _ _)) ?_
          refine d_val1 8 rfl rfl (by kernel_rfl) (fun _ _ => rfl) .none rfl (p_move rfl) ?_
          obtain ⟨rm, rfl⟩ : ∃ rm : Nat, room = (rm : Int) := ⟨room.toNat, by omega⟩
          refine d_eff 9 rfl (by kernel_rfl) (fun K_4 hKK_4 hcK_4 => ?_)
          refine r_makechan .none rfl Try.underlying71 el36 rfl (by omega) (by omega) (fun c_5 => ?_)
          refine r_nil (e_d (i := 9) (brk := (fun _ => false)) (ph' := true) hKK_4 hcK_4 rfl (fun _ => GLe.refl _) (fun _ => .drop (.keep (fun _ _ h => h) (.drop (.keep (fun _ _ h => h) (.nil))))) ?_)
          clear hKK_4 hcK_4 K_4
          refine d_val1 10 rfl rfl (by kernel_rfl) (fun _ _ => rfl) .none rfl (p_build (vs := [(0, Value.chan _)]) rfl (bl73_0c1 _)) ?_
          refine d_eff 11 rfl (by kernel_rfl) (fun K_6 hKK_6 hcK_6 => ?_)
          refine r_box .none rfl rfl (IsRow.lit _) (fun b_1 => ?_)
          refine r_nil (e_d (i := 11) (brk := (fun _ => false)) (ph' := true) hKK_6 hcK_6 rfl (fun _ => GLe.refl _) (fun _ => .drop (.drop (.keep (fun _ _ h => h) (.drop (.keep (fun _ _ h => h) (.nil)))))) ?_)
          clear hKK_6 hcK_6 K_6
          refine d_eff 12 rfl (by kernel_rfl) (fun K_7 hKK_7 hcK_7 => ?_)
          refine r_mapup (i := 3) (k := s.2 + 1) (a := (b_1, c_5, rm, 0, [])) .none Try.underlying67 (KeyT.int Try.underlying3) rfl rfl rfl rfl ?_
          refine r_nil (e_d (i := 12) (brk := (fun _ => false)) (ph' := true) hKK_7 hcK_7 rfl (fun _ => GLe.refl _) (fun _ => .drop (.drop (.keep (fun _ _ h => h) (.drop (.keep (fun _ _ h => h) (.nil)))))) ?_)
          clear hKK_7 hcK_7 K_7
          refine d_nil (by kernel_rfl) ?_
          refine e_next ?_
          refine c_seq ?_
          refine c_region ?_
          refine r_val .none rfl (p_move rfl) ?_
          refine r_val .none rfl (p_nilcheck rfl) ?_
          refine r_val .none rfl (p_field Try.underlying69 rfl sz3 rfl) ?_
          refine r_val .none rfl (p_ld (k := 2) Try.underlying3 rfl rfl rfl (by first | exact of_decide_eq_true rfl | omega) (rfl : _ = Value.int _ _)) ?_
          refine r_val .none rfl (p_assign rfl) ?_
          refine r_val .none rfl (p_assign rfl) ?_
          refine r_nil ?_
          refine e_next ?_
          refine c_ret ?_
          refine e_front (k := 4) rfl ?_
          refine e_front (k := 2) rfl ?_
          refine e_front (k := 2) rfl ?_
          refine e_conv1 (B := box b_1 2 73 (at_ [.chan (some c_5), .int .i64 0])) (fun _ _ h => box_congr (fun i hi => by match i, hi with | 0, _ => rfl | 1, _ => rfl) _ _ h) ?_
          refine e_lnew (k := s.2 + 1) (lost := 0) hno ?_
          refine e_front (k := 2) rfl ?_
          refine e_front (k := 2) rfl ?_
          refine e_retn Try.results9 (.tmp rfl (.tmp rfl .nil)) rfl (fun w hm => ?_)
          rw [openI, openE, openS, if_neg hR, if_neg hR, if_neg hR, if_neg hB, if_neg hB, if_neg hB]
          exact ⟨rfl, hm.kept [box p 2 69 (at_ [.map (some m), .int .i64 (s.2 + 1)]), mapA m kI veL ((mput l (s.2 + 1) (b_1, c_5, rm, 0, []))), hoard (lisA 73 3) ((mput l (s.2 + 1) (b_1, c_5, rm, 0, [])))] (.keep (fun _ _ h => box_congr (fun i hi => by match i, hi with | 0, _ => rfl | 1, _ => rfl) _ _ h) (.keep (fun _ _ h => h) (.keep (fun _ _ h => h) (.nil)))) (feedA 69 73 3 p (mput s.1 (s.2 + 1) (rm, 0, []), s.2 + 1)) (fun F' h => ⟨(m, (mput l (s.2 + 1) (b_1, c_5, rm, 0, []))), (by dsimp only; rw [eraF_mput, hc]; rfl), h⟩)⟩
          )
       )
    )
theorem c_fwaits {F : Nat → Prop} {G : Ghost} (p : Nat) (id : Int) (s : FS)  (w : World) (hG : Has G w) (hA : (feedA 69 73 3 p s).holds w F) (hFG : ∀ b, F b → G b = none) :
  Calls Try.prog 13 #[Value.pointer (some ⟨p, 0, none⟩), Value.int .i64 id] w (Ret fun r w' => r = Value.int .i64 ((((lkp s.1 id).map fun x => x.2.2.length).getD 0 : Nat) : Int) ∧ Kept (feedA 69 73 3 p s) F w w') := by
 refine enterO (args := [_, _]) (G := G) (A := feedA 69 73 3 p s) (l := [(0, Value.pointer (some ⟨p, 0, none⟩)), (1, Value.int .i64 id)]) Try.func13 rfl Try.ntmps13 hG hA hFG ⟨rfl, rfl, trivial⟩ (Nat.le_of_ble_eq_true rfl) ?_
 refine c_unex (fun z => ?_)
 obtain ⟨m, l⟩ := z
 refine c_unand (fun hc => ?_)
 dsimp only at hc ⊢
 refine c_unpack ?_
 refine c_seq ?_
 refine c_region ?_
 refine r_val .none rfl (p_assign rfl) ?_
 refine r_nil ?_
 refine e_next ?_
 refine c_seq ?_
 refine c_seq ?_
 refine c_region ?_
 refine r_val .none rfl (p_move rfl) ?_
 refine r_val .none rfl (p_nilcheck rfl) ?_
 refine r_val .none rfl (p_field Try.underlying69 rfl sz67 rfl) ?_
 refine r_val .none rfl (p_ld (k := 0) Try.underlying67 rfl rfl rfl (by first | exact of_decide_eq_true rfl | omega) (rfl : _ = Value.map _)) ?_
 refine r_val .none rfl (p_move rfl) ?_
 rcases hN : lkp l id with _ | ⟨b, c, cap, lost, its⟩
 ·
  refine r_val .none rfl (p_lookup_no (i := 1) Try.underlying67 (KeyT.int Try.underlying3) zr70 rfl rfl rfl hN) ?_
  refine r_val .none rfl (p_assign rfl) ?_
  refine r_nil ?_
  refine e_next ?_
  refine c_seq ?_
  refine c_region ?_
  refine r_val .none rfl (p_move rfl) ?_
  refine r_val .none rfl (p_ne_ptr Try.underlying70 (by first | exact .inr rfl | exact .inl rfl) rfl rfl) ?_
  refine r_say (d := 13) (v := Value.bool false) rfl ?_
  refine r_nil ?_
  refine e_next ?_
  refine c_cond_f rfl ?_
  refine c_skip ?_
  refine e_next ?_
  refine c_seq ?_
  refine c_region ?_
  refine r_val .none rfl (p_assign rfl) ?_
  refine r_nil ?_
  refine e_next ?_
  refine c_ret ?_
  refine e_ret1 Try.results13 (.tmp rfl .nil) (fun w hm => ⟨?_, hm.kept [box p 2 69 (at_ [.map (some m), .int .i64 (s.2)]), mapA m kI veL (l), hoard (lisA 73 3) (l)] (.keep (fun _ _ h => h) (.keep (fun _ _ h => h) (.keep (fun _ _ h => h) (.nil)))) (feedA 69 73 3 p (s)) (fun F' h => ⟨(m, l), hc, h⟩)⟩)
  (rw [hc, eraF_lkp, hN]; rfl)
 ·
  refine r_front (k := 2) rfl ?_
  refine r_lfocus hN ?_
  refine r_val .none rfl (p_lookup_yes (i := 5) Try.underlying67 (KeyT.int Try.underlying3) zr70 rfl rfl rfl hN) ?_
  refine r_val .none rfl (p_assign rfl) ?_
  refine r_nil ?_
  refine e_next ?_
  refine c_seq ?_
  refine c_region ?_
  refine r_val .none rfl (p_move rfl) ?_
  refine r_val .none rfl (p_ne_ptr Try.underlying70 (by first | exact .inr rfl | exact .inl rfl) rfl rfl) ?_
  refine r_say (d := 13) (v := Value.bool true) rfl ?_
  refine r_nil ?_
  refine e_next ?_
  refine c_cond_t rfl ?_
  refine c_seq ?_
  refine c_region ?_
  refine r_val .none rfl (p_move rfl) ?_
  refine r_val .none rfl (p_nilcheck rfl) ?_
  refine r_val .none rfl (p_field Try.underlying73 rfl sz71 rfl) ?_
  refine r_val .none rfl (p_ld (k := 0) Try.underlying71 rfl rfl rfl (by first | exact of_decide_eq_true rfl | omega) (rfl : _ = Value.chan _)) ?_
  refine r_val .none rfl (p_len_chan (i := 1) Try.underlying71 rfl rfl) ?_
  refine r_val .none rfl (p_assign rfl) ?_
  refine r_nil ?_
  refine e_next ?_
  refine c_ret ?_
  refine e_ret_then ?_
  refine e_front (k := 3) rfl ?_
  refine e_front (k := 3) rfl ?_
  refine e_front (k := 3) rfl ?_
  refine e_front (k := 3) rfl ?_
  refine e_lback (lost) (its) hN ?_
  rw [mput_same hN]
  refine e_front (k := 2) rfl ?_
  refine e_front (k := 2) rfl ?_
  refine e_ret1 Try.results13 (.tmp rfl .nil) (fun w hm => ⟨?_, hm.kept [box p 2 69 (at_ [.map (some m), .int .i64 (s.2)]), mapA m kI veL (l), hoard (lisA 73 3) (l)] (.keep (fun _ _ h => h) (.keep (fun _ _ h => h) (.keep (fun _ _ h => h) (.nil)))) (feedA 69 73 3 p (s)) (fun F' h => ⟨(m, l), hc, h⟩)⟩)
  (rw [hc, eraF_lkp, hN]; simp [eraL])
theorem c_flost {F : Nat → Prop} {G : Ghost} (p : Nat) (id : Int) (s : FS)  (w : World) (hG : Has G w) (hA : (feedA 69 73 3 p s).holds w F) (hFG : ∀ b, F b → G b = none) :
  Calls Try.prog 14 #[Value.pointer (some ⟨p, 0, none⟩), Value.int .i64 id] w (Ret fun r w' => r = Value.int .i64 (((lkp s.1 id).map fun x => x.2.1).getD 0) ∧ Kept (feedA 69 73 3 p s) F w w') := by
 refine enterO (args := [_, _]) (G := G) (A := feedA 69 73 3 p s) (l := [(0, Value.pointer (some ⟨p, 0, none⟩)), (1, Value.int .i64 id)]) Try.func14 rfl Try.ntmps14 hG hA hFG ⟨rfl, rfl, trivial⟩ (Nat.le_of_ble_eq_true rfl) ?_
 refine c_unex (fun z => ?_)
 obtain ⟨m, l⟩ := z
 refine c_unand (fun hc => ?_)
 dsimp only at hc ⊢
 refine c_unpack ?_
 refine c_seq ?_
 refine c_region ?_
 refine r_val .none rfl (p_assign rfl) ?_
 refine r_nil ?_
 refine e_next ?_
 refine c_seq ?_
 refine c_seq ?_
 refine c_region ?_
 refine r_val .none rfl (p_move rfl) ?_
 refine r_val .none rfl (p_nilcheck rfl) ?_
 refine r_val .none rfl (p_field Try.underlying69 rfl sz67 rfl) ?_
 refine r_val .none rfl (p_ld (k := 0) Try.underlying67 rfl rfl rfl (by first | exact of_decide_eq_true rfl | omega) (rfl : _ = Value.map _)) ?_
 refine r_val .none rfl (p_move rfl) ?_
 rcases hN : lkp l id with _ | ⟨b, c, cap, lost, its⟩
 ·
  refine r_val .none rfl (p_lookup_no (i := 1) Try.underlying67 (KeyT.int Try.underlying3) zr70 rfl rfl rfl hN) ?_
  refine r_val .none rfl (p_assign rfl) ?_
  refine r_nil ?_
  refine e_next ?_
  refine c_seq ?_
  refine c_region ?_
  refine r_val .none rfl (p_move rfl) ?_
  refine r_val .none rfl (p_ne_ptr Try.underlying70 (by first | exact .inr rfl | exact .inl rfl) rfl rfl) ?_
  refine r_say (d := 13) (v := Value.bool false) rfl ?_
  refine r_nil ?_
  refine e_next ?_
  refine c_cond_f rfl ?_
  refine c_skip ?_
  refine e_next ?_
  refine c_seq ?_
  refine c_region ?_
  refine r_val .none rfl (p_assign rfl) ?_
  refine r_nil ?_
  refine e_next ?_
  refine c_ret ?_
  refine e_ret1 Try.results14 (.tmp rfl .nil) (fun w hm => ⟨?_, hm.kept [box p 2 69 (at_ [.map (some m), .int .i64 (s.2)]), mapA m kI veL (l), hoard (lisA 73 3) (l)] (.keep (fun _ _ h => h) (.keep (fun _ _ h => h) (.keep (fun _ _ h => h) (.nil)))) (feedA 69 73 3 p (s)) (fun F' h => ⟨(m, l), hc, h⟩)⟩)
  (rw [hc, eraF_lkp, hN]; rfl)
 ·
  refine r_front (k := 2) rfl ?_
  refine r_lfocus hN ?_
  refine r_val .none rfl (p_lookup_yes (i := 5) Try.underlying67 (KeyT.int Try.underlying3) zr70 rfl rfl rfl hN) ?_
  refine r_val .none rfl (p_assign rfl) ?_
  refine r_nil ?_
  refine e_next ?_
  refine c_seq ?_
  refine c_region ?_
  refine r_val .none rfl (p_move rfl) ?_
  refine r_val .none rfl (p_ne_ptr Try.underlying70 (by first | exact .inr rfl | exact .inl rfl) rfl rfl) ?_
  refine r_say (d := 13) (v := Value.bool true) rfl ?_
  refine r_nil ?_
  refine e_next ?_
  refine c_cond_t rfl ?_
  refine c_seq ?_
  refine c_region ?_
  refine r_val .none rfl (p_move rfl) ?_
  refine r_val .none rfl (p_nilcheck rfl) ?_
  refine r_val .none rfl (p_field Try.underlying73 rfl sz3 rfl) ?_
  refine r_val .none rfl (p_ld (k := 0) Try.underlying3 rfl rfl rfl (by first | exact of_decide_eq_true rfl | omega) (rfl : _ = Value.int _ _)) ?_
  refine r_val .none rfl (p_assign rfl) ?_
  refine r_nil ?_
  refine e_next ?_
  refine c_ret ?_
  refine e_ret_then ?_
  refine e_front (k := 3) rfl ?_
  refine e_front (k := 3) rfl ?_
  refine e_front (k := 3) rfl ?_
  refine e_front (k := 3) rfl ?_
  refine e_lback (lost) (its) hN ?_
  rw [mput_same hN]
  refine e_front (k := 2) rfl ?_
  refine e_front (k := 2) rfl ?_
  refine e_ret1 Try.results14 (.tmp rfl .nil) (fun w hm => ⟨?_, hm.kept [box p 2 69 (at_ [.map (some m), .int .i64 (s.2)]), mapA m kI veL (l), hoard (lisA 73 3) (l)] (.keep (fun _ _ h => h) (.keep (fun _ _ h => h) (.keep (fun _ _ h => h) (.nil)))) (feedA 69 73 3 p (s)) (fun F' h => ⟨(m, l), hc, h⟩)⟩)
  (rw [hc, eraF_lkp, hN]; simp [eraL])
end Go.Proofs.Ytplefabpplfjbaa

/- News are sent: one listener after the other, in whatever order. -/
namespace Go.Gx.T21
open Go.Gx
theorem enc_same : ∀ {l l' : List (Int × LB)} {k : Int} {u v : LB}, l'.map (enc kI veL) = l.map (enc kI veL) → lkp l k = some u → lkp l' k = some v → v.1 = u.1
  | [], _, _, _, _, _, h, _ => by cases h
  | p :: t, [], _, _, _, h, _, _ => by simp at h
  | p :: t, q :: t', k, u, v, h, h1, h2 => by
    simp only [List.map_cons, List.cons.injEq] at h
    obtain ⟨h3, h4⟩ := h
    have h5 : q.1 = p.1 := by have := congrArg Prod.fst h3; simpa [enc, kI] using this
    have h6 : q.2.1 = p.2.1 := by have := congrArg Prod.snd h3; simpa [enc, veL] using this
    rw [lkp] at h1 h2
    by_cases e : p.1 = k
    · rw [if_pos e] at h1; rw [if_pos (h5.trans e)] at h2
      cases h1; cases h2; exact h6
    · rw [if_neg e] at h1; rw [if_neg (fun e2 => e (h5.symm.trans e2))] at h2
      exact enc_same h4 h1 h2
section
variable {n : NE} {s1 : List (Int × LS)} {l l' lft a b : List (Int × LB)} {q : Int × LB}
theorem send_at (hc : s1 = eraF l) (hnd : (l.map (·.1)).Nodup) (hsub : ∀ q ∈ lft, q ∈ l) (hl : lft = a ++ q :: b) (he : eraF l' = selF n (lft.map (·.1)) s1) (hs : l'.map (enc kI veL) = l.map (enc kI veL)) :
    ∃ c cap lost vs, lkp l' q.1 = some (q.2.1, c, cap, lost, vs) ∧ lkp s1 q.1 = some (cap, lost, vs.map (·.2)) := by
  have hq : q ∈ lft := by rw [hl]; simp
  have h1 : lkp l q.1 = some q.2 := lkp_mem hnd (hsub q hq)
  have h2 : lkp s1 q.1 = some (eraL q.2) := by rw [hc, eraF_lkp, h1]; rfl
  have h3 : lkp (eraF l') q.1 = some (eraL q.2) := by rw [he, selF_lkp _ _ _ (List.mem_map.2 ⟨q, hq, rfl⟩), h2]
  obtain ⟨b0, c, vs, h4, h5⟩ := eraF_some h3
  have h6 : b0 = q.2.1 := enc_same hs h1 h4
  subst h6
  exact ⟨c, _, _, vs, h4, by rw [h2, h5]⟩
theorem send_next (hc : s1 = eraF l) (hnd : (l.map (·.1)).Nodup) (hsub : ∀ q ∈ lft, q ∈ l) (hn2 : (lft.map (·.1)).Nodup) (hl : lft = a ++ q :: b) (he : eraF l' = selF n (lft.map (·.1)) s1) (hs : l'.map (enc kI veL) = l.map (enc kI veL))
    {c cap : Nat} {lost : Int} {vs : List NV} (hN : lkp l' q.1 = some (q.2.1, c, cap, lost, vs)) (hS : lkp s1 q.1 = some (cap, lost, vs.map (·.2))) (lost' : Int) (vs' : List NV) (h' : (cap, lost', vs'.map (·.2)) = sendL n (cap, lost, vs.map (·.2))) :
    (∀ q' ∈ a ++ b, q' ∈ l) ∧ ((a ++ b).map (·.1)).Nodup ∧ eraF (mput l' q.1 (q.2.1, c, cap, lost', vs')) = selF n ((a ++ b).map (·.1)) s1 ∧ (mput l' q.1 (q.2.1, c, cap, lost', vs')).map (enc kI veL) = l.map (enc kI veL) ∧
      cntF ((a ++ b).map (·.1)) s1 = cntF (lft.map (·.1)) s1 + if vs.length < cap then 1 else 0 := by
  have hmem : ∀ q' ∈ a ++ b, q' ∈ lft := fun q' h => by rw [hl]; rcases List.mem_append.1 h with h | h <;> simp [h]
  have hkeys : lft.map (·.1) = a.map (·.1) ++ q.1 :: b.map (·.1) := by rw [hl]; simp
  rw [hkeys] at hn2
  have hn3 := List.nodup_append.1 hn2
  have hn4 := List.nodup_cons.1 hn3.2.1
  have hS2 : ∀ x, x ∈ (a ++ b).map (·.1) ↔ x ∈ lft.map (·.1) ∧ ¬ x = q.1 := by
    intro x
    rw [hkeys, List.map_append, List.mem_append, List.mem_append, List.mem_cons]
    constructor
    · rintro (h | h)
      · exact ⟨.inl h, fun e => hn3.2.2 x h q.1 (by simp) e⟩
      · exact ⟨.inr (.inr h), fun e => hn4.1 (e ▸ h)⟩
    · rintro ⟨h | h | h, h2⟩
      · exact .inl h
      · exact absurd h h2
      · exact .inr h
  have hin : q.1 ∈ lft.map (·.1) := by rw [hkeys]; simp
  have hnd1 : (s1.map (·.1)).Nodup := by rw [hc, eraF_keys]; exact hnd
  obtain ⟨h1, h2⟩ := sel_step n hin hS2 hnd1 hS
  refine ⟨fun q' h => hsub q' (hmem q' h), ?_, ?_, ?_, ?_⟩
  · rw [List.map_append]
    exact List.nodup_append.2 ⟨hn3.1, hn4.2, fun x hx y hy => hn3.2.2 x hx y (by simp [hy])⟩
  · rw [eraF_mput, he, ← h1]
    congr 1
  · rw [← hs]
    exact (mput_enc hN (by rfl)).symm
  · rw [h2]; simp
end
theorem feed_row {TF TL TI : TypeId} {p m : Nat} {l : List (Int × LB)} {s : FS} {Z : Asrt} (hc : s.1 = eraF l) {w : World} {F : Nat → Prop} (h : (starL [Z, box p 2 TF (at_ [.map (some m), .int .i64 s.2]), mapA m kI veL l, hoard (lisA TL TI) l]).holds w F) : (starL [Z, feedA TF TL TI p s]).holds w F := by
  obtain ⟨F1, F2, h1, h2, h3⟩ := h
  exact ⟨F1, F2, h1, (starL_oneE w F2).2 ⟨(m, l), hc, h2⟩, h3⟩
def takeS (s : FS) (id : Int) (cap : Nat) (lost : Int) (t : List NE) : FS := (mput s.1 id (cap, lost, t), s.2)
end Go.Gx.T21

/- Walks: what Go functions of this chapter come to, each as a function on plain data; no condition but those that each theorem names. Printed by a program of this work (gen.py). -/
namespace Go.Proofs.Ytplefabpplfjbaa
open Go.Gx Go.Gx.T21 Go.Gx.T6 Go.Gx.T4
theorem sz4 : SzIs Try.prog 4 1 := by
 unfold SzIs
 kernel_rfl
theorem sz9 : SzIs Try.prog 9 1 := by
 unfold SzIs
 kernel_rfl
theorem sz22 : SzIs Try.prog 22 1 := by
 unfold SzIs
 kernel_rfl
theorem sz24 : SzIs Try.prog 24 2 := by
 unfold SzIs
 kernel_rfl
theorem sz36 : SzIs Try.prog 36 3 := by
 unfold SzIs
 kernel_rfl
theorem zr36 : ZeroIs Try.prog 36 (Value.agg #[Value.bool false, Value.string ⟨#[]⟩, Value.slice none 0 0]) := by
 unfold ZeroIs
 kernel_rfl
theorem cl24 : Callable Try.prog 24 := callable Try.func24 (by kernel_rfl) rfl
theorem bl24_0s1_1s3 (x0 : ByteArray) (x1 : Option Addr) (x2 : Nat) (x3 : Nat) : Program.built Try.prog 24 [(0, Value.string x0), (1, Value.slice x1 x2 x3)] = some #[Value.string x0, Value.slice x1 x2 x3] := by
 kernel_rfl
theorem bl36_0b1_1a2 (x0 : Bool) (x1 : Value) (x2 : Value) : Program.built Try.prog 36 [(0, Value.bool x0), (1, Value.agg #[x1, x2])] = some #[Value.bool x0, x1, x2] := by
 kernel_rfl
theorem c_fsend {F : Nat → Prop} {G : Ghost} (p : Nat) (cm : Bool) (rl : ByteArray) (vi : Value) (ids : List Int) (s : FS) (hs : SlL G vi 1 cI (0 : Int) ids) (hn : ids.length ≤ 1000) (hnd : (s.1.map (·.1)).Nodup) (hln : s.1.length ≤ 1000) (hlb : ∀ id x, lkp s.1 id = some x → 0 ≤ x.2.1 ∧ x.2.1 ≤ 1000000) (w : World) (hG : Has G w) (hA : (feedA 69 73 3 p s).holds w F) (hFG : ∀ b, F b → G b = none) :
  Calls Try.prog 10 #[Value.pointer (some ⟨p, 0, none⟩), Value.agg #[.bool cm, .string rl, vi]] w (Ret fun r w' => r = Value.int .i64 (haveF s.1 : Nat) ∧ Kept (feedA 69 73 3 p (sendF (cm, rl, ids) s.1, s.2)) F w w') := by
 refine enterO (args := [_, _]) (G := G) (A := feedA 69 73 3 p s) (l := [(0, Value.pointer (some ⟨p, 0, none⟩)), (1, Value.agg #[.bool cm, .string rl, vi])]) Try.func10 rfl Try.ntmps10 hG hA hFG ⟨rfl, rfl, trivial⟩ (Nat.le_of_ble_eq_true rfl) ?_
 refine c_unex (fun z => ?_)
 obtain ⟨m, l⟩ := z
 refine c_unand (fun hc => ?_)
 dsimp only at hc ⊢
 refine c_unpack ?_
 have hnl : (l.map (·.1)).Nodup := by rw [← eraF_keys, ← hc]; exact hnd
 have hll : l.length ≤ 1000 := by (have h9 := hln; rw [hc, eraF_len] at h9; exact h9)
 refine c_seq ?_
 refine c_region ?_
 refine r_box .none rfl rfl (IsRow.lit _) (fun b_1 => ?_)
 refine r_val .none rfl (p_assign rfl) ?_
 refine r_nil ?_
 refine e_next ?_
 refine c_seq ?_
 refine c_region ?_
 refine r_val .none rfl (p_assign rfl) ?_
 refine r_nil ?_
 refine e_next ?_
 refine c_seq ?_
 refine c_seq ?_
 refine c_region ?_
 refine r_val .none rfl (p_move rfl) ?_
 refine r_val .none rfl (p_nilcheck rfl) ?_
 refine r_val .none rfl (p_field Try.underlying69 rfl sz67 rfl) ?_
 refine r_val .none rfl (p_ld (k := 1) Try.underlying67 rfl rfl rfl (by first | exact of_decide_eq_true rfl | omega) (rfl : _ = Value.map _)) ?_
 refine r_range_map (i := 2) .none rfl Try.underlying67 rfl rfl (fun r_1 => ?_)
 refine r_nil ?_
 refine e_next ?_
 refine c_block ?_
 refine c_name (d := 3) rfl (fun u_2 hu_2 => ?_)
 refine c_name (d := 4) rfl (fun u_3 hu_3 => ?_)
 refine c_name (d := 13) rfl (fun u_4 hu_4 => ?_)
 refine c_nameL (k := 0) rfl (fun A_5 hA_5 => ?_)
 refine c_nameL (k := 1) rfl (fun A_6 hA_6 => ?_)
 refine c_loop (σ := List (Int × LB) × List (Int × LB) × Nat) (fun s' => [(5, Value.int .i64 (s'.2.2 : Nat)), (3, u_2), (4, u_3), (13, u_4)]) (fun s' => [A_5, A_6, ranA m r_1 kI veL l s'.1, hoard (lisA 73 3) s'.2.1]) (fun _ => _) (fun s' => (∀ q ∈ s'.1, q ∈ l) ∧ (s'.1.map (·.1)).Nodup ∧ eraF s'.2.1 = selF (cm, rl, ids) (s'.1.map (·.1)) s.1 ∧ s'.2.1.map (enc kI veL) = l.map (enc kI veL) ∧ s'.2.2 = cntF (s'.1.map (·.1)) s.1) (fun s' => s'.1.length) ((l, l, 0)) ⟨fun _ h => h, hnl, by rw [selF_all _ (fun q hq => by rw [hc] at hq; rw [← eraF_keys]; exact List.mem_map.2 ⟨q, hq, rfl⟩), hc], rfl, (cntF_all (fun q hq => by rw [hc] at hq; rw [← eraF_keys]; exact List.mem_map.2 ⟨q, hq, rfl⟩)).symm⟩ rfl ⟨rfl, rfl, rfl, rfl, trivial⟩ (.keep (fun _ _ h => h) (.keep (fun _ _ h => h) (.keep (fun _ _ h => h) (.keep (fun _ _ h => h) (.nil))))) (fun s' hphi => ?_)
 subst hu_2
 subst hu_3
 subst hu_4
 subst hA_5
 subst hA_6
 obtain ⟨lft, l2, hv⟩ := s'
 obtain ⟨hsub, hnd2, he, hs2, hcn⟩ := hphi
 dsimp only at hsub hnd2 he hs2 hcn ⊢
 have hcl : cntF (lft.map (·.1)) s.1 ≤ 1000 := Nat.le_trans (List.length_filter_le _ _) hln
 refine c_seq ?_
 refine c_region ?_
 refine r_next_map (i := 2) .none rfl rfl rfl (fun a_8 q_9 b_10 h_7 => ?_) (fun h_7 => ?_)
 ·
  refine r_val .none rfl (p_extract rfl rfl) ?_
  refine r_nil ?_
  refine e_next ?_
  refine c_seq ?_
  refine c_cond_t rfl ?_
  refine c_skip ?_
  refine e_next ?_
  refine c_block ?_
  refine c_seq ?_
  refine c_region ?_
  refine r_val .none rfl (p_entry (i := 2) rfl rfl) ?_
  refine r_val .none rfl (p_extract rfl rfl) ?_
  obtain ⟨c, cap, lost, vs, hN, hS⟩ := send_at hc hnl hsub h_7 he hs2
  have hlo := hlb q_9.1 _ hS
  dsimp only at hlo
  refine r_front (k := 3) rfl ?_
  refine r_lfocus hN ?_
  refine r_val .none rfl (p_assign rfl) ?_
  refine r_nil ?_
  refine e_next ?_
  refine c_seq ?_
  refine c_region_d (fun _ => false) _ mixed (.keep (fun _ _ h => h) (.keep (fun _ _ h => h) (.keep (fun _ _ h => h) (.keep (fun _ _ h => h) (.keep (fun _ _ h => h) (.keep (fun _ _ h => h) (.keep (fun _ _ h => h) (.nil)))))))) ?_
  refine d_val1 0 rfl rfl (by kernel_rfl) (fun _ _ => rfl) .none rfl (p_field Try.underlying36 rfl sz4 rfl) ?_
  refine d_val1 1 rfl rfl (by kernel_rfl) (fun _ _ => rfl) .none rfl (p_ld (k := 4) Try.underlying4 rfl rfl rfl (by first | exact of_decide_eq_true rfl | omega) (rfl : _ = Value.bool _)) ?_
  refine d_val1 2 rfl rfl (by kernel_rfl) (fun _ _ => rfl) .none rfl (p_field Try.underlying36 rfl sz24 rfl) ?_
  refine d_val1 3 rfl rfl (by kernel_rfl) (fun _ _ => rfl) .none rfl (p_field Try.underlying24 rfl sz9 rfl) ?_
  refine d_val1 4 rfl rfl (by kernel_rfl) (fun _ _ => rfl) .none rfl (p_ld (k := 4) Try.underlying9 rfl rfl rfl (by first | exact of_decide_eq_true rfl | omega) (rfl : _ = Value.string _)) ?_
  refine d_val1 5 rfl rfl (by kernel_rfl) (fun _ _ => rfl) .none rfl (p_field Try.underlying36 rfl sz24 rfl) ?_
  refine d_val1 6 rfl rfl (by kernel_rfl) (fun _ _ => rfl) .none rfl (p_field Try.underlying24 rfl sz22 rfl) ?_
  refine d_val1 7 rfl rfl (by kernel_rfl) (fun _ _ => rfl) .none rfl (p_ld (k := 4) Try.underlying22 rfl rfl rfl (by first | exact of_decide_eq_true rfl | omega) rfl) ?_
  refine d_eff2 8 11 rfl rfl (by kernel_rfl) (fun K_11 hKK_11 hcK_11 => ?_) (fun K_11 hKK_11 hcK_11 => ?_)
  ·
   refine r_callrow (vs := [_]) .none rfl cl24 rfl (fun w hw => c_cloneI vi ids hs hn w hw) (fun v_12 => ?_)
   refine r_nil (e_d (i := 8) (brk := (fun _ => false)) (ph' := true) hKK_11 hcK_11 rfl (fun _ => GLe.refl _) (fun _ => .drop (.keep (fun _ _ h => h) (.keep (fun _ _ h => h) (.keep (fun _ _ h => h) (.keep (fun _ _ h => h) (.keep (fun _ _ h => h) (.keep (fun _ _ h => h) (.keep (fun _ _ h => h) (.nil))))))))) ?_)
   clear hKK_11 hcK_11 K_11
   refine d_rowsl (k := 0) rfl (fun a_13 c_14 e_15 => ?_)
   subst e_15
   refine d_val1 9 rfl rfl (by kernel_rfl) (fun _ _ => rfl) .none rfl (p_build (vs := [(0, Value.string _), (1, Value.slice _ _ _)]) rfl (bl24_0s1_1s3 _ _ _ _)) ?_
   refine d_val1 10 rfl rfl (by kernel_rfl) (fun _ _ => rfl) .none rfl (p_build (vs := [(0, Value.bool _), (1, Value.agg #[_, _])]) rfl (bl36_0b1_1a2 _ _ _)) ?_
   refine d_eff 11 rfl (by kernel_rfl) (fun K_16 hKK_16 hcK_16 => ?_)
   refine r_alloc .none rfl zr36 (IsRow.lit _) (fun b_2 => ?_)
   refine r_nil (e_d (i := 11) (brk := (fun _ => false)) (ph' := true) hKK_16 hcK_16 rfl (fun _ => GLe.refl _) (fun _ => .drop (.drop (.keep (fun _ _ h => h) (.keep (fun _ _ h => h) (.keep (fun _ _ h => h) (.keep (fun _ _ h => h) (.keep (fun _ _ h => h) (.keep (fun _ _ h => h) (.keep (fun _ _ h => h) (.nil)))))))))) ?_)
   clear hKK_16 hcK_16 K_16
   refine d_eff 12 rfl (by kernel_rfl) (fun K_17 hKK_17 hcK_17 => ?_)
   refine r_stw (k := 0) .none sz36 rfl rfl (IsRow.lit _) (one_lit rfl rfl) rfl ?_
   refine r_nil (e_d (i := 12) (brk := (fun _ => false)) (ph' := true) hKK_17 hcK_17 rfl (fun _ => GLe.refl _) (fun _ => .drop (.drop (.keep (fun _ _ h => h) (.keep (fun _ _ h => h) (.keep (fun _ _ h => h) (.keep (fun _ _ h => h) (.keep (fun _ _ h => h) (.keep (fun _ _ h => h) (.keep (fun _ _ h => h) (.nil)))))))))) ?_)
   clear hKK_17 hcK_17 K_17
   refine d_nil (by kernel_rfl) ?_
   refine e_next ?_
   refine c_seq ?_
   refine c_seq ?_
   refine c_region ?_
   refine r_val .none rfl (p_move rfl) ?_
   refine r_val .none rfl (p_nilcheck rfl) ?_
   refine r_val .none rfl (p_field Try.underlying73 rfl sz71 rfl) ?_
   refine r_val .none rfl (p_ld (k := 2) Try.underlying71 rfl rfl rfl (by first | exact of_decide_eq_true rfl | omega) (rfl : _ = Value.chan _)) ?_
   refine r_nil ?_
   refine e_next ?_
   refine c_region ?_
   refine r_val .none rfl (p_ldw (k := 0) Try.underlying36 rfl sz36 rfl rfl (rfl : _ = Value.agg #[_, _, _])) ?_
   refine r_nil ?_
   refine e_next ?_
   refine c_seq ?_
   refine c_sel_send 3 rfl zr36 rfl rfl rfl (fun h_18 => ?_) (fun h_18 => ?_)
   ·
    have hrm := h_18
    refine r_conv (B := nrow 3 ((Value.slice a_13 ids.length c_14), (cm, rl, ids))) (k := 1) rfl (fun _ _ h => h) ?_
    dsimp only [List.set_cons_zero, List.set_cons_succ]
    refine r_front (k := 4) rfl ?_
    refine r_front (k := 2) rfl ?_
    refine r_rowsnoc ?_
    refine r_conv (B := chanA c cap ((vs ++ [((Value.slice a_13 ids.length c_14), (cm, rl, ids))]).map nvV)) (k := 3) rfl (fun _ _ h => by rw [List.map_append]; exact h) ?_
    dsimp only [List.set_cons_zero, List.set_cons_succ]
    have hlt : vs.length < cap := by (have h9 := hrm; rw [List.length_map] at h9; exact h9)
    refine r_val .none rfl (p_extract rfl rfl) ?_
    refine r_val .none rfl (p_eq rfl rfl) ?_
    refine r_say (d := 36) (v := Value.bool true) rfl ?_
    refine r_nil ?_
    refine e_next ?_
    refine c_block ?_
    refine c_cond_t rfl ?_
    refine c_region ?_
    refine r_val .none rfl (p_move rfl) ?_
    refine r_val .none rfl (p_add rfl rfl (by omega)) ?_
    refine r_val .none rfl (p_assign rfl) ?_
    refine r_nil ?_
    refine e_norm_block ?_
    refine e_norm_block ?_
    refine e_front (k := 4) rfl ?_
    refine e_front (k := 1) rfl ?_
    refine e_front (k := 4) rfl ?_
    refine e_front (k := 4) rfl ?_
    refine e_conv1 (B := box q_9.2.1 2 73 (at_ [.chan (some c), .int .i64 lost])) (fun _ _ h => box_congr (fun i hi => by match i, hi with | 0, _ => rfl | 1, _ => rfl) _ _ h) ?_
    refine e_lback lost (vs ++ [((Value.slice a_13 ids.length c_14), (cm, rl, ids))]) hN ?_
    refine e_front (k := 4) rfl ?_
    refine e_front (k := 4) rfl ?_
    refine e_front (k := 4) rfl ?_
    obtain ⟨n1, n2, n3, n4, n5⟩ := send_next hc hnl hsub hnd2 h_7 he hs2 hN hS lost (vs ++ [((Value.slice a_13 ids.length c_14), (cm, rl, ids))]) (by rw [sendL, if_pos (by simpa using hlt)]; simp)
    rw [if_pos hlt] at n5
    refine e_round ((a_8 ++ b_10, mput l2 q_9.1 (q_9.2.1, c, cap, lost, (vs ++ [((Value.slice a_13 ids.length c_14), (cm, rl, ids))])), hv + 1)) ⟨⟨n1, n2, n3, n4, by dsimp only; omega⟩, by dsimp only; rw [h_7, List.length_append, List.length_append, List.length_cons]; omega⟩ rfl ⟨rfl, rfl, rfl, rfl, trivial⟩ (.keep (fun _ _ h => h) (.keep (fun _ _ h => h) (.keep (fun _ _ h => ranE_A h) (.keep (fun _ _ h => h) (.drop (.nil))))))
   ·
    have hrm := h_18
    have hlt : ¬ vs.length < cap := by (have h9 := hrm; rw [List.length_map] at h9; omega)
    refine r_val .none rfl (p_extract rfl rfl) ?_
    refine r_val .none rfl (p_eq rfl rfl) ?_
    refine r_say (d := 36) (v := Value.bool false) rfl ?_
    refine r_nil ?_
    refine e_next ?_
    refine c_block ?_
    refine c_cond_f rfl ?_
    refine c_region ?_
    refine r_val .none rfl (p_move rfl) ?_
    refine r_val .none rfl (p_nilcheck rfl) ?_
    refine r_val .none rfl (p_field Try.underlying73 rfl sz3 rfl) ?_
    refine r_val .none rfl (p_ld (k := 2) Try.underlying3 rfl rfl rfl (by first | exact of_decide_eq_true rfl | omega) (rfl : _ = Value.int _ _)) ?_
    refine r_val .none rfl (p_add rfl rfl (by omega)) ?_
    refine r_val .none rfl (p_nilcheck rfl) ?_
    refine r_val .none rfl (p_field Try.underlying73 rfl sz3 rfl) ?_
    refine r_st (k := 2) .none sz3 rfl rfl rfl rfl (by first | exact of_decide_eq_true rfl | omega) ?_
    refine r_nil ?_
    refine e_norm_block ?_
    refine e_norm_block ?_
    refine e_front (k := 5) rfl ?_
    refine e_front (k := 5) rfl ?_
    refine e_front (k := 5) rfl ?_
    refine e_front (k := 5) rfl ?_
    refine e_conv1 (B := box q_9.2.1 2 73 (at_ [.chan (some c), .int .i64 (lost + 1)])) (fun _ _ h => box_congr (fun i hi => by match i, hi with | 0, _ => rfl | 1, _ => rfl) _ _ h) ?_
    refine e_lback (lost + 1) vs hN ?_
    refine e_front (k := 5) rfl ?_
    refine e_front (k := 5) rfl ?_
    refine e_front (k := 5) rfl ?_
    obtain ⟨n1, n2, n3, n4, n5⟩ := send_next hc hnl hsub hnd2 h_7 he hs2 hN hS (lost + 1) vs (by rw [sendL, if_neg (by simpa using hlt)])
    rw [if_neg hlt] at n5
    refine e_round ((a_8 ++ b_10, mput l2 q_9.1 (q_9.2.1, c, cap, (lost + 1), vs), hv)) ⟨⟨n1, n2, n3, n4, by dsimp only; omega⟩, by dsimp only; rw [h_7, List.length_append, List.length_append, List.length_cons]; omega⟩ rfl ⟨rfl, rfl, rfl, rfl, trivial⟩ (.keep (fun _ _ h => h) (.keep (fun _ _ h => h) (.keep (fun _ _ h => ranE_A h) (.keep (fun _ _ h => h) (.drop (.drop (.nil)))))))
  ·
   refine r_alloc .none rfl zr36 (IsRow.lit _) (fun b_3 => ?_)
   refine r_nil (e_d (i := 11) (brk := (fun _ => false)) (ph' := true) hKK_11 hcK_11 rfl (fun _ => GLe.refl _) (fun _ => .drop (.keep (fun _ _ h => h) (.keep (fun _ _ h => h) (.keep (fun _ _ h => h) (.keep (fun _ _ h => h) (.keep (fun _ _ h => h) (.keep (fun _ _ h => h) (.keep (fun _ _ h => h) (.nil))))))))) ?_)
   clear hKK_11 hcK_11 K_11
   refine d_eff 8 rfl (by kernel_rfl) (fun K_19 hKK_19 hcK_19 => ?_)
   refine r_callrow (vs := [_]) .none rfl cl24 rfl (fun w hw => c_cloneI vi ids hs hn w hw) (fun v_20 => ?_)
   refine r_nil (e_d (i := 8) (brk := (fun _ => false)) (ph' := true) hKK_19 hcK_19 rfl (fun _ => GLe.refl _) (fun _ => .drop (.drop (.keep (fun _ _ h => h) (.keep (fun _ _ h => h) (.keep (fun _ _ h => h) (.keep (fun _ _ h => h) (.keep (fun _ _ h => h) (.keep (fun _ _ h => h) (.keep (fun _ _ h => h) (.nil)))))))))) ?_)
   clear hKK_19 hcK_19 K_19
   refine d_rowsl (k := 0) rfl (fun a_21 c_22 e_23 => ?_)
   subst e_23
   refine d_val1 9 rfl rfl (by kernel_rfl) (fun _ _ => rfl) .none rfl (p_build (vs := [(0, Value.string _), (1, Value.slice _ _ _)]) rfl (bl24_0s1_1s3 _ _ _ _)) ?_
   refine d_val1 10 rfl rfl (by kernel_rfl) (fun _ _ => rfl) .none rfl (p_build (vs := [(0, Value.bool _), (1, Value.agg #[_, _])]) rfl (bl36_0b1_1a2 _ _ _)) ?_
   refine d_eff 12 rfl (by kernel_rfl) (fun K_24 hKK_24 hcK_24 => ?_)
   refine r_stw (k := 1) .none sz36 rfl rfl (IsRow.lit _) (one_lit rfl rfl) rfl ?_
   refine r_nil (e_d (i := 12) (brk := (fun _ => false)) (ph' := true) hKK_24 hcK_24 rfl (fun _ => GLe.refl _) (fun _ => .drop (.drop (.keep (fun _ _ h => h) (.keep (fun _ _ h => h) (.keep (fun _ _ h => h) (.keep (fun _ _ h => h) (.keep (fun _ _ h => h) (.keep (fun _ _ h => h) (.keep (fun _ _ h => h) (.nil)))))))))) ?_)
   clear hKK_24 hcK_24 K_24
   refine d_nil (by kernel_rfl) ?_
   refine e_next ?_
   refine c_seq ?_
   refine c_seq ?_
   refine c_region ?_
   refine r_val .none rfl (p_move rfl) ?_
   refine r_val .none rfl (p_nilcheck rfl) ?_
   refine r_val .none rfl (p_field Try.underlying73 rfl sz71 rfl) ?_
   refine r_val .none rfl (p_ld (k := 2) Try.underlying71 rfl rfl rfl (by first | exact of_decide_eq_true rfl | omega) (rfl : _ = Value.chan _)) ?_
   refine r_nil ?_
   refine e_next ?_
   refine c_region ?_
   refine r_val .none rfl (p_ldw (k := 1) Try.underlying36 rfl sz36 rfl rfl (rfl : _ = Value.agg #[_, _, _])) ?_
   refine r_nil ?_
   refine e_next ?_
   refine c_seq ?_
   refine c_sel_send 3 rfl zr36 rfl rfl rfl (fun h_25 => ?_) (fun h_25 => ?_)
   ·
    have hrm := h_25
    refine r_conv (B := nrow 3 ((Value.slice a_21 ids.length c_22), (cm, rl, ids))) (k := 0) rfl (fun _ _ h => h) ?_
    dsimp only [List.set_cons_zero, List.set_cons_succ]
    refine r_front (k := 4) rfl ?_
    refine r_front (k := 1) rfl ?_
    refine r_rowsnoc ?_
    refine r_conv (B := chanA c cap ((vs ++ [((Value.slice a_21 ids.length c_22), (cm, rl, ids))]).map nvV)) (k := 3) rfl (fun _ _ h => by rw [List.map_append]; exact h) ?_
    dsimp only [List.set_cons_zero, List.set_cons_succ]
    have hlt : vs.length < cap := by (have h9 := hrm; rw [List.length_map] at h9; exact h9)
    refine r_val .none rfl (p_extract rfl rfl) ?_
    refine r_val .none rfl (p_eq rfl rfl) ?_
    refine r_say (d := 36) (v := Value.bool true) rfl ?_
    refine r_nil ?_
    refine e_next ?_
    refine c_block ?_
    refine c_cond_t rfl ?_
    refine c_region ?_
    refine r_val .none rfl (p_move rfl) ?_
    refine r_val .none rfl (p_add rfl rfl (by omega)) ?_
    refine r_val .none rfl (p_assign rfl) ?_
    refine r_nil ?_
    refine e_norm_block ?_
    refine e_norm_block ?_
    refine e_front (k := 4) rfl ?_
    refine e_front (k := 1) rfl ?_
    refine e_front (k := 4) rfl ?_
    refine e_front (k := 4) rfl ?_
    refine e_conv1 (B := box q_9.2.1 2 73 (at_ [.chan (some c), .int .i64 lost])) (fun _ _ h => box_congr (fun i hi => by match i, hi with | 0, _ => rfl | 1, _ => rfl) _ _ h) ?_
    refine e_lback lost (vs ++ [((Value.slice a_21 ids.length c_22), (cm, rl, ids))]) hN ?_
    refine e_front (k := 4) rfl ?_
    refine e_front (k := 4) rfl ?_
    refine e_front (k := 4) rfl ?_
    obtain ⟨n1, n2, n3, n4, n5⟩ := send_next hc hnl hsub hnd2 h_7 he hs2 hN hS lost (vs ++ [((Value.slice a_21 ids.length c_22), (cm, rl, ids))]) (by rw [sendL, if_pos (by simpa using hlt)]; simp)
    rw [if_pos hlt] at n5
    refine e_round ((a_8 ++ b_10, mput l2 q_9.1 (q_9.2.1, c, cap, lost, (vs ++ [((Value.slice a_21 ids.length c_22), (cm, rl, ids))])), hv + 1)) ⟨⟨n1, n2, n3, n4, by dsimp only; omega⟩, by dsimp only; rw [h_7, List.length_append, List.length_append, List.length_cons]; omega⟩ rfl ⟨rfl, rfl, rfl, rfl, trivial⟩ (.keep (fun _ _ h => h) (.keep (fun _ _ h => h) (.keep (fun _ _ h => ranE_A h) (.keep (fun _ _ h => h) (.drop (.nil))))))
   ·
    have hrm := h_25
    have hlt : ¬ vs.length < cap := by (have h9 := hrm; rw [List.length_map] at h9; omega)
    refine r_val .none rfl (p_extract rfl rfl) ?_
    refine r_val .none rfl (p_eq rfl rfl) ?_
    refine r_say (d := 36) (v := Value.bool false) rfl ?_
    refine r_nil ?_
    refine e_next ?_
    refine c_block ?_
    refine c_cond_f rfl ?_
    refine c_region ?_
    refine r_val .none rfl (p_move rfl) ?_
    refine r_val .none rfl (p_nilcheck rfl) ?_
    refine r_val .none rfl (p_field Try.underlying73 rfl sz3 rfl) ?_
    refine r_val .none rfl (p_ld (k := 2) Try.underlying3 rfl rfl rfl (by first | exact of_decide_eq_true rfl | omega) (rfl : _ = Value.int _ _)) ?_
    refine r_val .none rfl (p_add rfl rfl (by omega)) ?_
    refine r_val .none rfl (p_nilcheck rfl) ?_
    refine r_val .none rfl (p_field Try.underlying73 rfl sz3 rfl) ?_
    refine r_st (k := 2) .none sz3 rfl rfl rfl rfl (by first | exact of_decide_eq_true rfl | omega) ?_
    refine r_nil ?_
    refine e_norm_block ?_
    refine e_norm_block ?_
    refine e_front (k := 5) rfl ?_
    refine e_front (k := 5) rfl ?_
    refine e_front (k := 5) rfl ?_
    refine e_front (k := 5) rfl ?_
    refine e_conv1 (B := box q_9.2.1 2 73 (at_ [.chan (some c), .int .i64 (lost + 1)])) (fun _ _ h => box_congr (fun i hi => by match i, hi with | 0, _ => rfl | 1, _ => rfl) _ _ h) ?_
    refine e_lback (lost + 1) vs hN ?_
    refine e_front (k := 5) rfl ?_
    refine e_front (k := 5) rfl ?_
    refine e_front (k := 5) rfl ?_
    obtain ⟨n1, n2, n3, n4, n5⟩ := send_next hc hnl hsub hnd2 h_7 he hs2 hN hS (lost + 1) vs (by rw [sendL, if_neg (by simpa using hlt)])
    rw [if_neg hlt] at n5
    refine e_round ((a_8 ++ b_10, mput l2 q_9.1 (q_9.2.1, c, cap, (lost + 1), vs), hv)) ⟨⟨n1, n2, n3, n4, by dsimp only; omega⟩, by dsimp only; rw [h_7, List.length_append, List.length_append, List.length_cons]; omega⟩ rfl ⟨rfl, rfl, rfl, rfl, trivial⟩ (.keep (fun _ _ h => h) (.keep (fun _ _ h => h) (.keep (fun _ _ h => ranE_A h) (.keep (fun _ _ h => h) (.drop (.drop (.nil)))))))
 ·
  refine r_unrange (i := 2) rfl ?_
  have hlf := h_7
  subst hlf
  refine r_val .none rfl (p_extract rfl rfl) ?_
  refine r_nil ?_
  refine e_next ?_
  refine c_seq ?_
  refine c_cond_f rfl ?_
  refine c_exit ?_
  refine e_exit_then ?_
  refine e_exit_then ?_
  refine e_exit_block ?_
  refine e_next ?_
  refine c_seq ?_
  refine c_region ?_
  refine r_val .none rfl (p_move rfl) ?_
  refine r_val .none rfl (p_assign rfl) ?_
  refine r_nil ?_
  refine e_next ?_
  refine c_ret ?_
  refine e_front (k := 3) rfl ?_
  refine e_front (k := 3) rfl ?_
  refine e_front (k := 3) rfl ?_
  refine e_ret1 Try.results10 (.tmp rfl .nil) (fun w hm => ⟨?_, hm.kept [box p 2 69 (at_ [.map (some m), .int .i64 (s.2)]), mapA m kI veL (l2), hoard (lisA 73 3) (l2)] (.keep (fun _ _ h => h) (.keep (fun _ _ h => mapA_recast hs2.symm h) (.keep (fun _ _ h => h) (.drop (.nil))))) (feedA 69 73 3 p (sendF (cm, rl, ids) s.1, s.2)) (fun F' h => ⟨(m, l2), (by dsimp only; rw [he]; exact (selF_nil _ _).symm), h⟩)⟩)
  (rw [hcn]; exact congrArg (fun z : Nat => Value.int .i64 (z : Int)) (cntF_nil s.1))
theorem c_ftake1 {F : Nat → Prop} {G : Ghost} (p : Nat) (id : Int) (cap0 : Nat) (lost0 : Int) (x : NE) (t : List NE) (s : FS) (hs0 : lkp s.1 id = some (cap0, lost0, x :: t)) (w : World) (hG : Has G w) (hA : (feedA 69 73 3 p s).holds w F) (hFG : ∀ b, F b → G b = none) :
  Calls Try.prog 11 #[Value.pointer (some ⟨p, 0, none⟩), Value.int .i64 id] w (Ret fun r w' => ∃ v, r = Value.tuple #[.agg #[.bool x.1, .string x.2.1, v], .bool true] ∧ Kept (starL [rowA v 3 1 x.2.2.length (x.2.2.flatMap cI), feedA 69 73 3 p (mput s.1 id (cap0, lost0, t), s.2)]) F w w') := by
 refine enterO (args := [_, _]) (G := G) (A := feedA 69 73 3 p s) (l := [(0, Value.pointer (some ⟨p, 0, none⟩)), (1, Value.int .i64 id)]) Try.func11 rfl Try.ntmps11 hG hA hFG ⟨rfl, rfl, trivial⟩ (Nat.le_of_ble_eq_true rfl) ?_
 refine c_unex (fun z => ?_)
 obtain ⟨m, l⟩ := z
 refine c_unand (fun hc => ?_)
 dsimp only at hc ⊢
 refine c_unpack ?_
 obtain ⟨b, c, vs, hN, hvs⟩ := eraF_some (hc ▸ hs0)
 dsimp only at hN hvs
 obtain ⟨y, ys, rfl⟩ : ∃ y ys, vs = y :: ys := by (cases vs with | nil => cases hvs | cons y ys => exact ⟨y, ys, rfl⟩)
 obtain ⟨hy, hys⟩ := List.cons.inj (show y.2 :: ys.map (·.2) = x :: t from hvs)
 subst hy
 refine c_seq ?_
 refine c_region ?_
 refine r_alloc .none rfl zr36 (IsRow.lit _) (fun b_1 => ?_)
 refine r_val .none rfl (p_assign rfl) ?_
 refine r_nil ?_
 refine e_next ?_
 refine c_seq ?_
 refine c_region ?_
 refine r_val .none rfl (p_move rfl) ?_
 refine r_val .none rfl (p_nilcheck rfl) ?_
 refine r_val .none rfl (p_field Try.underlying69 rfl sz67 rfl) ?_
 refine r_val .none rfl (p_ld (k := 1) Try.underlying67 rfl rfl rfl (by first | exact of_decide_eq_true rfl | omega) (rfl : _ = Value.map _)) ?_
 refine r_val .none rfl (p_move rfl) ?_
 refine r_front (k := 3) rfl ?_
 refine r_lfocus hN ?_
 refine r_val .none rfl (p_lookup_yes (i := 6) Try.underlying67 (KeyT.int Try.underlying3) zr70 rfl rfl rfl hN) ?_
 refine r_val .none rfl (p_assign rfl) ?_
 refine r_nil ?_
 refine e_next ?_
 refine c_seq ?_
 refine c_seq ?_
 refine c_region ?_
 refine r_val .none rfl (p_move rfl) ?_
 refine r_val .none rfl (p_eq_ptr Try.underlying70 (by first | exact .inr rfl | exact .inl rfl) rfl rfl) ?_
 refine r_say (d := 15) (v := Value.bool false) rfl ?_
 refine r_nil ?_
 refine e_next ?_
 refine c_cond_f rfl ?_
 refine c_skip ?_
 refine e_next ?_
 refine c_seq ?_
 refine c_region ?_
 refine r_val .none rfl (p_move rfl) ?_
 refine r_val .none rfl (p_nilcheck rfl) ?_
 refine r_val .none rfl (p_field Try.underlying73 rfl sz71 rfl) ?_
 refine r_val .none rfl (p_ld (k := 0) Try.underlying71 rfl rfl rfl (by first | exact of_decide_eq_true rfl | omega) (rfl : _ = Value.chan _)) ?_
 refine r_nil ?_
 refine e_next ?_
 refine c_seq ?_
 refine c_sel_recv 1 rfl zr36 rfl rfl (fun v_1 t_2 h_3 => ?_) (fun h_3 => ?_)
 ·
  obtain ⟨hq1, hq2⟩ := List.cons.inj (show nvV y :: ys.map nvV = v_1 :: t_2 from h_3)
  subst hq1; subst hq2
  refine r_say (d := 21) (v := Value.tuple #[.int .i64 0, .bool true, .agg #[.bool y.2.1, .string y.2.2.1, y.1]]) rfl ?_
  refine r_front (k := 2) rfl ?_
  refine r_rowshead ?_
  refine r_row1 (k := 0) rfl (fun oy => ?_)
  refine r_val .none rfl (p_extract rfl rfl) ?_
  refine r_val .none rfl (p_eq rfl rfl) ?_
  refine r_say (d := 23) (v := Value.bool true) rfl ?_
  refine r_nil ?_
  refine e_next ?_
  refine c_block ?_
  refine c_cond_t rfl ?_
  refine c_seq ?_
  refine c_region ?_
  refine r_val .none rfl (p_extract rfl rfl) ?_
  refine r_alloc .none rfl zr36 (IsRow.lit _) (fun b_2 => ?_)
  refine r_stw (k := 0) .none sz36 rfl rfl (IsRow.lit _) (one_lit rfl (all_cons rfl (all_cons rfl (all_cons oy rfl)))) rfl ?_
  refine r_nil ?_
  refine e_next ?_
  refine c_seq ?_
  refine c_region ?_
  refine r_val .none rfl (p_ldw (k := 0) Try.underlying36 rfl sz36 rfl rfl (rfl : _ = Value.agg #[_, _, _])) ?_
  refine r_stw (k := 6) .none sz36 rfl rfl (IsRow.lit _) (one_lit rfl (all_cons rfl (all_cons rfl (all_cons oy rfl)))) rfl ?_
  refine r_val .none rfl (p_assign rfl) ?_
  refine r_nil ?_
  refine e_next ?_
  refine c_ret ?_
  refine e_ret_block ?_
  refine e_front (k := 5) rfl ?_
  refine e_front (k := 3) rfl ?_
  refine e_front (k := 5) rfl ?_
  refine e_front (k := 5) rfl ?_
  refine e_lback lost0 ys hN ?_
  refine e_front (k := 5) rfl ?_
  refine e_front (k := 5) rfl ?_
  refine e_front (k := 4) rfl ?_
  refine e_retn Try.results11 (.cell (k := 5) rfl Try.underlying36 rfl sz36 rfl (rfl : _ = Value.agg #[_, _, _]) (.tmp rfl .nil)) rfl (fun w hm => ⟨y.1, ?_, hm.kept [rowA y.1 3 1 y.2.2.2.length (y.2.2.2.flatMap cI), box p 2 69 (at_ [.map (some m), .int .i64 s.2]), mapA m kI veL (mput l id (b, c, cap0, lost0, ys)), hoard (lisA 73 3) (mput l id (b, c, cap0, lost0, ys))] (.keep (fun _ _ h => h) (.keep (fun _ _ h => h) (.keep (fun _ _ h => mapA_retell (v := (b, c, cap0, lost0, ys)) hN rfl h) (.keep (fun _ _ h => h) (.drop (.drop (.nil))))))) (starL [rowA y.1 3 1 y.2.2.2.length (y.2.2.2.flatMap cI), feedA 69 73 3 p (mput s.1 id (cap0, lost0, t), s.2)]) (fun F' h => feed_row (by dsimp only; rw [eraF_mput, hc, ← hys]; rfl) h)⟩)
  rfl
 ·
  cases h_3
end Go.Proofs.Ytplefabpplfjbaa

/- The laws of news, in plain words: who takes at once, and who takes nothing till all is sent. -/
namespace Go.Gx.T21
open Go.Gx
theorem lb_of {l : List (Int × LS)} (h : ∀ p ∈ l, 0 ≤ p.2.2.1 ∧ p.2.2.1 ≤ 1000000) : ∀ id x, lkp l id = some x → 0 ≤ x.2.1 ∧ x.2.1 ≤ 1000000 := fun id x e => h (id, x) (lkp_some e)
theorem le_of {l : List (Int × LS)} {n : Int} (h : ∀ p ∈ l, p.1 ≤ n) : ∀ id x, lkp l id = some x → id ≤ n := fun id x e => h (id, x) (lkp_some e)
theorem box_rowA {b n m sz : Nat} {E : TypeId} {f : Nat → Value} (hm : m = n * sz) (hn : n ≤ 1000) {w : World} {F : Nat → Prop} (h : (box b m E f).holds w F) : (rowA (.slice (some ⟨b, 0, none⟩) n n) E sz n (row f 0 (n * sz))).holds w F := by
  obtain ⟨⟨c, h1, h2⟩, hF⟩ := h
  subst hm
  refine ⟨⟨row_length _ _ _, .inr ⟨b, n, c, rfl, Nat.zero_le _, h1, Nat.le_refl _, by simp only [maxLen]; omega, h2.size, ?_⟩⟩, fun k => ⟨fun h => by rw [(hF k).1 h]; rfl, fun h => by simp [Value.ownBlock] at h; exact (hF k).2 h.symm⟩, by simp only [maxLen]; omega⟩
  have e := h2.eq
  rw [e]
  simp [List.take_of_length_le, row_length]
def R21 : ByteArray := ⟨#[114]⟩
def nOf (i : Nat) : NE := (false, R21, [(i : Int) + 1])
def nlF (m : Nat) : List NE := (List.range m).map nOf
/-- Both listeners, the one that takes nothing and the other one. -/
def two (k : Nat) (lost : Int) (its f : List NE) : FS := ([(1, (k, lost, its)), (2, (1, 0, f))], 2)
def sO (k i : Nat) : FS := two k ((i - k : Nat) : Int) (nlF (min i k)) []
def aw21 : FS := openS ([], 0) 1
def aw22 : FS := (sendF (true, R21, []) aw21.1, aw21.2)
def aw23 : FS := (sendF (false, R21, []) aw22.1, aw22.2)
end Go.Gx.T21

/- Walks: what Go functions of this chapter come to, each as a function on plain data; no condition but those that each theorem names. Printed by a program of this work (gen.py). -/
namespace Go.Proofs.Ytplefabpplfjbaa
open Go.Gx Go.Gx.T21 Go.Gx.T6 Go.Gx.T4
theorem cl6 : Callable Try.prog 6 := callable Try.func6 (by kernel_rfl) rfl
theorem cl7 : Callable Try.prog 7 := callable Try.func7 (by kernel_rfl) rfl
theorem cl9 : Callable Try.prog 9 := callable Try.func9 (by kernel_rfl) rfl
theorem cl10 : Callable Try.prog 10 := callable Try.func10 (by kernel_rfl) rfl
theorem cl11 : Callable Try.prog 11 := callable Try.func11 (by kernel_rfl) rfl
theorem cl13 : Callable Try.prog 13 := callable Try.func13 (by kernel_rfl) rfl
theorem cl14 : Callable Try.prog 14 := callable Try.func14 (by kernel_rfl) rfl
theorem bl24_0s1 (x0 : ByteArray) : Program.built Try.prog 24 [(0, Value.string x0)] = some #[Value.string x0, Value.slice none 0 0] := by
 kernel_rfl
theorem bl36_1a2 (x0 : Value) (x1 : Value) : Program.built Try.prog 36 [(1, Value.agg #[x0, x1])] = some #[Value.bool false, x0, x1] := by
 kernel_rfl
theorem c_awake21   (w : World)  :
  Calls Try.prog 7 #[] w (Ret fun r w' => r = Value.bool true ∧ Since nX w w') := by
 refine enter (args := []) (X := nX) (G := (fun _ => none)) (l := []) Try.func7 rfl Try.ntmps7 (fun _ _ h => by cases h) trivial (Nat.le_of_ble_eq_true rfl) ?_
 refine c_seq ?_
 refine c_region ?_
 refine r_val .none rfl (p_assign rfl) ?_
 refine r_nil ?_
 refine e_next ?_
 refine c_seq ?_
 refine c_region ?_
 refine r_callnew (vs := []) .none rfl cl6 rfl (fun w hw => c_fnew w hw) (fun p_1 => ?_)
 refine r_val .none rfl (p_assign rfl) ?_
 refine r_nil ?_
 refine e_next ?_
 refine c_seq ?_
 refine c_seq ?_
 refine c_region ?_
 refine r_val .none rfl (p_move rfl) ?_
 refine r_val .none rfl (p_eq_ptr Try.underlying25 (by first | exact .inr rfl | exact .inl rfl) rfl rfl) ?_
 refine r_say (d := 8) (v := Value.bool false) rfl ?_
 refine r_nil ?_
 refine e_next ?_
 refine c_cond_f rfl ?_
 refine c_skip ?_
 refine e_next ?_
 refine c_seq ?_
 refine c_region ?_
 refine r_val .none rfl (p_move rfl) ?_
 refine r_callo (k := 0) (vs := [_, _]) .none rfl cl9 rfl rfl (fun w F hw hA hFG => c_fopen _ 1 ([], 0) (le_of (by decide)) (by decide) w hw hA hFG) ?_
 refine r_say (d := 11) (v := Value.tuple #[Value.int .i64 1, Value.int .i64 0]) rfl ?_
 refine r_val .none rfl (p_move rfl) ?_
 refine r_val .none rfl (p_extract rfl rfl) ?_
 refine r_val .none rfl (p_extract rfl rfl) ?_
 refine r_val .none rfl (p_assign rfl) ?_
 refine r_val .none rfl (p_assign rfl) ?_
 refine r_nil ?_
 refine e_next ?_
 refine c_seq ?_
 refine c_region ?_
 refine r_val .none rfl (p_move rfl) ?_
 refine r_val .none rfl (p_build (vs := [(0, Value.string _)]) rfl (bl24_0s1 _)) ?_
 refine r_val .none rfl (p_build (vs := [(0, Value.bool _), (1, Value.agg #[_, _])]) rfl (bl36_0b1_1a2 _ _ _)) ?_
 refine r_callo (k := 0) (vs := [_, _]) .none rfl cl10 rfl rfl (fun w F hw hA hFG => c_fsend _ true R21 _ [] aw21 (SlG.nil _ _ _) (by decide) (by decide) (by decide) (lb_of (by decide)) w hw hA hFG) ?_
 refine r_say (d := 17) (v := Value.int .i64 1) rfl ?_
 refine r_val .none rfl (p_move rfl) ?_
 refine r_val .none rfl (p_build (vs := [(0, Value.string _)]) rfl (bl24_0s1 _)) ?_
 refine r_val .none rfl (p_build (vs := [(1, Value.agg #[_, _])]) rfl (bl36_1a2 _ _)) ?_
 refine r_callo (k := 0) (vs := [_, _]) .none rfl cl10 rfl rfl (fun w F hw hA hFG => c_fsend _ false R21 _ [] aw22 (SlG.nil _ _ _) (by decide) (by decide) (by decide) (lb_of (by decide)) w hw hA hFG) ?_
 refine r_say (d := 21) (v := Value.int .i64 0) rfl ?_
 refine r_val .none rfl (p_assign rfl) ?_
 refine r_val .none rfl (p_assign rfl) ?_
 refine r_nil ?_
 refine e_next ?_
 refine c_seq ?_
 refine c_region ?_
 refine r_val .none rfl (p_move rfl) ?_
 refine r_val .none rfl (p_eq rfl rfl) ?_
 refine r_say (d := 23) (v := Value.bool true) rfl ?_
 refine r_val .none rfl (p_move rfl) ?_
 refine r_val (.some rfl rfl) rfl (p_move rfl) ?_
 refine r_val (.some rfl rfl) rfl (p_eq rfl rfl) ?_
 refine r_say (d := 26) (v := Value.bool true) rfl ?_
 refine r_val .none rfl (p_pick_t rfl rfl) ?_
 refine r_val .none rfl (p_move rfl) ?_
 refine r_val (.some rfl rfl) rfl (p_move rfl) ?_
 refine r_val (.some rfl rfl) rfl (p_eq rfl rfl) ?_
 refine r_say (d := 30) (v := Value.bool true) rfl ?_
 refine r_val .none rfl (p_pick_t rfl rfl) ?_
 refine r_val .none rfl (p_move rfl) ?_
 refine r_val (.some rfl rfl) rfl (p_move rfl) ?_
 refine r_val (.some rfl rfl) rfl (p_eq rfl rfl) ?_
 refine r_say (d := 34) (v := Value.bool true) rfl ?_
 refine r_val .none rfl (p_pick_t rfl rfl) ?_
 refine r_val .none rfl (p_move rfl) ?_
 refine r_val (.some rfl rfl) rfl (p_move rfl) ?_
 refine r_callo (k := 0) (vs := [_, _]) (.some rfl rfl) rfl cl13 rfl rfl (fun w F hw hA hFG => c_fwaits _ 1 aw23 w hw hA hFG) ?_
 refine r_say (d := 38) (v := Value.int .i64 1) rfl ?_
 refine r_val (.some rfl rfl) rfl (p_eq rfl rfl) ?_
 refine r_say (d := 39) (v := Value.bool true) rfl ?_
 refine r_val .none rfl (p_pick_t rfl rfl) ?_
 refine r_val .none rfl (p_move rfl) ?_
 refine r_val (.some rfl rfl) rfl (p_move rfl) ?_
 refine r_callo (k := 0) (vs := [_, _]) (.some rfl rfl) rfl cl14 rfl rfl (fun w F hw hA hFG => c_flost _ 1 aw23 w hw hA hFG) ?_
 refine r_say (d := 43) (v := Value.int .i64 1) rfl ?_
 refine r_val (.some rfl rfl) rfl (p_eq rfl rfl) ?_
 refine r_say (d := 44) (v := Value.bool true) rfl ?_
 refine r_val .none rfl (p_pick_t rfl rfl) ?_
 refine r_val .none rfl (p_assign rfl) ?_
 refine r_nil ?_
 refine e_next ?_
 refine c_ret ?_
 refine e_ret1 Try.results7 (.tmp rfl .nil) (fun w hm => ⟨?_, hm.since⟩)
 rfl
end Go.Proofs.Ytplefabpplfjbaa

/- Plain laws: matches: a rule's name and ids; when one is less than another one. No program in sight. -/
namespace Go.Gx.T20
open Go.Gx
abbrev MM := ByteArray × List Int
def m0 : MM × Value := ((ByteArray.empty, []), .slice none 0 0)
def mC (p : MM × Value) : List Value := [.string p.1.1, p.2]
/-- The value v is a slice of matches. -/
def Mt (G : Ghost) (v : Value) (l : List MM) : Prop := ∃ rs : List (MM × Value), SlL G v 2 mC m0 rs ∧ (∀ p ∈ rs, SlL G p.2 1 cI (0 : Int) p.1.2) ∧ l = rs.map Prod.fst
theorem Mt.mono {G G' : Ghost} {v : Value} {l : List MM} (h : Mt G v l) (hle : GLe G G') : Mt G' v l := by
  obtain ⟨rs, h1, h2, h3⟩ := h
  exact ⟨rs, h1.mono hle, fun p hp => (h2 p hp).mono hle, h3⟩
theorem Mt.mk {G : Ghost} {v : Value} (rs : List (MM × Value)) (h : SlL G v 2 mC m0 rs) (k : ∀ p ∈ rs, SlL G p.2 1 cI (0 : Int) p.1.2) : Mt G v (rs.map Prod.fst) := ⟨rs, h, k, rfl⟩
theorem Mt.one {G : Ghost} {v vi : Value} {r : ByteArray} {ids : List Int} (h : SlG G v 1 2 (fun _ => at_ [.string r, vi])) (k : SlL G vi 1 cI (0 : Int) ids) : Mt G v [(r, ids)] :=
  ⟨[((r, ids), vi)], h.congr (fun i hi j _ => by obtain rfl : i = 0 := (by omega); rfl), fun p hp => by rw [List.mem_singleton.1 hp]; exact k, rfl⟩
def lessI : List Int → List Int → Bool
  | [], b => decide (0 < b.length)
  | _ :: _, [] => false
  | x :: a, y :: b => if x = y then lessI a b else decide (x < y)
def lessM (a b : MM) : Bool := if a.1 = b.1 then lessI a.2 b.2 else bLt a.1 b.1
def oneM (a b : MM) : Bool := (!lessM a b) && (!lessM b a)
theorem lessI_irr (a : List Int) : lessI a a = false := by
  induction a with
  | nil => rfl
  | cons x a ih => rw [lessI, if_pos rfl, ih]
theorem oneM_refl (a : MM) : oneM a a = true := by
  rw [oneM, lessM, if_pos rfl, lessI_irr]; rfl
theorem lessI_eq {A B : List Int} {i : Nat} (h1 : i < A.length) (h2 : i < B.length) (h : A.getD i 0 = B.getD i 0) : lessI (A.drop i) (B.drop i) = lessI (A.drop (i + 1)) (B.drop (i + 1)) := by
  rw [List.drop_eq_getElem_cons h1, List.drop_eq_getElem_cons h2, lessI, if_pos]
  simpa [List.getD, List.getElem?_eq_getElem h1, List.getElem?_eq_getElem h2] using h
theorem lessI_ne {A B : List Int} {i : Nat} (h1 : i < A.length) (h2 : i < B.length) (h : ¬ A.getD i 0 = B.getD i 0) : lessI (A.drop i) (B.drop i) = decide (A.getD i 0 < B.getD i 0) := by
  rw [List.drop_eq_getElem_cons h1, List.drop_eq_getElem_cons h2, lessI, if_neg]
  · simp [List.getD, List.getElem?_eq_getElem h1, List.getElem?_eq_getElem h2]
  · simpa [List.getD, List.getElem?_eq_getElem h1, List.getElem?_eq_getElem h2] using h
theorem lessI_end {A B : List Int} {i : Nat} (h1 : i ≤ A.length) (h2 : i ≤ B.length) (h : ¬ (i < A.length ∧ i < B.length)) : lessI (A.drop i) (B.drop i) = decide ((A.length : Int) < (B.length : Int)) := by
  by_cases ha : i < A.length
  · have hb : i = B.length := by omega
    rw [List.drop_eq_nil_of_le (show B.length ≤ i by omega), List.drop_eq_getElem_cons ha, lessI]
    exact (decide_eq_false (by omega)).symm
  · have e : i = A.length := by omega
    rw [List.drop_eq_nil_of_le (show A.length ≤ i by omega), lessI, List.length_drop]
    by_cases h3 : A.length < B.length
    · rw [decide_eq_true (by omega), decide_eq_true (by omega)]
    · rw [decide_eq_false (by omega), decide_eq_false (by omega)]
def sameM : List MM → List MM → Bool
  | [], [] => true
  | a :: l, b :: m => oneM a b && sameM l m
  | _, _ => false
theorem sameM_refl (l : List MM) : sameM l l = true := by
  induction l with
  | nil => rfl
  | cons a l ih => rw [sameM, oneM_refl, ih]; rfl
theorem sameM_len {l m : List MM} (h : ¬ l.length = m.length) : sameM l m = false := by
  induction l generalizing m with
  | nil =>
    cases m with
    | nil => exact absurd rfl h
    | cons b m => rfl
  | cons a l ih =>
    cases m with
    | nil => rfl
    | cons b m => rw [sameM, ih (by simpa using h), Bool.and_false]
theorem sameM_at {rs qs : List (MM × Value)} {k : Nat} (h1 : k < rs.length) (h2 : k < qs.length) : sameM ((rs.map Prod.fst).drop k) ((qs.map Prod.fst).drop k) = (oneM (rs.getD k m0).1 (qs.getD k m0).1 && sameM ((rs.map Prod.fst).drop (k + 1)) ((qs.map Prod.fst).drop (k + 1))) := by
  rw [map_drop (d := m0) h1, map_drop (d := m0) h2, sameM]
theorem sameM_end {rs qs : List (MM × Value)} {k : Nat} (h1 : rs.length ≤ k) (h2 : qs.length ≤ k) : sameM ((rs.map Prod.fst).drop k) ((qs.map Prod.fst).drop k) = true := by
  rw [List.drop_eq_nil_of_le (by simpa using h1), List.drop_eq_nil_of_le (by simpa using h2)]; rfl
/-- A call that reads a row of the caller's own. -/
theorem row_see {P : Program} {f : FuncId} {vs : Array Value} {v : Value} {E : TypeId} {sz n : Nat} {xs : List Value} {R : Value → Prop} {G : Ghost} {w : World} {F : Nat → Prop}
    (hc : ∀ G', GLe G G' → SlG G' v n sz (fun i j => xs.getD (i * sz + j) undef) → Has G' w → Calls P f vs w (Ret fun r w' => R r ∧ Since nX w w'))
    (hG : Has G w) (hA : (rowA v E sz n xs).holds w F) (hF : ∀ b, F b → G b = none) : Calls P f vs w (Ret fun r w' => R r ∧ Kept (rowA v E sz n xs) F w w') := by
  refine (with_row (A := pureA True) (B := fun _ => pureA True) (R := R) (fun G' F' hle hS hG' hA' _ => ?_) hG (pure_inR hA) hF).mono (fun e w' hR => ?_)
  · refine (hc G' hle hS hG').mono (fun e w' hR => ?_)
    cases e with
    | returned r => exact ⟨hR.1, ⟨hR.2.os, hR.2.tape, hR.2.output, hR.2.size, fun k hk _ => hR.2.block k hk id⟩, fun _ => False, ⟨trivial, fun _ h => h⟩, fun _ h => h.elim⟩
    | panicked c => exact hR.elim
    | outgrown => exact hR.elim
  · cases e with
    | returned r => exact ⟨hR.1, hR.2.imp (fun w F h => (star_tt _ w F).1 ((starL_two w F).1 h))⟩
    | panicked c => exact hR.elim
    | outgrown => exact hR.elim
def O2 : T21.FS := ([(1, (2, 0, [])), (2, (2, 0, []))], 2)
def S2 (r : ByteArray) (l : List Int) : T21.FS := ([(1, (2, 0, [(true, r, l)])), (2, (2, 0, [(true, r, l)]))], 2)
def S3 (r : ByteArray) (l : List Int) : T21.FS := ([(1, (2, 0, [])), (2, (2, 0, [(true, r, l)]))], 2)
end Go.Gx.T20

/- Walks: what Go functions of this chapter come to, each as a function on plain data; no condition but those that each theorem names. Printed by a program of this work (gen.py). -/
namespace Go.Proofs.Ytplefabpplfjbaa
open Go.Gx Go.Gx.T20 Go.Gx.T21 Go.Gx.T6 Go.Gx.T4 Go.Gx.T21 Go.Gx.T6 Go.Gx.T4
theorem sz58 : SzIs Try.prog 58 2 := by
 unfold SzIs
 kernel_rfl
theorem cl26 : Callable Try.prog 26 := callable Try.func26 (by kernel_rfl) rfl
theorem c_less20 (ra rb : ByteArray) (va vb : Value) (A B : List Int) {G : Ghost} (ha : SlL G va 1 cI (0 : Int) A) (hb : SlL G vb 1 cI (0 : Int) B) (w : World) (hG : Has G w) :
  Calls Try.prog 26 #[Value.agg #[.string ra, va], Value.agg #[.string rb, vb]] w (Ret fun r w' => r = Value.bool (lessM (ra, A) (rb, B)) ∧ Since nX w w') := by
 refine enter (args := [_, _]) (X := nX) (G := G) (l := [(0, Value.agg #[.string ra, va]), (1, Value.agg #[.string rb, vb])]) Try.func26 rfl Try.ntmps26 hG ⟨rfl, rfl, trivial⟩ (Nat.le_of_ble_eq_true rfl) ?_
 have hba := ha.bound
 have hbb := hb.bound
 refine c_seq ?_
 refine c_region ?_
 refine r_box .none rfl rfl (IsRow.lit _) (fun b_1 => ?_)
 refine r_box .none rfl rfl (IsRow.lit _) (fun b_2 => ?_)
 refine r_val .none rfl (p_assign rfl) ?_
 refine r_nil ?_
 refine e_next ?_
 refine c_seq ?_
 refine c_seq ?_
 refine c_region ?_
 refine r_val .none rfl (p_field Try.underlying58 rfl sz9 rfl) ?_
 refine r_val .none rfl (p_ld (k := 1) Try.underlying9 rfl rfl rfl (by first | exact of_decide_eq_true rfl | omega) (rfl : _ = Value.string _)) ?_
 refine r_val .none rfl (p_field Try.underlying58 rfl sz9 rfl) ?_
 refine r_val .none rfl (p_ld (k := 0) Try.underlying9 rfl rfl rfl (by first | exact of_decide_eq_true rfl | omega) (rfl : _ = Value.string _)) ?_
 refine r_val .none rfl (p_nes rfl rfl) ?_
 refine r_nil ?_
 refine e_next ?_
 refine c_splitn (d := 10) rfl (fun h_1 => ?_) (fun h_1 => ?_)
 ·
  have hR : ¬ ra = rb := of_decide_eq_false h_1
  first
   | (exfalso; omega)
   | (
    refine c_cond_t rfl ?_
    refine c_seq ?_
    refine c_region ?_
    refine r_val .none rfl (p_field Try.underlying58 rfl sz9 rfl) ?_
    refine r_val .none rfl (p_ld (k := 1) Try.underlying9 rfl rfl rfl (by first | exact of_decide_eq_true rfl | omega) (rfl : _ = Value.string _)) ?_
    refine r_val .none rfl (p_field Try.underlying58 rfl sz9 rfl) ?_
    refine r_val .none rfl (p_ld (k := 0) Try.underlying9 rfl rfl rfl (by first | exact of_decide_eq_true rfl | omega) (rfl : _ = Value.string _)) ?_
    refine r_val .none rfl (p_lts rfl rfl) ?_
    refine r_val .none rfl (p_assign rfl) ?_
    refine r_nil ?_
    refine e_next ?_
    refine c_ret ?_
    refine e_ret_then ?_
    refine e_ret1 Try.results26 (.tmp rfl .nil) (fun w hm => ⟨?_, hm.since⟩)
    first
    | (rw [lessM, if_neg hR]; done)
    | (rw [lessM, if_pos hR]; exact congrArg Value.bool ((lessI_ne (by omega) (by omega) hE).symm.trans hphi.2.2.symm))
    | (rw [lessM, if_pos hR]; exact congrArg Value.bool ((lessI_end hphi.1 hphi.2.1 (by omega)).symm.trans hphi.2.2.symm))
    )
 ·
  have hR : ra = rb := of_decide_eq_true h_1
  first
   | (exfalso; omega)
   | (
    refine c_cond_f rfl ?_
    refine c_skip ?_
    refine e_next ?_
    refine c_seq ?_
    refine c_seq ?_
    refine c_region ?_
    refine r_val .none rfl (p_assign rfl) ?_
    refine r_nil ?_
    refine e_next ?_
    refine c_block ?_
    refine c_name (d := 2) rfl (fun u_2 hu_2 => ?_)
    refine c_name (d := 3) rfl (fun u_3 hu_3 => ?_)
    refine c_nameL (k := 0) rfl (fun A_4 hA_4 => ?_)
    refine c_nameL (k := 1) rfl (fun A_5 hA_5 => ?_)
    refine c_loop (σ := Nat) (fun i => [(5, Value.int .i64 (i : Nat)), (2, u_2), (3, u_3)]) (fun i => [A_4, A_5]) (fun _ => _) (fun i => i ≤ A.length ∧ i ≤ B.length ∧ lessI A B = lessI (A.drop i) (B.drop i)) (fun i => A.length - i) (0) ⟨Nat.zero_le _, Nat.zero_le _, rfl⟩ rfl ⟨rfl, rfl, rfl, trivial⟩ (.keep (fun _ _ h => h) (.keep (fun _ _ h => h) (.nil))) (fun i hphi => ?_)
    subst hu_2
    subst hu_3
    subst hA_4
    subst hA_5
    refine c_seq ?_
    refine c_seq ?_
    refine c_region ?_
    refine r_val .none rfl (p_move rfl) ?_
    refine r_val .none rfl (p_field Try.underlying58 rfl sz22 rfl) ?_
    refine r_val .none rfl (p_ld (k := 1) Try.underlying22 rfl rfl rfl (by first | exact of_decide_eq_true rfl | omega) rfl) ?_
    refine r_val .none rfl (p_leng Try.underlying22 rfl ha) ?_
    have bd_6 := (ha).bound
    refine r_val .none rfl (p_lt rfl rfl) ?_
    refine r_val .none rfl (p_move rfl) ?_
    refine r_splitd (d := 21) rfl (fun h_7 => ?_) (fun h_7 => ?_)
    ·
     first
      | (exfalso; omega)
      | (
       refine r_val (.some rfl rfl) rfl (p_move rfl) ?_
       refine r_val (.some rfl rfl) rfl (p_field Try.underlying58 rfl sz22 rfl) ?_
       refine r_val (.some rfl rfl) rfl (p_ld (k := 0) Try.underlying22 rfl rfl rfl (by first | exact of_decide_eq_true rfl | omega) rfl) ?_
       refine r_val (.some rfl rfl) rfl (p_leng Try.underlying22 rfl hb) ?_
       have bd_8 := (hb).bound
       refine r_val (.some rfl rfl) rfl (p_lt rfl rfl) ?_
       refine r_val .none rfl (p_pick_t rfl rfl) ?_
       refine r_nil ?_
       refine e_next ?_
       refine c_splitd (d := 27) rfl (fun h_9 => ?_) (fun h_9 => ?_)
       ·
        first
         | (exfalso; omega)
         | (
          refine c_cond_t rfl ?_
          refine c_skip ?_
          refine e_next ?_
          refine c_seq ?_
          refine c_block ?_
          refine c_seq ?_
          refine c_region_q mixed (by kernel_rfl) ?_
          refine q_val .none rfl (p_field Try.underlying58 rfl sz22 rfl) ?_
          refine q_val .none rfl (p_ld (k := 1) Try.underlying22 rfl rfl rfl (by first | exact of_decide_eq_true rfl | omega) rfl) ?_
          refine q_val .none rfl (p_move rfl) ?_
          refine q_iaddr_g .none rfl Try.underlying22 sz3 rfl ha rfl (by first | exact of_decide_eq_true rfl | omega) (fun p_11 o_12 R_10 => ?_)
          refine q_val .none rfl (p_ldg0 Try.underlying3 rfl rfl R_10 (by first | exact of_decide_eq_true rfl | omega) (rfl : _ = Value.int _ _)) ?_
          refine q_val .none rfl (p_field Try.underlying58 rfl sz22 rfl) ?_
          refine q_val .none rfl (p_ld (k := 0) Try.underlying22 rfl rfl rfl (by first | exact of_decide_eq_true rfl | omega) rfl) ?_
          refine q_val .none rfl (p_move rfl) ?_
          refine q_iaddr_g .none rfl Try.underlying22 sz3 rfl hb rfl (by first | exact of_decide_eq_true rfl | omega) (fun p_14 o_15 R_13 => ?_)
          refine q_val .none rfl (p_ldg0 Try.underlying3 rfl rfl R_13 (by first | exact of_decide_eq_true rfl | omega) (rfl : _ = Value.int _ _)) ?_
          refine q_val .none rfl (p_ne rfl rfl) ?_
          refine q_nil ?_
          refine e_next ?_
          refine c_splitd (d := 40) rfl (fun h_16 => ?_) (fun h_16 => ?_)
          ·
           have hE := h_16
           first
            | (exfalso; omega)
            | (
             refine c_cond_t rfl ?_
             refine c_seq ?_
             refine c_region_q mixed (by kernel_rfl) ?_
             refine q_val .none rfl (p_field Try.underlying58 rfl sz22 rfl) ?_
             refine q_val .none rfl (p_ld (k := 1) Try.underlying22 rfl rfl rfl (by first | exact of_decide_eq_true rfl | omega) rfl) ?_
             refine q_val .none rfl (p_move rfl) ?_
             refine q_iaddr_g .none rfl Try.underlying22 sz3 rfl ha rfl (by first | exact of_decide_eq_true rfl | omega) (fun p_18 o_19 R_17 => ?_)
             refine q_val .none rfl (p_ldg0 Try.underlying3 rfl rfl R_17 (by first | exact of_decide_eq_true rfl | omega) (rfl : _ = Value.int _ _)) ?_
             refine q_val .none rfl (p_field Try.underlying58 rfl sz22 rfl) ?_
             refine q_val .none rfl (p_ld (k := 0) Try.underlying22 rfl rfl rfl (by first | exact of_decide_eq_true rfl | omega) rfl) ?_
             refine q_val .none rfl (p_move rfl) ?_
             refine q_iaddr_g .none rfl Try.underlying22 sz3 rfl hb rfl (by first | exact of_decide_eq_true rfl | omega) (fun p_21 o_22 R_20 => ?_)
             refine q_val .none rfl (p_ldg0 Try.underlying3 rfl rfl R_20 (by first | exact of_decide_eq_true rfl | omega) (rfl : _ = Value.int _ _)) ?_
             refine q_val .none rfl (p_lt rfl rfl) ?_
             refine q_val .none rfl (p_assign rfl) ?_
             refine q_nil ?_
             refine e_next ?_
             refine c_ret ?_
             refine e_ret_block ?_
             refine e_ret_then ?_
             refine e_ret_then ?_
             refine e_ret_block ?_
             refine e_ret_then ?_
             refine e_ret1 Try.results26 (.tmp rfl .nil) (fun w hm => ⟨?_, hm.since⟩)
             first
             | (rw [lessM, if_neg hR]; done)
             | (rw [lessM, if_pos hR]; exact congrArg Value.bool ((lessI_ne (by omega) (by omega) hE).symm.trans hphi.2.2.symm))
             | (rw [lessM, if_pos hR]; exact congrArg Value.bool ((lessI_end hphi.1 hphi.2.1 (by omega)).symm.trans hphi.2.2.symm))
             )
          ·
           have hE := Decidable.not_not.1 h_16
           first
            | (exfalso; omega)
            | (
             refine c_cond_f rfl ?_
             refine c_skip ?_
             refine e_norm_block ?_
             refine e_next ?_
             refine c_region ?_
             refine r_val .none rfl (p_move rfl) ?_
             refine r_val .none rfl (p_add rfl rfl (by omega)) ?_
             refine r_val .none rfl (p_assign rfl) ?_
             refine r_nil ?_
             refine e_round (i + 1) ⟨⟨by omega, by omega, hphi.2.2.trans (lessI_eq (by omega) (by omega) hE)⟩, by omega⟩ rfl ⟨rfl, rfl, rfl, trivial⟩ (.keep (fun _ _ h => h) (.keep (fun _ _ h => h) (.nil)))
             )
          )
       ·
        first
         | (exfalso; omega)
         | (
          refine c_cond_f rfl ?_
          refine c_exit ?_
          refine e_exit_then ?_
          refine e_exit_then ?_
          refine e_exit_block ?_
          refine e_next ?_
          refine c_seq ?_
          refine c_region ?_
          refine r_val .none rfl (p_field Try.underlying58 rfl sz22 rfl) ?_
          refine r_val .none rfl (p_ld (k := 1) Try.underlying22 rfl rfl rfl (by first | exact of_decide_eq_true rfl | omega) rfl) ?_
          refine r_val .none rfl (p_leng Try.underlying22 rfl ha) ?_
          have bd_23 := (ha).bound
          refine r_val .none rfl (p_field Try.underlying58 rfl sz22 rfl) ?_
          refine r_val .none rfl (p_ld (k := 0) Try.underlying22 rfl rfl rfl (by first | exact of_decide_eq_true rfl | omega) rfl) ?_
          refine r_val .none rfl (p_leng Try.underlying22 rfl hb) ?_
          have bd_24 := (hb).bound
          refine r_val .none rfl (p_lt rfl rfl) ?_
          refine r_val .none rfl (p_assign rfl) ?_
          refine r_nil ?_
          refine e_next ?_
          refine c_ret ?_
          refine e_ret1 Try.results26 (.tmp rfl .nil) (fun w hm => ⟨?_, hm.since⟩)
          first
          | (rw [lessM, if_neg hR]; done)
          | (rw [lessM, if_pos hR]; exact congrArg Value.bool ((lessI_ne (by omega) (by omega) hE).symm.trans hphi.2.2.symm))
          | (rw [lessM, if_pos hR]; exact congrArg Value.bool ((lessI_end hphi.1 hphi.2.1 (by omega)).symm.trans hphi.2.2.symm))
          )
       )
    ·
     first
      | (exfalso; omega)
      | (
       refine r_skip rfl (.no rfl rfl) ?_
       refine r_skip rfl (.no rfl rfl) ?_
       refine r_skip rfl (.no rfl rfl) ?_
       refine r_skip rfl (.no rfl rfl) ?_
       refine r_skip rfl (.no rfl rfl) ?_
       refine r_val .none rfl (p_pick_f rfl rfl) ?_
       refine r_nil ?_
       refine e_next ?_
       refine c_cond_f rfl ?_
       refine c_exit ?_
       refine e_exit_then ?_
       refine e_exit_then ?_
       refine e_exit_block ?_
       refine e_next ?_
       refine c_seq ?_
       refine c_region ?_
       refine r_val .none rfl (p_field Try.underlying58 rfl sz22 rfl) ?_
       refine r_val .none rfl (p_ld (k := 1) Try.underlying22 rfl rfl rfl (by first | exact of_decide_eq_true rfl | omega) rfl) ?_
       refine r_val .none rfl (p_leng Try.underlying22 rfl ha) ?_
       have bd_25 := (ha).bound
       refine r_val .none rfl (p_field Try.underlying58 rfl sz22 rfl) ?_
       refine r_val .none rfl (p_ld (k := 0) Try.underlying22 rfl rfl rfl (by first | exact of_decide_eq_true rfl | omega) rfl) ?_
       refine r_val .none rfl (p_leng Try.underlying22 rfl hb) ?_
       have bd_26 := (hb).bound
       refine r_val .none rfl (p_lt rfl rfl) ?_
       refine r_val .none rfl (p_assign rfl) ?_
       refine r_nil ?_
       refine e_next ?_
       refine c_ret ?_
       refine e_ret1 Try.results26 (.tmp rfl .nil) (fun w hm => ⟨?_, hm.since⟩)
       first
       | (rw [lessM, if_neg hR]; done)
       | (rw [lessM, if_pos hR]; exact congrArg Value.bool ((lessI_ne (by omega) (by omega) hE).symm.trans hphi.2.2.symm))
       | (rw [lessM, if_pos hR]; exact congrArg Value.bool ((lessI_end hphi.1 hphi.2.1 (by omega)).symm.trans hphi.2.2.symm))
       )
    )
theorem c_one20 (ra rb : ByteArray) (va vb : Value) (A B : List Int) {G : Ghost} (ha : SlL G va 1 cI (0 : Int) A) (hb : SlL G vb 1 cI (0 : Int) B) (w : World) (hG : Has G w) :
  Calls Try.prog 21 #[Value.agg #[.string ra, va], Value.agg #[.string rb, vb]] w (Ret fun r w' => r = Value.bool (oneM (ra, A) (rb, B)) ∧ Since nX w w') := by
 refine enter (args := [_, _]) (X := nX) (G := G) (l := [(0, Value.agg #[.string ra, va]), (1, Value.agg #[.string rb, vb])]) Try.func21 rfl Try.ntmps21 hG ⟨rfl, rfl, trivial⟩ (Nat.le_of_ble_eq_true rfl) ?_
 refine c_seq ?_
 refine c_region ?_
 refine r_box .none rfl rfl (IsRow.lit _) (fun b_1 => ?_)
 refine r_box .none rfl rfl (IsRow.lit _) (fun b_2 => ?_)
 refine r_val .none rfl (p_assign rfl) ?_
 refine r_nil ?_
 refine e_next ?_
 refine c_seq ?_
 refine c_region ?_
 refine r_val .none rfl (p_ldw (k := 1) Try.underlying58 rfl sz58 rfl rfl (rfl : _ = Value.agg #[_, _])) ?_
 refine r_val .none rfl (p_ldw (k := 0) Try.underlying58 rfl sz58 rfl rfl (rfl : _ = Value.agg #[_, _])) ?_
 refine r_call (vs := [_, _]) .none rfl cl26 rfl (fun w hw => c_less20 _ _ _ _ _ _ ha hb w hw) ?_
 refine r_val .none rfl (p_not rfl) ?_
 refine r_val .none rfl (p_move rfl) ?_
 refine' r_and (c := 9) (d := 14) [_, _, _, _, _] rfl (fun h_1 Q_2 hQ_3 => ?_) (fun h_1 Q_2 hQ_3 => ?_) ?_
 rotate_left 1
 ·
  try simp only [norms] at h_1
  refine r_val (.some rfl rfl) rfl (p_ldw (k := 0) Try.underlying58 rfl sz58 rfl rfl (rfl : _ = Value.agg #[_, _])) ?_
  refine r_val (.some rfl rfl) rfl (p_ldw (k := 1) Try.underlying58 rfl sz58 rfl rfl (rfl : _ = Value.agg #[_, _])) ?_
  refine r_call (vs := [_, _]) (.some rfl rfl) rfl cl26 rfl (fun w hw => c_less20 _ _ _ _ _ _ hb ha w hw) ?_
  refine r_val (.some rfl rfl) rfl (p_not rfl) ?_
  refine r_val .none rfl (p_pick_t rfl rfl) ?_
  refine r_nil (e_fin (d := 14) hQ_3 rfl (by repeat (first | exact .refl | refine .put rfl ?_ | refine .say rfl ?_ | refine .say2 rfl (by first | assumption | simp_all) ?_)))
 ·
  repeat (first | refine r_skip rfl (.no rfl rfl) ?_ | refine r_skip rfl (.un rfl rfl) ?_)
  refine r_val (by first | exact .none | exact .some rfl rfl) rfl (p_pick_f rfl rfl) ?_
  refine r_nil (e_fin (d := 14) hQ_3 rfl (by repeat (first | exact .refl | refine .put rfl ?_ | refine .say rfl ?_ | refine .say2 rfl (by first | assumption | simp_all) ?_)))
 refine r_val .none rfl (p_assign rfl) ?_
 refine r_nil ?_
 refine e_next ?_
 refine c_ret ?_
 refine e_ret1 Try.results21 (.tmp rfl .nil) (fun w hm => ⟨?_, hm.since⟩)
 first
 | rfl
 | (simp [oneM, *]; done)
end Go.Proofs.Ytplefabpplfjbaa

/- Walks: what Go functions of this chapter come to, each as a function on plain data; no condition but those that each theorem names. Printed by a program of this work (gen.py). -/
namespace Go.Proofs.Ytplefabpplfjbaa
open Go.Gx Go.Gx.T20 Go.Gx.T21 Go.Gx.T6 Go.Gx.T4 Go.Gx.T21 Go.Gx.T6 Go.Gx.T4
theorem zr24 : ZeroIs Try.prog 24 (Value.agg #[Value.string ⟨#[]⟩, Value.slice none 0 0]) := by
 unfold ZeroIs
 kernel_rfl
theorem cl8 : Callable Try.prog 8 := callable Try.func8 (by kernel_rfl) rfl
theorem cl21 : Callable Try.prog 21 := callable Try.func21 (by kernel_rfl) rfl
theorem cl25 : Callable Try.prog 25 := callable Try.func25 (by kernel_rfl) rfl
theorem bl58_0s1_1s3 (x0 : ByteArray) (x1 : Option Addr) (x2 : Nat) (x3 : Nat) : Program.built Try.prog 58 [(0, Value.string x0), (1, Value.slice x1 x2 x3)] = some #[Value.string x0, Value.slice x1 x2 x3] := by
 kernel_rfl
theorem bs58_10a2 (a0 a1 : Value) : Instr.fill (fun i => some (i * 2, 2)) ((Array.range (1 * 2)).map ((Value.agg #[Value.string ⟨#[]⟩, Value.slice none 0 0]).cells[· % (Value.agg #[Value.string ⟨#[]⟩, Value.slice none 0 0]).cells.size]!)) [(0, Value.agg #[a0, a1])] = some #[a0, a1] := by
 kernel_rfl
theorem el58 : ElemIs Try.prog 58 2 40 (Value.agg #[Value.string ⟨#[]⟩, Value.slice none 0 0]) := by
 unfold ElemIs
 kernel_rfl
theorem c_ref20 (v : Value) (l : List MM) {G : Ghost} (hv : Mt G v l) (hn : l.length ≤ 1000) (hi : ∀ m ∈ l, m.2.length ≤ 1000) (w : World) (hG : Has G w) :
  Calls Try.prog 8 #[v] w (Ret fun r w' => ∃ G', GNew w nX G G' ∧ Has G' w' ∧ Mt G' r l ∧ Since nX w w') := by
 refine enter (args := [_]) (X := nX) (G := G) (l := [(0, v)]) Try.func8 rfl Try.ntmps8 hG ⟨rfl, trivial⟩ (Nat.le_of_ble_eq_true rfl) ?_
 obtain ⟨rs, hr, hp, rfl⟩ := hv
 have hbd := hr.bound
 rw [List.length_map] at hn
 refine c_seq ?_
 refine c_region ?_
 refine r_val .none rfl (p_assign rfl) ?_
 refine r_nil ?_
 refine e_next ?_
 refine c_seq ?_
 refine c_region ?_
 refine r_val .none rfl (p_assign rfl) ?_
 refine r_nil ?_
 refine e_next ?_
 refine c_seq ?_
 refine c_seq ?_
 refine c_region ?_
 refine r_val .none rfl (p_move rfl) ?_
 refine r_val .none rfl (p_leng Try.underlying30 rfl hr) ?_
 have bd_1 := (hr).bound
 refine r_val .none rfl (p_move rfl) ?_
 refine r_nil ?_
 refine e_next ?_
 refine c_block ?_
 refine c_nilrow 58 2 ?_
 refine c_name (d := 2) rfl (fun u_2 hu_2 => ?_)
 refine c_name (d := 6) rfl (fun u_3 hu_3 => ?_)
 refine c_name (d := 7) rfl (fun u_4 hu_4 => ?_)
 refine c_loop (σ := Nat × Value × List (MM × Value) × Ghost) (fun s => [(8, Value.int .i64 (s.1 : Nat)), (3, s.2.1), (2, u_2), (6, u_3), (7, u_4)]) (fun s => [rowA (s.2.1) 58 2 (s.2.2.1).length ((s.2.2.1).flatMap mC)]) (fun s => s.2.2.2) (fun s => s.1 ≤ rs.length ∧ s.2.2.1.map Prod.fst = (rs.map Prod.fst).take s.1 ∧ (∀ p ∈ s.2.2.1, SlL s.2.2.2 p.2 1 cI (0 : Int) p.1.2) ∧ GNew w nX G s.2.2.2) (fun s => rs.length - s.1) ((0, _, [], _)) ⟨Nat.zero_le _, rfl, by simp, GNew.refl _ _ _⟩ rfl ⟨rfl, rfl, rfl, rfl, rfl, trivial⟩ (.keep (fun _ _ h => rowA_nil rfl _ _ h) (.nil)) (fun s hphi => ?_)
 subst hu_2
 subst hu_3
 subst hu_4
 obtain ⟨k, v, qs, H⟩ := s
 obtain ⟨hk, hq, hqs, hgn⟩ := hphi
 dsimp only at hk hq hqs hgn ⊢
 have hql : qs.length ≤ k := (by have := congrArg List.length hq; simp at this; omega)
 replace hr := hr.mono hgn.le
 replace hp := fun p hm0 => (hp p hm0).mono hgn.le
 refine c_seq ?_
 refine c_region ?_
 refine r_val .none rfl (p_lt rfl rfl) ?_
 refine r_nil ?_
 refine e_next ?_
 refine c_seq ?_
 refine c_splitd (d := 9) rfl (fun h_5 => ?_) (fun h_5 => ?_)
 ·
  first
   | (exfalso; omega)
   | (
    refine c_cond_t rfl ?_
    refine c_skip ?_
    refine e_next ?_
    refine c_seq ?_
    refine c_block ?_
    refine c_seq ?_
    refine c_region ?_
    refine r_iaddr_g .none rfl Try.underlying30 sz24 rfl hr rfl (by first | exact of_decide_eq_true rfl | omega) (fun p_7 o_8 R_6 => ?_)
    have hq_9 := hp _ (getD_mem (i := k) (d := m0) (by omega))
    refine r_val .none rfl (p_ldga0 Try.underlying24 rfl sz24 rfl R_6 (by first | exact of_decide_eq_true rfl | omega) (rfl : _ = Value.agg #[_, _])) ?_
    refine r_alloc .none rfl zr24 (IsRow.lit _) (fun b_1 => ?_)
    refine r_stw (k := 0) .none sz24 rfl rfl (IsRow.lit _) (one_lit rfl (all_cons rfl (all_cons (hq_9).one rfl))) rfl ?_
    refine r_nil ?_
    refine e_next ?_
    refine c_region_d (fun _ => false) _ mixed (.keep (fun _ _ h => h) (.drop (.nil))) ?_
    refine d_val1 0 rfl rfl (by kernel_rfl) (fun _ _ => rfl) .none rfl (p_move rfl) ?_
    refine d_val1 1 rfl rfl (by kernel_rfl) (fun _ _ => rfl) .none rfl (p_field Try.underlying24 rfl sz9 rfl) ?_
    refine d_val1 2 rfl rfl (by kernel_rfl) (fun _ _ => rfl) .none rfl (p_ld (k := 0) Try.underlying9 rfl rfl rfl (by first | exact of_decide_eq_true rfl | omega) (rfl : _ = Value.string _)) ?_
    refine d_val1 4 rfl rfl (by kernel_rfl) (fun _ _ => rfl) .none rfl (p_field Try.underlying24 rfl sz22 rfl) ?_
    refine d_val1 5 rfl rfl (by kernel_rfl) (fun _ _ => rfl) .none rfl (p_ld (k := 0) Try.underlying22 rfl rfl rfl (by first | exact of_decide_eq_true rfl | omega) rfl) ?_
    refine d_eff 3 rfl (by kernel_rfl) (fun K_10 hKK_10 hcK_10 => ?_)
    refine r_bslice0 .none rfl Try.underlying22 el3 (fun v_11 => ?_)
    refine r_nil (e_d (i := 3) (brk := (fun _ => false)) (ph' := true) hKK_10 hcK_10 rfl (fun _ => GLe.refl _) (fun _ => .drop (.keep (fun _ _ h => h) (.drop (.nil)))) ?_)
    clear hKK_10 hcK_10 K_10
    refine d_eff 6 rfl (by kernel_rfl) (fun K_12 hKK_12 hcK_12 => ?_)
    refine r_append_g (k := 0) .none rfl Try.underlying22 el3 rfl (by decide) rfl rfl rfl hq_9 (fun _ _ _ hj => one_lit rfl rfl _ hj) (by have h9 := hi _ (List.mem_map.2 ⟨_, getD_mem (i := k) (d := m0) (by omega), rfl⟩); simp only [maxLen]; omega) (by have h9 := hi _ (List.mem_map.2 ⟨_, getD_mem (i := k) (d := m0) (by omega), rfl⟩); omega) (fun v_13 => ?_)
    refine r_row1 (k := 0) rfl (fun o_14 => ?_)
    refine r_freeze (k := 0) rfl (fun G_15 hn_16 hz_17 => ?_)
    replace hr := hr.mono hn_16.le
    replace hp := fun p hm0 => (hp p hm0).mono hn_16.le
    replace hqs := fun p hm0 => (hqs p hm0).mono hn_16.le
    replace R_6 := R_6.mono hn_16.le
    replace hq_9 := hq_9.mono hn_16.le
    have hs_18 : SlL G_15 v_13 1 cI (0 : Int) (rs.getD k m0).1.2 := SlL.of2 (cells := cI) (0 : Int) (fun _ => rfl) (Nat.zero_add _) (by rw [flat_all (cells := cI) (fun _ => rfl)]; rfl) hz_17
    obtain ⟨a_19, c_20, rfl⟩ := SlG.len hs_18
    refine r_nil (e_d (i := 6) (brk := (fun _ => false)) (ph' := true) hKK_12 hcK_12 rfl (fun _ => hn_16.le) (fun _ => .keep (fun _ _ h => h) (.drop (.nil))) ?_)
    clear hKK_12 hcK_12 K_12
    refine d_val1 7 rfl rfl (by kernel_rfl) (fun _ _ => rfl) .none rfl (p_build (vs := [(0, Value.string _), (1, Value.slice _ _ _)]) rfl (bl58_0s1_1s3 _ _ _ _)) ?_
    refine d_eff 8 rfl (by kernel_rfl) (fun K_21 hKK_21 hcK_21 => ?_)
    refine r_bslice (vs := [(0, Value.agg #[_, _])]) (c := #[_, _]) .none rfl Try.underlying28 el58 rfl rfl rfl (bs58_10a2 _ _) (IsRow.lit _) (fun b_2 => ?_)
    refine r_nil (e_d (i := 8) (brk := (fun _ => false)) (ph' := true) hKK_21 hcK_21 rfl (fun _ => hn_16.le) (fun _ => .drop (.keep (fun _ _ h => h) (.drop (.nil)))) ?_)
    clear hKK_21 hcK_21 K_21
    refine d_eff 9 rfl (by kernel_rfl) (fun K_22 hKK_22 hcK_22 => ?_)
    refine r_append (k := 2) (k2 := 0) .none rfl Try.underlying28 el58 rfl (by decide) rfl rfl rfl rfl rfl (one_lit rfl (all_cons rfl (all_cons (hs_18).one rfl))) (by simp only [maxLen]; omega) (by omega) (fun v_23 => ?_)
    refine r_row1 (k := 2) rfl (fun o_24 => ?_)
    refine r_nil (e_d (i := 9) (brk := (fun _ => false)) (ph' := true) hKK_22 hcK_22 rfl (fun _ => hn_16.le) (fun _ => .drop (.keep (fun _ _ h => h) (.drop (.nil)))) ?_)
    clear hKK_22 hcK_22 K_22
    refine d_val1 10 rfl rfl (by kernel_rfl) (fun _ _ => rfl) .none rfl (p_assign rfl) ?_
    refine d_nil (by kernel_rfl) ?_
    refine e_norm_block ?_
    refine e_next ?_
    refine c_region ?_
    refine r_val .none rfl (p_add rfl rfl (by omega)) ?_
    refine r_val .none rfl (p_move rfl) ?_
    refine r_nil ?_
    refine e_round ((k + 1, _, qs ++ [((rs.getD k m0).1, (Value.slice a_19 (rs.getD k m0).1.2.length c_20))], _)) ⟨⟨by dsimp only; omega, by rw [map_take (d := m0) (by omega), List.map_append, hq]; rfl, (fun p hp' => by rcases List.mem_append.1 hp' with h | h; exact hqs p h; rw [List.mem_singleton.1 h]; exact hs_18), (hgn.trans hn_16)⟩, by dsimp only; omega⟩ rfl ⟨rfl, rfl, rfl, rfl, rfl, trivial⟩ (.drop (.drop (.keep (fun _ _ h => rowA_snoc (l := qs) (x := ((rs.getD k m0).1, (Value.slice a_19 (rs.getD k m0).1.2.length c_20))) rfl rfl rfl rfl _ _ h) (.nil))))
    )
 ·
  first
   | (exfalso; omega)
   | (
    refine c_cond_f rfl ?_
    refine c_exit ?_
    refine e_exit_then ?_
    refine e_exit_then ?_
    refine e_exit_block ?_
    refine e_next ?_
    refine c_seq ?_
    refine c_region ?_
    refine r_val .none rfl (p_move rfl) ?_
    refine r_val .none rfl (p_assign rfl) ?_
    refine r_nil ?_
    refine e_next ?_
    refine c_ret ?_
    refine e_freeze (k := 0) rfl (fun G_25 hn_26 hs_27 => ?_)
    replace hr := hr.mono hn_26.le
    replace hp := fun p hm0 => (hp p hm0).mono hn_26.le
    replace hqs := fun p hm0 => (hqs p hm0).mono hn_26.le
    refine e_ret1 Try.results8 (.tmp rfl .nil) (fun w hm => ⟨_, (hgn.trans hn_26), hm.has, ?_, hm.since⟩)
    rw [show rs.map Prod.fst = qs.map Prod.fst by rw [hq, List.take_of_length_le (by simp; omega)]]
    exact Mt.mk qs (SlL.of m0 (fun _ => rfl) rfl hs_27) hqs
    )
theorem c_rsame20 (v u : Value) (l m : List MM) {G : Ghost} (hv : Mt G v l) (hu : Mt G u m) (w : World) (hG : Has G w) :
  Calls Try.prog 25 #[v, u] w (Ret fun r w' => r = Value.bool (sameM l m) ∧ Since nX w w') := by
 refine enter (args := [_, _]) (X := nX) (G := G) (l := [(0, v), (1, u)]) Try.func25 rfl Try.ntmps25 hG ⟨rfl, rfl, trivial⟩ (Nat.le_of_ble_eq_true rfl) ?_
 obtain ⟨rs, hr, hp, rfl⟩ := hv
 obtain ⟨qs, hq, hqp, rfl⟩ := hu
 have hbd := hr.bound
 have hbd2 := hq.bound
 refine c_seq ?_
 refine c_region ?_
 refine r_val .none rfl (p_assign rfl) ?_
 refine r_nil ?_
 refine e_next ?_
 refine c_seq ?_
 refine c_seq ?_
 refine c_region ?_
 refine r_val .none rfl (p_move rfl) ?_
 refine r_val .none rfl (p_leng Try.underlying28 rfl hr) ?_
 have bd_1 := (hr).bound
 refine r_val .none rfl (p_move rfl) ?_
 refine r_val .none rfl (p_leng Try.underlying28 rfl hq) ?_
 have bd_2 := (hq).bound
 refine r_val .none rfl (p_ne rfl rfl) ?_
 refine r_nil ?_
 refine e_next ?_
 refine c_splitd (d := 10) rfl (fun h_3 => ?_) (fun h_3 => ?_)
 ·
  have hL := h_3
  first
   | (exfalso; omega)
   | (
    refine c_cond_t rfl ?_
    refine c_seq ?_
    refine c_region ?_
    refine r_val .none rfl (p_assign rfl) ?_
    refine r_nil ?_
    refine e_next ?_
    refine c_ret ?_
    refine e_ret_then ?_
    refine e_ret1 Try.results25 (.tmp rfl .nil) (fun w hm => ⟨?_, hm.since⟩)
    first
    | (rw [sameM_len (by simp only [List.length_map]; omega)]; done)
    | (rw [hphi.2, sameM_at (by omega) (by omega), hE, Bool.false_and]; done)
    | (rw [hphi.2, sameM_end (by omega) (by omega)]; done)
    )
 ·
  have hL := Decidable.not_not.1 h_3
  first
   | (exfalso; omega)
   | (
    refine c_cond_f rfl ?_
    refine c_skip ?_
    refine e_next ?_
    refine c_seq ?_
    refine c_seq ?_
    refine c_region ?_
    refine r_val .none rfl (p_move rfl) ?_
    refine r_val .none rfl (p_leng Try.underlying28 rfl hr) ?_
    have bd_4 := (hr).bound
    refine r_val .none rfl (p_move rfl) ?_
    refine r_nil ?_
    refine e_next ?_
    refine c_block ?_
    refine c_name (d := 0) rfl (fun u_5 hu_5 => ?_)
    refine c_name (d := 1) rfl (fun u_6 hu_6 => ?_)
    refine c_name (d := 12) rfl (fun u_7 hu_7 => ?_)
    refine c_loop (σ := Nat) (fun k => [(13, Value.int .i64 (k : Nat)), (0, u_5), (1, u_6), (12, u_7)]) (fun k => []) (fun _ => _) (fun k => k ≤ rs.length ∧ sameM (rs.map Prod.fst) (qs.map Prod.fst) = sameM ((rs.map Prod.fst).drop k) ((qs.map Prod.fst).drop k)) (fun k => rs.length - k) (0) ⟨Nat.zero_le _, rfl⟩ rfl ⟨rfl, rfl, rfl, rfl, trivial⟩ (.nil) (fun k hphi => ?_)
    subst hu_5
    subst hu_6
    subst hu_7
    refine c_seq ?_
    refine c_region ?_
    refine r_val .none rfl (p_lt rfl rfl) ?_
    refine r_nil ?_
    refine e_next ?_
    refine c_seq ?_
    refine c_splitd (d := 14) rfl (fun h_8 => ?_) (fun h_8 => ?_)
    ·
     first
      | (exfalso; omega)
      | (
       refine c_cond_t rfl ?_
       refine c_skip ?_
       refine e_next ?_
       refine c_seq ?_
       refine c_block ?_
       refine c_seq ?_
       refine c_region ?_
       refine r_val .none rfl (p_move rfl) ?_
       refine r_val .none rfl (p_assign rfl) ?_
       refine r_nil ?_
       refine e_next ?_
       refine c_seq ?_
       refine c_region_q mixed (by kernel_rfl) ?_
       refine q_val .none rfl (p_move rfl) ?_
       refine q_val .none rfl (p_move rfl) ?_
       refine q_iaddr_g .none rfl Try.underlying28 sz58 rfl hr rfl (by first | exact of_decide_eq_true rfl | omega) (fun p_10 o_11 R_9 => ?_)
       have hq_12 := hp _ (getD_mem (i := k) (d := m0) (by omega))
       refine q_val .none rfl (p_ldga0 Try.underlying58 rfl sz58 rfl R_9 (by first | exact of_decide_eq_true rfl | omega) (rfl : _ = Value.agg #[_, _])) ?_
       refine q_val .none rfl (p_move rfl) ?_
       refine q_val .none rfl (p_move rfl) ?_
       refine q_iaddr_g .none rfl Try.underlying28 sz58 rfl hq rfl (by first | exact of_decide_eq_true rfl | omega) (fun p_14 o_15 R_13 => ?_)
       have hq_16 := hqp _ (getD_mem (i := k) (d := m0) (by omega))
       refine q_val .none rfl (p_ldga0 Try.underlying58 rfl sz58 rfl R_13 (by first | exact of_decide_eq_true rfl | omega) (rfl : _ = Value.agg #[_, _])) ?_
       refine q_call (vs := [_, _]) .none rfl cl21 rfl (fun w hw => c_one20 _ _ _ _ _ _ (hp _ (getD_mem (i := k) (d := m0) (by omega))) (hqp _ (getD_mem (i := k) (d := m0) (by omega))) w hw) ?_
       refine q_val .none rfl (p_not rfl) ?_
       refine q_nil ?_
       refine e_next ?_
       refine c_splitn (d := 25) rfl (fun h_17 => ?_) (fun h_17 => ?_)
       ·
        have hE : oneM (rs.getD k m0).1 (qs.getD k m0).1 = false := by (have h9 := h_17; simpa using h9)
        first
         | (exfalso; omega)
         | (
          refine c_cond_t rfl ?_
          refine c_seq ?_
          refine c_region ?_
          refine r_val .none rfl (p_assign rfl) ?_
          refine r_nil ?_
          refine e_next ?_
          refine c_ret ?_
          refine e_ret_block ?_
          refine e_ret_then ?_
          refine e_ret_then ?_
          refine e_ret_block ?_
          refine e_ret_then ?_
          refine e_ret1 Try.results25 (.tmp rfl .nil) (fun w hm => ⟨?_, hm.since⟩)
          first
          | (rw [sameM_len (by simp only [List.length_map]; omega)]; done)
          | (rw [hphi.2, sameM_at (by omega) (by omega), hE, Bool.false_and]; done)
          | (rw [hphi.2, sameM_end (by omega) (by omega)]; done)
          )
       ·
        have hE : oneM (rs.getD k m0).1 (qs.getD k m0).1 = true := by (have h9 := h_17; simpa using h9)
        first
         | (exfalso; omega)
         | (
          refine c_cond_f rfl ?_
          refine c_skip ?_
          refine e_norm_block ?_
          refine e_next ?_
          refine c_region ?_
          refine r_val .none rfl (p_add rfl rfl (by omega)) ?_
          refine r_val .none rfl (p_move rfl) ?_
          refine r_nil ?_
          refine e_round (k + 1) ⟨⟨by omega, hphi.2.trans (by rw [sameM_at (by omega) (by omega), hE, Bool.true_and])⟩, by omega⟩ rfl ⟨rfl, rfl, rfl, rfl, trivial⟩ (.nil)
          )
       )
    ·
     first
      | (exfalso; omega)
      | (
       refine c_cond_f rfl ?_
       refine c_exit ?_
       refine e_exit_then ?_
       refine e_exit_then ?_
       refine e_exit_block ?_
       refine e_next ?_
       refine c_seq ?_
       refine c_region ?_
       refine r_val .none rfl (p_assign rfl) ?_
       refine r_nil ?_
       refine e_next ?_
       refine c_ret ?_
       refine e_ret1 Try.results25 (.tmp rfl .nil) (fun w hm => ⟨?_, hm.since⟩)
       first
       | (rw [sameM_len (by simp only [List.length_map]; omega)]; done)
       | (rw [hphi.2, sameM_at (by omega) (by omega), hE, Bool.false_and]; done)
       | (rw [hphi.2, sameM_end (by omega) (by omega)]; done)
       )
    )
theorem c_same20 (v u : Value) (l m : List MM) {G : Ghost} (hv : Mt G v l) (hu : Mt G u m) (hn : l.length ≤ 1000) (hi : ∀ m ∈ l, m.2.length ≤ 1000) (w : World) (hG : Has G w) :
  Calls Try.prog 12 #[v, u] w (Ret fun r w' => r = Value.bool (sameM l m) ∧ Since nX w w') := by
 refine enter (args := [_, _]) (X := nX) (G := G) (l := [(0, v), (1, u)]) Try.func12 rfl Try.ntmps12 hG ⟨rfl, rfl, trivial⟩ (Nat.le_of_ble_eq_true rfl) ?_
 refine c_seq ?_
 refine c_region ?_
 refine r_val .none rfl (p_assign rfl) ?_
 refine r_nil ?_
 refine e_next ?_
 refine c_seq ?_
 refine c_region ?_
 refine r_val .none rfl (p_move rfl) ?_
 refine r_callm (vs := [_]) .none rfl cl8 rfl (fun w hw => c_ref20 _ _ hv hn hi w hw) (fun G_1 v_4 hn_2 hr_3 => ?_)
 replace hv := hv.mono hn_2.le
 replace hu := hu.mono hn_2.le
 have u_5 := hr_3
 refine r_val .none rfl (p_move rfl) ?_
 refine r_call (vs := [_, _]) .none rfl cl25 rfl (fun w hw => c_rsame20 _ _ _ _ u_5 hu w hw) ?_
 refine r_val .none rfl (p_assign rfl) ?_
 refine r_nil ?_
 refine e_next ?_
 refine c_ret ?_
 refine e_ret1 Try.results12 (.tmp rfl .nil) (fun w hm => ⟨?_, hm.since⟩)
 rfl
end Go.Proofs.Ytplefabpplfjbaa

/- Walks: what Go functions of this chapter come to, each as a function on plain data; no condition but those that each theorem names. Printed by a program of this work (gen.py). -/
namespace Go.Proofs.Ytplefabpplfjbaa
open Go.Gx Go.Gx.T20 Go.Gx.T21 Go.Gx.T6 Go.Gx.T4 Go.Gx.T21 Go.Gx.T6 Go.Gx.T4
theorem cl12 : Callable Try.prog 12 := callable Try.func12 (by kernel_rfl) rfl
theorem bs24_10a2 (a0 a1 : Value) : Instr.fill (fun i => some (i * 2, 2)) ((Array.range (1 * 2)).map ((Value.agg #[Value.string ⟨#[]⟩, Value.slice none 0 0]).cells[· % (Value.agg #[Value.string ⟨#[]⟩, Value.slice none 0 0]).cells.size]!)) [(0, Value.agg #[a0, a1])] = some #[a0, a1] := by
 kernel_rfl
theorem el24 : ElemIs Try.prog 24 2 40 (Value.agg #[Value.string ⟨#[]⟩, Value.slice none 0 0]) := by
 unfold ElemIs
 kernel_rfl
set_option maxRecDepth 100000 in
theorem c_FeedOwn (rl : ByteArray) (vi : Value) (ids : List Int) (to : Int) {G : Ghost} (hi : SlL G vi 1 cI (0 : Int) ids) (w : World) (hG : Has G w) :
  Calls Try.prog 3 #[Value.agg #[.string rl, vi], Value.int .i64 to] w (Ret fun r w' => r = Value.bool true ∧ Since nX w w') := by
 refine enter (args := [_, _]) (X := nX) (G := G) (l := [(0, Value.agg #[.string rl, vi]), (1, Value.int .i64 to)]) Try.func3 rfl Try.ntmps3 hG ⟨rfl, rfl, trivial⟩ (Nat.le_of_ble_eq_true rfl) ?_
 refine c_seq ?_
 refine c_region ?_
 refine r_box .none rfl rfl (IsRow.lit _) (fun b_1 => ?_)
 refine r_val .none rfl (p_assign rfl) ?_
 refine r_nil ?_
 refine e_next ?_
 refine c_seq ?_
 refine c_region ?_
 refine r_callnew (vs := []) .none rfl cl6 rfl (fun w hw => c_fnew w hw) (fun p_1 => ?_)
 refine r_val .none rfl (p_assign rfl) ?_
 refine r_nil ?_
 refine e_next ?_
 refine c_seq ?_
 refine c_seq ?_
 refine c_region ?_
 refine r_val .none rfl (p_field Try.underlying24 rfl sz22 rfl) ?_
 refine r_val .none rfl (p_ld (k := 1) Try.underlying22 rfl rfl rfl (by first | exact of_decide_eq_true rfl | omega) rfl) ?_
 refine r_val .none rfl (p_leng Try.underlying22 rfl hi) ?_
 have bd_2 := (hi).bound
 refine r_val .none rfl (p_gt rfl rfl) ?_
 refine r_val .none rfl (p_move rfl) ?_
 refine r_splitd (d := 23) rfl (fun h_3 => ?_) (fun h_3 => ?_)
 ·
  first
   | (exfalso; omega)
   | (
    refine r_skip rfl (.no rfl rfl) ?_
    refine r_skip rfl (.no rfl rfl) ?_
    refine r_val .none rfl (p_pick_t rfl rfl) ?_
    refine r_nil ?_
    refine e_next ?_
    refine c_cond_t rfl ?_
    refine c_seq ?_
    refine c_region ?_
    refine r_val .none rfl (p_move rfl) ?_
    refine r_val .none rfl (p_ne_ptr Try.underlying25 (by first | exact .inr rfl | exact .inl rfl) rfl rfl) ?_
    refine r_say (d := 28) (v := Value.bool true) rfl ?_
    refine r_val .none rfl (p_move rfl) ?_
    refine r_call (vs := []) (.some rfl rfl) rfl cl7 rfl (fun w hw => c_awake21 w) ?_
    refine r_val .none rfl (p_pick_t rfl rfl) ?_
    refine r_val .none rfl (p_assign rfl) ?_
    refine r_nil ?_
    refine e_next ?_
    refine c_ret ?_
    refine e_ret_then ?_
    refine e_ret1 Try.results3 (.tmp rfl .nil) (fun w hm => ⟨?_, hm.since⟩)
    first
    | rfl
    | (simp; done)
    )
 ·
  first
   | (exfalso; omega)
   | (
    refine r_val (.some rfl rfl) rfl (p_move rfl) ?_
    refine r_val (.some rfl rfl) rfl (p_eq_ptr Try.underlying25 (by first | exact .inr rfl | exact .inl rfl) rfl rfl) ?_
    refine r_say (d := 25) (v := Value.bool false) rfl ?_
    refine r_val .none rfl (p_pick_f rfl rfl) ?_
    refine r_nil ?_
    refine e_next ?_
    refine c_cond_f rfl ?_
    refine c_skip ?_
    refine e_next ?_
    refine c_seq ?_
    refine c_region ?_
    refine r_val .none rfl (p_ldw (k := 1) Try.underlying24 rfl sz24 rfl rfl (rfl : _ = Value.agg #[_, _])) ?_
    refine r_bslice (vs := [(0, Value.agg #[_, _])]) (c := #[_, _]) .none rfl Try.underlying30 el24 rfl rfl rfl (bs24_10a2 _ _) (IsRow.lit _) (fun b_2 => ?_)
    refine r_conv (B := rowA (.slice (some ⟨b_2, 0, none⟩) 1 1) 24 2 ([((rl, ids), vi)]).length (([((rl, ids), vi)]).flatMap mC)) (k := 0) rfl (fun _ _ h => rowA_congr rfl (by rfl) _ _ (box_rowA (n := 1) (sz := 2) rfl (by decide) h)) ?_
    dsimp only [List.set_cons_zero, List.set_cons_succ]
    refine r_freeze (k := 0) rfl (fun G_4 hn_5 hs_6 => ?_)
    replace hi := hi.mono hn_5.le
    have hl0 : SlL G_4 (.slice (some ⟨b_2, 0, none⟩) 1 1) 2 mC m0 [((rl, ids), vi)] := SlL.of (cells := mC) m0 (fun _ => rfl) rfl hs_6
    have hl1 := Mt.mk [((rl, ids), vi)] hl0 (fun p hp => by rw [List.mem_singleton.1 hp]; exact hi)
    refine r_callm (vs := [_]) .none rfl cl8 rfl (fun w hw => c_ref20 _ _ hl1 (by simp) (by simp only [List.map_cons, List.map_nil, List.mem_singleton, forall_eq]; omega) w hw) (fun G_7 v_10 hn_8 hr_9 => ?_)
    replace hi := hi.mono hn_8.le
    replace hl0 := hl0.mono hn_8.le
    replace hl1 := hl1.mono hn_8.le
    have u_11 := hr_9
    refine r_val .none rfl (p_assign rfl) ?_
    refine r_nil ?_
    refine e_next ?_
    refine c_seq ?_
    refine c_region ?_
    refine r_val .none rfl (p_move rfl) ?_
    refine r_callo (k := 0) (vs := [_, _]) .none rfl cl9 rfl rfl (fun w F hw hA hFG => c_fopen _ 2 ([], 0) (le_of (by decide)) (by decide) w hw hA hFG) ?_
    rw [show openI ([], 0) 2 = 1 from rfl, show openE ([], 0) 2 = 0 from rfl, show openS ([], 0) 2 = ([(1, (2, 0, []))], 1) from rfl]
    refine r_say (d := 37) (v := Value.tuple #[Value.int .i64 1, Value.int .i64 0]) rfl ?_
    refine r_val .none rfl (p_move rfl) ?_
    refine r_val .none rfl (p_extract rfl rfl) ?_
    refine r_val .none rfl (p_extract rfl rfl) ?_
    refine r_val .none rfl (p_assign rfl) ?_
    refine r_val .none rfl (p_assign rfl) ?_
    refine r_nil ?_
    refine e_next ?_
    refine c_seq ?_
    refine c_region ?_
    refine r_val .none rfl (p_move rfl) ?_
    refine r_callo (k := 0) (vs := [_, _]) .none rfl cl9 rfl rfl (fun w F hw hA hFG => c_fopen _ 2 ([(1, (2, 0, []))], 1) (le_of (by simp)) ⟨by simp, by simp⟩ w hw hA hFG) ?_
    refine r_say (d := 42) (v := Value.tuple #[Value.int .i64 2, Value.int .i64 0]) rfl ?_
    rw [show openS ([(1, (2, 0, []))], 1) 2 = O2 from rfl]
    refine r_val .none rfl (p_move rfl) ?_
    refine r_val .none rfl (p_extract rfl rfl) ?_
    refine r_val .none rfl (p_extract rfl rfl) ?_
    refine r_val .none rfl (p_assign rfl) ?_
    refine r_val .none rfl (p_assign rfl) ?_
    refine r_nil ?_
    refine e_next ?_
    refine c_seq ?_
    refine c_region_d (fun _ => false) _ mixed (.keep (fun _ _ h => h) (.keep (fun _ _ h => h) (.nil))) ?_
    refine d_val1 0 rfl rfl (by kernel_rfl) (fun _ _ => rfl) .none rfl (p_field Try.underlying24 rfl sz9 rfl) ?_
    refine d_val1 1 rfl rfl (by kernel_rfl) (fun _ _ => rfl) .none rfl (p_ld (k := 1) Try.underlying9 rfl rfl rfl (by first | exact of_decide_eq_true rfl | omega) (rfl : _ = Value.string _)) ?_
    refine d_val1 3 rfl rfl (by kernel_rfl) (fun _ _ => rfl) .none rfl (p_field Try.underlying24 rfl sz22 rfl) ?_
    refine d_val1 4 rfl rfl (by kernel_rfl) (fun _ _ => rfl) .none rfl (p_ld (k := 1) Try.underlying22 rfl rfl rfl (by first | exact of_decide_eq_true rfl | omega) rfl) ?_
    refine d_eff2 2 7 rfl rfl (by kernel_rfl) (fun K_12 hKK_12 hcK_12 => ?_) (fun K_12 hKK_12 hcK_12 => ?_)
    ·
     refine r_bslice0 .none rfl Try.underlying22 el3 (fun v_13 => ?_)
     refine r_nil (e_d (i := 2) (brk := (fun _ => false)) (ph' := true) hKK_12 hcK_12 rfl (fun _ => GLe.refl _) (fun _ => .drop (.keep (fun _ _ h => h) (.keep (fun _ _ h => h) (.nil)))) ?_)
     clear hKK_12 hcK_12 K_12
     refine d_eff2 5 7 rfl rfl (by kernel_rfl) (fun K_14 hKK_14 hcK_14 => ?_) (fun K_14 hKK_14 hcK_14 => ?_)
     ·
      refine r_append_g (k := 0) .none rfl Try.underlying22 el3 rfl (by decide) rfl rfl rfl hi (fun _ _ _ hj => one_lit rfl rfl _ hj) (by simp only [maxLen]; omega) (by omega) (fun v_15 => ?_)
      refine r_row1 (k := 0) rfl (fun o_16 => ?_)
      refine r_conv (B := rowA v_15 3 1 ids.length (ids.flatMap cI)) (k := 0) rfl (fun _ _ h => rowA_congr (Nat.zero_add _) (by rw [flat_all (cells := cI) (fun _ => rfl)]; rfl) _ _ h) ?_
      dsimp only [List.set_cons_zero, List.set_cons_succ]
      refine r_nil (e_d (i := 5) (brk := (fun _ => false)) (ph' := true) hKK_14 hcK_14 rfl (fun _ => GLe.refl _) (fun _ => .drop (.keep (fun _ _ h => h) (.keep (fun _ _ h => h) (.nil)))) ?_)
      clear hKK_14 hcK_14 K_14
      refine d_rowsl (k := 0) rfl (fun a_17 c_18 e_19 => ?_)
      subst e_19
      refine d_val1 6 rfl rfl (by kernel_rfl) (fun _ _ => rfl) .none rfl (p_build (vs := [(0, Value.string _), (1, Value.slice _ _ _)]) rfl (bl24_0s1_1s3 _ _ _ _)) ?_
      refine d_eff 7 rfl (by kernel_rfl) (fun K_20 hKK_20 hcK_20 => ?_)
      refine r_alloc .none rfl zr24 (IsRow.lit _) (fun b_3 => ?_)
      refine r_nil (e_d (i := 7) (brk := (fun _ => false)) (ph' := true) hKK_20 hcK_20 rfl (fun _ => GLe.refl _) (fun _ => .drop (.drop (.keep (fun _ _ h => h) (.keep (fun _ _ h => h) (.nil))))) ?_)
      clear hKK_20 hcK_20 K_20
      refine d_eff 8 rfl (by kernel_rfl) (fun K_21 hKK_21 hcK_21 => ?_)
      refine r_stw (k := 0) .none sz24 rfl rfl (IsRow.lit _) (one_lit rfl rfl) rfl ?_
      refine r_nil (e_d (i := 8) (brk := (fun _ => false)) (ph' := true) hKK_21 hcK_21 rfl (fun _ => GLe.refl _) (fun _ => .drop (.drop (.keep (fun _ _ h => h) (.keep (fun _ _ h => h) (.nil))))) ?_)
      clear hKK_21 hcK_21 K_21
      refine d_nil (by kernel_rfl) ?_
      refine e_next ?_
      refine c_seq ?_
      refine c_region ?_
      refine r_val .none rfl (p_move rfl) ?_
      refine r_val .none rfl (p_ldw (k := 0) Try.underlying24 rfl sz24 rfl rfl (rfl : _ = Value.agg #[_, _])) ?_
      refine r_val .none rfl (p_build (vs := [(0, Value.bool _), (1, Value.agg #[_, _])]) rfl (bl36_0b1_1a2 _ _ _)) ?_
      refine r_front (k := 2) rfl ?_
      refine r_front (k := 2) rfl ?_
      refine r_pack [_, _] ?_
      refine r_callo (k := 0) (vs := [_, _]) .none rfl cl10 rfl rfl (fun w F hw hA hFG => with_row (R := fun r => r = _) (fun G' F' hle hsl hw hA hFG => c_fsend _ true rl _ ids O2 (SlL.of (cells := cI) (0 : Int) (fun _ => rfl) rfl hsl) (by omega) (by decide) (by decide) (lb_of (by decide)) w hw hA hFG) hw hA hFG) ?_
      refine r_unpack ?_
      rw [show (sendF (true, rl, ids) O2.1, O2.2) = S2 rl ids from rfl]
      refine r_nil ?_
      refine e_next ?_
      refine c_seq ?_
      refine c_seq ?_
      refine c_region ?_
      refine r_val .none rfl (p_field Try.underlying24 rfl sz22 rfl) ?_
      refine r_val .none rfl (p_ld (k := 2) Try.underlying22 rfl rfl rfl (by first | exact of_decide_eq_true rfl | omega) rfl) ?_
      refine r_val .none rfl (p_leno (k := 0) Try.underlying22 rfl rfl) ?_
      refine r_val .none rfl (p_move rfl) ?_
      refine r_nil ?_
      refine e_next ?_
      refine c_block ?_
      refine c_name (d := 1) rfl (fun u_22 hu_22 => ?_)
      refine c_name (d := 4) rfl (fun u_23 hu_23 => ?_)
      refine c_name (d := 5) rfl (fun u_24 hu_24 => ?_)
      refine c_name (d := 6) rfl (fun u_25 hu_25 => ?_)
      refine c_name (d := 7) rfl (fun u_26 hu_26 => ?_)
      refine c_name (d := 9) rfl (fun u_27 hu_27 => ?_)
      refine c_name (d := 11) rfl (fun u_28 hu_28 => ?_)
      refine c_name (d := 58) rfl (fun u_29 hu_29 => ?_)
      refine c_nameL (k := 1) rfl (fun A_30 hA_30 => ?_)
      refine c_nameL (k := 2) rfl (fun A_31 hA_31 => ?_)
      refine c_nameL (k := 3) rfl (fun A_32 hA_32 => ?_)
      refine c_loop (σ := Nat × List Int) (fun s' => [(59, Value.int .i64 (s'.1 : Nat)), (1, u_22), (4, u_23), (5, u_24), (6, u_25), (7, u_26), (9, u_27), (11, u_28), (58, u_29)]) (fun s' => [rowA ((Value.slice a_17 ids.length c_18)) 3 1 (s'.2).length ((s'.2).flatMap cI), A_30, A_31, A_32]) (fun _ => _) (fun s' => s'.1 ≤ ids.length ∧ s'.2.length = ids.length) (fun s' => ids.length - s'.1) ((0, ids)) ⟨Nat.zero_le _, rfl⟩ rfl ⟨rfl, rfl, rfl, rfl, rfl, rfl, rfl, rfl, rfl, trivial⟩ (.keep (fun _ _ h => h) (.keep (fun _ _ h => h) (.keep (fun _ _ h => h) (.keep (fun _ _ h => h) (.nil))))) (fun s' hphi => ?_)
      subst hu_22
      subst hu_23
      subst hu_24
      subst hu_25
      subst hu_26
      subst hu_27
      subst hu_28
      subst hu_29
      subst hA_30
      subst hA_31
      subst hA_32
      obtain ⟨i, z⟩ := s'
      obtain ⟨hi1, hz⟩ := hphi
      dsimp only at hi1 hz ⊢
      refine c_seq ?_
      refine c_region ?_
      refine r_val .none rfl (p_lt rfl rfl) ?_
      refine r_nil ?_
      refine e_next ?_
      refine c_seq ?_
      refine c_splitd (d := 60) rfl (fun h_33 => ?_) (fun h_33 => ?_)
      ·
       first
        | (exfalso; omega)
        | (
         refine c_cond_t rfl ?_
         refine c_skip ?_
         refine e_next ?_
         refine c_seq ?_
         refine c_block ?_
         refine c_seq ?_
         refine c_region ?_
         refine r_val .none rfl (p_move rfl) ?_
         refine r_val .none rfl (p_assign rfl) ?_
         refine r_nil ?_
         refine e_next ?_
         refine c_region ?_
         refine r_val .none rfl (p_field Try.underlying24 rfl sz22 rfl) ?_
         refine r_val .none rfl (p_ld (k := 2) Try.underlying22 rfl rfl rfl (by first | exact of_decide_eq_true rfl | omega) rfl) ?_
         refine r_val .none rfl (p_move rfl) ?_
         refine r_val .none rfl (p_move rfl) ?_
         refine r_iaddr_o (k := 0) .none rfl Try.underlying22 sz3 rfl rfl rfl (by first | exact of_decide_eq_true rfl | omega) (fun p_34 c_35 hv_36 => ?_)
         refine r_stoe (k := 0) (cells := cI) to (fun _ => rfl) .none sz3 rfl rfl rfl (fun z hz => by rw [List.mem_singleton.1 hz]; rfl) rfl hv_36 (by omega) ?_
         refine r_nil ?_
         refine e_norm_block ?_
         refine e_next ?_
         refine c_region ?_
         refine r_val .none rfl (p_add rfl rfl (by omega)) ?_
         refine r_val .none rfl (p_move rfl) ?_
         refine r_nil ?_
         refine e_round ((i + 1, z.set i to)) ⟨⟨by dsimp only; omega, by dsimp only; rw [List.length_set]; exact hz⟩, by dsimp only; omega⟩ rfl ⟨rfl, rfl, rfl, rfl, rfl, rfl, rfl, rfl, rfl, trivial⟩ (.keep (fun _ _ h => h) (.keep (fun _ _ h => h) (.keep (fun _ _ h => h) (.keep (fun _ _ h => h) (.nil)))))
         )
      ·
       first
        | (exfalso; omega)
        | (
         refine c_cond_f rfl ?_
         refine c_exit ?_
         refine e_exit_then ?_
         refine e_exit_then ?_
         refine e_exit_block ?_
         refine e_next ?_
         refine c_seq ?_
         refine c_region ?_
         refine r_val .none rfl (p_move rfl) ?_
         refine r_val .none rfl (p_move rfl) ?_
         refine r_front (k := 1) rfl ?_
         refine r_callov (k := 0) (vs := [_, _]) (u := fun v => .tuple #[.agg #[.bool (true, rl, ids).1, .string (true, rl, ids).2.1, v], .bool true]) .none rfl cl11 rfl rfl (fun w F hw hA hFG => c_ftake1 _ 1 2 0 (true, rl, ids) [] (S2 rl ids) rfl w hw hA hFG) (fun tv_37 => ?_)
         refine r_unpack ?_
         refine r_row1 (k := 0) rfl (fun o_38 => ?_)
         rw [show (mput (S2 rl ids).1 1 (2, 0, []), (S2 rl ids).2) = S3 rl ids from rfl]
         refine r_val .none rfl (p_move rfl) ?_
         refine r_val .none rfl (p_extract rfl rfl) ?_
         refine r_val .none rfl (p_extract rfl rfl) ?_
         refine r_alloc .none rfl zr36 (IsRow.lit _) (fun b_4 => ?_)
         refine r_stw (k := 0) .none sz36 rfl rfl (IsRow.lit _) (one_lit rfl (all_cons rfl (all_cons rfl (all_cons o_38 rfl)))) rfl ?_
         refine r_val .none rfl (p_assign rfl) ?_
         refine r_nil ?_
         refine e_next ?_
         refine c_seq ?_
         refine c_seq ?_
         refine c_region ?_
         refine r_val .none rfl (p_move rfl) ?_
         refine r_val .none rfl (p_not rfl) ?_
         refine r_say (d := 75) (v := Value.bool false) rfl ?_
         refine r_val .none rfl (p_move rfl) ?_
         refine r_val (.some rfl rfl) rfl (p_field Try.underlying36 rfl sz24 rfl) ?_
         refine r_val (.some rfl rfl) rfl (p_lda (k := 0) Try.underlying24 rfl sz24 rfl rfl (by first | exact of_decide_eq_true rfl | omega) (rfl : _ = Value.agg #[_, _])) ?_
         refine r_bslice (vs := [(0, Value.agg #[_, _])]) (c := #[_, _]) (.some rfl rfl) rfl Try.underlying30 el24 rfl rfl rfl (bs24_10a2 _ _) (IsRow.lit _) (fun b_5 => ?_)
         refine r_conv (B := rowA (.slice (some ⟨b_5, 0, none⟩) 1 1) 24 2 ([((rl, ids), tv_37)]).length (([((rl, ids), tv_37)]).flatMap mC)) (k := 0) rfl (fun _ _ h => rowA_congr rfl (by rfl) _ _ (box_rowA (n := 1) (sz := 2) rfl (by decide) h)) ?_
         dsimp only [List.set_cons_zero, List.set_cons_succ]
         refine r_freeze (k := 0) rfl (fun G_39 hn_40 hs_41 => ?_)
         replace hi := hi.mono hn_40.le
         replace hl0 := hl0.mono hn_40.le
         replace hl1 := hl1.mono hn_40.le
         replace u_11 := u_11.mono hn_40.le
         have hl2 : SlL G_39 (.slice (some ⟨b_5, 0, none⟩) 1 1) 2 mC m0 [((rl, ids), tv_37)] := SlL.of (cells := mC) m0 (fun _ => rfl) rfl hs_41
         refine r_val (.some rfl rfl) rfl (p_move rfl) ?_
         refine r_front (k := 1) rfl ?_
         refine r_callo (k := 0) (vs := [_, _]) (.some rfl rfl) rfl cl12 rfl rfl (fun w F hw hA hFG => row_see (R := fun r => r = Value.bool true) (fun G' hle hsl hw => by (have h9 := c_same20 _ _ [(rl, ids)] [(rl, ids)] (Mt.mk [((rl, ids), tv_37)] (hl2.mono hle) (fun p hp => by rw [List.mem_singleton.1 hp]; exact SlL.of (cells := cI) (0 : Int) (fun _ => rfl) rfl hsl)) (u_11.mono hle) (by simp) (by simp only [List.mem_singleton, forall_eq]; omega) w hw; rw [sameM_refl] at h9; exact h9)) hw hA hFG) ?_
         refine r_val (.some rfl rfl) rfl (p_not rfl) ?_
         refine r_say (d := 82) (v := Value.bool false) rfl ?_
         refine r_val .none rfl (p_pick_f rfl rfl) ?_
         refine r_nil ?_
         refine e_next ?_
         refine c_cond_f rfl ?_
         refine c_skip ?_
         refine e_next ?_
         refine c_seq ?_
         refine c_seq ?_
         refine c_region ?_
         refine r_val .none rfl (p_field Try.underlying36 rfl sz24 rfl) ?_
         refine r_val .none rfl (p_field Try.underlying24 rfl sz22 rfl) ?_
         refine r_val .none rfl (p_ld (k := 1) Try.underlying22 rfl rfl rfl (by first | exact of_decide_eq_true rfl | omega) rfl) ?_
         refine r_val .none rfl (p_leno (k := 0) Try.underlying22 rfl rfl) ?_
         refine r_val .none rfl (p_move rfl) ?_
         refine r_nil ?_
         refine e_next ?_
         refine c_block ?_
         refine c_name (d := 1) rfl (fun u_42 hu_42 => ?_)
         refine c_name (d := 4) rfl (fun u_43 hu_43 => ?_)
         refine c_name (d := 5) rfl (fun u_44 hu_44 => ?_)
         refine c_name (d := 6) rfl (fun u_45 hu_45 => ?_)
         refine c_name (d := 9) rfl (fun u_46 hu_46 => ?_)
         refine c_name (d := 13) rfl (fun u_47 hu_47 => ?_)
         refine c_name (d := 87) rfl (fun u_48 hu_48 => ?_)
         refine c_nameL (k := 1) rfl (fun A_49 hA_49 => ?_)
         refine c_nameL (k := 2) rfl (fun A_50 hA_50 => ?_)
         refine c_nameL (k := 3) rfl (fun A_51 hA_51 => ?_)
         refine c_nameL (k := 4) rfl (fun A_52 hA_52 => ?_)
         refine c_nameL (k := 5) rfl (fun A_53 hA_53 => ?_)
         refine c_loop (σ := Nat × List Int) (fun s' => [(88, Value.int .i64 (s'.1 : Nat)), (1, u_42), (4, u_43), (5, u_44), (6, u_45), (9, u_46), (13, u_47), (87, u_48)]) (fun s' => [rowA (tv_37) 3 1 (s'.2).length ((s'.2).flatMap cI), A_49, A_50, A_51, A_52, A_53]) (fun _ => _) (fun s' => s'.1 ≤ ids.length ∧ s'.2.length = ids.length) (fun s' => ids.length - s'.1) ((0, ids)) ⟨Nat.zero_le _, rfl⟩ rfl ⟨rfl, rfl, rfl, rfl, rfl, rfl, rfl, rfl, trivial⟩ (.keep (fun _ _ h => h) (.keep (fun _ _ h => h) (.keep (fun _ _ h => h) (.keep (fun _ _ h => h) (.keep (fun _ _ h => h) (.keep (fun _ _ h => h) (.nil))))))) (fun s' hphi => ?_)
         subst hu_42
         subst hu_43
         subst hu_44
         subst hu_45
         subst hu_46
         subst hu_47
         subst hu_48
         subst hA_49
         subst hA_50
         subst hA_51
         subst hA_52
         subst hA_53
         obtain ⟨j, z2⟩ := s'
         obtain ⟨hj1, hz2⟩ := hphi
         dsimp only at hj1 hz2 ⊢
         refine c_seq ?_
         refine c_region ?_
         refine r_val .none rfl (p_lt rfl rfl) ?_
         refine r_nil ?_
         refine e_next ?_
         refine c_seq ?_
         refine c_splitd (d := 89) rfl (fun h_54 => ?_) (fun h_54 => ?_)
         ·
          first
           | (exfalso; omega)
           | (
            refine c_cond_t rfl ?_
            refine c_skip ?_
            refine e_next ?_
            refine c_seq ?_
            refine c_block ?_
            refine c_seq ?_
            refine c_region ?_
            refine r_val .none rfl (p_move rfl) ?_
            refine r_val .none rfl (p_assign rfl) ?_
            refine r_nil ?_
            refine e_next ?_
            refine c_region ?_
            refine r_val .none rfl (p_field Try.underlying36 rfl sz24 rfl) ?_
            refine r_val .none rfl (p_field Try.underlying24 rfl sz22 rfl) ?_
            refine r_val .none rfl (p_ld (k := 1) Try.underlying22 rfl rfl rfl (by first | exact of_decide_eq_true rfl | omega) rfl) ?_
            refine r_val .none rfl (p_move rfl) ?_
            refine r_val .none rfl (p_move rfl) ?_
            refine r_iaddr_o (k := 0) .none rfl Try.underlying22 sz3 rfl rfl rfl (by first | exact of_decide_eq_true rfl | omega) (fun p_55 c_56 hv_57 => ?_)
            refine r_stoe (k := 0) (cells := cI) to (fun _ => rfl) .none sz3 rfl rfl rfl (fun z hz => by rw [List.mem_singleton.1 hz]; rfl) rfl hv_57 (by omega) ?_
            refine r_nil ?_
            refine e_norm_block ?_
            refine e_next ?_
            refine c_region ?_
            refine r_val .none rfl (p_add rfl rfl (by omega)) ?_
            refine r_val .none rfl (p_move rfl) ?_
            refine r_nil ?_
            refine e_round ((j + 1, z2.set j to)) ⟨⟨by dsimp only; omega, by dsimp only; rw [List.length_set]; exact hz2⟩, by dsimp only; omega⟩ rfl ⟨rfl, rfl, rfl, rfl, rfl, rfl, rfl, rfl, trivial⟩ (.keep (fun _ _ h => h) (.keep (fun _ _ h => h) (.keep (fun _ _ h => h) (.keep (fun _ _ h => h) (.keep (fun _ _ h => h) (.keep (fun _ _ h => h) (.nil)))))))
            )
         ·
          first
           | (exfalso; omega)
           | (
            refine c_cond_f rfl ?_
            refine c_exit ?_
            refine e_exit_then ?_
            refine e_exit_then ?_
            refine e_exit_block ?_
            refine e_next ?_
            refine c_seq ?_
            refine c_region ?_
            refine r_val .none rfl (p_move rfl) ?_
            refine r_val .none rfl (p_move rfl) ?_
            refine r_front (k := 2) rfl ?_
            refine r_callov (k := 0) (vs := [_, _]) (u := fun v => .tuple #[.agg #[.bool (true, rl, ids).1, .string (true, rl, ids).2.1, v], .bool true]) .none rfl cl11 rfl rfl (fun w F hw hA hFG => c_ftake1 _ 2 2 0 (true, rl, ids) [] (S3 rl ids) rfl w hw hA hFG) (fun tv_58 => ?_)
            refine r_unpack ?_
            refine r_row1 (k := 0) rfl (fun o_59 => ?_)
            refine r_val .none rfl (p_move rfl) ?_
            refine r_val .none rfl (p_extract rfl rfl) ?_
            refine r_val .none rfl (p_extract rfl rfl) ?_
            refine r_alloc .none rfl zr36 (IsRow.lit _) (fun b_6 => ?_)
            refine r_stw (k := 0) .none sz36 rfl rfl (IsRow.lit _) (one_lit rfl (all_cons rfl (all_cons rfl (all_cons o_59 rfl)))) rfl ?_
            refine r_val .none rfl (p_assign rfl) ?_
            refine r_nil ?_
            refine e_next ?_
            refine c_seq ?_
            refine c_region ?_
            refine r_val .none rfl (p_move rfl) ?_
            refine r_val .none rfl (p_move rfl) ?_
            refine r_val (.some rfl rfl) rfl (p_field Try.underlying36 rfl sz24 rfl) ?_
            refine r_val (.some rfl rfl) rfl (p_lda (k := 0) Try.underlying24 rfl sz24 rfl rfl (by first | exact of_decide_eq_true rfl | omega) (rfl : _ = Value.agg #[_, _])) ?_
            refine r_bslice (vs := [(0, Value.agg #[_, _])]) (c := #[_, _]) (.some rfl rfl) rfl Try.underlying30 el24 rfl rfl rfl (bs24_10a2 _ _) (IsRow.lit _) (fun b_7 => ?_)
            refine r_conv (B := rowA (.slice (some ⟨b_7, 0, none⟩) 1 1) 24 2 ([((rl, ids), tv_58)]).length (([((rl, ids), tv_58)]).flatMap mC)) (k := 0) rfl (fun _ _ h => rowA_congr rfl (by rfl) _ _ (box_rowA (n := 1) (sz := 2) rfl (by decide) h)) ?_
            dsimp only [List.set_cons_zero, List.set_cons_succ]
            refine r_freeze (k := 0) rfl (fun G_60 hn_61 hs_62 => ?_)
            replace hi := hi.mono hn_61.le
            replace hl0 := hl0.mono hn_61.le
            replace hl1 := hl1.mono hn_61.le
            replace u_11 := u_11.mono hn_61.le
            replace hl2 := hl2.mono hn_61.le
            have hl3 : SlL G_60 (.slice (some ⟨b_7, 0, none⟩) 1 1) 2 mC m0 [((rl, ids), tv_58)] := SlL.of (cells := mC) m0 (fun _ => rfl) rfl hs_62
            refine r_val (.some rfl rfl) rfl (p_move rfl) ?_
            refine r_front (k := 1) rfl ?_
            refine r_callo (k := 0) (vs := [_, _]) (.some rfl rfl) rfl cl12 rfl rfl (fun w F hw hA hFG => row_see (R := fun r => r = Value.bool true) (fun G' hle hsl hw => by (have h9 := c_same20 _ _ [(rl, ids)] [(rl, ids)] (Mt.mk [((rl, ids), tv_58)] (hl3.mono hle) (fun p hp => by rw [List.mem_singleton.1 hp]; exact SlL.of (cells := cI) (0 : Int) (fun _ => rfl) rfl hsl)) (u_11.mono hle) (by simp) (by simp only [List.mem_singleton, forall_eq]; omega) w hw; rw [sameM_refl] at h9; exact h9)) hw hA hFG) ?_
            refine r_val .none rfl (p_pick_t rfl rfl) ?_
            refine r_val .none rfl (p_move rfl) ?_
            refine r_call (vs := []) (.some rfl rfl) rfl cl7 rfl (fun w hw => c_awake21 w) ?_
            refine r_val .none rfl (p_pick_t rfl rfl) ?_
            refine r_val .none rfl (p_assign rfl) ?_
            refine r_nil ?_
            refine e_next ?_
            refine c_ret ?_
            refine e_ret1 Try.results3 (.tmp rfl .nil) (fun w hm => ⟨?_, hm.since⟩)
            first
            | rfl
            | (simp; done)
            )
         )
     ·
      refine r_alloc .none rfl zr24 (IsRow.lit _) (fun b_8 => ?_)
      refine r_nil (e_d (i := 7) (brk := (fun _ => false)) (ph' := true) hKK_14 hcK_14 rfl (fun _ => GLe.refl _) (fun _ => .drop (.drop (.keep (fun _ _ h => h) (.keep (fun _ _ h => h) (.nil))))) ?_)
      clear hKK_14 hcK_14 K_14
      refine d_eff 5 rfl (by kernel_rfl) (fun K_63 hKK_63 hcK_63 => ?_)
      refine r_append_g (k := 1) .none rfl Try.underlying22 el3 rfl (by decide) rfl rfl rfl hi (fun _ _ _ hj => one_lit rfl rfl _ hj) (by simp only [maxLen]; omega) (by omega) (fun v_64 => ?_)
      refine r_row1 (k := 1) rfl (fun o_65 => ?_)
      refine r_conv (B := rowA v_64 3 1 ids.length (ids.flatMap cI)) (k := 1) rfl (fun _ _ h => rowA_congr (Nat.zero_add _) (by rw [flat_all (cells := cI) (fun _ => rfl)]; rfl) _ _ h) ?_
      dsimp only [List.set_cons_zero, List.set_cons_succ]
      refine r_nil (e_d (i := 5) (brk := (fun _ => false)) (ph' := true) hKK_63 hcK_63 rfl (fun _ => GLe.refl _) (fun _ => .drop (.drop (.keep (fun _ _ h => h) (.keep (fun _ _ h => h) (.nil))))) ?_)
      clear hKK_63 hcK_63 K_63
      refine d_rowsl (k := 1) rfl (fun a_66 c_67 e_68 => ?_)
      subst e_68
      refine d_val1 6 rfl rfl (by kernel_rfl) (fun _ _ => rfl) .none rfl (p_build (vs := [(0, Value.string _), (1, Value.slice _ _ _)]) rfl (bl24_0s1_1s3 _ _ _ _)) ?_
      refine d_eff 8 rfl (by kernel_rfl) (fun K_69 hKK_69 hcK_69 => ?_)
      refine r_stw (k := 0) .none sz24 rfl rfl (IsRow.lit _) (one_lit rfl rfl) rfl ?_
      refine r_nil (e_d (i := 8) (brk := (fun _ => false)) (ph' := true) hKK_69 hcK_69 rfl (fun _ => GLe.refl _) (fun _ => .drop (.drop (.keep (fun _ _ h => h) (.keep (fun _ _ h => h) (.nil))))) ?_)
      clear hKK_69 hcK_69 K_69
      refine d_nil (by kernel_rfl) ?_
      refine e_next ?_
      refine c_seq ?_
      refine c_region ?_
      refine r_val .none rfl (p_move rfl) ?_
      refine r_val .none rfl (p_ldw (k := 0) Try.underlying24 rfl sz24 rfl rfl (rfl : _ = Value.agg #[_, _])) ?_
      refine r_val .none rfl (p_build (vs := [(0, Value.bool _), (1, Value.agg #[_, _])]) rfl (bl36_0b1_1a2 _ _ _)) ?_
      refine r_front (k := 2) rfl ?_
      refine r_front (k := 2) rfl ?_
      refine r_pack [_, _] ?_
      refine r_callo (k := 0) (vs := [_, _]) .none rfl cl10 rfl rfl (fun w F hw hA hFG => with_row (R := fun r => r = _) (fun G' F' hle hsl hw hA hFG => c_fsend _ true rl _ ids O2 (SlL.of (cells := cI) (0 : Int) (fun _ => rfl) rfl hsl) (by omega) (by decide) (by decide) (lb_of (by decide)) w hw hA hFG) hw hA hFG) ?_
      refine r_unpack ?_
      rw [show (sendF (true, rl, ids) O2.1, O2.2) = S2 rl ids from rfl]
      refine r_nil ?_
      refine e_next ?_
      refine c_seq ?_
      refine c_seq ?_
      refine c_region ?_
      refine r_val .none rfl (p_field Try.underlying24 rfl sz22 rfl) ?_
      refine r_val .none rfl (p_ld (k := 2) Try.underlying22 rfl rfl rfl (by first | exact of_decide_eq_true rfl | omega) rfl) ?_
      refine r_val .none rfl (p_leno (k := 0) Try.underlying22 rfl rfl) ?_
      refine r_val .none rfl (p_move rfl) ?_
      refine r_nil ?_
      refine e_next ?_
      refine c_block ?_
      refine c_name (d := 1) rfl (fun u_70 hu_70 => ?_)
      refine c_name (d := 4) rfl (fun u_71 hu_71 => ?_)
      refine c_name (d := 5) rfl (fun u_72 hu_72 => ?_)
      refine c_name (d := 6) rfl (fun u_73 hu_73 => ?_)
      refine c_name (d := 7) rfl (fun u_74 hu_74 => ?_)
      refine c_name (d := 9) rfl (fun u_75 hu_75 => ?_)
      refine c_name (d := 11) rfl (fun u_76 hu_76 => ?_)
      refine c_name (d := 58) rfl (fun u_77 hu_77 => ?_)
      refine c_nameL (k := 1) rfl (fun A_78 hA_78 => ?_)
      refine c_nameL (k := 2) rfl (fun A_79 hA_79 => ?_)
      refine c_nameL (k := 3) rfl (fun A_80 hA_80 => ?_)
      refine c_loop (σ := Nat × List Int) (fun s' => [(59, Value.int .i64 (s'.1 : Nat)), (1, u_70), (4, u_71), (5, u_72), (6, u_73), (7, u_74), (9, u_75), (11, u_76), (58, u_77)]) (fun s' => [rowA ((Value.slice a_66 ids.length c_67)) 3 1 (s'.2).length ((s'.2).flatMap cI), A_78, A_79, A_80]) (fun _ => _) (fun s' => s'.1 ≤ ids.length ∧ s'.2.length = ids.length) (fun s' => ids.length - s'.1) ((0, ids)) ⟨Nat.zero_le _, rfl⟩ rfl ⟨rfl, rfl, rfl, rfl, rfl, rfl, rfl, rfl, rfl, trivial⟩ (.keep (fun _ _ h => h) (.keep (fun _ _ h => h) (.keep (fun _ _ h => h) (.keep (fun _ _ h => h) (.nil))))) (fun s' hphi => ?_)
      subst hu_70
      subst hu_71
      subst hu_72
      subst hu_73
      subst hu_74
      subst hu_75
      subst hu_76
      subst hu_77
      subst hA_78
      subst hA_79
      subst hA_80
      obtain ⟨i, z⟩ := s'
      obtain ⟨hi1, hz⟩ := hphi
      dsimp only at hi1 hz ⊢
      refine c_seq ?_
      refine c_region ?_
      refine r_val .none rfl (p_lt rfl rfl) ?_
      refine r_nil ?_
      refine e_next ?_
      refine c_seq ?_
      refine c_splitd (d := 60) rfl (fun h_81 => ?_) (fun h_81 => ?_)
      ·
       first
        | (exfalso; omega)
        | (
         refine c_cond_t rfl ?_
         refine c_skip ?_
         refine e_next ?_
         refine c_seq ?_
         refine c_block ?_
         refine c_seq ?_
         refine c_region ?_
         refine r_val .none rfl (p_move rfl) ?_
         refine r_val .none rfl (p_assign rfl) ?_
         refine r_nil ?_
         refine e_next ?_
         refine c_region ?_
         refine r_val .none rfl (p_field Try.underlying24 rfl sz22 rfl) ?_
         refine r_val .none rfl (p_ld (k := 2) Try.underlying22 rfl rfl rfl (by first | exact of_decide_eq_true rfl | omega) rfl) ?_
         refine r_val .none rfl (p_move rfl) ?_
         refine r_val .none rfl (p_move rfl) ?_
         refine r_iaddr_o (k := 0) .none rfl Try.underlying22 sz3 rfl rfl rfl (by first | exact of_decide_eq_true rfl | omega) (fun p_82 c_83 hv_84 => ?_)
         refine r_stoe (k := 0) (cells := cI) to (fun _ => rfl) .none sz3 rfl rfl rfl (fun z hz => by rw [List.mem_singleton.1 hz]; rfl) rfl hv_84 (by omega) ?_
         refine r_nil ?_
         refine e_norm_block ?_
         refine e_next ?_
         refine c_region ?_
         refine r_val .none rfl (p_add rfl rfl (by omega)) ?_
         refine r_val .none rfl (p_move rfl) ?_
         refine r_nil ?_
         refine e_round ((i + 1, z.set i to)) ⟨⟨by dsimp only; omega, by dsimp only; rw [List.length_set]; exact hz⟩, by dsimp only; omega⟩ rfl ⟨rfl, rfl, rfl, rfl, rfl, rfl, rfl, rfl, rfl, trivial⟩ (.keep (fun _ _ h => h) (.keep (fun _ _ h => h) (.keep (fun _ _ h => h) (.keep (fun _ _ h => h) (.nil)))))
         )
      ·
       first
        | (exfalso; omega)
        | (
         refine c_cond_f rfl ?_
         refine c_exit ?_
         refine e_exit_then ?_
         refine e_exit_then ?_
         refine e_exit_block ?_
         refine e_next ?_
         refine c_seq ?_
         refine c_region ?_
         refine r_val .none rfl (p_move rfl) ?_
         refine r_val .none rfl (p_move rfl) ?_
         refine r_front (k := 1) rfl ?_
         refine r_callov (k := 0) (vs := [_, _]) (u := fun v => .tuple #[.agg #[.bool (true, rl, ids).1, .string (true, rl, ids).2.1, v], .bool true]) .none rfl cl11 rfl rfl (fun w F hw hA hFG => c_ftake1 _ 1 2 0 (true, rl, ids) [] (S2 rl ids) rfl w hw hA hFG) (fun tv_85 => ?_)
         refine r_unpack ?_
         refine r_row1 (k := 0) rfl (fun o_86 => ?_)
         rw [show (mput (S2 rl ids).1 1 (2, 0, []), (S2 rl ids).2) = S3 rl ids from rfl]
         refine r_val .none rfl (p_move rfl) ?_
         refine r_val .none rfl (p_extract rfl rfl) ?_
         refine r_val .none rfl (p_extract rfl rfl) ?_
         refine r_alloc .none rfl zr36 (IsRow.lit _) (fun b_9 => ?_)
         refine r_stw (k := 0) .none sz36 rfl rfl (IsRow.lit _) (one_lit rfl (all_cons rfl (all_cons rfl (all_cons o_86 rfl)))) rfl ?_
         refine r_val .none rfl (p_assign rfl) ?_
         refine r_nil ?_
         refine e_next ?_
         refine c_seq ?_
         refine c_seq ?_
         refine c_region ?_
         refine r_val .none rfl (p_move rfl) ?_
         refine r_val .none rfl (p_not rfl) ?_
         refine r_say (d := 75) (v := Value.bool false) rfl ?_
         refine r_val .none rfl (p_move rfl) ?_
         refine r_val (.some rfl rfl) rfl (p_field Try.underlying36 rfl sz24 rfl) ?_
         refine r_val (.some rfl rfl) rfl (p_lda (k := 0) Try.underlying24 rfl sz24 rfl rfl (by first | exact of_decide_eq_true rfl | omega) (rfl : _ = Value.agg #[_, _])) ?_
         refine r_bslice (vs := [(0, Value.agg #[_, _])]) (c := #[_, _]) (.some rfl rfl) rfl Try.underlying30 el24 rfl rfl rfl (bs24_10a2 _ _) (IsRow.lit _) (fun b_10 => ?_)
         refine r_conv (B := rowA (.slice (some ⟨b_10, 0, none⟩) 1 1) 24 2 ([((rl, ids), tv_85)]).length (([((rl, ids), tv_85)]).flatMap mC)) (k := 0) rfl (fun _ _ h => rowA_congr rfl (by rfl) _ _ (box_rowA (n := 1) (sz := 2) rfl (by decide) h)) ?_
         dsimp only [List.set_cons_zero, List.set_cons_succ]
         refine r_freeze (k := 0) rfl (fun G_87 hn_88 hs_89 => ?_)
         replace hi := hi.mono hn_88.le
         replace hl0 := hl0.mono hn_88.le
         replace hl1 := hl1.mono hn_88.le
         replace u_11 := u_11.mono hn_88.le
         have hl2 : SlL G_87 (.slice (some ⟨b_10, 0, none⟩) 1 1) 2 mC m0 [((rl, ids), tv_85)] := SlL.of (cells := mC) m0 (fun _ => rfl) rfl hs_89
         refine r_val (.some rfl rfl) rfl (p_move rfl) ?_
         refine r_front (k := 1) rfl ?_
         refine r_callo (k := 0) (vs := [_, _]) (.some rfl rfl) rfl cl12 rfl rfl (fun w F hw hA hFG => row_see (R := fun r => r = Value.bool true) (fun G' hle hsl hw => by (have h9 := c_same20 _ _ [(rl, ids)] [(rl, ids)] (Mt.mk [((rl, ids), tv_85)] (hl2.mono hle) (fun p hp => by rw [List.mem_singleton.1 hp]; exact SlL.of (cells := cI) (0 : Int) (fun _ => rfl) rfl hsl)) (u_11.mono hle) (by simp) (by simp only [List.mem_singleton, forall_eq]; omega) w hw; rw [sameM_refl] at h9; exact h9)) hw hA hFG) ?_
         refine r_val (.some rfl rfl) rfl (p_not rfl) ?_
         refine r_say (d := 82) (v := Value.bool false) rfl ?_
         refine r_val .none rfl (p_pick_f rfl rfl) ?_
         refine r_nil ?_
         refine e_next ?_
         refine c_cond_f rfl ?_
         refine c_skip ?_
         refine e_next ?_
         refine c_seq ?_
         refine c_seq ?_
         refine c_region ?_
         refine r_val .none rfl (p_field Try.underlying36 rfl sz24 rfl) ?_
         refine r_val .none rfl (p_field Try.underlying24 rfl sz22 rfl) ?_
         refine r_val .none rfl (p_ld (k := 1) Try.underlying22 rfl rfl rfl (by first | exact of_decide_eq_true rfl | omega) rfl) ?_
         refine r_val .none rfl (p_leno (k := 0) Try.underlying22 rfl rfl) ?_
         refine r_val .none rfl (p_move rfl) ?_
         refine r_nil ?_
         refine e_next ?_
         refine c_block ?_
         refine c_name (d := 1) rfl (fun u_90 hu_90 => ?_)
         refine c_name (d := 4) rfl (fun u_91 hu_91 => ?_)
         refine c_name (d := 5) rfl (fun u_92 hu_92 => ?_)
         refine c_name (d := 6) rfl (fun u_93 hu_93 => ?_)
         refine c_name (d := 9) rfl (fun u_94 hu_94 => ?_)
         refine c_name (d := 13) rfl (fun u_95 hu_95 => ?_)
         refine c_name (d := 87) rfl (fun u_96 hu_96 => ?_)
         refine c_nameL (k := 1) rfl (fun A_97 hA_97 => ?_)
         refine c_nameL (k := 2) rfl (fun A_98 hA_98 => ?_)
         refine c_nameL (k := 3) rfl (fun A_99 hA_99 => ?_)
         refine c_nameL (k := 4) rfl (fun A_100 hA_100 => ?_)
         refine c_nameL (k := 5) rfl (fun A_101 hA_101 => ?_)
         refine c_loop (σ := Nat × List Int) (fun s' => [(88, Value.int .i64 (s'.1 : Nat)), (1, u_90), (4, u_91), (5, u_92), (6, u_93), (9, u_94), (13, u_95), (87, u_96)]) (fun s' => [rowA (tv_85) 3 1 (s'.2).length ((s'.2).flatMap cI), A_97, A_98, A_99, A_100, A_101]) (fun _ => _) (fun s' => s'.1 ≤ ids.length ∧ s'.2.length = ids.length) (fun s' => ids.length - s'.1) ((0, ids)) ⟨Nat.zero_le _, rfl⟩ rfl ⟨rfl, rfl, rfl, rfl, rfl, rfl, rfl, rfl, trivial⟩ (.keep (fun _ _ h => h) (.keep (fun _ _ h => h) (.keep (fun _ _ h => h) (.keep (fun _ _ h => h) (.keep (fun _ _ h => h) (.keep (fun _ _ h => h) (.nil))))))) (fun s' hphi => ?_)
         subst hu_90
         subst hu_91
         subst hu_92
         subst hu_93
         subst hu_94
         subst hu_95
         subst hu_96
         subst hA_97
         subst hA_98
         subst hA_99
         subst hA_100
         subst hA_101
         obtain ⟨j, z2⟩ := s'
         obtain ⟨hj1, hz2⟩ := hphi
         dsimp only at hj1 hz2 ⊢
         refine c_seq ?_
         refine c_region ?_
         refine r_val .none rfl (p_lt rfl rfl) ?_
         refine r_nil ?_
         refine e_next ?_
         refine c_seq ?_
         refine c_splitd (d := 89) rfl (fun h_102 => ?_) (fun h_102 => ?_)
         ·
          first
           | (exfalso; omega)
           | (
            refine c_cond_t rfl ?_
            refine c_skip ?_
            refine e_next ?_
            refine c_seq ?_
            refine c_block ?_
            refine c_seq ?_
            refine c_region ?_
            refine r_val .none rfl (p_move rfl) ?_
            refine r_val .none rfl (p_assign rfl) ?_
            refine r_nil ?_
            refine e_next ?_
            refine c_region ?_
            refine r_val .none rfl (p_field Try.underlying36 rfl sz24 rfl) ?_
            refine r_val .none rfl (p_field Try.underlying24 rfl sz22 rfl) ?_
            refine r_val .none rfl (p_ld (k := 1) Try.underlying22 rfl rfl rfl (by first | exact of_decide_eq_true rfl | omega) rfl) ?_
            refine r_val .none rfl (p_move rfl) ?_
            refine r_val .none rfl (p_move rfl) ?_
            refine r_iaddr_o (k := 0) .none rfl Try.underlying22 sz3 rfl rfl rfl (by first | exact of_decide_eq_true rfl | omega) (fun p_103 c_104 hv_105 => ?_)
            refine r_stoe (k := 0) (cells := cI) to (fun _ => rfl) .none sz3 rfl rfl rfl (fun z hz => by rw [List.mem_singleton.1 hz]; rfl) rfl hv_105 (by omega) ?_
            refine r_nil ?_
            refine e_norm_block ?_
            refine e_next ?_
            refine c_region ?_
            refine r_val .none rfl (p_add rfl rfl (by omega)) ?_
            refine r_val .none rfl (p_move rfl) ?_
            refine r_nil ?_
            refine e_round ((j + 1, z2.set j to)) ⟨⟨by dsimp only; omega, by dsimp only; rw [List.length_set]; exact hz2⟩, by dsimp only; omega⟩ rfl ⟨rfl, rfl, rfl, rfl, rfl, rfl, rfl, rfl, trivial⟩ (.keep (fun _ _ h => h) (.keep (fun _ _ h => h) (.keep (fun _ _ h => h) (.keep (fun _ _ h => h) (.keep (fun _ _ h => h) (.keep (fun _ _ h => h) (.nil)))))))
            )
         ·
          first
           | (exfalso; omega)
           | (
            refine c_cond_f rfl ?_
            refine c_exit ?_
            refine e_exit_then ?_
            refine e_exit_then ?_
            refine e_exit_block ?_
            refine e_next ?_
            refine c_seq ?_
            refine c_region ?_
            refine r_val .none rfl (p_move rfl) ?_
            refine r_val .none rfl (p_move rfl) ?_
            refine r_front (k := 2) rfl ?_
            refine r_callov (k := 0) (vs := [_, _]) (u := fun v => .tuple #[.agg #[.bool (true, rl, ids).1, .string (true, rl, ids).2.1, v], .bool true]) .none rfl cl11 rfl rfl (fun w F hw hA hFG => c_ftake1 _ 2 2 0 (true, rl, ids) [] (S3 rl ids) rfl w hw hA hFG) (fun tv_106 => ?_)
            refine r_unpack ?_
            refine r_row1 (k := 0) rfl (fun o_107 => ?_)
            refine r_val .none rfl (p_move rfl) ?_
            refine r_val .none rfl (p_extract rfl rfl) ?_
            refine r_val .none rfl (p_extract rfl rfl) ?_
            refine r_alloc .none rfl zr36 (IsRow.lit _) (fun b_11 => ?_)
            refine r_stw (k := 0) .none sz36 rfl rfl (IsRow.lit _) (one_lit rfl (all_cons rfl (all_cons rfl (all_cons o_107 rfl)))) rfl ?_
            refine r_val .none rfl (p_assign rfl) ?_
            refine r_nil ?_
            refine e_next ?_
            refine c_seq ?_
            refine c_region ?_
            refine r_val .none rfl (p_move rfl) ?_
            refine r_val .none rfl (p_move rfl) ?_
            refine r_val (.some rfl rfl) rfl (p_field Try.underlying36 rfl sz24 rfl) ?_
            refine r_val (.some rfl rfl) rfl (p_lda (k := 0) Try.underlying24 rfl sz24 rfl rfl (by first | exact of_decide_eq_true rfl | omega) (rfl : _ = Value.agg #[_, _])) ?_
            refine r_bslice (vs := [(0, Value.agg #[_, _])]) (c := #[_, _]) (.some rfl rfl) rfl Try.underlying30 el24 rfl rfl rfl (bs24_10a2 _ _) (IsRow.lit _) (fun b_12 => ?_)
            refine r_conv (B := rowA (.slice (some ⟨b_12, 0, none⟩) 1 1) 24 2 ([((rl, ids), tv_106)]).length (([((rl, ids), tv_106)]).flatMap mC)) (k := 0) rfl (fun _ _ h => rowA_congr rfl (by rfl) _ _ (box_rowA (n := 1) (sz := 2) rfl (by decide) h)) ?_
            dsimp only [List.set_cons_zero, List.set_cons_succ]
            refine r_freeze (k := 0) rfl (fun G_108 hn_109 hs_110 => ?_)
            replace hi := hi.mono hn_109.le
            replace hl0 := hl0.mono hn_109.le
            replace hl1 := hl1.mono hn_109.le
            replace u_11 := u_11.mono hn_109.le
            replace hl2 := hl2.mono hn_109.le
            have hl3 : SlL G_108 (.slice (some ⟨b_12, 0, none⟩) 1 1) 2 mC m0 [((rl, ids), tv_106)] := SlL.of (cells := mC) m0 (fun _ => rfl) rfl hs_110
            refine r_val (.some rfl rfl) rfl (p_move rfl) ?_
            refine r_front (k := 1) rfl ?_
            refine r_callo (k := 0) (vs := [_, _]) (.some rfl rfl) rfl cl12 rfl rfl (fun w F hw hA hFG => row_see (R := fun r => r = Value.bool true) (fun G' hle hsl hw => by (have h9 := c_same20 _ _ [(rl, ids)] [(rl, ids)] (Mt.mk [((rl, ids), tv_106)] (hl3.mono hle) (fun p hp => by rw [List.mem_singleton.1 hp]; exact SlL.of (cells := cI) (0 : Int) (fun _ => rfl) rfl hsl)) (u_11.mono hle) (by simp) (by simp only [List.mem_singleton, forall_eq]; omega) w hw; rw [sameM_refl] at h9; exact h9)) hw hA hFG) ?_
            refine r_val .none rfl (p_pick_t rfl rfl) ?_
            refine r_val .none rfl (p_move rfl) ?_
            refine r_call (vs := []) (.some rfl rfl) rfl cl7 rfl (fun w hw => c_awake21 w) ?_
            refine r_val .none rfl (p_pick_t rfl rfl) ?_
            refine r_val .none rfl (p_assign rfl) ?_
            refine r_nil ?_
            refine e_next ?_
            refine c_ret ?_
            refine e_ret1 Try.results3 (.tmp rfl .nil) (fun w hm => ⟨?_, hm.since⟩)
            first
            | rfl
            | (simp; done)
            )
         )
    ·
     refine r_alloc .none rfl zr24 (IsRow.lit _) (fun b_13 => ?_)
     refine r_nil (e_d (i := 7) (brk := (fun _ => false)) (ph' := true) hKK_12 hcK_12 rfl (fun _ => GLe.refl _) (fun _ => .drop (.keep (fun _ _ h => h) (.keep (fun _ _ h => h) (.nil)))) ?_)
     clear hKK_12 hcK_12 K_12
     refine d_eff 2 rfl (by kernel_rfl) (fun K_111 hKK_111 hcK_111 => ?_)
     refine r_bslice0 .none rfl Try.underlying22 el3 (fun v_112 => ?_)
     refine r_nil (e_d (i := 2) (brk := (fun _ => false)) (ph' := true) hKK_111 hcK_111 rfl (fun _ => GLe.refl _) (fun _ => .drop (.drop (.keep (fun _ _ h => h) (.keep (fun _ _ h => h) (.nil))))) ?_)
     clear hKK_111 hcK_111 K_111
     refine d_eff 5 rfl (by kernel_rfl) (fun K_113 hKK_113 hcK_113 => ?_)
     refine r_append_g (k := 0) .none rfl Try.underlying22 el3 rfl (by decide) rfl rfl rfl hi (fun _ _ _ hj => one_lit rfl rfl _ hj) (by simp only [maxLen]; omega) (by omega) (fun v_114 => ?_)
     refine r_row1 (k := 0) rfl (fun o_115 => ?_)
     refine r_conv (B := rowA v_114 3 1 ids.length (ids.flatMap cI)) (k := 0) rfl (fun _ _ h => rowA_congr (Nat.zero_add _) (by rw [flat_all (cells := cI) (fun _ => rfl)]; rfl) _ _ h) ?_
     dsimp only [List.set_cons_zero, List.set_cons_succ]
     refine r_nil (e_d (i := 5) (brk := (fun _ => false)) (ph' := true) hKK_113 hcK_113 rfl (fun _ => GLe.refl _) (fun _ => .drop (.drop (.keep (fun _ _ h => h) (.keep (fun _ _ h => h) (.nil))))) ?_)
     clear hKK_113 hcK_113 K_113
     refine d_rowsl (k := 0) rfl (fun a_116 c_117 e_118 => ?_)
     subst e_118
     refine d_val1 6 rfl rfl (by kernel_rfl) (fun _ _ => rfl) .none rfl (p_build (vs := [(0, Value.string _), (1, Value.slice _ _ _)]) rfl (bl24_0s1_1s3 _ _ _ _)) ?_
     refine d_eff 8 rfl (by kernel_rfl) (fun K_119 hKK_119 hcK_119 => ?_)
     refine r_stw (k := 1) .none sz24 rfl rfl (IsRow.lit _) (one_lit rfl rfl) rfl ?_
     refine r_nil (e_d (i := 8) (brk := (fun _ => false)) (ph' := true) hKK_119 hcK_119 rfl (fun _ => GLe.refl _) (fun _ => .drop (.drop (.keep (fun _ _ h => h) (.keep (fun _ _ h => h) (.nil))))) ?_)
     clear hKK_119 hcK_119 K_119
     refine d_nil (by kernel_rfl) ?_
     refine e_next ?_
     refine c_seq ?_
     refine c_region ?_
     refine r_val .none rfl (p_move rfl) ?_
     refine r_val .none rfl (p_ldw (k := 1) Try.underlying24 rfl sz24 rfl rfl (rfl : _ = Value.agg #[_, _])) ?_
     refine r_val .none rfl (p_build (vs := [(0, Value.bool _), (1, Value.agg #[_, _])]) rfl (bl36_0b1_1a2 _ _ _)) ?_
     refine r_front (k := 2) rfl ?_
     refine r_front (k := 1) rfl ?_
     refine r_pack [_, _] ?_
     refine r_callo (k := 0) (vs := [_, _]) .none rfl cl10 rfl rfl (fun w F hw hA hFG => with_row (R := fun r => r = _) (fun G' F' hle hsl hw hA hFG => c_fsend _ true rl _ ids O2 (SlL.of (cells := cI) (0 : Int) (fun _ => rfl) rfl hsl) (by omega) (by decide) (by decide) (lb_of (by decide)) w hw hA hFG) hw hA hFG) ?_
     refine r_unpack ?_
     rw [show (sendF (true, rl, ids) O2.1, O2.2) = S2 rl ids from rfl]
     refine r_nil ?_
     refine e_next ?_
     refine c_seq ?_
     refine c_seq ?_
     refine c_region ?_
     refine r_val .none rfl (p_field Try.underlying24 rfl sz22 rfl) ?_
     refine r_val .none rfl (p_ld (k := 2) Try.underlying22 rfl rfl rfl (by first | exact of_decide_eq_true rfl | omega) rfl) ?_
     refine r_val .none rfl (p_leno (k := 0) Try.underlying22 rfl rfl) ?_
     refine r_val .none rfl (p_move rfl) ?_
     refine r_nil ?_
     refine e_next ?_
     refine c_block ?_
     refine c_name (d := 1) rfl (fun u_120 hu_120 => ?_)
     refine c_name (d := 4) rfl (fun u_121 hu_121 => ?_)
     refine c_name (d := 5) rfl (fun u_122 hu_122 => ?_)
     refine c_name (d := 6) rfl (fun u_123 hu_123 => ?_)
     refine c_name (d := 7) rfl (fun u_124 hu_124 => ?_)
     refine c_name (d := 9) rfl (fun u_125 hu_125 => ?_)
     refine c_name (d := 11) rfl (fun u_126 hu_126 => ?_)
     refine c_name (d := 58) rfl (fun u_127 hu_127 => ?_)
     refine c_nameL (k := 1) rfl (fun A_128 hA_128 => ?_)
     refine c_nameL (k := 2) rfl (fun A_129 hA_129 => ?_)
     refine c_nameL (k := 3) rfl (fun A_130 hA_130 => ?_)
     refine c_loop (σ := Nat × List Int) (fun s' => [(59, Value.int .i64 (s'.1 : Nat)), (1, u_120), (4, u_121), (5, u_122), (6, u_123), (7, u_124), (9, u_125), (11, u_126), (58, u_127)]) (fun s' => [rowA ((Value.slice a_116 ids.length c_117)) 3 1 (s'.2).length ((s'.2).flatMap cI), A_128, A_129, A_130]) (fun _ => _) (fun s' => s'.1 ≤ ids.length ∧ s'.2.length = ids.length) (fun s' => ids.length - s'.1) ((0, ids)) ⟨Nat.zero_le _, rfl⟩ rfl ⟨rfl, rfl, rfl, rfl, rfl, rfl, rfl, rfl, rfl, trivial⟩ (.keep (fun _ _ h => h) (.keep (fun _ _ h => h) (.keep (fun _ _ h => h) (.keep (fun _ _ h => h) (.nil))))) (fun s' hphi => ?_)
     subst hu_120
     subst hu_121
     subst hu_122
     subst hu_123
     subst hu_124
     subst hu_125
     subst hu_126
     subst hu_127
     subst hA_128
     subst hA_129
     subst hA_130
     obtain ⟨i, z⟩ := s'
     obtain ⟨hi1, hz⟩ := hphi
     dsimp only at hi1 hz ⊢
     refine c_seq ?_
     refine c_region ?_
     refine r_val .none rfl (p_lt rfl rfl) ?_
     refine r_nil ?_
     refine e_next ?_
     refine c_seq ?_
     refine c_splitd (d := 60) rfl (fun h_131 => ?_) (fun h_131 => ?_)
     ·
      first
       | (exfalso; omega)
       | (
        refine c_cond_t rfl ?_
        refine c_skip ?_
        refine e_next ?_
        refine c_seq ?_
        refine c_block ?_
        refine c_seq ?_
        refine c_region ?_
        refine r_val .none rfl (p_move rfl) ?_
        refine r_val .none rfl (p_assign rfl) ?_
        refine r_nil ?_
        refine e_next ?_
        refine c_region ?_
        refine r_val .none rfl (p_field Try.underlying24 rfl sz22 rfl) ?_
        refine r_val .none rfl (p_ld (k := 2) Try.underlying22 rfl rfl rfl (by first | exact of_decide_eq_true rfl | omega) rfl) ?_
        refine r_val .none rfl (p_move rfl) ?_
        refine r_val .none rfl (p_move rfl) ?_
        refine r_iaddr_o (k := 0) .none rfl Try.underlying22 sz3 rfl rfl rfl (by first | exact of_decide_eq_true rfl | omega) (fun p_132 c_133 hv_134 => ?_)
        refine r_stoe (k := 0) (cells := cI) to (fun _ => rfl) .none sz3 rfl rfl rfl (fun z hz => by rw [List.mem_singleton.1 hz]; rfl) rfl hv_134 (by omega) ?_
        refine r_nil ?_
        refine e_norm_block ?_
        refine e_next ?_
        refine c_region ?_
        refine r_val .none rfl (p_add rfl rfl (by omega)) ?_
        refine r_val .none rfl (p_move rfl) ?_
        refine r_nil ?_
        refine e_round ((i + 1, z.set i to)) ⟨⟨by dsimp only; omega, by dsimp only; rw [List.length_set]; exact hz⟩, by dsimp only; omega⟩ rfl ⟨rfl, rfl, rfl, rfl, rfl, rfl, rfl, rfl, rfl, trivial⟩ (.keep (fun _ _ h => h) (.keep (fun _ _ h => h) (.keep (fun _ _ h => h) (.keep (fun _ _ h => h) (.nil)))))
        )
     ·
      first
       | (exfalso; omega)
       | (
        refine c_cond_f rfl ?_
        refine c_exit ?_
        refine e_exit_then ?_
        refine e_exit_then ?_
        refine e_exit_block ?_
        refine e_next ?_
        refine c_seq ?_
        refine c_region ?_
        refine r_val .none rfl (p_move rfl) ?_
        refine r_val .none rfl (p_move rfl) ?_
        refine r_front (k := 1) rfl ?_
        refine r_callov (k := 0) (vs := [_, _]) (u := fun v => .tuple #[.agg #[.bool (true, rl, ids).1, .string (true, rl, ids).2.1, v], .bool true]) .none rfl cl11 rfl rfl (fun w F hw hA hFG => c_ftake1 _ 1 2 0 (true, rl, ids) [] (S2 rl ids) rfl w hw hA hFG) (fun tv_135 => ?_)
        refine r_unpack ?_
        refine r_row1 (k := 0) rfl (fun o_136 => ?_)
        rw [show (mput (S2 rl ids).1 1 (2, 0, []), (S2 rl ids).2) = S3 rl ids from rfl]
        refine r_val .none rfl (p_move rfl) ?_
        refine r_val .none rfl (p_extract rfl rfl) ?_
        refine r_val .none rfl (p_extract rfl rfl) ?_
        refine r_alloc .none rfl zr36 (IsRow.lit _) (fun b_14 => ?_)
        refine r_stw (k := 0) .none sz36 rfl rfl (IsRow.lit _) (one_lit rfl (all_cons rfl (all_cons rfl (all_cons o_136 rfl)))) rfl ?_
        refine r_val .none rfl (p_assign rfl) ?_
        refine r_nil ?_
        refine e_next ?_
        refine c_seq ?_
        refine c_seq ?_
        refine c_region ?_
        refine r_val .none rfl (p_move rfl) ?_
        refine r_val .none rfl (p_not rfl) ?_
        refine r_say (d := 75) (v := Value.bool false) rfl ?_
        refine r_val .none rfl (p_move rfl) ?_
        refine r_val (.some rfl rfl) rfl (p_field Try.underlying36 rfl sz24 rfl) ?_
        refine r_val (.some rfl rfl) rfl (p_lda (k := 0) Try.underlying24 rfl sz24 rfl rfl (by first | exact of_decide_eq_true rfl | omega) (rfl : _ = Value.agg #[_, _])) ?_
        refine r_bslice (vs := [(0, Value.agg #[_, _])]) (c := #[_, _]) (.some rfl rfl) rfl Try.underlying30 el24 rfl rfl rfl (bs24_10a2 _ _) (IsRow.lit _) (fun b_15 => ?_)
        refine r_conv (B := rowA (.slice (some ⟨b_15, 0, none⟩) 1 1) 24 2 ([((rl, ids), tv_135)]).length (([((rl, ids), tv_135)]).flatMap mC)) (k := 0) rfl (fun _ _ h => rowA_congr rfl (by rfl) _ _ (box_rowA (n := 1) (sz := 2) rfl (by decide) h)) ?_
        dsimp only [List.set_cons_zero, List.set_cons_succ]
        refine r_freeze (k := 0) rfl (fun G_137 hn_138 hs_139 => ?_)
        replace hi := hi.mono hn_138.le
        replace hl0 := hl0.mono hn_138.le
        replace hl1 := hl1.mono hn_138.le
        replace u_11 := u_11.mono hn_138.le
        have hl2 : SlL G_137 (.slice (some ⟨b_15, 0, none⟩) 1 1) 2 mC m0 [((rl, ids), tv_135)] := SlL.of (cells := mC) m0 (fun _ => rfl) rfl hs_139
        refine r_val (.some rfl rfl) rfl (p_move rfl) ?_
        refine r_front (k := 1) rfl ?_
        refine r_callo (k := 0) (vs := [_, _]) (.some rfl rfl) rfl cl12 rfl rfl (fun w F hw hA hFG => row_see (R := fun r => r = Value.bool true) (fun G' hle hsl hw => by (have h9 := c_same20 _ _ [(rl, ids)] [(rl, ids)] (Mt.mk [((rl, ids), tv_135)] (hl2.mono hle) (fun p hp => by rw [List.mem_singleton.1 hp]; exact SlL.of (cells := cI) (0 : Int) (fun _ => rfl) rfl hsl)) (u_11.mono hle) (by simp) (by simp only [List.mem_singleton, forall_eq]; omega) w hw; rw [sameM_refl] at h9; exact h9)) hw hA hFG) ?_
        refine r_val (.some rfl rfl) rfl (p_not rfl) ?_
        refine r_say (d := 82) (v := Value.bool false) rfl ?_
        refine r_val .none rfl (p_pick_f rfl rfl) ?_
        refine r_nil ?_
        refine e_next ?_
        refine c_cond_f rfl ?_
        refine c_skip ?_
        refine e_next ?_
        refine c_seq ?_
        refine c_seq ?_
        refine c_region ?_
        refine r_val .none rfl (p_field Try.underlying36 rfl sz24 rfl) ?_
        refine r_val .none rfl (p_field Try.underlying24 rfl sz22 rfl) ?_
        refine r_val .none rfl (p_ld (k := 1) Try.underlying22 rfl rfl rfl (by first | exact of_decide_eq_true rfl | omega) rfl) ?_
        refine r_val .none rfl (p_leno (k := 0) Try.underlying22 rfl rfl) ?_
        refine r_val .none rfl (p_move rfl) ?_
        refine r_nil ?_
        refine e_next ?_
        refine c_block ?_
        refine c_name (d := 1) rfl (fun u_140 hu_140 => ?_)
        refine c_name (d := 4) rfl (fun u_141 hu_141 => ?_)
        refine c_name (d := 5) rfl (fun u_142 hu_142 => ?_)
        refine c_name (d := 6) rfl (fun u_143 hu_143 => ?_)
        refine c_name (d := 9) rfl (fun u_144 hu_144 => ?_)
        refine c_name (d := 13) rfl (fun u_145 hu_145 => ?_)
        refine c_name (d := 87) rfl (fun u_146 hu_146 => ?_)
        refine c_nameL (k := 1) rfl (fun A_147 hA_147 => ?_)
        refine c_nameL (k := 2) rfl (fun A_148 hA_148 => ?_)
        refine c_nameL (k := 3) rfl (fun A_149 hA_149 => ?_)
        refine c_nameL (k := 4) rfl (fun A_150 hA_150 => ?_)
        refine c_nameL (k := 5) rfl (fun A_151 hA_151 => ?_)
        refine c_loop (σ := Nat × List Int) (fun s' => [(88, Value.int .i64 (s'.1 : Nat)), (1, u_140), (4, u_141), (5, u_142), (6, u_143), (9, u_144), (13, u_145), (87, u_146)]) (fun s' => [rowA (tv_135) 3 1 (s'.2).length ((s'.2).flatMap cI), A_147, A_148, A_149, A_150, A_151]) (fun _ => _) (fun s' => s'.1 ≤ ids.length ∧ s'.2.length = ids.length) (fun s' => ids.length - s'.1) ((0, ids)) ⟨Nat.zero_le _, rfl⟩ rfl ⟨rfl, rfl, rfl, rfl, rfl, rfl, rfl, rfl, trivial⟩ (.keep (fun _ _ h => h) (.keep (fun _ _ h => h) (.keep (fun _ _ h => h) (.keep (fun _ _ h => h) (.keep (fun _ _ h => h) (.keep (fun _ _ h => h) (.nil))))))) (fun s' hphi => ?_)
        subst hu_140
        subst hu_141
        subst hu_142
        subst hu_143
        subst hu_144
        subst hu_145
        subst hu_146
        subst hA_147
        subst hA_148
        subst hA_149
        subst hA_150
        subst hA_151
        obtain ⟨j, z2⟩ := s'
        obtain ⟨hj1, hz2⟩ := hphi
        dsimp only at hj1 hz2 ⊢
        refine c_seq ?_
        refine c_region ?_
        refine r_val .none rfl (p_lt rfl rfl) ?_
        refine r_nil ?_
        refine e_next ?_
        refine c_seq ?_
        refine c_splitd (d := 89) rfl (fun h_152 => ?_) (fun h_152 => ?_)
        ·
         first
          | (exfalso; omega)
          | (
           refine c_cond_t rfl ?_
           refine c_skip ?_
           refine e_next ?_
           refine c_seq ?_
           refine c_block ?_
           refine c_seq ?_
           refine c_region ?_
           refine r_val .none rfl (p_move rfl) ?_
           refine r_val .none rfl (p_assign rfl) ?_
           refine r_nil ?_
           refine e_next ?_
           refine c_region ?_
           refine r_val .none rfl (p_field Try.underlying36 rfl sz24 rfl) ?_
           refine r_val .none rfl (p_field Try.underlying24 rfl sz22 rfl) ?_
           refine r_val .none rfl (p_ld (k := 1) Try.underlying22 rfl rfl rfl (by first | exact of_decide_eq_true rfl | omega) rfl) ?_
           refine r_val .none rfl (p_move rfl) ?_
           refine r_val .none rfl (p_move rfl) ?_
           refine r_iaddr_o (k := 0) .none rfl Try.underlying22 sz3 rfl rfl rfl (by first | exact of_decide_eq_true rfl | omega) (fun p_153 c_154 hv_155 => ?_)
           refine r_stoe (k := 0) (cells := cI) to (fun _ => rfl) .none sz3 rfl rfl rfl (fun z hz => by rw [List.mem_singleton.1 hz]; rfl) rfl hv_155 (by omega) ?_
           refine r_nil ?_
           refine e_norm_block ?_
           refine e_next ?_
           refine c_region ?_
           refine r_val .none rfl (p_add rfl rfl (by omega)) ?_
           refine r_val .none rfl (p_move rfl) ?_
           refine r_nil ?_
           refine e_round ((j + 1, z2.set j to)) ⟨⟨by dsimp only; omega, by dsimp only; rw [List.length_set]; exact hz2⟩, by dsimp only; omega⟩ rfl ⟨rfl, rfl, rfl, rfl, rfl, rfl, rfl, rfl, trivial⟩ (.keep (fun _ _ h => h) (.keep (fun _ _ h => h) (.keep (fun _ _ h => h) (.keep (fun _ _ h => h) (.keep (fun _ _ h => h) (.keep (fun _ _ h => h) (.nil)))))))
           )
        ·
         first
          | (exfalso; omega)
          | (
           refine c_cond_f rfl ?_
           refine c_exit ?_
           refine e_exit_then ?_
           refine e_exit_then ?_
           refine e_exit_block ?_
           refine e_next ?_
           refine c_seq ?_
           refine c_region ?_
           refine r_val .none rfl (p_move rfl) ?_
           refine r_val .none rfl (p_move rfl) ?_
           refine r_front (k := 2) rfl ?_
           refine r_callov (k := 0) (vs := [_, _]) (u := fun v => .tuple #[.agg #[.bool (true, rl, ids).1, .string (true, rl, ids).2.1, v], .bool true]) .none rfl cl11 rfl rfl (fun w F hw hA hFG => c_ftake1 _ 2 2 0 (true, rl, ids) [] (S3 rl ids) rfl w hw hA hFG) (fun tv_156 => ?_)
           refine r_unpack ?_
           refine r_row1 (k := 0) rfl (fun o_157 => ?_)
           refine r_val .none rfl (p_move rfl) ?_
           refine r_val .none rfl (p_extract rfl rfl) ?_
           refine r_val .none rfl (p_extract rfl rfl) ?_
           refine r_alloc .none rfl zr36 (IsRow.lit _) (fun b_16 => ?_)
           refine r_stw (k := 0) .none sz36 rfl rfl (IsRow.lit _) (one_lit rfl (all_cons rfl (all_cons rfl (all_cons o_157 rfl)))) rfl ?_
           refine r_val .none rfl (p_assign rfl) ?_
           refine r_nil ?_
           refine e_next ?_
           refine c_seq ?_
           refine c_region ?_
           refine r_val .none rfl (p_move rfl) ?_
           refine r_val .none rfl (p_move rfl) ?_
           refine r_val (.some rfl rfl) rfl (p_field Try.underlying36 rfl sz24 rfl) ?_
           refine r_val (.some rfl rfl) rfl (p_lda (k := 0) Try.underlying24 rfl sz24 rfl rfl (by first | exact of_decide_eq_true rfl | omega) (rfl : _ = Value.agg #[_, _])) ?_
           refine r_bslice (vs := [(0, Value.agg #[_, _])]) (c := #[_, _]) (.some rfl rfl) rfl Try.underlying30 el24 rfl rfl rfl (bs24_10a2 _ _) (IsRow.lit _) (fun b_17 => ?_)
           refine r_conv (B := rowA (.slice (some ⟨b_17, 0, none⟩) 1 1) 24 2 ([((rl, ids), tv_156)]).length (([((rl, ids), tv_156)]).flatMap mC)) (k := 0) rfl (fun _ _ h => rowA_congr rfl (by rfl) _ _ (box_rowA (n := 1) (sz := 2) rfl (by decide) h)) ?_
           dsimp only [List.set_cons_zero, List.set_cons_succ]
           refine r_freeze (k := 0) rfl (fun G_158 hn_159 hs_160 => ?_)
           replace hi := hi.mono hn_159.le
           replace hl0 := hl0.mono hn_159.le
           replace hl1 := hl1.mono hn_159.le
           replace u_11 := u_11.mono hn_159.le
           replace hl2 := hl2.mono hn_159.le
           have hl3 : SlL G_158 (.slice (some ⟨b_17, 0, none⟩) 1 1) 2 mC m0 [((rl, ids), tv_156)] := SlL.of (cells := mC) m0 (fun _ => rfl) rfl hs_160
           refine r_val (.some rfl rfl) rfl (p_move rfl) ?_
           refine r_front (k := 1) rfl ?_
           refine r_callo (k := 0) (vs := [_, _]) (.some rfl rfl) rfl cl12 rfl rfl (fun w F hw hA hFG => row_see (R := fun r => r = Value.bool true) (fun G' hle hsl hw => by (have h9 := c_same20 _ _ [(rl, ids)] [(rl, ids)] (Mt.mk [((rl, ids), tv_156)] (hl3.mono hle) (fun p hp => by rw [List.mem_singleton.1 hp]; exact SlL.of (cells := cI) (0 : Int) (fun _ => rfl) rfl hsl)) (u_11.mono hle) (by simp) (by simp only [List.mem_singleton, forall_eq]; omega) w hw; rw [sameM_refl] at h9; exact h9)) hw hA hFG) ?_
           refine r_val .none rfl (p_pick_t rfl rfl) ?_
           refine r_val .none rfl (p_move rfl) ?_
           refine r_call (vs := []) (.some rfl rfl) rfl cl7 rfl (fun w hw => c_awake21 w) ?_
           refine r_val .none rfl (p_pick_t rfl rfl) ?_
           refine r_val .none rfl (p_assign rfl) ?_
           refine r_nil ?_
           refine e_next ?_
           refine c_ret ?_
           refine e_ret1 Try.results3 (.tmp rfl .nil) (fun w hm => ⟨?_, hm.since⟩)
           first
           | rfl
           | (simp; done)
           )
        )
    )
end Go.Proofs.Ytplefabpplfjbaa

/- Walks: what Go functions of this chapter come to, each as a function on plain data; no condition but those that each theorem names. Printed by a program of this work (gen.py). -/
namespace Go.Proofs.Ytplefabpplfjbaa
open Go.Gx Go.Gx.T20 Go.Gx.T21 Go.Gx.T6 Go.Gx.T4 Go.Gx.T21 Go.Gx.T6 Go.Gx.T4 Go.ChangeShapes Go.WideShapes Go.ChangeAt Go.RowKit
theorem open_match_l : leafT Try.prog 10 24 = some [9, 22] := by kernel_rfl
set_option maxRecDepth 100000 in
theorem open_match {H : Type} {enc : TypeId × Value → H} {W : World} {base : Nat} {sp : Nat → Bool} {held : Bool} {r : Reach} {b0 : Nat} {v : Value} {y : DataW H} {ps : List MemPlace} (hv : Value.okWide Try.prog W r b0 24 v) (h : DataW.Trod enc Try.prog W base sp held 24 v y ps) :
  ∃ (rl : ByteArray) (vi : Value) (ids : List Int), v = Value.agg #[.string rl, vi] ∧ SlL (GW W) vi 1 cI (0 : Int) ids := by
 obtain ⟨cs, rfl⟩ := agg_of_wide Try.underlying24 rfl hv
 obtain ⟨fuel, hf⟩ := h
 obtain ⟨n', _, hl⟩ := leavesB_struct 9 Try.underlying24 open_match_l hf
 obtain ⟨x0, r0, e0, f0, g0⟩ := hl.inv
 obtain ⟨a0, rfl, _⟩ := f0.leaf.string Try.underlying9
 obtain ⟨x1, r1, e1, f1, g1⟩ := g0.inv
 have z := g1.inv0
 obtain ⟨ns, h1, _⟩ := open_slB (cells := cI) (Qa := fun _ => True) (0 : Int) Try.underlying22 (show Program.cellsOf Try.prog 3 = 1 by kernel_rfl) (by decide) (fun m cs' y hm hy => by obtain ⟨s, rfl, _⟩ := DataW.trod_int Try.underlying3 hy; exact ⟨s, rfl, trivial⟩) f1
 have : cs = #[.string a0, x1] := by apply Array.ext'; exact e0.trans (by rw [e1, z])
 exact ⟨a0, x1, ns, by rw [this], h1⟩
end Go.Proofs.Ytplefabpplfjbaa
