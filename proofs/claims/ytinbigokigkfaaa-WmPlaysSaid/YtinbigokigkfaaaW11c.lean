/- Walks: what Go functions of this chapter come to, each as a function on plain data; no condition but those that each theorem names. Printed by a program of this work (gen.py). -/
import Derived.Test.YtinbigokigkfaaaW11b
import Derived.Test.YtinbigokigkfaaaShelf2w
import Derived.Test.YtinbigokigkfaaaGxObj
import Derived.Test.YtinbigokigkfaaaRows
namespace Go.Proofs.Ytinbigokigkfaaa
open Go.Gx Go.Gx.T11
theorem cl76 : Callable Try.prog 76 := callable Try.func76 (by kernel_rfl) rfl
theorem cl77 : Callable Try.prog 77 := callable Try.func77 (by kernel_rfl) rfl
theorem bl72_0i1_1a3 (x0 : Int) (x1 : Value) (x2 : Value) (x3 : Value) : Program.built Try.prog 72 [(0, Value.int .i64 x0), (1, Value.agg #[x1, x2, x3])] = some #[Value.int .i64 x0, x1, x2, x3] := by
  kernel_rfl
theorem bs72_10a4 (a0 a1 a2 a3 : Value) : Instr.fill (fun i => some (i * 4, 4)) ((Array.range (1 * 4)).map ((Value.agg #[Value.int .i64 0, Value.int .i64 0, Value.int .i64 0, Value.int .i64 0]).cells[· % (Value.agg #[Value.int .i64 0, Value.int .i64 0, Value.int .i64 0, Value.int .i64 0]).cells.size]!)) [(0, Value.agg #[a0, a1, a2, a3])] = some #[a0, a1, a2, a3] := by
  kernel_rfl
theorem el72 : ElemIs Try.prog 72 4 32 (Value.agg #[Value.int .i64 0, Value.int .i64 0, Value.int .i64 0, Value.int .i64 0]) := by
  unfold ElemIs
  kernel_rfl
theorem sortsW (m : Nat) : Go.Proofs.AnyZI.SortsIn Try.prog Try.sortedW_ren Fence.wide m :=
  ⟨fun blk off cap ss W hH hblk hsz => callsIn_wide.2 (Try.slices_Sort_int blk off cap ss W hH hblk hsz), fun p cap W => callsIn_wide.2 (Try.slices_Sort_int_none p cap W)⟩
theorem keysW_new (m : Nat) (w : World) : Calls Try.prog 77 #[.map (some m)] w (Ret fun r w' => ∃ p, r = .func (.func 88) #[] #[.pointer (some ⟨p, 0, none⟩)] ∧ Since nX w w' ∧ ∃ F', (box p 1 106 (at_ [.map (some m)])).holds w' F' ∧ ∀ b, F' b → w.heap.size ≤ b) := by
  refine ((callsIn_wide (n := 5)).1 (Go.Proofs.AnyZI.keys_in Try.keysW Fence.wide 5 trivial rfl (some m) w)).mono (fun e w' hR => ?_)
  obtain ⟨rfl, rfl⟩ := hR
  refine ⟨_, rfl, ⟨rfl, rfl, rfl, by show _ ≤ (w.heap.push _).size; simp, fun k hk _ => ?_⟩, fun b => b = w.heap.size, ⟨⟨#[.map (some m)], by show (w.heap.push _)[w.heap.size]? = _; rw [Array.getElem?_push, if_pos rfl]; rfl, IsRow.lit [_]⟩, fun _ => Iff.rfl⟩, fun b hb => by omega⟩
  show (w.heap.push _)[k]? = _
  rw [Array.getElem?_push, if_neg (by omega)]
theorem sortedW_c : KeysC Try.prog 76 88 3 := by
  intro Bm b nn D0 w hcell hlt hown hmax hbytes
  have hseq : SeqGives Fence.wide 2 Try.prog 88 #[.pointer (some ⟨Bm, 0, none⟩)] encZ (fun ss => ss.Perm (intKeys D0)) (Maps.size D0) w :=
    Go.Proofs.AnyZI.keys_gives (ρ := Try.keysW_ren) { Try.keysW with } Fence.wide _ trivial rfl (by omega) Bm b nn D0 _ hlt hcell hown
  refine ((callsIn_wide (n := 5)).1 (Go.Proofs.AnyZI.sorted_in Try.sortedW Fence.wide 5 trivial trivial trivial trivial rfl (by omega) (sortsW _) (enters_of Try.func87 (by kernel_rfl) rfl) 88 #[.pointer (some ⟨Bm, 0, none⟩)] trivial (enters_of Try.func88 (by kernel_rfl) rfl) _ _ hmax hbytes _ hseq)).mono (fun e w' hR => ?_)
  obtain ⟨v, ss, he, hS, hrow, _, hb⟩ := hR
  exact ⟨v, ss, he, hS, hrow, hb⟩
theorem c_mall {F : Nat → Prop} {G : Ghost} (p : Nat) (l : List (Int × Tri)) (lim last : Int) (hwf : ∀ q ∈ l, (Lit.int .i64 q.1).wf = true) (hln : l.length ≤ 2000) (w : World) (hG : Has G w) (hA : (memA p l lim last).holds w F) (hFG : ∀ b, F b → G b = none) :
    Calls Try.prog 57 #[Value.pointer (some ⟨p, 0, none⟩)] w (Ret fun r w' => ∃ G', GNew w F G G' ∧ Has G' w' ∧ SlL G' r 4 fC (0, zT) (facts l) ∧ KeptG (memA p l lim last) F G' w w') := by
  refine enterO (args := [_]) (G := G) (A := memA p l lim last) (l := [(0, Value.pointer (some ⟨p, 0, none⟩))]) Try.func57 rfl Try.ntmps57 hG hA hFG ⟨rfl, trivial⟩ (Nat.le_of_ble_eq_true rfl) ?_
  refine c_unex (fun m => ?_)
  refine c_unpack ?_
  have hkl := keys_len l
  refine c_seq ?_
  refine c_region ?_
  refine r_val .none rfl (p_assign rfl) ?_
  refine r_nil ?_
  refine e_next ?_
  refine c_seq ?_
  refine c_region ?_
  refine r_val .none rfl (p_assign rfl) ?_
  refine r_nil ?_
  refine e_next ?_
  refine c_seq ?_
  refine c_seq ?_
  refine c_region ?_
  refine r_val .none rfl (p_move rfl) ?_
  refine r_val .none rfl (p_nilcheck rfl) ?_
  refine r_val .none rfl (p_field Try.underlying142 rfl sz106 rfl) ?_
  refine r_val .none rfl (p_ld (k := 0) Try.underlying106 rfl rfl rfl (by first | exact of_decide_eq_true rfl | omega) (rfl : _ = Value.map _)) ?_
  refine r_callnew (S := fun p => box p 1 106 (at_ [.map (some m)])) (vr := fun p => .func (.func 88) #[] #[.pointer (some ⟨p, 0, none⟩)]) .none rfl cl77 rfl (fun w hw => keysW_new _ w) (fun p_1 => ?_)
  refine r_sorted (i := 2) (j := 0) .none rfl cl76 rfl rfl rfl sortedW_c Try.underlying3 hwf (by omega) (fun v_2 => ?_)
  refine r_val .none rfl (p_leno (k := 0) Try.underlying69 rfl rfl) ?_
  refine r_val .none rfl (p_move rfl) ?_
  refine r_nil ?_
  refine e_next ?_
  refine c_block ?_
  refine c_nilrow 72 4 ?_
  refine c_name (d := 0) rfl (fun u_3 hu_3 => ?_)
  refine c_name (d := 2) rfl (fun u_4 hu_4 => ?_)
  refine c_name (d := 11) rfl (fun u_5 hu_5 => ?_)
  refine c_name (d := 12) rfl (fun u_6 hu_6 => ?_)
  refine c_nameL (k := 1) rfl (fun A_7 hA_7 => ?_)
  refine c_nameL (k := 2) rfl (fun A_8 hA_8 => ?_)
  refine c_nameL (k := 3) rfl (fun A_9 hA_9 => ?_)
  refine c_nameL (k := 4) rfl (fun A_10 hA_10 => ?_)
  refine c_loop (σ := Nat × Value) (fun s => [(13, Value.int .i64 (s.1 : Nat)), (3, s.2), (0, u_3), (2, u_4), (11, u_5), (12, u_6)]) (fun s => [rowA (s.2) 72 4 (((facts l).take s.1)).length ((((facts l).take s.1)).flatMap fC), A_7, A_8, A_9, A_10]) (fun _ => _) (fun s => s.1 ≤ (sortI (l.map Prod.fst)).length) (fun s => (sortI (l.map Prod.fst)).length - s.1) ((0, _)) (Nat.zero_le _) rfl ⟨rfl, rfl, rfl, rfl, rfl, rfl, trivial⟩ (.keep (fun _ _ h => rowA_nil rfl _ _ h) (.keep (fun _ _ h => h) (.keep (fun _ _ h => h) (.keep (fun _ _ h => h) (.keep (fun _ _ h => h) (.nil)))))) (fun s hphi => ?_)
  subst hu_3
  subst hu_4
  subst hu_5
  subst hu_6
  subst hA_7
  subst hA_8
  subst hA_9
  subst hA_10
  obtain ⟨k, v⟩ := s
  dsimp only at hphi ⊢
  have hft : ((facts l).take k).length ≤ 2000 := (by have := facts_len l; rw [List.length_take]; omega)
  refine c_seq ?_
  refine c_region ?_
  refine r_val .none rfl (p_lt rfl rfl) ?_
  refine r_nil ?_
  refine e_next ?_
  refine c_seq ?_
  refine c_splitd (d := 14) rfl (fun h_11 => ?_) (fun h_11 => ?_)
  · skip
    first
      | (exfalso; omega)
      | (
        refine c_cond_t rfl ?_
        refine c_skip ?_
        refine e_next ?_
        refine c_seq ?_
        refine c_block ?_
        refine c_seq ?_
        refine c_region ?_
        refine r_iaddr_o (k := 1) .none rfl Try.underlying69 sz3 rfl rfl rfl (by first | exact of_decide_eq_true rfl | omega) (fun p_12 c_13 hv_14 => ?_)
        refine r_val .none rfl (p_ldo0 (k := 1) Try.underlying3 rfl rfl hv_14 rfl (by first | exact of_decide_eq_true rfl | omega) (by first | exact of_decide_eq_true rfl | omega) ((flatMap_get (cells := cI) (fun _ => rfl) (0 : Int) _ _ _ (by first | exact of_decide_eq_true rfl | omega) (by first | exact of_decide_eq_true rfl | omega)).trans (rfl : _ = Value.int _ _))) ?_
        refine r_val .none rfl (p_assign rfl) ?_
        refine r_nil ?_
        refine e_next ?_
        refine c_region ?_
        refine r_val .none rfl (p_move rfl) ?_
        refine r_val .none rfl (p_move rfl) ?_
        refine r_val .none rfl (p_move rfl) ?_
        refine r_val .none rfl (p_nilcheck rfl) ?_
        refine r_val .none rfl (p_field Try.underlying142 rfl sz106 rfl) ?_
        refine r_val .none rfl (p_ld (k := 3) Try.underlying106 rfl rfl rfl (by first | exact of_decide_eq_true rfl | omega) (rfl : _ = Value.map _)) ?_
        refine r_val .none rfl (p_move rfl) ?_
        refine r_val .none rfl (p_lookup (i := 4) (z0 := zT) Try.underlying106 (KeyT.int Try.underlying3) zr26 rfl rfl rfl) ?_
        refine r_val .none rfl (p_build (vs := [(0, Value.int _ _), (1, Value.agg #[_, _, _])]) rfl (bl72_0i1_1a3 _ _ _ _)) ?_
        refine r_bslice (vs := [(0, Value.agg #[_, _, _, _])]) (c := #[_, _, _, _]) .none rfl Try.underlying73 el72 rfl rfl rfl (bs72_10a4 _ _ _ _) (IsRow.lit _) (fun b_1 => ?_)
        refine r_append (k := 1) (k2 := 0) .none rfl Try.underlying73 el72 rfl (by decide) rfl rfl rfl rfl rfl (one_lit rfl rfl) (by simp only [maxLen]; omega) (by omega) (fun v_15 => ?_)
        refine r_row1 (k := 1) rfl (fun o_16 => ?_)
        refine r_val .none rfl (p_assign rfl) ?_
        refine r_nil ?_
        refine e_norm_block ?_
        refine e_next ?_
        refine c_region ?_
        refine r_val .none rfl (p_add rfl rfl (by omega)) ?_
        refine r_val .none rfl (p_move rfl) ?_
        refine r_nil ?_
        refine e_round ((k + 1, _)) ⟨by dsimp only; omega, by dsimp only; omega⟩ rfl ⟨rfl, rfl, rfl, rfl, rfl, rfl, trivial⟩ (.drop (.keep (fun _ _ h => rowA_snoc (facts_next (by omega)) rfl rfl rfl _ _ h) (.keep (fun _ _ h => h) (.keep (fun _ _ h => h) (.keep (fun _ _ h => h) (.keep (fun _ _ h => h) (.nil)))))))
        )
  · skip
    first
      | (exfalso; omega)
      | (
        refine c_cond_f rfl ?_
        refine c_exit ?_
        refine e_exit_then ?_
        refine e_exit_then ?_
        refine e_exit_block ?_
        refine e_next ?_
        refine c_seq ?_
        refine c_region ?_
        refine r_val .none rfl (p_move rfl) ?_
        refine r_val .none rfl (p_assign rfl) ?_
        refine r_nil ?_
        refine e_next ?_
        refine c_ret ?_
        refine e_freeze (k := 0) rfl (fun G_17 hn_18 hs_19 => ?_)
        refine e_ret1 Try.results57 (.tmp rfl .nil) (fun w hm => ⟨_, hn_18, hm.has, ?_, hm.keptG [box p 3 142 (at_ [.map (some m), .int .i64 lim, .int .i64 last]), mapA m kI kT l] (.drop (.drop (.keep (fun _ _ h => h) (.keep (fun _ _ h => h) (.nil))))) (memA p l lim last) (fun F' h => ⟨m, h⟩)⟩)
        have hk : k = (sortI (l.map Prod.fst)).length := by omega
        subst hk
        have e : (facts l).take (sortI (l.map Prod.fst)).length = facts l := List.take_of_length_le (by rw [facts_len, hkl]; exact Nat.le_refl _)
        exact SlL.of2 (0, zT) (fun _ => rfl) (by rw [e]) (by rw [e]) hs_19
        )
end Go.Proofs.Ytinbigokigkfaaa
