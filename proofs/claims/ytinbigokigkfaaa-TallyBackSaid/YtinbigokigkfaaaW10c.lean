/- Walks: what Go functions of this chapter come to, each as a function on plain data; no condition but those that each theorem names. Printed by a program of this work (gen.py). -/
import Derived.Test.YtinbigokigkfaaaW10I
import Derived.Test.YtinbigokigkfaaaPl10b
import Derived.Test.YtinbigokigkfaaaShelf2t
import Derived.Test.YtinbigokigkfaaaGxRead
import Derived.Test.YtinbigokigkfaaaRows
namespace Go.Proofs.Ytinbigokigkfaaa
open Go.Gx Go.Gx.T10
theorem cl49 : Callable Try.prog 49 := callable Try.func49 (by kernel_rfl) rfl
theorem cl50 : Callable Try.prog 50 := callable Try.func50 (by kernel_rfl) rfl
theorem cl51 : Callable Try.prog 51 := callable Try.func51 (by kernel_rfl) rfl
theorem cl52 : Callable Try.prog 52 := callable Try.func52 (by kernel_rfl) rfl
theorem cl53 : Callable Try.prog 53 := callable Try.func53 (by kernel_rfl) rfl
theorem cl54 : Callable Try.prog 54 := callable Try.func54 (by kernel_rfl) rfl
theorem cl55 : Callable Try.prog 55 := callable Try.func55 (by kernel_rfl) rfl
theorem cl74 : Callable Try.prog 74 := callable Try.func74 (by kernel_rfl) rfl
theorem cl75 : Callable Try.prog 75 := callable Try.func75 (by kernel_rfl) rfl
theorem cl84 : Callable Try.prog 84 := callable Try.func84 (by kernel_rfl) rfl
theorem cl85 : Callable Try.prog 85 := callable Try.func85 (by kernel_rfl) rfl
theorem keysI_new (m : Nat) (w : World) : Calls Try.prog 75 #[.map (some m)] w (Ret fun r w' => ∃ p, r = .func (.func 86) #[] #[.pointer (some ⟨p, 0, none⟩)] ∧ Since nX w w' ∧ ∃ F', (box p 1 151 (at_ [.map (some m)])).holds w' F' ∧ ∀ b, F' b → w.heap.size ≤ b) := by
  refine ((callsIn_wide (n := 5)).1 (Go.Proofs.AnyZI.keys_in Try.keysI Fence.wide 5 trivial rfl (some m) w)).mono (fun e w' hR => ?_)
  obtain ⟨rfl, rfl⟩ := hR
  refine ⟨_, rfl, ⟨rfl, rfl, rfl, by show _ ≤ (w.heap.push _).size; simp, fun k hk _ => ?_⟩, fun b => b = w.heap.size, ⟨⟨#[.map (some m)], by show (w.heap.push _)[w.heap.size]? = _; rw [Array.getElem?_push, if_pos rfl]; rfl, IsRow.lit [_]⟩, fun _ => Iff.rfl⟩, fun b hb => by omega⟩
  show (w.heap.push _)[k]? = _
  rw [Array.getElem?_push, if_neg (by omega)]
theorem collI0 : Coll0 Try.prog 84 86 3 := by
  intro Bm b nn D0 w hcell hlt hown hz
  have hlen : (intKeys D0).length = Maps.size D0 := by
    obtain ⟨es, clock, _, _, _, rfl⟩ := hown
    simp [intKeys, Maps.size]
  have hseq : SeqGives Fence.wide 2 Try.prog 86 #[.pointer (some ⟨Bm, 0, none⟩)] encZ (fun ss => ss.Perm (intKeys D0)) (Maps.size D0) w :=
    Go.Proofs.AnyZI.keys_gives (ρ := Try.keysI_ren) { Try.keysI with } Fence.wide _ trivial rfl (by omega) Bm b nn D0 _ hlt hcell hown
  refine ((callsIn_wide (n := 4)).1 (Go.Proofs.AnyZI.collect_in Try.collectI Fence.wide 4 trivial trivial rfl (by omega) 86 #[.pointer (some ⟨Bm, 0, none⟩)] trivial (enters_of Try.func86 (by kernel_rfl) rfl) _ _ (by rw [hz]; exact Nat.zero_le _) (by omega) w hseq)).mono (fun e w' hR => ?_)
  obtain ⟨v, ss, he, hS, _, hnil, hb⟩ := hR
  have h0 : ss = [] := List.eq_nil_of_length_eq_zero (by rw [hS.length_eq, hlen, hz])
  exact ⟨by rw [he, hnil.2 h0], hb⟩
theorem sortf0I (fv : Value) (w : World) : Calls Try.prog 85 #[.slice none 0 0, fv] w (Ret fun r w' => r = .tuple #[] ∧ Since nX w w') :=
  (Try.slices_SortFunc_none_f85 (α := Int) none 0 fv w).mono (fun e w' hR => by obtain ⟨rfl, rfl⟩ := hR; exact ⟨rfl, Since.refl _ _⟩)
theorem c_sortedf0 (Bm m : Nat) (fv : Value) {F1 F2 : Nat → Prop}  (w : World) (h1 : (mapA (κ := Int) (ν := Int) m kI kI []).holds w F1) (h2 : (box Bm 1 151 (at_ [.map (some m)])).holds w F2) :
    Calls Try.prog 74 #[Value.func (.func 86) #[] #[Value.pointer (some ⟨Bm, 0, none⟩)], fv] w (Ret fun r w' => r = Value.slice none 0 0 ∧ Since nX w w') := by
  refine enter (args := [_, _]) (X := nX) (G := (fun _ => none)) (l := [(0, Value.func (.func 86) #[] #[Value.pointer (some ⟨Bm, 0, none⟩)]), (1, fv)]) Try.func74 rfl Try.ntmps74 (fun _ _ h => by cases h) ⟨rfl, rfl, trivial⟩ (Nat.le_of_ble_eq_true rfl) ?_
  refine c_seq ?_
  refine c_region ?_
  refine r_val .none rfl (p_assign rfl) ?_
  refine r_nil ?_
  refine e_next ?_
  refine c_seq ?_
  refine c_region ?_
  refine r_val .none rfl (p_move rfl) ?_
  refine r_callS (vs := [_]) .none rfl cl84 rfl (fun w hw hS => collect0 collI0 Try.underlying3 h1 h2 hS) ?_
  refine r_val .none rfl (p_assign rfl) ?_
  refine r_nil ?_
  refine e_next ?_
  refine c_seq ?_
  refine c_region ?_
  refine r_val .none rfl (p_move rfl) ?_
  refine r_val .none rfl (p_move rfl) ?_
  refine r_call (vs := [_, _]) .none rfl cl85 rfl (fun w hw => sortf0I _ w) ?_
  refine r_nil ?_
  refine e_next ?_
  refine c_seq ?_
  refine c_region ?_
  refine r_val .none rfl (p_move rfl) ?_
  refine r_val .none rfl (p_assign rfl) ?_
  refine r_nil ?_
  refine e_next ?_
  refine c_ret ?_
  refine e_ret1 Try.results74 (.tmp rfl .nil) (fun w hm => ⟨?_, hm.since⟩)
  rfl
theorem c_keys0I {F : Nat → Prop} {G : Ghost} (p : Nat) (fv : Value) (t : Int)  (w : World) (hG : Has G w) (hA : (tallyI p [] t).holds w F) (hFG : ∀ b, F b → G b = none) :
    Calls Try.prog 55 #[Value.pointer (some ⟨p, 0, none⟩), fv] w (Ret fun r w' => r = Value.slice none 0 0 ∧ Kept (tallyI p [] t) F w w') := by
  refine enterO (args := [_, _]) (G := G) (A := tallyI p [] t) (l := [(0, Value.pointer (some ⟨p, 0, none⟩)), (1, fv)]) Try.func55 rfl Try.ntmps55 hG hA hFG ⟨rfl, rfl, trivial⟩ (Nat.le_of_ble_eq_true rfl) ?_
  refine c_unex (fun m => ?_)
  refine c_unpack ?_
  refine c_seq ?_
  refine c_region ?_
  refine r_val .none rfl (p_assign rfl) ?_
  refine r_nil ?_
  refine e_next ?_
  refine c_seq ?_
  refine c_region ?_
  refine r_val .none rfl (p_move rfl) ?_
  refine r_val .none rfl (p_nilcheck rfl) ?_
  refine r_val .none rfl (p_field Try.underlying153 rfl sz151 rfl) ?_
  refine r_val .none rfl (p_ld (k := 0) Try.underlying151 rfl rfl rfl (by first | exact of_decide_eq_true rfl | omega) (rfl : _ = Value.map _)) ?_
  refine r_callnew (S := fun p => box p 1 151 (at_ [.map (some m)])) (vr := fun p => .func (.func 86) #[] #[.pointer (some ⟨p, 0, none⟩)]) .none rfl cl75 rfl (fun w hw => keysI_new _ w) (fun p_1 => ?_)
  refine r_val .none rfl (p_move rfl) ?_
  refine r_callread (i := 2) (j := 0) (vs := [_, _]) .none rfl cl74 rfl rfl rfl (fun w F1 F2 hw h1 h2 => c_sortedf0 _ _ _ w h1 h2) ?_
  refine r_val .none rfl (p_assign rfl) ?_
  refine r_nil ?_
  refine e_next ?_
  refine c_ret ?_
  refine e_ret1 Try.results55 (.tmp rfl .nil) (fun w hm => ⟨?_, hm.kept [box p 2 153 (at_ [.map (some m), .int .i64 t]), mapA m kI kI []] (.drop (.keep (fun _ _ h => h) (.keep (fun _ _ h => h) (.nil)))) (tallyI p [] t) (fun F' h => ⟨m, h⟩)⟩)
  rfl
theorem c_TallyBack (v : Value) (ns : List Int) {G : Ghost} (hs : SlL G v 1 cI (0 : Int) ns) (w : World) (hG : Has G w) :
    Calls Try.prog 9 #[v] w (Ret fun r w' => r = Value.bool true ∧ Since nX w w') := by
  refine enter (args := [_]) (X := nX) (G := G) (l := [(0, v)]) Try.func9 rfl Try.ntmps9 hG ⟨rfl, trivial⟩ (Nat.le_of_ble_eq_true rfl) ?_
  refine c_seq ?_
  refine c_region ?_
  refine r_val .none rfl (p_assign rfl) ?_
  refine r_nil ?_
  refine e_next ?_
  refine c_seq ?_
  refine c_region ?_
  refine r_callnew (vs := []) .none rfl cl49 rfl (fun w hw => c_tnewI w hw) (fun p_1 => ?_)
  refine r_val .none rfl (p_assign rfl) ?_
  refine r_nil ?_
  refine e_next ?_
  refine c_seq ?_
  refine c_seq ?_
  refine c_region ?_
  refine r_val .none rfl (p_move rfl) ?_
  refine r_val .none rfl (p_leng Try.underlying69 rfl hs) ?_
  have bd_2 := (hs).bound
  refine r_val .none rfl (p_gt rfl rfl) ?_
  refine r_val .none rfl (p_move rfl) ?_
  refine' r_or (c := 14) (d := 17) [_, _, _] rfl (fun h_3 Q_4 hQ_5 => ?_) (fun h_3 Q_4 hQ_5 => ?_) ?_
  rotate_left 1
  · skip
    replace h_3 := of_decide_eq_false h_3
    refine r_val (.some rfl rfl) rfl (p_move rfl) ?_
    refine r_val (.some rfl rfl) rfl (p_eq_ptr Try.underlying98 (by first | exact .inr rfl | exact .inl rfl) rfl rfl) ?_
    refine r_say (d := 16) (v := Value.bool false) rfl ?_
    refine r_val .none rfl (p_pick_f rfl rfl) ?_
    refine r_nil (e_fin (d := 17) hQ_5 rfl (by repeat (first | exact .refl | refine .put rfl ?_ | refine .say rfl ?_ | refine .say2 rfl (by first | assumption | simp_all) ?_)))
  · skip
    repeat (first | refine r_skip rfl (.no rfl rfl) ?_ | refine r_skip rfl (.un rfl rfl) ?_)
    refine r_val (by first | exact .none | exact .some rfl rfl) rfl (p_pick_t rfl rfl) ?_
    refine r_nil (e_fin (d := 17) hQ_5 rfl (by repeat (first | exact .refl | refine .put rfl ?_ | refine .say rfl ?_ | refine .say2 rfl (by first | assumption | simp_all) ?_)))
  refine r_nil ?_
  refine e_next ?_
  refine c_split (d := 17) rfl (fun h_7 => ?_) (fun h_7 => ?_)
  · skip
    try simp only [norms] at h_7
    first
      | (exfalso; omega)
      | (
        refine c_cond_t rfl ?_
        refine c_seq ?_
        refine c_region ?_
        refine r_val .none rfl (p_move rfl) ?_
        refine r_val .none rfl (p_ne_ptr Try.underlying98 (by first | exact .inr rfl | exact .inl rfl) rfl rfl) ?_
        refine r_say (d := 19) (v := Value.bool true) rfl ?_
        refine r_val .none rfl (p_move rfl) ?_
        refine r_call (vs := []) (.some rfl rfl) rfl cl13 rfl (fun w hw => c_awake10 w) ?_
        refine r_val .none rfl (p_pick_t rfl rfl) ?_
        refine r_val .none rfl (p_assign rfl) ?_
        refine r_nil ?_
        refine e_next ?_
        refine c_ret ?_
        refine e_ret_then ?_
        refine e_ret1 Try.results9 (.tmp rfl .nil) (fun w hm => ⟨?_, hm.since⟩)
        first
        | rfl
        | (simp; done)
        | (exfalso; rcases hA with (h | h) | h <;> first | omega | exact absurd trivial h)
        | (exfalso; rcases hB with h | h <;> first | omega | exact absurd trivial h)
        )
  · skip
    try simp only [norms] at h_7
    first
      | (exfalso; omega)
      | (
        refine c_cond_f rfl ?_
        refine c_skip ?_
        refine e_next ?_
        refine c_seq ?_
        refine c_seq ?_
        refine c_region ?_
        refine r_val .none rfl (p_move rfl) ?_
        refine r_val .none rfl (p_leng Try.underlying69 rfl hs) ?_
        have bd_8 := (hs).bound
        refine r_val .none rfl (p_move rfl) ?_
        refine r_nil ?_
        refine e_next ?_
        refine c_block ?_
        refine c_name (d := 0) rfl (fun u_9 hu_9 => ?_)
        refine c_name (d := 3) rfl (fun u_10 hu_10 => ?_)
        refine c_name (d := 23) rfl (fun u_11 hu_11 => ?_)
        refine c_name (d := 24) rfl (fun u_12 hu_12 => ?_)
        refine c_loop (σ := Nat × List (Int × Int)) (fun s => [(25, Value.int .i64 (s.1 : Nat)), (0, u_9), (3, u_10), (23, u_11), (24, u_12)]) (fun s => [tallyI p_1 s.2 (s.1 : Nat)]) (fun _ => _) (fun s => s.1 ≤ ns.length ∧ s.2.length ≤ s.1 ∧ Tal s.2 (ns.take s.1)) (fun s => ns.length - s.1) ((0, [])) ⟨Nat.zero_le _, Nat.le_refl _, Tal.nil⟩ rfl ⟨rfl, rfl, rfl, rfl, rfl, trivial⟩ (.keep (fun _ _ h => h) (.nil)) (fun s hphi => ?_)
        subst hu_9
        subst hu_10
        subst hu_11
        subst hu_12
        obtain ⟨i, l⟩ := s
        obtain ⟨hi, hll, htal⟩ := hphi
        dsimp only at hi hll htal ⊢
        refine c_seq ?_
        refine c_region ?_
        refine r_val .none rfl (p_lt rfl rfl) ?_
        refine r_nil ?_
        refine e_next ?_
        refine c_seq ?_
        refine c_splitd (d := 26) rfl (fun h_13 => ?_) (fun h_13 => ?_)
        · skip
          first
            | (exfalso; omega)
            | (
              refine c_cond_t rfl ?_
              refine c_skip ?_
              refine e_next ?_
              refine c_seq ?_
              refine c_block ?_
              refine c_seq ?_
              refine c_region ?_
              refine r_val .none rfl (p_move rfl) ?_
              refine r_iaddr_g .none rfl Try.underlying69 sz3 rfl hs rfl (by first | exact of_decide_eq_true rfl | omega) (fun p_15 o_16 R_14 => ?_)
              refine r_val .none rfl (p_ldg0 Try.underlying3 rfl rfl R_14 (by first | exact of_decide_eq_true rfl | omega) (rfl : _ = Value.int _ _)) ?_
              refine r_val .none rfl (p_assign rfl) ?_
              refine r_val .none rfl (p_assign rfl) ?_
              refine r_nil ?_
              refine e_next ?_
              refine c_seq ?_
              refine c_region ?_
              refine r_val .none rfl (p_move rfl) ?_
              refine r_val .none rfl (p_move rfl) ?_
              refine r_callo (k := 0) (vs := [_, _]) .none rfl cl50 rfl rfl (fun w F hw hA hFG => c_taddI _ (ns.getD i 0) l i (htal.bd (by simp; omega) _) (by omega) w hw hA hFG) ?_
              have hb := htal.bd (by simp; omega) (ns.getD i 0)
              have hc := cnt_tAdd l (ns.getD i 0)
              have hl := tAdd_len l (ns.getD i 0)
              refine r_nil ?_
              refine e_next ?_
              refine c_seq ?_
              refine c_region ?_
              refine r_val .none rfl (p_move rfl) ?_
              refine r_callo (k := 0) (vs := [_]) .none rfl cl51 rfl rfl (fun w F hw hA hFG => c_totalI _ _ _ w hw hA hFG) ?_
              refine r_val .none rfl (p_move rfl) ?_
              refine r_val .none rfl (p_add rfl rfl (by omega)) ?_
              refine r_val .none rfl (p_ne rfl rfl) ?_
              refine r_val .none rfl (p_move rfl) ?_
              refine' r_or (c := 38) (d := 44) [_, _, _, _, _, _] rfl (fun h_17 Q_18 hQ_19 => ?_) (fun h_17 Q_18 hQ_19 => ?_) ?_
              rotate_left 1
              · skip
                replace h_17 := of_decide_eq_false h_17
                refine r_val (.some rfl rfl) rfl (p_move rfl) ?_
                refine r_callo (k := 0) (vs := [_]) (.some rfl rfl) rfl cl52 rfl rfl (fun w F hw hA hFG => c_lenI _ _ _ w hw hA hFG) ?_
                refine r_val (.some rfl rfl) rfl (p_move rfl) ?_
                refine r_val (.some rfl rfl) rfl (p_add rfl rfl (by omega)) ?_
                refine r_val (.some rfl rfl) rfl (p_gt rfl rfl) ?_
                refine r_val .none rfl (p_pick_f rfl rfl) ?_
                refine r_nil (e_fin (d := 44) hQ_19 rfl (by repeat (first | exact .refl | refine .put rfl ?_ | refine .say rfl ?_ | refine .say2 rfl (by first | assumption | simp_all) ?_)))
              · skip
                repeat (first | refine r_skip rfl (.no rfl rfl) ?_ | refine r_skip rfl (.un rfl rfl) ?_)
                refine r_val (by first | exact .none | exact .some rfl rfl) rfl (p_pick_t rfl rfl) ?_
                refine r_nil (e_fin (d := 44) hQ_19 rfl (by repeat (first | exact .refl | refine .put rfl ?_ | refine .say rfl ?_ | refine .say2 rfl (by first | assumption | simp_all) ?_)))
              refine r_val .none rfl (p_move rfl) ?_
              refine' r_or (c := 45) (d := 50) [_, _, _, _, _] rfl (fun h_21 Q_22 hQ_23 => ?_) (fun h_21 Q_22 hQ_23 => ?_) ?_
              rotate_left 1
              · skip
                try simp only [norms] at h_21
                refine r_val (.some rfl rfl) rfl (p_move rfl) ?_
                refine r_val (.some rfl rfl) rfl (p_move rfl) ?_
                refine r_callo (k := 0) (vs := [_, _]) (.some rfl rfl) rfl cl53 rfl rfl (fun w F hw hA hFG => c_countI _ _ _ _ w hw hA hFG) ?_
                refine r_val (.some rfl rfl) rfl (p_lt rfl rfl) ?_
                refine r_val .none rfl (p_pick_f rfl rfl) ?_
                refine r_nil (e_fin (d := 50) hQ_23 rfl (by repeat (first | exact .refl | refine .put rfl ?_ | refine .say rfl ?_ | refine .say2 rfl (by first | assumption | simp_all) ?_)))
              · skip
                repeat (first | refine r_skip rfl (.no rfl rfl) ?_ | refine r_skip rfl (.un rfl rfl) ?_)
                refine r_val (by first | exact .none | exact .some rfl rfl) rfl (p_pick_t rfl rfl) ?_
                refine r_nil (e_fin (d := 50) hQ_23 rfl (by repeat (first | exact .refl | refine .put rfl ?_ | refine .say rfl ?_ | refine .say2 rfl (by first | assumption | simp_all) ?_)))
              refine r_nil ?_
              refine e_next ?_
              refine c_split (d := 50) rfl (fun h_25 => ?_) (fun h_25 => ?_)
              · skip
                try simp only [norms] at h_25
                have hA := h_25
                first
                  | (exfalso; omega)
                  | (
                    refine c_cond_t rfl ?_
                    refine c_seq ?_
                    refine c_region ?_
                    refine r_val .none rfl (p_assign rfl) ?_
                    refine r_nil ?_
                    refine e_next ?_
                    refine c_ret ?_
                    refine e_ret_block ?_
                    refine e_ret_then ?_
                    refine e_ret_then ?_
                    refine e_ret_block ?_
                    refine e_ret_then ?_
                    refine e_ret1 Try.results9 (.tmp rfl .nil) (fun w hm => ⟨?_, hm.since⟩)
                    first
                    | rfl
                    | (simp; done)
                    | (exfalso; rcases hA with (h | h) | h <;> first | omega | exact absurd trivial h)
                    | (exfalso; rcases hB with h | h <;> first | omega | exact absurd trivial h)
                    )
              · skip
                try simp only [norms] at h_25
                first
                  | (exfalso; omega)
                  | (
                    refine c_cond_f rfl ?_
                    refine c_skip ?_
                    refine e_norm_block ?_
                    refine e_next ?_
                    refine c_region ?_
                    refine r_val .none rfl (p_add rfl rfl (by omega)) ?_
                    refine r_val .none rfl (p_move rfl) ?_
                    refine r_nil ?_
                    refine e_round ((i + 1, tAdd l (ns.getD i 0))) ⟨⟨by dsimp only; omega, by dsimp only; omega, htal.next (by omega)⟩, by dsimp only; omega⟩ rfl ⟨rfl, rfl, rfl, rfl, rfl, trivial⟩ (.keep (fun _ _ h => by have e : ((i + 1 : Nat) : Int) = (i : Int) + 1 := (by omega); show (tallyI _ _ ((i + 1 : Nat) : Int)).holds _ _; rw [e]; exact h) (.nil))
                    )
              )
        · skip
          first
            | (exfalso; omega)
            | (
              refine c_cond_f rfl ?_
              refine c_exit ?_
              refine e_exit_then ?_
              refine e_exit_then ?_
              refine e_exit_block ?_
              refine e_next ?_
              refine c_seq ?_
              refine c_seq ?_
              refine c_region ?_
              refine r_val .none rfl (p_move rfl) ?_
              refine r_val .none rfl (p_leng Try.underlying69 rfl hs) ?_
              have bd_26 := (hs).bound
              refine r_val .none rfl (p_move rfl) ?_
              refine r_nil ?_
              refine e_next ?_
              refine c_block ?_
              refine c_name (d := 0) rfl (fun u_27 hu_27 => ?_)
              refine c_name (d := 3) rfl (fun u_28 hu_28 => ?_)
              refine c_name (d := 52) rfl (fun u_29 hu_29 => ?_)
              refine c_name (d := 53) rfl (fun u_30 hu_30 => ?_)
              refine c_loop (σ := Nat × List (Int × Int)) (fun s => [(54, Value.int .i64 (s.1 : Nat)), (0, u_27), (3, u_28), (52, u_29), (53, u_30)]) (fun s => [tallyI p_1 s.2 (ns.length - s.1 : Nat)]) (fun _ => _) (fun s => s.1 ≤ ns.length ∧ Tal s.2 (ns.drop s.1)) (fun s => ns.length - s.1) ((0, l)) ⟨Nat.zero_le _, by have e : i = ns.length := (by omega); subst e; simpa using htal⟩ rfl ⟨rfl, rfl, rfl, rfl, rfl, trivial⟩ (.keep (fun _ _ h => by have e : i = ns.length := (by omega); subst e; exact h) (.nil)) (fun s hphi => ?_)
              subst hu_27
              subst hu_28
              subst hu_29
              subst hu_30
              clear htal hll
              obtain ⟨i, l⟩ := s
              obtain ⟨hi, htal⟩ := hphi
              dsimp only at hi htal ⊢
              refine c_seq ?_
              refine c_region ?_
              refine r_val .none rfl (p_lt rfl rfl) ?_
              refine r_nil ?_
              refine e_next ?_
              refine c_seq ?_
              refine c_splitd (d := 55) rfl (fun h_31 => ?_) (fun h_31 => ?_)
              · skip
                first
                  | (exfalso; omega)
                  | (
                    refine c_cond_t rfl ?_
                    refine c_skip ?_
                    refine e_next ?_
                    refine c_seq ?_
                    refine c_block ?_
                    refine c_seq ?_
                    refine c_region ?_
                    refine r_val .none rfl (p_move rfl) ?_
                    refine r_iaddr_g .none rfl Try.underlying69 sz3 rfl hs rfl (by first | exact of_decide_eq_true rfl | omega) (fun p_33 o_34 R_32 => ?_)
                    refine r_val .none rfl (p_ldg0 Try.underlying3 rfl rfl R_32 (by first | exact of_decide_eq_true rfl | omega) (rfl : _ = Value.int _ _)) ?_
                    refine r_val .none rfl (p_assign rfl) ?_
                    refine r_val .none rfl (p_assign rfl) ?_
                    refine r_nil ?_
                    refine e_next ?_
                    refine c_seq ?_
                    refine c_region ?_
                    refine r_val .none rfl (p_move rfl) ?_
                    refine r_val .none rfl (p_move rfl) ?_
                    refine r_callo (k := 0) (vs := [_, _]) .none rfl cl54 rfl rfl (fun w F hw hA hFG => c_dropI _ (ns.getD i 0) l _ (htal.bd (by simp; omega) _) (by omega) w hw hA hFG) ?_
                    have hd := htal.front (e := 0) (by omega)
                    simp only [if_neg (show ¬ cnt l (ns.getD i 0) = 0 by omega)]
                    refine r_val .none rfl (p_move rfl) ?_
                    refine r_val .none rfl (p_extract rfl rfl) ?_
                    refine r_val .none rfl (p_extract rfl rfl) ?_
                    refine r_val .none rfl (p_assign rfl) ?_
                    refine r_val .none rfl (p_assign rfl) ?_
                    refine r_nil ?_
                    refine e_next ?_
                    refine c_seq ?_
                    refine c_region ?_
                    refine r_val .none rfl (p_move rfl) ?_
                    refine r_val .none rfl (p_ne rfl rfl) ?_
                    refine r_val .none rfl (p_move rfl) ?_
                    refine' r_or (c := 67) (d := 76) [_, _, _, _, _, _, _, _, _] rfl (fun h_35 Q_36 hQ_37 => ?_) (fun h_35 Q_36 hQ_37 => ?_) ?_
                    rotate_left 1
                    · skip
                      replace h_35 := of_decide_eq_false h_35
                      refine r_val (.some rfl rfl) rfl (p_move rfl) ?_
                      refine r_callo (k := 0) (vs := [_]) (.some rfl rfl) rfl cl51 rfl rfl (fun w F hw hA hFG => c_totalI _ _ _ w hw hA hFG) ?_
                      refine r_val (.some rfl rfl) rfl (p_move rfl) ?_
                      refine r_val (.some rfl rfl) rfl (p_leng Try.underlying69 rfl hs) ?_
                      have bd_39 := (hs).bound
                      refine r_val (.some rfl rfl) rfl (p_sub rfl rfl (by omega)) ?_
                      refine r_val (.some rfl rfl) rfl (p_move rfl) ?_
                      refine r_val (.some rfl rfl) rfl (p_sub rfl rfl (by omega)) ?_
                      refine r_val (.some rfl rfl) rfl (p_ne rfl rfl) ?_
                      refine r_val .none rfl (p_pick_f rfl rfl) ?_
                      refine r_nil (e_fin (d := 76) hQ_37 rfl (by repeat (first | exact .refl | refine .put rfl ?_ | refine .say rfl ?_ | refine .say2 rfl (by first | assumption | simp_all) ?_)))
                    · skip
                      repeat (first | refine r_skip rfl (.no rfl rfl) ?_ | refine r_skip rfl (.un rfl rfl) ?_)
                      refine r_val (by first | exact .none | exact .some rfl rfl) rfl (p_pick_t rfl rfl) ?_
                      refine r_nil (e_fin (d := 76) hQ_37 rfl (by repeat (first | exact .refl | refine .put rfl ?_ | refine .say rfl ?_ | refine .say2 rfl (by first | assumption | simp_all) ?_)))
                    refine r_nil ?_
                    refine e_next ?_
                    refine c_split (d := 76) rfl (fun h_40 => ?_) (fun h_40 => ?_)
                    · skip
                      try simp only [norms] at h_40
                      have hB := h_40
                      first
                        | (exfalso; omega)
                        | (
                          refine c_cond_t rfl ?_
                          refine c_seq ?_
                          refine c_region ?_
                          refine r_val .none rfl (p_assign rfl) ?_
                          refine r_nil ?_
                          refine e_next ?_
                          refine c_ret ?_
                          refine e_ret_block ?_
                          refine e_ret_then ?_
                          refine e_ret_then ?_
                          refine e_ret_block ?_
                          refine e_ret_then ?_
                          refine e_ret1 Try.results9 (.tmp rfl .nil) (fun w hm => ⟨?_, hm.since⟩)
                          first
                          | rfl
                          | (simp; done)
                          | (exfalso; rcases hA with (h | h) | h <;> first | omega | exact absurd trivial h)
                          | (exfalso; rcases hB with h | h <;> first | omega | exact absurd trivial h)
                          )
                    · skip
                      try simp only [norms] at h_40
                      first
                        | (exfalso; omega)
                        | (
                          refine c_cond_f rfl ?_
                          refine c_skip ?_
                          refine e_norm_block ?_
                          refine e_next ?_
                          refine c_region ?_
                          refine r_val .none rfl (p_add rfl rfl (by omega)) ?_
                          refine r_val .none rfl (p_move rfl) ?_
                          refine r_nil ?_
                          refine e_round ((i + 1, tDrop l (ns.getD i 0))) ⟨⟨by dsimp only; omega, hd.1⟩, by dsimp only; omega⟩ rfl ⟨rfl, rfl, rfl, rfl, rfl, trivial⟩ (.keep (fun _ _ h => by have e : ((ns.length - (i + 1) : Nat) : Int) = ((ns.length - i : Nat) : Int) - 1 := (by omega); show (tallyI _ _ ((ns.length - (i + 1) : Nat) : Int)).holds _ _; rw [e]; exact h) (.nil))
                          )
                    )
              · skip
                first
                  | (exfalso; omega)
                  | (
                    refine c_cond_f rfl ?_
                    refine c_exit ?_
                    refine e_exit_then ?_
                    refine e_exit_then ?_
                    refine e_exit_block ?_
                    refine e_next ?_
                    refine c_seq ?_
                    refine c_region ?_
                    refine r_val .none rfl (p_move rfl) ?_
                    have h0 : l = [] := Tal.empty (by have e : i = ns.length := (by omega); subst e; simpa using htal)
                    subst h0
                    refine r_callo (k := 0) (vs := [_]) .none rfl cl52 rfl rfl (fun w F hw hA hFG => c_lenI _ _ _ w hw hA hFG) ?_
                    refine r_val .none rfl (p_eq rfl rfl) ?_
                    refine r_val .none rfl (p_move rfl) ?_
                    refine' r_and (c := 81) (d := 86) [_, _, _, _, _] rfl (fun h_41 Q_42 hQ_43 => ?_) (fun h_41 Q_42 hQ_43 => ?_) ?_
                    rotate_left 1
                    · skip
                      replace h_41 := of_decide_eq_true h_41
                      refine r_val (.some rfl rfl) rfl (p_move rfl) ?_
                      refine r_callo (k := 0) (vs := [_, _]) (.some rfl rfl) rfl cl55 rfl rfl (fun w F hw hA hFG => c_keys0I _ _ _ w hw hA hFG) ?_
                      refine r_val (.some rfl rfl) rfl (p_len Try.underlying69 rfl) ?_
                      refine r_val (.some rfl rfl) rfl (p_eq rfl rfl) ?_
                      refine r_val .none rfl (p_pick_t rfl rfl) ?_
                      refine r_nil (e_fin (d := 86) hQ_43 rfl (by repeat (first | exact .refl | refine .put rfl ?_ | refine .say rfl ?_ | refine .say2 rfl (by first | assumption | simp_all) ?_)))
                    · skip
                      repeat (first | refine r_skip rfl (.no rfl rfl) ?_ | refine r_skip rfl (.un rfl rfl) ?_)
                      refine r_val (by first | exact .none | exact .some rfl rfl) rfl (p_pick_f rfl rfl) ?_
                      refine r_nil (e_fin (d := 86) hQ_43 rfl (by repeat (first | exact .refl | refine .put rfl ?_ | refine .say rfl ?_ | refine .say2 rfl (by first | assumption | simp_all) ?_)))
                    refine r_val .none rfl (p_move rfl) ?_
                    refine' r_and (c := 87) (d := 89) [_, _] rfl (fun h_45 Q_46 hQ_47 => ?_) (fun h_45 Q_46 hQ_47 => ?_) ?_
                    rotate_left 1
                    · skip
                      try simp only [norms] at h_45
                      refine r_call (vs := []) (.some rfl rfl) rfl cl13 rfl (fun w hw => c_awake10 w) ?_
                      refine r_val .none rfl (p_pick_t rfl rfl) ?_
                      refine r_nil (e_fin (d := 89) hQ_47 rfl (by repeat (first | exact .refl | refine .put rfl ?_ | refine .say rfl ?_ | refine .say2 rfl (by first | assumption | simp_all) ?_)))
                    · skip
                      repeat (first | refine r_skip rfl (.no rfl rfl) ?_ | refine r_skip rfl (.un rfl rfl) ?_)
                      refine r_val (by first | exact .none | exact .some rfl rfl) rfl (p_pick_f rfl rfl) ?_
                      refine r_nil (e_fin (d := 89) hQ_47 rfl (by repeat (first | exact .refl | refine .put rfl ?_ | refine .say rfl ?_ | refine .say2 rfl (by first | assumption | simp_all) ?_)))
                    refine r_val .none rfl (p_assign rfl) ?_
                    refine r_nil ?_
                    refine e_next ?_
                    refine c_ret ?_
                    refine e_ret1 Try.results9 (.tmp rfl .nil) (fun w hm => ⟨?_, hm.since⟩)
                    first
                    | rfl
                    | (simp; done)
                    | (exfalso; rcases hA with (h | h) | h <;> first | omega | exact absurd trivial h)
                    | (exfalso; rcases hB with h | h <;> first | omega | exact absurd trivial h)
                    )
              )
        )
end Go.Proofs.Ytinbigokigkfaaa
