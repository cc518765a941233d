/- Texts of this work, laid together: a logic of steps, plain laws, and walks of Go functions, each without a condition but those that its theorems name. -/
import Derived.Test.YtoflaphnlfggkaaKCompChains4
import Derived.Test.YtoflaphnlfggkaaRows
/- Plain laws of chains of steps; no program in sight. -/
namespace Go.Gx.T8
open Go.Gx Go.Gx.T3 Go.Gx.T4 Go.Gx.T6
mutual
/-- The chains of what stands in a step, and its own. -/
def schain1 : List ST → ST → List (List ST)
  | ah, .mk h l => (if h.k = 3 then schains ah l else []) ++ [ah ++ [.mk h l]]
/-- The chains of steps behind a beginning. -/
def schains : List ST → List ST → List (List ST)
  | _, [] => []
  | ah, c :: t => schain1 ah c ++ schains (ah ++ [c]) t
end
theorem schain1_ncc {ah : List ST} {c : ST} (h : c.h.k = 3) : schain1 ah c = schains ah c.subs ++ [ah ++ [c]] := by
  cases c with | mk hd l => have h' : hd.k = 3 := h; rw [schain1, if_pos h']; rfl
theorem schain1_other {ah : List ST} {c : ST} (h : c.h.k ≠ 3) : schain1 ah c = [ah ++ [c]] := by
  cases c with | mk hd l => have h' : hd.k ≠ 3 := h; rw [schain1, if_neg h']; rfl
theorem schains_append (a b : List ST) : ∀ ah, schains ah (a ++ b) = schains ah a ++ schains (ah ++ a) b := by
  induction a with
  | nil => intro ah; simp [schains]
  | cons c t ih => intro ah; simp [schains, ih]
theorem schains_take {rs : List SVal} {k : Nat} {ah : List ST} (hk : k < rs.length) : schains ah ((rs.map Prod.fst).take (k + 1)) = schains ah ((rs.map Prod.fst).take k) ++ schain1 (ah ++ (rs.map Prod.fst).take k) (rs.getD k s0).1 := by
  rw [sv_take hk, schains_append]; simp [schains]
mutual
theorem schain1_len : ∀ (c : ST) (ah : List ST), (schain1 ah c).length ≤ ssz c
  | .mk h l, ah => by
    have := schains_len l ah
    rw [schain1, ssz]
    split <;> simp <;> omega
theorem schains_len : ∀ (l : List ST) (ah : List ST), (schains ah l).length ≤ sszL l
  | [], _ => by simp [schains, sszL]
  | c :: t, ah => by
    have h1 := schain1_len c ah
    have h2 := schains_len t (ah ++ [c])
    rw [schains, sszL, List.length_append]; omega
end
theorem sszL_append (a b : List ST) : sszL (a ++ b) = sszL a + sszL b := by
  induction a with
  | nil => simp [sszL]
  | cons c t ih => simp only [List.cons_append, sszL, ih]; omega
theorem sszL_take {rs : List SVal} {k : Nat} (hk : k < rs.length) : sszL ((rs.map Prod.fst).take (k + 1)) = sszL ((rs.map Prod.fst).take k) + ssz (rs.getD k s0).1 := by
  rw [sv_take hk, sszL_append]; simp [sszL]
theorem sszL_take_le : ∀ (l : List ST) (k : Nat), sszL (l.take k) ≤ sszL l
  | [], k => by simp
  | c :: t, 0 => by simp [sszL]
  | c :: t, k + 1 => by have := sszL_take_le t k; simp only [List.take_succ_cons, sszL]; omega
mutual
theorem schain1_size : ∀ (c : ST) (ah : List ST), ∀ x ∈ schain1 ah c, sszL x ≤ sszL ah + ssz c
  | .mk h l, ah, x, hx => by
    rw [schain1] at hx
    rcases List.mem_append.1 hx with hx | hx
    · split at hx
      · have := schains_size l ah x hx
        rw [ssz]; omega
      · cases hx
    · rw [List.mem_singleton.1 hx, sszL_append]
      simp [sszL]
theorem schains_size : ∀ (l : List ST) (ah : List ST), ∀ x ∈ schains ah l, sszL x ≤ sszL ah + sszL l
  | [], _, x, hx => by rw [schains] at hx; cases hx
  | c :: t, ah, x, hx => by
    rw [schains] at hx
    rcases List.mem_append.1 hx with hx | hx
    · have := schain1_size c ah x hx
      rw [sszL]; omega
    · have := schains_size t (ah ++ [c]) x hx
      rw [sszL_append] at this
      simp only [sszL] at this ⊢
      omega
end
theorem ssub_size {rs : List SVal} {k : Nat} (hk : k < rs.length) : SizeOf.sizeOf (rs.getD k s0).1.subs < SizeOf.sizeOf (rs.map Prod.fst) := by
  have h2 := List.sizeOf_lt_of_mem (sv_mem hk)
  have h3 := s_subs (rs.getD k s0).1
  omega
/-- What is known of chains of steps that were found. -/
abbrev StC (G : Ghost) (z : List (List ST × Value)) : Prop := ∀ q ∈ z, Ss G q.2 q.1
theorem StC.mono {G G' : Ghost} {z : List (List ST × Value)} (h : StC G z) (hle : GLe G G') : StC G' z := fun q hq => (h q hq).mono hle
theorem StC.snoc {G : Ghost} {z : List (List ST × Value)} {v : Value} {l : List ST} (h : StC G z) (hl : Ss G v l) : StC G (z ++ [(l, v)]) := fun q hq => by
  rcases List.mem_append.1 hq with h1 | h1
  · exact h q h1
  · rw [List.mem_singleton.1 h1]; exact hl
theorem StC.app {G : Ghost} {z z' : List (List ST × Value)} (h : StC G z) (h' : StC G z') : StC G (z ++ z') := fun q hq => by
  rcases List.mem_append.1 hq with h1 | h1
  · exact h q h1
  · exact h' q h1
theorem take_ss {rs : List SVal} {k : Nat} (hk : k < rs.length) : rs.take (k + 1) = rs.take k ++ [rs.getD k s0] := by
  rw [List.take_succ_eq_append_getElem hk]; simp [List.getD, List.getElem?_eq_getElem hk]
theorem ss_ones {G : Ghost} {rs : List SVal} (hpt : ∀ p ∈ rs, SlL G p.2.1 3 tC t0 p.1.h.ts) (hps : ∀ p ∈ rs, Ss G p.2.2 p.1.subs) : ∀ i, i < rs.length → ∀ j, j < 6 → (at_ (sC (rs.getD i s0)) j).oneCell' = true := by
  intro i hi j hj
  have h1 := SlG.one (hpt _ (getD_mem (d := s0) hi))
  have h2 := (hps _ (getD_mem (d := s0) hi)).one
  match j, hj with
  | 0, _ => rfl
  | 1, _ => rfl
  | 2, _ => rfl
  | 3, _ => rfl
  | 4, _ => exact h1
  | 5, _ => exact h2
theorem ss_all {G : Ghost} {rs : List SVal} (hpt : ∀ p ∈ rs, SlL G p.2.1 3 tC t0 p.1.h.ts) (hps : ∀ p ∈ rs, Ss G p.2.2 p.1.subs) : ∀ u ∈ rs.flatMap sC, u.oneCell' = true := by
  intro u hu
  obtain ⟨p, h1, h2⟩ := List.mem_flatMap.1 hu
  have h3 := SlG.one (hpt p h1)
  have h4 := (hps p h1).one
  simp only [sC, List.mem_cons, List.not_mem_nil, or_false] at h2
  rcases h2 with rfl | rfl | rfl | rfl | rfl | rfl
  all_goals first | rfl | exact h3 | exact h4
theorem ss_one1 {G : Ghost} {z : List (List ST × Value)} (hz : StC G z) : ∀ i, i < z.length → ∀ j, j < 1 → (at_ (lC (z.getD i ([], .slice none 0 0))) j).oneCell' = true := by
  intro i hi j hj
  have h := (hz _ (getD_mem (d := ([], .slice none 0 0)) hi)).one
  match j, hj with
  | 0, _ => exact h
theorem ss_take {G : Ghost} {v : Value} {rs : List SVal} {k : Nat} (hk : k ≤ rs.length) (h : SlG G v k 6 (fun i => at_ (sC (rs.getD i s0)))) : SlL G v 6 sC s0 (rs.take k) := by
  unfold SlL
  rw [List.length_take, Nat.min_eq_left hk]
  refine h.congr fun i hi j _ => ?_
  simp [List.getD, List.getElem?_take, hi]
abbrev es6 : List ST × Value := ([], .slice none 0 0)
theorem schain_small {l : List ST} {qs : List (List ST × Value)} {k m : Nat} (hl : schains [] l = qs.map Prod.fst) (hk : k < qs.length) (hsz : sszL l ≤ m) : sszL (qs.getD k es6).1 ≤ m := by
  have h1 : (qs.getD k es6).1 ∈ schains [] l := by rw [hl]; exact List.mem_map.2 ⟨_, getD_mem hk, rfl⟩
  have := schains_size l [] _ h1
  simp only [sszL] at this
  omega
theorem schain_same {cs : List (List ST)} {qs ps : List (List ST × Value)} {k : Nat} (h1 : cs = qs.map Prod.fst) (h2 : cs = ps.map Prod.fst) : seqL (qs.getD k es6).1 (ps.getD k es6).1 = true := by
  rw [← mapfst_getD [] (.slice none 0 0), ← mapfst_getD [] (.slice none 0 0), ← h1, ← h2]
  exact (seqL_iff _ _).2 rfl
end Go.Gx.T8

/- Walks: what Go functions of this chapter come to, each as a function on plain data; no condition but those that each theorem names. Printed by a program of this work (gen.py). -/
namespace Go.Proofs.Ytoflaphnlfggkaa
open Go.Gx Go.Gx.T4 Go.Gx.T3 Go.Gx.T6 Go.Gx.T8 Go.Gx.T4 Go.Gx.T3 Go.Gx.T8 Go.Gx.T4 Go.Gx.T3 Go.Gx.T8 Go.Gx.T6 Go.Gx.T4 Go.Gx.T3
theorem sz54 : SzIs Try.prog 54 1 := by
  unfold SzIs
  kernel_rfl
theorem zr54 : ZeroIs Try.prog 54 (Value.slice none 0 0) := by
  unfold ZeroIs
  kernel_rfl
theorem cl49 : Callable Try.prog 49 := callable Try.func49 (by kernel_rfl) rfl
theorem cl65 : Callable Try.prog 65 := callable Try.func65 (by kernel_rfl) rfl
theorem bs50_10s3 (a0 : Option Addr) (a1 a2 : Nat) : Instr.fill (fun i => some (i * 1, 1)) ((Array.range (1 * 1)).map ((Value.slice none 0 0).cells[· % (Value.slice none 0 0).cells.size]!)) [(0, Value.slice a0 a1 a2)] = some #[Value.slice a0 a1 a2] := by
  kernel_rfl
theorem el50 : ElemIs Try.prog 50 1 24 (Value.slice none 0 0) := by
  unfold ElemIs
  kernel_rfl
def GrowSIs (n : Nat) : Prop := ∀ (va vl : Value) (ah l : List ST) (p : Nat) (z0 : List (List ST × Value)) (G : Ghost) (F : Nat → Prop) (w : World), SizeOf.sizeOf l ≤ n → ah.length + sszL l ≤ 1000 → z0.length + sszL l ≤ 9000 → Ss G va ah → Ss G vl l → StC G z0 → Has G w → (outA 54 50 p (z0)).holds w F → (∀ b, F b → G b = none) → Calls Try.prog 49 #[va, vl, Value.pointer (some ⟨p, 0, none⟩)] w (Ret fun r w' => ∃ G' z', GNew w F G G' ∧ Has G' w' ∧ (r = .tuple #[] ∧ z'.map Prod.fst = z0.map Prod.fst ++ schains ah l ∧ StC G' z') ∧ KeptG (outA 54 50 p (z')) F G' w w')
theorem c_cloneS_a (a : Option Addr) (cap : Nat) (rs : List (SVal)) {G : Ghost} (hr : SlL G (Value.slice a rs.length cap) 6 sC s0 rs) (hlen : rs.length ≤ 1000) (hpt : ∀ p ∈ rs, SlL G p.2.1 3 tC t0 p.1.h.ts) (hps : ∀ p ∈ rs, Ss G p.2.2 p.1.subs) (w : World) (hG : Has G w) :
    Calls Try.prog 65 #[Value.slice a rs.length cap] w (Ret fun r w' => Since nX w w' ∧ ∃ F', (rowA r 64 6 (rs).length ((rs).flatMap sC)).holds w' F' ∧ ∀ b, F' b → w.heap.size ≤ b) := by
  refine enter (args := [_]) (X := nX) (G := G) (l := [(0, Value.slice a rs.length cap)]) Try.func65 rfl Try.ntmps65 hG ⟨rfl, trivial⟩ (Nat.le_of_ble_eq_true rfl) ?_
  refine c_seq ?_
  refine c_region ?_
  refine r_val .none rfl (p_assign rfl) ?_
  refine r_nil ?_
  refine e_next ?_
  refine c_seq ?_
  refine c_seq ?_
  refine c_region ?_
  refine r_val .none rfl (p_move rfl) ?_
  refine r_val .none rfl (p_eqnil Try.underlying50 rfl rfl) ?_
  refine r_nil ?_
  refine e_next ?_
  refine c_split (d := 4) rfl (fun h_1 => ?_) (fun h_1 => ?_)
  · skip
    have hrs : rs = [] := by cases a with | none => exact nil_rs hr | some x => cases h_1
    refine c_cond_t rfl ?_
    refine c_seq ?_
    refine c_region ?_
    refine r_val .none rfl (p_assign rfl) ?_
    refine r_nilrow 64 6 ?_
    refine r_nil ?_
    refine e_next ?_
    refine c_ret ?_
    refine e_ret_then ?_
    refine e_ret1 Try.results65 (.tmp rfl .nil) (fun w hm => hm.made [rowA (.slice none 0 0) 64 6 (rs).length ((rs).flatMap sC)] (.keep (fun _ _ h => rowA_congr (by rw [hrs]; rfl) (by rw [hrs]; rfl) _ _ h) (.nil)) _ (fun F' h => starL_one h))
  · skip
    refine c_cond_f rfl ?_
    refine c_skip ?_
    refine e_next ?_
    refine c_seq ?_
    refine c_region ?_
    refine r_bslice0 .none rfl Try.underlying50 el64 (fun v_2 => ?_)
    refine r_val .none rfl (p_move rfl) ?_
    refine r_append_g (k := 0) .none rfl Try.underlying50 el64 rfl (by decide) rfl rfl rfl hr (fun _ hi _ hj => ss_ones hpt hps _ hi _ hj) (by simp only [maxLen]; omega) (by omega) (fun v_3 => ?_)
    refine r_row1 (k := 0) rfl (fun o_4 => ?_)
    refine r_val .none rfl (p_assign rfl) ?_
    refine r_nil ?_
    refine e_next ?_
    refine c_ret ?_
    refine e_ret1 Try.results65 (.tmp rfl .nil) (fun w hm => hm.made [rowA v_3 64 6 (rs).length ((rs).flatMap sC)] (.keep (fun _ _ h => rowA_congr (by omega) (by rw [flat_all (cells := sC) (fun _ => rfl)]; rfl) _ _ h) (.nil)) _ (fun F' h => starL_one h))
theorem c_cloneS (v : Value) (rs : List (SVal)) {G : Ghost} (hr : SlL G v 6 sC s0 rs) (hlen : rs.length ≤ 1000) (hpt : ∀ p ∈ rs, SlL G p.2.1 3 tC t0 p.1.h.ts) (hps : ∀ p ∈ rs, Ss G p.2.2 p.1.subs) (w : World) (hG : Has G w) : Calls Try.prog 65 #[v] w (Ret fun r w' => Since nX w w' ∧ ∃ F', (rowA r 64 6 (rs).length ((rs).flatMap sC)).holds w' F' ∧ ∀ b, F' b → w.heap.size ≤ b) := by
  obtain ⟨a, cap, rfl⟩ := SlG.len hr
  exact c_cloneS_a a cap rs hr hlen hpt hps w hG
theorem c_cloneSM (v : Value) (rs : List (SVal)) {G : Ghost} (hr : SlL G v 6 sC s0 rs) (hlen : rs.length ≤ 1000) (hpt : ∀ p ∈ rs, SlL G p.2.1 3 tC t0 p.1.h.ts) (hps : ∀ p ∈ rs, Ss G p.2.2 p.1.subs) (w : World) (hG : Has G w) : Calls Try.prog 65 #[v] w (Ret fun r w' => ∃ G2, GNew w nX G G2 ∧ Has G2 w' ∧ SlL G2 r 6 sC s0 rs ∧ Since nX w w') := by
  refine (c_cloneS v rs hr hlen hpt hps w hG).mono (fun e w' hR => ?_)
  cases e with
  | returned r =>
    obtain ⟨G2, h1, h2, h3, h4⟩ := row_mem hG hR
    exact ⟨G2, h1, h2, SlL.of s0 (fun _ => rfl) rfl h3, h4⟩
  | panicked c => exact hR.elim
  | outgrown => exact hR.elim
theorem c_growS_s (n : Nat) (ih : GrowSIs n) (va vl : Value) (ah l : List ST) (p : Nat) (z0 : List (List ST × Value)) {G : Ghost} {F : Nat → Prop} (hz : SizeOf.sizeOf l ≤ n + 1) (hsz : ah.length + sszL l ≤ 1000) (hlz : z0.length + sszL l ≤ 9000) (hsa : Ss G va ah) (hs : Ss G vl l) (hz0 : StC G z0) (w : World) (hG : Has G w) (hA : (outA 54 50 p (z0)).holds w F) (hFG : ∀ b, F b → G b = none) :
    Calls Try.prog 49 #[va, vl, Value.pointer (some ⟨p, 0, none⟩)] w (Ret fun r w' => ∃ G' z', GNew w F G G' ∧ Has G' w' ∧ (r = .tuple #[] ∧ z'.map Prod.fst = z0.map Prod.fst ++ schains ah l ∧ StC G' z') ∧ KeptG (outA 54 50 p (z')) F G' w w') := by
  refine enterO (args := [_, _, _]) (G := G) (A := outA 54 50 p (z0)) (l := [(0, va), (1, vl), (2, Value.pointer (some ⟨p, 0, none⟩))]) Try.func49 rfl Try.ntmps49 hG hA hFG ⟨rfl, rfl, rfl, trivial⟩ (Nat.le_of_ble_eq_true rfl) ?_
  obtain ⟨rs, hr, hpt, hps, rfl⟩ := hs.inv
  have hbd := hr.bound
  refine c_seq ?_
  refine c_region ?_
  refine r_val .none rfl (p_move rfl) ?_
  refine r_val .none rfl (p_leng Try.underlying50 rfl hr) ?_
  have bd_1 := (hr).bound
  refine r_val .none rfl (p_move rfl) ?_
  refine r_nil ?_
  refine e_next ?_
  refine c_block ?_
  refine c_name (d := 2) rfl (fun u_2 hu_2 => ?_)
  refine c_name (d := 8) rfl (fun u_3 hu_3 => ?_)
  refine c_name (d := 9) rfl (fun u_4 hu_4 => ?_)
  refine c_loop (σ := Nat × Value × List (List ST × Value) × Ghost) (fun s => [(10, Value.int .i64 (s.1 : Nat)), (0, s.2.1), (2, u_2), (8, u_3), (9, u_4)]) (fun s => [outA 54 50 p (s.2.2.1)]) (fun s => s.2.2.2) (fun s => s.1 ≤ rs.length ∧ Ss s.2.2.2 s.2.1 (ah ++ (rs.map Prod.fst).take s.1) ∧ s.2.2.1.map Prod.fst = z0.map Prod.fst ++ schains ah ((rs.map Prod.fst).take s.1) ∧ StC s.2.2.2 s.2.2.1 ∧ GNew w F G s.2.2.2) (fun s => rs.length - s.1) ((0, _, z0, _)) ⟨Nat.zero_le _, by simpa using hsa, by simp [schains], hz0, GNew.refl _ _ _⟩ rfl ⟨rfl, rfl, rfl, rfl, rfl, trivial⟩ (.keep (fun _ _ h => h) (.nil)) (fun s hphi => ?_)
  subst hu_2
  subst hu_3
  subst hu_4
  obtain ⟨k, v, z, H⟩ := s
  obtain ⟨hk, hva, hzq, hzc, hgn⟩ := hphi
  dsimp only at hk hva hzq hzc hgn ⊢
  obtain ⟨es, ha, hat, hap, hal⟩ := hva.inv
  have hla : es.length = ah.length + k := by have := congrArg List.length hal; simp at this; omega
  have hzl : z.length = z0.length + (schains ah ((rs.map Prod.fst).take k)).length := by have := congrArg List.length hzq; simpa using this
  have hcl := schains_len ((rs.map Prod.fst).take k) ah
  have hst0 := sszL_take_le (rs.map Prod.fst) k
  have hll := sszL_len (rs.map Prod.fst)
  rw [List.length_map] at hll
  replace hsa := hsa.mono hgn.le
  replace hr := hr.mono hgn.le
  replace hpt := fun p hm0 => (hpt p hm0).mono hgn.le
  replace hps := fun p hm0 => (hps p hm0).mono hgn.le
  refine c_seq ?_
  refine c_region ?_
  refine r_val .none rfl (p_lt rfl rfl) ?_
  refine r_nil ?_
  refine e_next ?_
  refine c_seq ?_
  refine c_splitd (d := 11) rfl (fun h_5 => ?_) (fun h_5 => ?_)
  · skip
    first
      | (exfalso; omega)
      | (
        refine c_cond_t rfl ?_
        refine c_skip ?_
        refine e_next ?_
        refine c_seq ?_
        refine c_block ?_
        refine c_seq ?_
        refine c_region ?_
        refine r_iaddr_g .none rfl Try.underlying50 sz64 rfl hr rfl (by first | exact of_decide_eq_true rfl | omega) (fun p_7 o_8 R_6 => ?_)
        have ht_9 := hpt _ (getD_mem (i := k) (d := s0) (by omega))
        have hc_10 := hps _ (getD_mem (i := k) (d := s0) (by omega))
        have hkl := sszL_len ((rs.map Prod.fst).take k)
        rw [List.length_take, List.length_map] at hkl
        have hsk := sszL_take (rs := rs) (k := k) (by omega)
        have hsk2 := sszL_take_le (rs.map Prod.fst) (k + 1)
        have hsq := ssz_eq (rs.getD k s0).1
        refine r_val .none rfl (p_ldga0 Try.underlying64 rfl sz64 rfl R_6 (by first | exact of_decide_eq_true rfl | omega) (rfl : _ = Value.agg #[_, _, _, _, _, _])) ?_
        refine r_alloc .none rfl zr64 (IsRow.lit _) (fun b_1 => ?_)
        refine r_stw (k := 0) .none sz64 rfl rfl (IsRow.lit _) (one_lit rfl (all_cons rfl (all_cons rfl (all_cons rfl (all_cons rfl (all_cons (ht_9).one (all_cons (hc_10).one rfl))))))) rfl ?_
        refine r_nil ?_
        refine e_next ?_
        refine c_seq ?_
        refine c_seq ?_
        refine c_region ?_
        refine r_val .none rfl (p_field Try.underlying64 rfl sz3 rfl) ?_
        refine r_val .none rfl (p_ld (k := 0) Try.underlying3 rfl rfl rfl (by first | exact of_decide_eq_true rfl | omega) (rfl : _ = Value.int _ _)) ?_
        refine r_val .none rfl (p_eq rfl rfl) ?_
        refine r_nil ?_
        refine e_next ?_
        refine c_splitd (d := 16) rfl (fun h_11 => ?_) (fun h_11 => ?_)
        · skip
          have hk3 := h_11
          first
            | (exfalso; omega)
            | (
              refine c_cond_t rfl ?_
              refine c_region ?_
              refine r_val .none rfl (p_move rfl) ?_
              refine r_val .none rfl (p_field Try.underlying64 rfl sz50 rfl) ?_
              refine r_val .none rfl (p_ld (k := 0) Try.underlying50 rfl rfl rfl (by first | exact of_decide_eq_true rfl | omega) rfl) ?_
              refine r_val .none rfl (p_move rfl) ?_
              refine r_callox (k := 1) (vs := [_, _, _]) .none rfl cl49 rfl rfl (fun w F hw hA hFG => ih _ _ _ _ _ _ _ _ w (Nat.le_of_lt_succ (Nat.lt_of_lt_of_le (ssub_size (by omega)) hz)) (by rw [List.length_append, List.length_take, List.length_map]; omega) (by omega) hva hc_10 hzc hw hA hFG) (fun G_12 v_15 z_17 hn_13 hr_14 => ?_)
              replace hsa := hsa.mono hn_13.le
              replace hr := hr.mono hn_13.le
              replace hpt := fun p hm0 => (hpt p hm0).mono hn_13.le
              replace hps := fun p hm0 => (hps p hm0).mono hn_13.le
              replace ha := ha.mono hn_13.le
              replace hat := fun p hm0 => (hat p hm0).mono hn_13.le
              replace hap := fun p hm0 => (hap p hm0).mono hn_13.le
              replace hva := hva.mono hn_13.le
              replace hzc := StC.mono hzc hn_13.le
              replace R_6 := R_6.mono hn_13.le
              replace ht_9 := ht_9.mono hn_13.le
              replace hc_10 := hc_10.mono hn_13.le
              obtain ⟨-, u_16q, u_16c⟩ := hr_14
              refine r_nil ?_
              refine e_next ?_
              refine c_seq ?_
              refine c_region_d (fun _ => false) _ mixed (.keep (fun _ _ h => h) (.keep (fun _ _ h => h) (.nil))) ?_
              refine d_val1 0 rfl rfl (by kernel_rfl) (fun _ _ => rfl) .none rfl (p_move rfl) ?_
              refine d_val1 2 rfl rfl (by kernel_rfl) (fun _ _ => rfl) .none rfl (p_ldw (k := 0) Try.underlying64 rfl sz64 rfl rfl (rfl : _ = Value.agg #[_, _, _, _, _, _])) ?_
              refine d_eff2 1 3 rfl rfl (by kernel_rfl) (fun K_18 hKK_18 hcK_18 => ?_) (fun K_18 hKK_18 hcK_18 => ?_)
              · skip
                refine r_callrow (vs := [_]) .none rfl cl65 rfl (fun w hw => c_cloneS _ es ha (by omega) hat hap w hw) (fun v_19 => ?_)
                refine r_nil (e_d (i := 1) (brk := (fun _ => false)) (ph' := true) hKK_18 hcK_18 rfl (fun _ => GLe.refl _) (fun _ => .drop (.keep (fun _ _ h => h) (.keep (fun _ _ h => h) (.nil)))) ?_)
                clear hKK_18 hcK_18 K_18
                refine d_eff 3 rfl (by kernel_rfl) (fun K_20 hKK_20 hcK_20 => ?_)
                refine r_bslice (vs := [(0, Value.agg #[_, _, _, _, _, _])]) (c := #[_, _, _, _, _, _]) .none rfl Try.underlying50 el64 rfl rfl rfl (bs64_10a6 _ _ _ _ _ _) (IsRow.lit _) (fun b_2 => ?_)
                refine r_nil (e_d (i := 3) (brk := (fun _ => false)) (ph' := true) hKK_20 hcK_20 rfl (fun _ => GLe.refl _) (fun _ => .drop (.drop (.keep (fun _ _ h => h) (.keep (fun _ _ h => h) (.nil))))) ?_)
                clear hKK_20 hcK_20 K_20
                refine d_eff 4 rfl (by kernel_rfl) (fun K_21 hKK_21 hcK_21 => ?_)
                refine r_append (k := 1) (k2 := 0) .none rfl Try.underlying50 el64 rfl (by decide) rfl rfl rfl rfl rfl (one_lit rfl (all_cons rfl (all_cons rfl (all_cons rfl (all_cons rfl (all_cons (ht_9).one (all_cons (hc_10).one rfl))))))) (by simp only [maxLen]; omega) (by omega) (fun v_22 => ?_)
                refine r_row1 (k := 1) rfl (fun o_23 => ?_)
                refine r_nil (e_d (i := 4) (brk := (fun _ => false)) (ph' := true) hKK_21 hcK_21 rfl (fun _ => GLe.refl _) (fun _ => .drop (.drop (.keep (fun _ _ h => h) (.keep (fun _ _ h => h) (.nil))))) ?_)
                clear hKK_21 hcK_21 K_21
                refine d_val1 5 rfl rfl (by kernel_rfl) (fun _ _ => rfl) .none rfl (p_assign rfl) ?_
                refine d_nil (by kernel_rfl) ?_
                refine e_next ?_
                refine c_region ?_
                refine r_freeze (k := 1) rfl (fun G_24 hn_25 hs_26 => ?_)
                replace hsa := hsa.mono hn_25.le
                replace hr := hr.mono hn_25.le
                replace hpt := fun p hm0 => (hpt p hm0).mono hn_25.le
                replace hps := fun p hm0 => (hps p hm0).mono hn_25.le
                replace ha := ha.mono hn_25.le
                replace hat := fun p hm0 => (hat p hm0).mono hn_25.le
                replace hap := fun p hm0 => (hap p hm0).mono hn_25.le
                replace hva := hva.mono hn_25.le
                replace hzc := StC.mono hzc hn_25.le
                replace R_6 := R_6.mono hn_25.le
                replace ht_9 := ht_9.mono hn_25.le
                replace hc_10 := hc_10.mono hn_25.le
                replace u_16c := StC.mono u_16c hn_25.le
                have hs2 : SlL G_24 v_22 6 sC s0 (es ++ [rs.getD k s0]) := SlL.of2 s0 (fun _ => rfl) (by simp) (by rw [List.flatMap_append, List.flatMap_cons, List.flatMap_nil, List.append_nil]; rfl) hs_26
                have ht2 : ∀ p ∈ es ++ [rs.getD k s0], SlL G_24 p.2.1 3 tC t0 p.1.h.ts := fun p hp' => by rcases List.mem_append.1 hp' with h | h; exact hat p h; rw [List.mem_singleton.1 h]; exact ht_9
                have hp2 : ∀ p ∈ es ++ [rs.getD k s0], Ss G_24 p.2.2 p.1.subs := fun p hp' => by rcases List.mem_append.1 hp' with h | h; exact hap p h; rw [List.mem_singleton.1 h]; exact hc_10
                have hva2 : Ss G_24 v_22 (ah ++ (rs.map Prod.fst).take k ++ [(rs.getD k s0).1]) := by have h := Ss.mk _ hs2 ht2 hp2; rw [List.map_append, ← hal] at h; exact h
                refine r_front (k := 2) rfl ?_
                refine r_unpackout (fun ov => ?_)
                refine r_row1 (k := 1) rfl (fun o1 => ?_)
                refine r_val .none rfl (p_move rfl) ?_
                refine r_val .none rfl (p_move rfl) ?_
                refine r_val .none rfl (p_nilcheck rfl) ?_
                refine r_val .none rfl (p_ld (k := 0) Try.underlying54 rfl rfl rfl (by first | exact of_decide_eq_true rfl | omega) rfl) ?_
                refine r_val .none rfl (p_move rfl) ?_
                obtain ⟨a_27, c_28, rfl⟩ := SlG.len hs2
                refine r_bslice (vs := [(0, Value.slice _ _ _)]) (c := #[_]) .none rfl Try.underlying54 el50 rfl rfl rfl (bs50_10s3 _ _ _) (IsRow.lit _) (fun b_3 => ?_)
                refine r_append (k := 2) (k2 := 0) .none rfl Try.underlying54 el50 rfl (by decide) rfl rfl rfl rfl rfl (one_lit rfl rfl) (by first | (simp only [maxLen]; omega) | (have h9 := congrArg List.length u_16q; rw [List.length_append, List.length_map, List.length_map] at h9; have h10 := schains_len (rs.getD k s0).1.subs (ah ++ (rs.map Prod.fst).take k); simp only [maxLen]; omega)) (by first | omega | (have h9 := congrArg List.length u_16q; rw [List.length_append, List.length_map, List.length_map] at h9; have h10 := schains_len (rs.getD k s0).1.subs (ah ++ (rs.map Prod.fst).take k); omega)) (fun v_29 => ?_)
                refine r_row1 (k := 2) rfl (fun o_30 => ?_)
                refine r_val .none rfl (p_nilcheck rfl) ?_
                refine r_st (k := 1) .none sz54 rfl rfl o_30 rfl (by first | exact of_decide_eq_true rfl | omega) ?_
                refine r_front (k := 1) rfl ?_
                refine r_front (k := 2) rfl ?_
                refine r_packout (rs := z_17 ++ [(ah ++ (rs.map Prod.fst).take k ++ [(rs.getD k s0).1], Value.slice a_27 (es ++ [rs.getD k s0]).length c_28)]) rfl (by simp) (by rw [List.flatMap_append]; rfl) ?_
                refine r_nil ?_
                refine e_norm_block ?_
                refine e_next ?_
                refine c_region ?_
                refine r_val .none rfl (p_add rfl rfl (by omega)) ?_
                refine r_val .none rfl (p_move rfl) ?_
                refine r_nil ?_
                refine e_round ((k + 1, _, z_17 ++ [(ah ++ (rs.map Prod.fst).take k ++ [(rs.getD k s0).1], Value.slice a_27 (es ++ [rs.getD k s0]).length c_28)], _)) ⟨⟨by dsimp only; omega, by rw [sv_take (by omega), ← List.append_assoc]; exact hva2, by rw [List.map_append, u_16q, hzq, schains_take (by omega), schain1_ncc hk3, List.append_assoc, List.append_assoc]; rfl, StC.snoc u_16c hva2, ((hgn.trans hn_13).trans hn_25)⟩, by dsimp only; omega⟩ rfl ⟨rfl, rfl, rfl, rfl, rfl, trivial⟩ (.keep (fun _ _ h => h) (.drop (.drop (.drop (.nil)))))
              · skip
                refine r_bslice (vs := [(0, Value.agg #[_, _, _, _, _, _])]) (c := #[_, _, _, _, _, _]) .none rfl Try.underlying50 el64 rfl rfl rfl (bs64_10a6 _ _ _ _ _ _) (IsRow.lit _) (fun b_4 => ?_)
                refine r_nil (e_d (i := 3) (brk := (fun _ => false)) (ph' := true) hKK_18 hcK_18 rfl (fun _ => GLe.refl _) (fun _ => .drop (.keep (fun _ _ h => h) (.keep (fun _ _ h => h) (.nil)))) ?_)
                clear hKK_18 hcK_18 K_18
                refine d_eff 1 rfl (by kernel_rfl) (fun K_31 hKK_31 hcK_31 => ?_)
                refine r_callrow (vs := [_]) .none rfl cl65 rfl (fun w hw => c_cloneS _ es ha (by omega) hat hap w hw) (fun v_32 => ?_)
                refine r_nil (e_d (i := 1) (brk := (fun _ => false)) (ph' := true) hKK_31 hcK_31 rfl (fun _ => GLe.refl _) (fun _ => .drop (.drop (.keep (fun _ _ h => h) (.keep (fun _ _ h => h) (.nil))))) ?_)
                clear hKK_31 hcK_31 K_31
                refine d_eff 4 rfl (by kernel_rfl) (fun K_33 hKK_33 hcK_33 => ?_)
                refine r_append (k := 0) (k2 := 1) .none rfl Try.underlying50 el64 rfl (by decide) rfl rfl rfl rfl rfl (one_lit rfl (all_cons rfl (all_cons rfl (all_cons rfl (all_cons rfl (all_cons (ht_9).one (all_cons (hc_10).one rfl))))))) (by simp only [maxLen]; omega) (by omega) (fun v_34 => ?_)
                refine r_row1 (k := 0) rfl (fun o_35 => ?_)
                refine r_nil (e_d (i := 4) (brk := (fun _ => false)) (ph' := true) hKK_33 hcK_33 rfl (fun _ => GLe.refl _) (fun _ => .drop (.drop (.keep (fun _ _ h => h) (.keep (fun _ _ h => h) (.nil))))) ?_)
                clear hKK_33 hcK_33 K_33
                refine d_val1 5 rfl rfl (by kernel_rfl) (fun _ _ => rfl) .none rfl (p_assign rfl) ?_
                refine d_nil (by kernel_rfl) ?_
                refine e_next ?_
                refine c_region ?_
                refine r_freeze (k := 0) rfl (fun G_36 hn_37 hs_38 => ?_)
                replace hsa := hsa.mono hn_37.le
                replace hr := hr.mono hn_37.le
                replace hpt := fun p hm0 => (hpt p hm0).mono hn_37.le
                replace hps := fun p hm0 => (hps p hm0).mono hn_37.le
                replace ha := ha.mono hn_37.le
                replace hat := fun p hm0 => (hat p hm0).mono hn_37.le
                replace hap := fun p hm0 => (hap p hm0).mono hn_37.le
                replace hva := hva.mono hn_37.le
                replace hzc := StC.mono hzc hn_37.le
                replace R_6 := R_6.mono hn_37.le
                replace ht_9 := ht_9.mono hn_37.le
                replace hc_10 := hc_10.mono hn_37.le
                replace u_16c := StC.mono u_16c hn_37.le
                have hs2 : SlL G_36 v_34 6 sC s0 (es ++ [rs.getD k s0]) := SlL.of2 s0 (fun _ => rfl) (by simp) (by rw [List.flatMap_append, List.flatMap_cons, List.flatMap_nil, List.append_nil]; rfl) hs_38
                have ht2 : ∀ p ∈ es ++ [rs.getD k s0], SlL G_36 p.2.1 3 tC t0 p.1.h.ts := fun p hp' => by rcases List.mem_append.1 hp' with h | h; exact hat p h; rw [List.mem_singleton.1 h]; exact ht_9
                have hp2 : ∀ p ∈ es ++ [rs.getD k s0], Ss G_36 p.2.2 p.1.subs := fun p hp' => by rcases List.mem_append.1 hp' with h | h; exact hap p h; rw [List.mem_singleton.1 h]; exact hc_10
                have hva2 : Ss G_36 v_34 (ah ++ (rs.map Prod.fst).take k ++ [(rs.getD k s0).1]) := by have h := Ss.mk _ hs2 ht2 hp2; rw [List.map_append, ← hal] at h; exact h
                refine r_front (k := 2) rfl ?_
                refine r_unpackout (fun ov => ?_)
                refine r_row1 (k := 1) rfl (fun o1 => ?_)
                refine r_val .none rfl (p_move rfl) ?_
                refine r_val .none rfl (p_move rfl) ?_
                refine r_val .none rfl (p_nilcheck rfl) ?_
                refine r_val .none rfl (p_ld (k := 0) Try.underlying54 rfl rfl rfl (by first | exact of_decide_eq_true rfl | omega) rfl) ?_
                refine r_val .none rfl (p_move rfl) ?_
                obtain ⟨a_39, c_40, rfl⟩ := SlG.len hs2
                refine r_bslice (vs := [(0, Value.slice _ _ _)]) (c := #[_]) .none rfl Try.underlying54 el50 rfl rfl rfl (bs50_10s3 _ _ _) (IsRow.lit _) (fun b_5 => ?_)
                refine r_append (k := 2) (k2 := 0) .none rfl Try.underlying54 el50 rfl (by decide) rfl rfl rfl rfl rfl (one_lit rfl rfl) (by first | (simp only [maxLen]; omega) | (have h9 := congrArg List.length u_16q; rw [List.length_append, List.length_map, List.length_map] at h9; have h10 := schains_len (rs.getD k s0).1.subs (ah ++ (rs.map Prod.fst).take k); simp only [maxLen]; omega)) (by first | omega | (have h9 := congrArg List.length u_16q; rw [List.length_append, List.length_map, List.length_map] at h9; have h10 := schains_len (rs.getD k s0).1.subs (ah ++ (rs.map Prod.fst).take k); omega)) (fun v_41 => ?_)
                refine r_row1 (k := 2) rfl (fun o_42 => ?_)
                refine r_val .none rfl (p_nilcheck rfl) ?_
                refine r_st (k := 1) .none sz54 rfl rfl o_42 rfl (by first | exact of_decide_eq_true rfl | omega) ?_
                refine r_front (k := 1) rfl ?_
                refine r_front (k := 2) rfl ?_
                refine r_packout (rs := z_17 ++ [(ah ++ (rs.map Prod.fst).take k ++ [(rs.getD k s0).1], Value.slice a_39 (es ++ [rs.getD k s0]).length c_40)]) rfl (by simp) (by rw [List.flatMap_append]; rfl) ?_
                refine r_nil ?_
                refine e_norm_block ?_
                refine e_next ?_
                refine c_region ?_
                refine r_val .none rfl (p_add rfl rfl (by omega)) ?_
                refine r_val .none rfl (p_move rfl) ?_
                refine r_nil ?_
                refine e_round ((k + 1, _, z_17 ++ [(ah ++ (rs.map Prod.fst).take k ++ [(rs.getD k s0).1], Value.slice a_39 (es ++ [rs.getD k s0]).length c_40)], _)) ⟨⟨by dsimp only; omega, by rw [sv_take (by omega), ← List.append_assoc]; exact hva2, by rw [List.map_append, u_16q, hzq, schains_take (by omega), schain1_ncc hk3, List.append_assoc, List.append_assoc]; rfl, StC.snoc u_16c hva2, ((hgn.trans hn_13).trans hn_37)⟩, by dsimp only; omega⟩ rfl ⟨rfl, rfl, rfl, rfl, rfl, trivial⟩ (.keep (fun _ _ h => h) (.drop (.drop (.drop (.nil)))))
              )
        · skip
          have hk3 := h_11
          first
            | (exfalso; omega)
            | (
              refine c_cond_f rfl ?_
              refine c_skip ?_
              refine e_next ?_
              refine c_seq ?_
              refine c_region_d (fun _ => false) _ mixed (.keep (fun _ _ h => h) (.keep (fun _ _ h => h) (.nil))) ?_
              refine d_val1 0 rfl rfl (by kernel_rfl) (fun _ _ => rfl) .none rfl (p_move rfl) ?_
              refine d_val1 2 rfl rfl (by kernel_rfl) (fun _ _ => rfl) .none rfl (p_ldw (k := 0) Try.underlying64 rfl sz64 rfl rfl (rfl : _ = Value.agg #[_, _, _, _, _, _])) ?_
              refine d_eff2 1 3 rfl rfl (by kernel_rfl) (fun K_43 hKK_43 hcK_43 => ?_) (fun K_43 hKK_43 hcK_43 => ?_)
              · skip
                refine r_callrow (vs := [_]) .none rfl cl65 rfl (fun w hw => c_cloneS _ es ha (by omega) hat hap w hw) (fun v_44 => ?_)
                refine r_nil (e_d (i := 1) (brk := (fun _ => false)) (ph' := true) hKK_43 hcK_43 rfl (fun _ => GLe.refl _) (fun _ => .drop (.keep (fun _ _ h => h) (.keep (fun _ _ h => h) (.nil)))) ?_)
                clear hKK_43 hcK_43 K_43
                refine d_eff 3 rfl (by kernel_rfl) (fun K_45 hKK_45 hcK_45 => ?_)
                refine r_bslice (vs := [(0, Value.agg #[_, _, _, _, _, _])]) (c := #[_, _, _, _, _, _]) .none rfl Try.underlying50 el64 rfl rfl rfl (bs64_10a6 _ _ _ _ _ _) (IsRow.lit _) (fun b_6 => ?_)
                refine r_nil (e_d (i := 3) (brk := (fun _ => false)) (ph' := true) hKK_45 hcK_45 rfl (fun _ => GLe.refl _) (fun _ => .drop (.drop (.keep (fun _ _ h => h) (.keep (fun _ _ h => h) (.nil))))) ?_)
                clear hKK_45 hcK_45 K_45
                refine d_eff 4 rfl (by kernel_rfl) (fun K_46 hKK_46 hcK_46 => ?_)
                refine r_append (k := 1) (k2 := 0) .none rfl Try.underlying50 el64 rfl (by decide) rfl rfl rfl rfl rfl (one_lit rfl (all_cons rfl (all_cons rfl (all_cons rfl (all_cons rfl (all_cons (ht_9).one (all_cons (hc_10).one rfl))))))) (by simp only [maxLen]; omega) (by omega) (fun v_47 => ?_)
                refine r_row1 (k := 1) rfl (fun o_48 => ?_)
                refine r_nil (e_d (i := 4) (brk := (fun _ => false)) (ph' := true) hKK_46 hcK_46 rfl (fun _ => GLe.refl _) (fun _ => .drop (.drop (.keep (fun _ _ h => h) (.keep (fun _ _ h => h) (.nil))))) ?_)
                clear hKK_46 hcK_46 K_46
                refine d_val1 5 rfl rfl (by kernel_rfl) (fun _ _ => rfl) .none rfl (p_assign rfl) ?_
                refine d_nil (by kernel_rfl) ?_
                refine e_next ?_
                refine c_region ?_
                refine r_freeze (k := 1) rfl (fun G_49 hn_50 hs_51 => ?_)
                replace hsa := hsa.mono hn_50.le
                replace hr := hr.mono hn_50.le
                replace hpt := fun p hm0 => (hpt p hm0).mono hn_50.le
                replace hps := fun p hm0 => (hps p hm0).mono hn_50.le
                replace ha := ha.mono hn_50.le
                replace hat := fun p hm0 => (hat p hm0).mono hn_50.le
                replace hap := fun p hm0 => (hap p hm0).mono hn_50.le
                replace hva := hva.mono hn_50.le
                replace hzc := StC.mono hzc hn_50.le
                replace R_6 := R_6.mono hn_50.le
                replace ht_9 := ht_9.mono hn_50.le
                replace hc_10 := hc_10.mono hn_50.le
                have hs2 : SlL G_49 v_47 6 sC s0 (es ++ [rs.getD k s0]) := SlL.of2 s0 (fun _ => rfl) (by simp) (by rw [List.flatMap_append, List.flatMap_cons, List.flatMap_nil, List.append_nil]; rfl) hs_51
                have ht2 : ∀ p ∈ es ++ [rs.getD k s0], SlL G_49 p.2.1 3 tC t0 p.1.h.ts := fun p hp' => by rcases List.mem_append.1 hp' with h | h; exact hat p h; rw [List.mem_singleton.1 h]; exact ht_9
                have hp2 : ∀ p ∈ es ++ [rs.getD k s0], Ss G_49 p.2.2 p.1.subs := fun p hp' => by rcases List.mem_append.1 hp' with h | h; exact hap p h; rw [List.mem_singleton.1 h]; exact hc_10
                have hva2 : Ss G_49 v_47 (ah ++ (rs.map Prod.fst).take k ++ [(rs.getD k s0).1]) := by have h := Ss.mk _ hs2 ht2 hp2; rw [List.map_append, ← hal] at h; exact h
                refine r_front (k := 2) rfl ?_
                refine r_unpackout (fun ov => ?_)
                refine r_row1 (k := 1) rfl (fun o1 => ?_)
                refine r_val .none rfl (p_move rfl) ?_
                refine r_val .none rfl (p_move rfl) ?_
                refine r_val .none rfl (p_nilcheck rfl) ?_
                refine r_val .none rfl (p_ld (k := 0) Try.underlying54 rfl rfl rfl (by first | exact of_decide_eq_true rfl | omega) rfl) ?_
                refine r_val .none rfl (p_move rfl) ?_
                obtain ⟨a_52, c_53, rfl⟩ := SlG.len hs2
                refine r_bslice (vs := [(0, Value.slice _ _ _)]) (c := #[_]) .none rfl Try.underlying54 el50 rfl rfl rfl (bs50_10s3 _ _ _) (IsRow.lit _) (fun b_7 => ?_)
                refine r_append (k := 2) (k2 := 0) .none rfl Try.underlying54 el50 rfl (by decide) rfl rfl rfl rfl rfl (one_lit rfl rfl) (by first | (simp only [maxLen]; omega) | (have h9 := congrArg List.length q; rw [List.length_append, List.length_map, List.length_map] at h9; have h10 := schains_len (rs.getD k s0).1.subs (ah ++ (rs.map Prod.fst).take k); simp only [maxLen]; omega)) (by first | omega | (have h9 := congrArg List.length q; rw [List.length_append, List.length_map, List.length_map] at h9; have h10 := schains_len (rs.getD k s0).1.subs (ah ++ (rs.map Prod.fst).take k); omega)) (fun v_54 => ?_)
                refine r_row1 (k := 2) rfl (fun o_55 => ?_)
                refine r_val .none rfl (p_nilcheck rfl) ?_
                refine r_st (k := 1) .none sz54 rfl rfl o_55 rfl (by first | exact of_decide_eq_true rfl | omega) ?_
                refine r_front (k := 1) rfl ?_
                refine r_front (k := 2) rfl ?_
                refine r_packout (rs := z ++ [(ah ++ (rs.map Prod.fst).take k ++ [(rs.getD k s0).1], Value.slice a_52 (es ++ [rs.getD k s0]).length c_53)]) rfl (by simp) (by rw [List.flatMap_append]; rfl) ?_
                refine r_nil ?_
                refine e_norm_block ?_
                refine e_next ?_
                refine c_region ?_
                refine r_val .none rfl (p_add rfl rfl (by omega)) ?_
                refine r_val .none rfl (p_move rfl) ?_
                refine r_nil ?_
                refine e_round ((k + 1, _, z ++ [(ah ++ (rs.map Prod.fst).take k ++ [(rs.getD k s0).1], Value.slice a_52 (es ++ [rs.getD k s0]).length c_53)], _)) ⟨⟨by dsimp only; omega, by rw [sv_take (by omega), ← List.append_assoc]; exact hva2, by rw [List.map_append, hzq, schains_take (by omega), schain1_other hk3, List.append_assoc]; rfl, StC.snoc hzc hva2, (hgn.trans hn_50)⟩, by dsimp only; omega⟩ rfl ⟨rfl, rfl, rfl, rfl, rfl, trivial⟩ (.keep (fun _ _ h => h) (.drop (.drop (.drop (.nil)))))
              · skip
                refine r_bslice (vs := [(0, Value.agg #[_, _, _, _, _, _])]) (c := #[_, _, _, _, _, _]) .none rfl Try.underlying50 el64 rfl rfl rfl (bs64_10a6 _ _ _ _ _ _) (IsRow.lit _) (fun b_8 => ?_)
                refine r_nil (e_d (i := 3) (brk := (fun _ => false)) (ph' := true) hKK_43 hcK_43 rfl (fun _ => GLe.refl _) (fun _ => .drop (.keep (fun _ _ h => h) (.keep (fun _ _ h => h) (.nil)))) ?_)
                clear hKK_43 hcK_43 K_43
                refine d_eff 1 rfl (by kernel_rfl) (fun K_56 hKK_56 hcK_56 => ?_)
                refine r_callrow (vs := [_]) .none rfl cl65 rfl (fun w hw => c_cloneS _ es ha (by omega) hat hap w hw) (fun v_57 => ?_)
                refine r_nil (e_d (i := 1) (brk := (fun _ => false)) (ph' := true) hKK_56 hcK_56 rfl (fun _ => GLe.refl _) (fun _ => .drop (.drop (.keep (fun _ _ h => h) (.keep (fun _ _ h => h) (.nil))))) ?_)
                clear hKK_56 hcK_56 K_56
                refine d_eff 4 rfl (by kernel_rfl) (fun K_58 hKK_58 hcK_58 => ?_)
                refine r_append (k := 0) (k2 := 1) .none rfl Try.underlying50 el64 rfl (by decide) rfl rfl rfl rfl rfl (one_lit rfl (all_cons rfl (all_cons rfl (all_cons rfl (all_cons rfl (all_cons (ht_9).one (all_cons (hc_10).one rfl))))))) (by simp only [maxLen]; omega) (by omega) (fun v_59 => ?_)
                refine r_row1 (k := 0) rfl (fun o_60 => ?_)
                refine r_nil (e_d (i := 4) (brk := (fun _ => false)) (ph' := true) hKK_58 hcK_58 rfl (fun _ => GLe.refl _) (fun _ => .drop (.drop (.keep (fun _ _ h => h) (.keep (fun _ _ h => h) (.nil))))) ?_)
                clear hKK_58 hcK_58 K_58
                refine d_val1 5 rfl rfl (by kernel_rfl) (fun _ _ => rfl) .none rfl (p_assign rfl) ?_
                refine d_nil (by kernel_rfl) ?_
                refine e_next ?_
                refine c_region ?_
                refine r_freeze (k := 0) rfl (fun G_61 hn_62 hs_63 => ?_)
                replace hsa := hsa.mono hn_62.le
                replace hr := hr.mono hn_62.le
                replace hpt := fun p hm0 => (hpt p hm0).mono hn_62.le
                replace hps := fun p hm0 => (hps p hm0).mono hn_62.le
                replace ha := ha.mono hn_62.le
                replace hat := fun p hm0 => (hat p hm0).mono hn_62.le
                replace hap := fun p hm0 => (hap p hm0).mono hn_62.le
                replace hva := hva.mono hn_62.le
                replace hzc := StC.mono hzc hn_62.le
                replace R_6 := R_6.mono hn_62.le
                replace ht_9 := ht_9.mono hn_62.le
                replace hc_10 := hc_10.mono hn_62.le
                have hs2 : SlL G_61 v_59 6 sC s0 (es ++ [rs.getD k s0]) := SlL.of2 s0 (fun _ => rfl) (by simp) (by rw [List.flatMap_append, List.flatMap_cons, List.flatMap_nil, List.append_nil]; rfl) hs_63
                have ht2 : ∀ p ∈ es ++ [rs.getD k s0], SlL G_61 p.2.1 3 tC t0 p.1.h.ts := fun p hp' => by rcases List.mem_append.1 hp' with h | h; exact hat p h; rw [List.mem_singleton.1 h]; exact ht_9
                have hp2 : ∀ p ∈ es ++ [rs.getD k s0], Ss G_61 p.2.2 p.1.subs := fun p hp' => by rcases List.mem_append.1 hp' with h | h; exact hap p h; rw [List.mem_singleton.1 h]; exact hc_10
                have hva2 : Ss G_61 v_59 (ah ++ (rs.map Prod.fst).take k ++ [(rs.getD k s0).1]) := by have h := Ss.mk _ hs2 ht2 hp2; rw [List.map_append, ← hal] at h; exact h
                refine r_front (k := 2) rfl ?_
                refine r_unpackout (fun ov => ?_)
                refine r_row1 (k := 1) rfl (fun o1 => ?_)
                refine r_val .none rfl (p_move rfl) ?_
                refine r_val .none rfl (p_move rfl) ?_
                refine r_val .none rfl (p_nilcheck rfl) ?_
                refine r_val .none rfl (p_ld (k := 0) Try.underlying54 rfl rfl rfl (by first | exact of_decide_eq_true rfl | omega) rfl) ?_
                refine r_val .none rfl (p_move rfl) ?_
                obtain ⟨a_64, c_65, rfl⟩ := SlG.len hs2
                refine r_bslice (vs := [(0, Value.slice _ _ _)]) (c := #[_]) .none rfl Try.underlying54 el50 rfl rfl rfl (bs50_10s3 _ _ _) (IsRow.lit _) (fun b_9 => ?_)
                refine r_append (k := 2) (k2 := 0) .none rfl Try.underlying54 el50 rfl (by decide) rfl rfl rfl rfl rfl (one_lit rfl rfl) (by first | (simp only [maxLen]; omega) | (have h9 := congrArg List.length q; rw [List.length_append, List.length_map, List.length_map] at h9; have h10 := schains_len (rs.getD k s0).1.subs (ah ++ (rs.map Prod.fst).take k); simp only [maxLen]; omega)) (by first | omega | (have h9 := congrArg List.length q; rw [List.length_append, List.length_map, List.length_map] at h9; have h10 := schains_len (rs.getD k s0).1.subs (ah ++ (rs.map Prod.fst).take k); omega)) (fun v_66 => ?_)
                refine r_row1 (k := 2) rfl (fun o_67 => ?_)
                refine r_val .none rfl (p_nilcheck rfl) ?_
                refine r_st (k := 1) .none sz54 rfl rfl o_67 rfl (by first | exact of_decide_eq_true rfl | omega) ?_
                refine r_front (k := 1) rfl ?_
                refine r_front (k := 2) rfl ?_
                refine r_packout (rs := z ++ [(ah ++ (rs.map Prod.fst).take k ++ [(rs.getD k s0).1], Value.slice a_64 (es ++ [rs.getD k s0]).length c_65)]) rfl (by simp) (by rw [List.flatMap_append]; rfl) ?_
                refine r_nil ?_
                refine e_norm_block ?_
                refine e_next ?_
                refine c_region ?_
                refine r_val .none rfl (p_add rfl rfl (by omega)) ?_
                refine r_val .none rfl (p_move rfl) ?_
                refine r_nil ?_
                refine e_round ((k + 1, _, z ++ [(ah ++ (rs.map Prod.fst).take k ++ [(rs.getD k s0).1], Value.slice a_64 (es ++ [rs.getD k s0]).length c_65)], _)) ⟨⟨by dsimp only; omega, by rw [sv_take (by omega), ← List.append_assoc]; exact hva2, by rw [List.map_append, hzq, schains_take (by omega), schain1_other hk3, List.append_assoc]; rfl, StC.snoc hzc hva2, (hgn.trans hn_62)⟩, by dsimp only; omega⟩ rfl ⟨rfl, rfl, rfl, rfl, rfl, trivial⟩ (.keep (fun _ _ h => h) (.drop (.drop (.drop (.nil)))))
              )
        )
  · skip
    first
      | (exfalso; omega)
      | (
        refine c_cond_f rfl ?_
        refine c_exit ?_
        refine e_exit_then ?_
        refine e_exit_then ?_
        refine e_exit_block ?_
        refine e_end0 Try.results49 (fun w hm => ⟨_, z, hgn, hm.has, ⟨rfl, by rw [hzq, List.take_of_length_le (by simp; omega)], hzc⟩, hm.keptG [outA _ _ p z] (.keep (fun _ _ h => h) (.nil)) (outA _ _ p z) (fun F' h => starL_one h)⟩)
        )
theorem c_growS_n : ∀ n, GrowSIs n
  | 0 => fun va vl ah l p z0 G F w hz _ _ _ _ _ _ _ _ => absurd hz (by cases l <;> simp)
  | n + 1 => fun va vl ah l p z0 G F w hz hsz hlz hsa hs hz0 hG hA hFG => c_growS_s n (c_growS_n n) va vl ah l p z0 hz hsz hlz hsa hs hz0 w hG hA hFG
theorem c_growS (va vl : Value) (ah l : List ST) (p : Nat) (z0 : List (List ST × Value)) {G : Ghost} {F : Nat → Prop} (hsz : ah.length + sszL l ≤ 1000) (hlz : z0.length + sszL l ≤ 9000) (hsa : Ss G va ah) (hs : Ss G vl l) (hz0 : StC G z0) (w : World) (hG : Has G w) (hA : (outA 54 50 p (z0)).holds w F) (hFG : ∀ b, F b → G b = none) : Calls Try.prog 49 #[va, vl, Value.pointer (some ⟨p, 0, none⟩)] w (Ret fun r w' => ∃ G' z', GNew w F G G' ∧ Has G' w' ∧ (r = .tuple #[] ∧ z'.map Prod.fst = z0.map Prod.fst ++ schains ah l ∧ StC G' z') ∧ KeptG (outA 54 50 p (z')) F G' w w') := c_growS_n _ va vl ah l p z0 G F w (Nat.le_refl _) hsz hlz hsa hs hz0 hG hA hFG
theorem c_chainsS (v : Value) (l : List ST) {G : Ghost} (hsz : sszL l ≤ 1000) (hs : Ss G v l) (w : World) (hG : Has G w) :
    Calls Try.prog 26 #[v] w (Ret fun r w' => ∃ G', GNew w nX G G' ∧ Has G' w' ∧ Ls (fun G v l => Ss G v l) ([] : List ST) G' r (schains [] l) ∧ Since nX w w') := by
  refine enter (args := [_]) (X := nX) (G := G) (l := [(0, v)]) Try.func26 rfl Try.ntmps26 hG ⟨rfl, trivial⟩ (Nat.le_of_ble_eq_true rfl) ?_
  refine c_seq ?_
  refine c_region ?_
  refine r_val .none rfl (p_assign rfl) ?_
  refine r_nil ?_
  refine e_next ?_
  refine c_seq ?_
  refine c_region ?_
  refine r_alloc .none rfl zr54 (IsRow.lit [_]) (fun b_1 => ?_)
  refine r_nil ?_
  refine e_next ?_
  refine c_seq ?_
  refine c_region ?_
  refine r_val .none rfl (p_move rfl) ?_
  refine r_nilrow 50 1 ?_
  refine r_packout (rs := ([] : List (List ST × Value))) rfl rfl rfl ?_
  refine r_callox (k := 0) (vs := [_, _, _]) .none rfl cl49 rfl rfl (fun w F hw hA hFG => c_growS _ _ [] _ _ [] (by simp; omega) (by simp; omega) Ss.nil hs (by simp [StC]) w hw hA hFG) (fun G_1 v_4 z_6 hn_2 hr_3 => ?_)
  replace hs := hs.mono hn_2.le
  obtain ⟨-, u_5q, u_5c⟩ := hr_3
  refine r_nil ?_
  refine e_next ?_
  refine c_seq ?_
  refine c_region ?_
  refine r_unpackout (fun ov => ?_)
  refine r_row1 (k := 1) rfl (fun o1 => ?_)
  refine r_val .none rfl (p_ld (k := 0) Try.underlying54 rfl rfl rfl (by first | exact of_decide_eq_true rfl | omega) rfl) ?_
  refine r_val .none rfl (p_assign rfl) ?_
  refine r_nil ?_
  refine e_next ?_
  refine c_ret ?_
  refine e_freeze (k := 1) rfl (fun G_7 hn_8 hs_9 => ?_)
  replace hs := hs.mono hn_8.le
  replace u_5c := StC.mono u_5c hn_8.le
  refine e_ret1 Try.results26 (.tmp rfl .nil) (fun w hm => ⟨_, (hn_2.trans hn_8), hm.has, ?_, hm.since⟩)
  rw [show schains [] l = z_6.map Prod.fst by rw [u_5q]; rfl]
  exact Ls.mk _ (SlL.of (([] : List ST), Value.slice none 0 0) (fun _ => rfl) rfl hs_9) u_5c
end Go.Proofs.Ytoflaphnlfggkaa

/- Walks: what Go functions of this chapter come to, each as a function on plain data; no condition but those that each theorem names. Printed by a program of this work (gen.py). -/
namespace Go.Proofs.Ytoflaphnlfggkaa
open Go.Gx Go.Gx.T4 Go.Gx.T3 Go.Gx.T6 Go.Gx.T8 Go.Gx.T4 Go.Gx.T3 Go.Gx.T8 Go.Gx.T4 Go.Gx.T3 Go.Gx.T8 Go.Gx.T6 Go.Gx.T4 Go.Gx.T3
theorem cl28 : Callable Try.prog 28 := callable Try.func28 (by kernel_rfl) rfl
theorem bs48_10s3 (a0 : Option Addr) (a1 a2 : Nat) : Instr.fill (fun i => some (i * 1, 1)) ((Array.range (1 * 1)).map ((Value.slice none 0 0).cells[· % (Value.slice none 0 0).cells.size]!)) [(0, Value.slice a0 a1 a2)] = some #[Value.slice a0 a1 a2] := by
  kernel_rfl
theorem el48 : ElemIs Try.prog 48 1 24 (Value.slice none 0 0) := by
  unfold ElemIs
  kernel_rfl
def RchSIs (n : Nat) : Prop := ∀ (va vl : Value) (es : List SVal) (l : List ST) (G : Ghost) (F : Nat → Prop) (w : World), SizeOf.sizeOf l ≤ n → es.length + sszL l ≤ 5000 → (∀ p ∈ es, SlL G p.2.1 3 tC t0 p.1.h.ts) → (∀ p ∈ es, Ss G p.2.2 p.1.subs) → Ss G vl l → Has G w → (rowA va 70 6 es.length (es.flatMap sC)).holds w F → (∀ b, F b → G b = none) → Calls Try.prog 28 #[va, vl] w (Ret fun r w' => ∃ G', GNew w F G G' ∧ Has G' w' ∧ Ls (fun G v l => Ss G v l) ([] : List ST) G' r (schains (es.map Prod.fst) l) ∧ KeptG (rowA va 70 6 es.length (es.flatMap sC)) F G' w w')
theorem c_rchS_s (n : Nat) (ih : RchSIs n) (va vl : Value) (es : List SVal) (l : List ST) {G : Ghost} {F : Nat → Prop} (hz : SizeOf.sizeOf l ≤ n + 1) (hsz : es.length + sszL l ≤ 5000) (het : ∀ p ∈ es, SlL G p.2.1 3 tC t0 p.1.h.ts) (hes : ∀ p ∈ es, Ss G p.2.2 p.1.subs) (hs : Ss G vl l) (w : World) (hG : Has G w) (hA : (rowA va 70 6 es.length (es.flatMap sC)).holds w F) (hFG : ∀ b, F b → G b = none) :
    Calls Try.prog 28 #[va, vl] w (Ret fun r w' => ∃ G', GNew w F G G' ∧ Has G' w' ∧ Ls (fun G v l => Ss G v l) ([] : List ST) G' r (schains (es.map Prod.fst) l) ∧ KeptG (rowA va 70 6 es.length (es.flatMap sC)) F G' w w') := by
  refine enterO (args := [_, _]) (G := G) (A := rowA va 70 6 es.length (es.flatMap sC)) (l := [(0, va), (1, vl)]) Try.func28 rfl Try.ntmps28 hG hA hFG ⟨rfl, rfl, trivial⟩ (Nat.le_of_ble_eq_true rfl) ?_
  obtain ⟨rs, hr, hpt, hps, rfl⟩ := hs.inv
  have hbd := hr.bound
  refine c_seq ?_
  refine c_region ?_
  refine r_val .none rfl (p_assign rfl) ?_
  refine r_nil ?_
  refine e_next ?_
  refine c_seq ?_
  refine c_region ?_
  refine r_val .none rfl (p_assign rfl) ?_
  refine r_nil ?_
  refine e_next ?_
  refine c_seq ?_
  refine c_seq ?_
  refine c_region ?_
  refine r_val .none rfl (p_move rfl) ?_
  refine r_val .none rfl (p_leng Try.underlying48 rfl hr) ?_
  have bd_1 := (hr).bound
  refine r_val .none rfl (p_move rfl) ?_
  refine r_nil ?_
  refine e_next ?_
  refine c_block ?_
  refine c_nilrow 48 1 ?_
  refine c_name (d := 0) rfl (fun u_2 hu_2 => ?_)
  refine c_name (d := 1) rfl (fun u_3 hu_3 => ?_)
  refine c_name (d := 4) rfl (fun u_4 hu_4 => ?_)
  refine c_name (d := 9) rfl (fun u_5 hu_5 => ?_)
  refine c_name (d := 10) rfl (fun u_6 hu_6 => ?_)
  refine c_nameL (k := 1) rfl (fun A_7 hA_7 => ?_)
  refine c_loop (σ := Nat × Value × List (List ST × Value) × Ghost) (fun s => [(11, Value.int .i64 (s.1 : Nat)), (5, s.2.1), (0, u_2), (1, u_3), (4, u_4), (9, u_5), (10, u_6)]) (fun s => [rowA (s.2.1) 48 1 (s.2.2.1).length ((s.2.2.1).flatMap lC), A_7]) (fun s => s.2.2.2) (fun s => s.1 ≤ rs.length ∧ s.2.2.1.map Prod.fst = schains (es.map Prod.fst) ((rs.map Prod.fst).take s.1) ∧ StC s.2.2.2 s.2.2.1 ∧ GNew w F G s.2.2.2) (fun s => rs.length - s.1) ((0, _, [], _)) ⟨Nat.zero_le _, by simp [schains], by simp [StC], GNew.refl _ _ _⟩ rfl ⟨rfl, rfl, rfl, rfl, rfl, rfl, rfl, trivial⟩ (.keep (fun _ _ h => rowA_nil rfl _ _ h) (.keep (fun _ _ h => h) (.nil))) (fun s hphi => ?_)
  subst hu_2
  subst hu_3
  subst hu_4
  subst hu_5
  subst hu_6
  subst hA_7
  obtain ⟨k, v, z, H⟩ := s
  obtain ⟨hk, hzq, hzc, hgn⟩ := hphi
  dsimp only at hk hzq hzc hgn ⊢
  have hzl : z.length = (schains (es.map Prod.fst) ((rs.map Prod.fst).take k)).length := by have := congrArg List.length hzq; simpa using this
  have hcl := schains_len ((rs.map Prod.fst).take k) (es.map Prod.fst)
  have hst0 := sszL_take_le (rs.map Prod.fst) k
  have hll := sszL_len (rs.map Prod.fst)
  rw [List.length_map] at hll
  have hm9 : (es ++ rs.take k).map Prod.fst = es.map Prod.fst ++ (rs.map Prod.fst).take k := by rw [List.map_append, List.map_take]
  refine c_row1 (k := 0) rfl (fun ov => ?_)
  refine c_rowlen (k := 0) rfl (fun l63 => ?_)
  replace hr := hr.mono hgn.le
  replace hpt := fun p hm0 => (hpt p hm0).mono hgn.le
  replace hps := fun p hm0 => (hps p hm0).mono hgn.le
  replace het := fun p hm0 => (het p hm0).mono hgn.le
  replace hes := fun p hm0 => (hes p hm0).mono hgn.le
  refine c_seq ?_
  refine c_region ?_
  refine r_val .none rfl (p_lt rfl rfl) ?_
  refine r_nil ?_
  refine e_next ?_
  refine c_seq ?_
  refine c_splitd (d := 12) rfl (fun h_8 => ?_) (fun h_8 => ?_)
  · skip
    first
      | (exfalso; omega)
      | (
        refine c_cond_t rfl ?_
        refine c_skip ?_
        refine e_next ?_
        refine c_seq ?_
        refine c_block ?_
        refine c_seq ?_
        refine c_region ?_
        refine r_val .none rfl (p_move rfl) ?_
        refine r_iaddr_g .none rfl Try.underlying48 sz70 rfl hr rfl (by first | exact of_decide_eq_true rfl | omega) (fun p_10 o_11 R_9 => ?_)
        have ht_12 := hpt _ (getD_mem (i := k) (d := s0) (by omega))
        have hc_13 := hps _ (getD_mem (i := k) (d := s0) (by omega))
        have hkl := sszL_len ((rs.map Prod.fst).take k)
        rw [List.length_take, List.length_map] at hkl
        have hsk := sszL_take (rs := rs) (k := k) (by omega)
        have hsk2 := sszL_take_le (rs.map Prod.fst) (k + 1)
        have hsq := ssz_eq (rs.getD k s0).1
        refine r_val .none rfl (p_ldga0 Try.underlying70 rfl sz70 rfl R_9 (by first | exact of_decide_eq_true rfl | omega) (rfl : _ = Value.agg #[_, _, _, _, _, _])) ?_
        refine r_alloc .none rfl zr70 (IsRow.lit _) (fun b_1 => ?_)
        refine r_val .none rfl (p_assign rfl) ?_
        refine r_stw (k := 0) .none sz70 rfl rfl (IsRow.lit _) (one_lit rfl (all_cons rfl (all_cons rfl (all_cons rfl (all_cons rfl (all_cons (ht_12).one (all_cons (hc_13).one rfl))))))) rfl ?_
        refine r_nil ?_
        refine e_next ?_
        refine c_seq ?_
        refine c_region ?_
        refine r_val .none rfl (p_assign rfl) ?_
        refine r_nil ?_
        refine e_next ?_
        refine c_seq ?_
        refine c_region ?_
        refine r_val .none rfl (p_move rfl) ?_
        refine r_val .none rfl (p_move rfl) ?_
        refine r_nilrow 70 6 ?_
        refine r_append_o (k := 0) (k2 := 3) .none rfl Try.underlying48 el70 rfl (by decide) rfl rfl rfl rfl (ss_all het hes) (by simp only [maxLen]; omega) (by omega) (fun v_15 => ?_)
        refine r_row1 (k := 0) rfl (fun o_16 => ?_)
        refine r_val .none rfl (p_assign rfl) ?_
        refine r_nil ?_
        refine e_next ?_
        refine c_seq ?_
        refine c_region ?_
        refine r_val .none rfl (p_move rfl) ?_
        refine r_val .none rfl (p_move rfl) ?_
        refine r_val .none rfl (p_move rfl) ?_
        refine r_slice0 (k) .none rfl Try.underlying48 sz70 rfl hr rfl (by first | exact of_decide_eq_true rfl | omega) (fun v_17 hs_18 => ?_)
        have hpt9_20 := ss_take (by omega) hs_18
        refine r_append_g (k := 0) .none rfl Try.underlying48 el70 rfl (by decide) rfl rfl rfl hpt9_20 (ss_ones (fun p hm0 => hpt p (List.mem_of_mem_take hm0)) (fun p hm0 => hps p (List.mem_of_mem_take hm0))) (by rw [List.length_take]; simp only [maxLen]; omega) (by rw [List.length_take]; omega) (fun v_21 => ?_)
        refine r_row1 (k := 0) rfl (fun o_22 => ?_)
        refine r_conv (B := rowA v_21 _ 6 (es ++ rs.take k).length ((es ++ rs.take k).flatMap sC)) (k := 0) rfl (fun _ _ h => rowA_congr (by simp) (by rw [List.nil_append, flat_all (cells := sC) (fun _ => rfl), List.flatMap_append]) _ _ h) ?_
        refine r_val .none rfl (p_assign rfl) ?_
        refine r_nil ?_
        refine e_next ?_
        refine c_seq ?_
        refine c_seq ?_
        refine c_region ?_
        refine r_val .none rfl (p_field Try.underlying70 rfl sz3 rfl) ?_
        refine r_val .none rfl (p_ld (k := 1) Try.underlying3 rfl rfl rfl (by first | exact of_decide_eq_true rfl | omega) (rfl : _ = Value.int _ _)) ?_
        refine r_val .none rfl (p_eq rfl rfl) ?_
        refine r_nil ?_
        refine e_next ?_
        refine c_splitd (d := 26) rfl (fun h_23 => ?_) (fun h_23 => ?_)
        · skip
          have hk3 := h_23
          first
            | (exfalso; omega)
            | (
              refine c_cond_t rfl ?_
              refine c_region ?_
              refine r_val .none rfl (p_move rfl) ?_
              refine r_val .none rfl (p_move rfl) ?_
              refine r_val .none rfl (p_field Try.underlying70 rfl sz48 rfl) ?_
              refine r_val .none rfl (p_ld (k := 1) Try.underlying48 rfl rfl rfl (by first | exact of_decide_eq_true rfl | omega) rfl) ?_
              refine r_callom (k := 0) (vs := [_, _]) .none rfl cl28 rfl rfl (fun w F hw hA hFG => ih _ _ _ _ _ _ w (Nat.le_of_lt_succ (Nat.lt_of_lt_of_le (ssub_size (by omega)) hz)) (by rw [List.length_append, List.length_take]; omega) (fun p hm0 => by rcases List.mem_append.1 hm0 with h | h; exact het p h; exact hpt p (List.mem_of_mem_take h)) (fun p hm0 => by rcases List.mem_append.1 hm0 with h | h; exact hes p h; exact hps p (List.mem_of_mem_take h)) hc_13 hw hA hFG) (fun G_24 v_27 hn_25 hr_26 => ?_)
              replace hr := hr.mono hn_25.le
              replace hpt := fun p hm0 => (hpt p hm0).mono hn_25.le
              replace hps := fun p hm0 => (hps p hm0).mono hn_25.le
              replace het := fun p hm0 => (het p hm0).mono hn_25.le
              replace hes := fun p hm0 => (hes p hm0).mono hn_25.le
              replace hzc := StC.mono hzc hn_25.le
              replace R_9 := R_9.mono hn_25.le
              replace ht_12 := ht_12.mono hn_25.le
              replace hc_13 := hc_13.mono hn_25.le
              replace hs_18 := hs_18.mono hn_25.le
              replace hpt9_20 := hpt9_20.mono hn_25.le
              obtain ⟨u_28z, u_28h, u_28p, u_28q⟩ := hr_26
              rw [hm9] at u_28q
              refine r_append_g (k := 2) .none rfl Try.underlying57 el48 rfl (by decide) rfl rfl rfl u_28h (ss_one1 u_28p) (by have h9 := congrArg List.length u_28q; rw [List.length_map] at h9; have h8 := schains_len (rs.getD k s0).1.subs (es.map Prod.fst ++ (rs.map Prod.fst).take k); simp only [maxLen]; omega) (by have h9 := congrArg List.length u_28q; rw [List.length_map] at h9; have h8 := schains_len (rs.getD k s0).1.subs (es.map Prod.fst ++ (rs.map Prod.fst).take k); omega) (fun v_29 => ?_)
              refine r_row1 (k := 2) rfl (fun o_30 => ?_)
              refine r_conv (B := rowA v_29 _ 1 (z ++ u_28z).length ((z ++ u_28z).flatMap lC)) (k := 2) rfl (fun _ _ h => rowA_congr (by simp) (by rw [flat_all (cells := lC) (fun _ => rfl), List.flatMap_append]) _ _ h) ?_
              refine r_val .none rfl (p_assign rfl) ?_
              refine r_nil ?_
              refine e_next ?_
              refine c_seq ?_
              refine c_region ?_
              refine r_val .none rfl (p_move rfl) ?_
              refine r_val .none rfl (p_ldw (k := 1) Try.underlying70 rfl sz70 rfl rfl (rfl : _ = Value.agg #[_, _, _, _, _, _])) ?_
              refine r_bslice (vs := [(0, Value.agg #[_, _, _, _, _, _])]) (c := #[_, _, _, _, _, _]) .none rfl Try.underlying48 el70 rfl rfl rfl (bs70_10a6 _ _ _ _ _ _) (IsRow.lit _) (fun b_2 => ?_)
              refine r_append (k := 1) (k2 := 0) .none rfl Try.underlying48 el70 rfl (by decide) rfl rfl rfl rfl rfl (one_lit rfl (all_cons rfl (all_cons rfl (all_cons rfl (all_cons rfl (all_cons (ht_12).one (all_cons (hc_13).one rfl))))))) (by rw [List.length_append, List.length_take]; simp only [maxLen]; omega) (by rw [List.length_append, List.length_take]; omega) (fun v_31 => ?_)
              refine r_row1 (k := 1) rfl (fun o_32 => ?_)
              refine r_val .none rfl (p_assign rfl) ?_
              refine r_nil ?_
              refine e_next ?_
              refine c_region ?_
              refine r_val .none rfl (p_move rfl) ?_
              refine r_val .none rfl (p_move rfl) ?_
              refine r_freeze (k := 1) rfl (fun G_33 hn_34 hs_35 => ?_)
              replace hr := hr.mono hn_34.le
              replace hpt := fun p hm0 => (hpt p hm0).mono hn_34.le
              replace hps := fun p hm0 => (hps p hm0).mono hn_34.le
              replace het := fun p hm0 => (het p hm0).mono hn_34.le
              replace hes := fun p hm0 => (hes p hm0).mono hn_34.le
              replace hzc := StC.mono hzc hn_34.le
              replace R_9 := R_9.mono hn_34.le
              replace ht_12 := ht_12.mono hn_34.le
              replace hc_13 := hc_13.mono hn_34.le
              replace hs_18 := hs_18.mono hn_34.le
              replace hpt9_20 := hpt9_20.mono hn_34.le
              replace u_28h := u_28h.mono hn_34.le
              replace u_28p := StC.mono u_28p hn_34.le
              have hs2 : SlL G_33 v_31 6 sC s0 ((es ++ rs.take k) ++ [rs.getD k s0]) := SlL.of2 s0 (fun _ => rfl) (by simp [Nat.add_assoc]) (by rw [List.flatMap_append (xs := es ++ rs.take k), List.flatMap_cons, List.flatMap_nil, List.append_nil]; rfl) hs_35
              have hva2 : Ss G_33 v_31 (es.map Prod.fst ++ (rs.map Prod.fst).take k ++ [(rs.getD k s0).1]) := by have h := Ss.mk _ hs2 (fun p hm0 => by rcases List.mem_append.1 hm0 with h | h; rcases List.mem_append.1 h with h | h; exact het p h; exact hpt p (List.mem_of_mem_take h); rw [List.mem_singleton.1 h]; exact ht_12) (fun p hm0 => by rcases List.mem_append.1 hm0 with h | h; rcases List.mem_append.1 h with h | h; exact hes p h; exact hps p (List.mem_of_mem_take h); rw [List.mem_singleton.1 h]; exact hc_13); rw [List.map_append, hm9] at h; exact h
              obtain ⟨a_36, c_37, rfl⟩ := SlG.len hs2
              refine r_bslice (vs := [(0, Value.slice _ _ _)]) (c := #[_]) .none rfl Try.underlying57 el48 rfl rfl rfl (bs48_10s3 _ _ _) (IsRow.lit _) (fun b_3 => ?_)
              refine r_append (k := 3) (k2 := 0) .none rfl Try.underlying57 el48 rfl (by decide) rfl rfl rfl rfl rfl (one_lit rfl rfl) (by first | (simp only [maxLen]; omega) | (have h9 := congrArg List.length u_28q; rw [List.length_map] at h9; have h8 := schains_len (rs.getD k s0).1.subs (es.map Prod.fst ++ (rs.map Prod.fst).take k); rw [List.length_append]; simp only [maxLen]; omega)) (by first | omega | (have h9 := congrArg List.length u_28q; rw [List.length_map] at h9; have h8 := schains_len (rs.getD k s0).1.subs (es.map Prod.fst ++ (rs.map Prod.fst).take k); rw [List.length_append]; omega)) (fun v_38 => ?_)
              refine r_row1 (k := 3) rfl (fun o_39 => ?_)
              refine r_val .none rfl (p_assign rfl) ?_
              refine r_nil ?_
              refine e_norm_block ?_
              refine e_next ?_
              refine c_region ?_
              refine r_val .none rfl (p_add rfl rfl (by omega)) ?_
              refine r_val .none rfl (p_move rfl) ?_
              refine r_nil ?_
              refine e_round ((k + 1, _, (z ++ u_28z) ++ [(es.map Prod.fst ++ (rs.map Prod.fst).take k ++ [(rs.getD k s0).1], Value.slice a_36 ((es ++ rs.take k) ++ [rs.getD k s0]).length c_37)], _)) ⟨⟨by dsimp only; omega, by rw [schains_take (by omega), schain1_ncc hk3, List.map_append, List.map_append, hzq, ← u_28q, List.append_assoc]; rfl, StC.snoc (StC.app hzc u_28p) hva2, ((hgn.trans hn_25).trans hn_34)⟩, by dsimp only; omega⟩ rfl ⟨rfl, rfl, rfl, rfl, rfl, rfl, rfl, trivial⟩ (.drop (.drop (.drop (.keep (fun _ _ h => rowA_snoc (l := (z ++ u_28z)) (x := (es.map Prod.fst ++ (rs.map Prod.fst).take k ++ [(rs.getD k s0).1], Value.slice a_36 ((es ++ rs.take k) ++ [rs.getD k s0]).length c_37)) rfl rfl rfl rfl _ _ h) (.keep (fun _ _ h => h) (.nil))))))
              )
        · skip
          have hk3 := h_23
          first
            | (exfalso; omega)
            | (
              refine c_cond_f rfl ?_
              refine c_skip ?_
              refine e_next ?_
              refine c_seq ?_
              refine c_region ?_
              refine r_val .none rfl (p_move rfl) ?_
              refine r_val .none rfl (p_ldw (k := 1) Try.underlying70 rfl sz70 rfl rfl (rfl : _ = Value.agg #[_, _, _, _, _, _])) ?_
              refine r_bslice (vs := [(0, Value.agg #[_, _, _, _, _, _])]) (c := #[_, _, _, _, _, _]) .none rfl Try.underlying48 el70 rfl rfl rfl (bs70_10a6 _ _ _ _ _ _) (IsRow.lit _) (fun b_4 => ?_)
              refine r_append (k := 1) (k2 := 0) .none rfl Try.underlying48 el70 rfl (by decide) rfl rfl rfl rfl rfl (one_lit rfl (all_cons rfl (all_cons rfl (all_cons rfl (all_cons rfl (all_cons (ht_12).one (all_cons (hc_13).one rfl))))))) (by rw [List.length_append, List.length_take]; simp only [maxLen]; omega) (by rw [List.length_append, List.length_take]; omega) (fun v_40 => ?_)
              refine r_row1 (k := 1) rfl (fun o_41 => ?_)
              refine r_val .none rfl (p_assign rfl) ?_
              refine r_nil ?_
              refine e_next ?_
              refine c_region ?_
              refine r_val .none rfl (p_move rfl) ?_
              refine r_val .none rfl (p_move rfl) ?_
              refine r_freeze (k := 1) rfl (fun G_42 hn_43 hs_44 => ?_)
              replace hr := hr.mono hn_43.le
              replace hpt := fun p hm0 => (hpt p hm0).mono hn_43.le
              replace hps := fun p hm0 => (hps p hm0).mono hn_43.le
              replace het := fun p hm0 => (het p hm0).mono hn_43.le
              replace hes := fun p hm0 => (hes p hm0).mono hn_43.le
              replace hzc := StC.mono hzc hn_43.le
              replace R_9 := R_9.mono hn_43.le
              replace ht_12 := ht_12.mono hn_43.le
              replace hc_13 := hc_13.mono hn_43.le
              replace hs_18 := hs_18.mono hn_43.le
              replace hpt9_20 := hpt9_20.mono hn_43.le
              have hs2 : SlL G_42 v_40 6 sC s0 ((es ++ rs.take k) ++ [rs.getD k s0]) := SlL.of2 s0 (fun _ => rfl) (by simp [Nat.add_assoc]) (by rw [List.flatMap_append (xs := es ++ rs.take k), List.flatMap_cons, List.flatMap_nil, List.append_nil]; rfl) hs_44
              have hva2 : Ss G_42 v_40 (es.map Prod.fst ++ (rs.map Prod.fst).take k ++ [(rs.getD k s0).1]) := by have h := Ss.mk _ hs2 (fun p hm0 => by rcases List.mem_append.1 hm0 with h | h; rcases List.mem_append.1 h with h | h; exact het p h; exact hpt p (List.mem_of_mem_take h); rw [List.mem_singleton.1 h]; exact ht_12) (fun p hm0 => by rcases List.mem_append.1 hm0 with h | h; rcases List.mem_append.1 h with h | h; exact hes p h; exact hps p (List.mem_of_mem_take h); rw [List.mem_singleton.1 h]; exact hc_13); rw [List.map_append, hm9] at h; exact h
              obtain ⟨a_45, c_46, rfl⟩ := SlG.len hs2
              refine r_bslice (vs := [(0, Value.slice _ _ _)]) (c := #[_]) .none rfl Try.underlying57 el48 rfl rfl rfl (bs48_10s3 _ _ _) (IsRow.lit _) (fun b_5 => ?_)
              refine r_append (k := 3) (k2 := 0) .none rfl Try.underlying57 el48 rfl (by decide) rfl rfl rfl rfl rfl (one_lit rfl rfl) (by first | (simp only [maxLen]; omega) | (have h9 := congrArg List.length q; rw [List.length_map] at h9; have h8 := schains_len (rs.getD k s0).1.subs (es.map Prod.fst ++ (rs.map Prod.fst).take k); rw [List.length_append]; simp only [maxLen]; omega)) (by first | omega | (have h9 := congrArg List.length q; rw [List.length_map] at h9; have h8 := schains_len (rs.getD k s0).1.subs (es.map Prod.fst ++ (rs.map Prod.fst).take k); rw [List.length_append]; omega)) (fun v_47 => ?_)
              refine r_row1 (k := 3) rfl (fun o_48 => ?_)
              refine r_val .none rfl (p_assign rfl) ?_
              refine r_nil ?_
              refine e_norm_block ?_
              refine e_next ?_
              refine c_region ?_
              refine r_val .none rfl (p_add rfl rfl (by omega)) ?_
              refine r_val .none rfl (p_move rfl) ?_
              refine r_nil ?_
              refine e_round ((k + 1, _, z ++ [(es.map Prod.fst ++ (rs.map Prod.fst).take k ++ [(rs.getD k s0).1], Value.slice a_45 ((es ++ rs.take k) ++ [rs.getD k s0]).length c_46)], _)) ⟨⟨by dsimp only; omega, by rw [schains_take (by omega), schain1_other hk3, List.map_append, hzq]; rfl, StC.snoc hzc hva2, (hgn.trans hn_43)⟩, by dsimp only; omega⟩ rfl ⟨rfl, rfl, rfl, rfl, rfl, rfl, rfl, trivial⟩ (.drop (.drop (.drop (.keep (fun _ _ h => rowA_snoc (l := z) (x := (es.map Prod.fst ++ (rs.map Prod.fst).take k ++ [(rs.getD k s0).1], Value.slice a_45 ((es ++ rs.take k) ++ [rs.getD k s0]).length c_46)) rfl rfl rfl rfl _ _ h) (.keep (fun _ _ h => h) (.nil))))))
              )
        )
  · skip
    first
      | (exfalso; omega)
      | (
        refine c_cond_f rfl ?_
        refine c_exit ?_
        refine e_exit_then ?_
        refine e_exit_then ?_
        refine e_exit_block ?_
        refine e_next ?_
        refine c_seq ?_
        refine c_region ?_
        refine r_val .none rfl (p_move rfl) ?_
        refine r_val .none rfl (p_assign rfl) ?_
        refine r_nil ?_
        refine e_next ?_
        refine c_ret ?_
        refine e_freeze (k := 0) rfl (fun G_49 hn_50 hs_51 => ?_)
        replace hr := hr.mono hn_50.le
        replace hpt := fun p hm0 => (hpt p hm0).mono hn_50.le
        replace hps := fun p hm0 => (hps p hm0).mono hn_50.le
        replace het := fun p hm0 => (het p hm0).mono hn_50.le
        replace hes := fun p hm0 => (hes p hm0).mono hn_50.le
        replace hzc := StC.mono hzc hn_50.le
        refine e_ret1 Try.results28 (.tmp rfl .nil) (fun w hm => ⟨_, (hgn.trans hn_50), hm.has, ?_, hm.keptG [rowA _ 70 6 es.length (es.flatMap sC)] (.keep (fun _ _ h => h) (.nil)) _ (fun F' h => starL_one h)⟩)
        rw [show schains (es.map Prod.fst) (rs.map Prod.fst) = z.map Prod.fst by rw [hzq, List.take_of_length_le (by simp; omega)]]
        exact Ls.mk z (SlL.of (([] : List ST), Value.slice none 0 0) (fun _ => rfl) rfl hs_51) hzc
        )
theorem c_rchS_n : ∀ n, RchSIs n
  | 0 => fun va vl es l G F w hz _ _ _ _ _ _ _ => absurd hz (by cases l <;> simp)
  | n + 1 => fun va vl es l G F w hz hsz het hes hs hG hA hFG => c_rchS_s n (c_rchS_n n) va vl es l hz hsz het hes hs w hG hA hFG
theorem c_rchS (va vl : Value) (es : List SVal) (l : List ST) {G : Ghost} {F : Nat → Prop} (hsz : es.length + sszL l ≤ 5000) (het : ∀ p ∈ es, SlL G p.2.1 3 tC t0 p.1.h.ts) (hes : ∀ p ∈ es, Ss G p.2.2 p.1.subs) (hs : Ss G vl l) (w : World) (hG : Has G w) (hA : (rowA va 70 6 es.length (es.flatMap sC)).holds w F) (hFG : ∀ b, F b → G b = none) : Calls Try.prog 28 #[va, vl] w (Ret fun r w' => ∃ G', GNew w F G G' ∧ Has G' w' ∧ Ls (fun G v l => Ss G v l) ([] : List ST) G' r (schains (es.map Prod.fst) l) ∧ KeptG (rowA va 70 6 es.length (es.flatMap sC)) F G' w w') := c_rchS_n _ va vl es l G F w (Nat.le_refl _) hsz het hes hs hG hA hFG
end Go.Proofs.Ytoflaphnlfggkaa

/- Walks: what Go functions of this chapter come to, each as a function on plain data; no condition but those that each theorem names. Printed by a program of this work (gen.py). -/
namespace Go.Proofs.Ytoflaphnlfggkaa
open Go.Gx Go.Gx.T4 Go.Gx.T3 Go.Gx.T6 Go.Gx.T8 Go.Gx.T4 Go.Gx.T3 Go.Gx.T8 Go.Gx.T4 Go.Gx.T3 Go.Gx.T8 Go.Gx.T6 Go.Gx.T4 Go.Gx.T3
theorem lf60 : leafT Try.prog 9 60 = some [3, 3, 3] := by
  kernel_rfl
theorem ef60 : eqT Try.prog 9 60 = true := by
  kernel_rfl
theorem lf96 : leafT Try.prog 9 96 = some [3, 3, 3] := by
  kernel_rfl
theorem ef96 : eqT Try.prog 9 96 = true := by
  kernel_rfl
theorem eg60 : Try.prog.eqGuardType Try.prog.depth 60 = false := by
  kernel_rfl
theorem eg96 : Try.prog.eqGuardType Try.prog.depth 96 = false := by
  kernel_rfl
theorem cl32 : Callable Try.prog 32 := callable Try.func32 (by kernel_rfl) rfl
theorem cl33 : Callable Try.prog 33 := callable Try.func33 (by kernel_rfl) rfl
theorem bl70_0i1_1a3 (x0 : Int) (x1 : Value) (x2 : Value) (x3 : Value) : Program.built Try.prog 70 [(0, Value.int .i64 x0), (1, Value.agg #[x1, x2, x3])] = some #[Value.int .i64 x0, x1, x2, x3, Value.slice none 0 0, Value.slice none 0 0] := by
  kernel_rfl
def RsameSIs (n : Nat) : Prop := ∀ (c c2 : ST) (ta sb ta2 sb2 : Value) (G : Ghost) (w : World), SizeOf.sizeOf c ≤ n → SlL G ta 3 tC t0 c.h.ts → Ss G sb c.subs → SlL G ta2 3 tC t0 c2.h.ts → Ss G sb2 c2.subs → Has G w → Calls Try.prog 32 #[Value.agg #[Value.int .i64 c.h.k, Value.int .i64 c.h.k0, Value.int .i64 c.h.k1, Value.int .i64 c.h.k2, ta, sb], Value.agg #[Value.int .i64 c2.h.k, Value.int .i64 c2.h.k0, Value.int .i64 c2.h.k1, Value.int .i64 c2.h.k2, ta2, sb2]] w (Ret fun r w' => r = Value.bool (seq c c2) ∧ Since nX w w')
def SrefIs (n : Nat) : Prop := ∀ (c : ST) (ta sb : Value) (G : Ghost) (w : World), SizeOf.sizeOf c ≤ n → ssz c ≤ 5000 → SlL G ta 3 tC t0 c.h.ts → Ss G sb c.subs → Has G w → Calls Try.prog 33 #[Value.agg #[Value.int .i64 c.h.k, Value.int .i64 c.h.k0, Value.int .i64 c.h.k1, Value.int .i64 c.h.k2, ta, sb]] w (Ret fun r w' => ∃ G', GNew w nX G G' ∧ Has G' w' ∧ (∃ ua ub, r = Value.agg #[Value.int .i64 (c).h.k, Value.int .i64 (c).h.k0, Value.int .i64 (c).h.k1, Value.int .i64 (c).h.k2, ua, ub] ∧ SlL G' ua 3 tC t0 (c).h.ts ∧ Ss G' ub (c).subs) ∧ Since nX w w')
theorem c_sref_s (n : Nat) (ih : SrefIs n) (c : ST) (ta sb : Value) {G : Ghost} (hz : SizeOf.sizeOf c ≤ n + 1) (hsz : ssz c ≤ 5000) (ht : SlL G ta 3 tC t0 c.h.ts) (hs : Ss G sb c.subs) (w : World) (hG : Has G w) :
    Calls Try.prog 33 #[Value.agg #[Value.int .i64 c.h.k, Value.int .i64 c.h.k0, Value.int .i64 c.h.k1, Value.int .i64 c.h.k2, ta, sb]] w (Ret fun r w' => ∃ G', GNew w nX G G' ∧ Has G' w' ∧ (∃ ua ub, r = Value.agg #[Value.int .i64 (c).h.k, Value.int .i64 (c).h.k0, Value.int .i64 (c).h.k1, Value.int .i64 (c).h.k2, ua, ub] ∧ SlL G' ua 3 tC t0 (c).h.ts ∧ Ss G' ub (c).subs) ∧ Since nX w w') := by
  refine enter (args := [_]) (X := nX) (G := G) (l := [(0, Value.agg #[Value.int .i64 c.h.k, Value.int .i64 c.h.k0, Value.int .i64 c.h.k1, Value.int .i64 c.h.k2, ta, sb])]) Try.func33 rfl Try.ntmps33 hG ⟨rfl, trivial⟩ (Nat.le_of_ble_eq_true rfl) ?_
  obtain ⟨rs, hr, hrt, hrs, hl⟩ := hs.inv
  have hbd := hr.bound
  have hbd2 := ht.bound
  have hsq := ssz_eq c
  have hll := sszL_len c.subs
  have hlr : c.subs.length = rs.length := by rw [hl]; simp
  refine c_seq ?_
  refine c_region ?_
  refine r_box .none rfl rfl (IsRow.lit _) (fun b_1 => ?_)
  refine r_alloc .none rfl zr70 (IsRow.lit _) (fun b_2 => ?_)
  refine r_nil ?_
  refine e_next ?_
  refine c_seq ?_
  refine c_region ?_
  refine r_val .none rfl (p_field Try.underlying64 rfl sz3 rfl) ?_
  refine r_val .none rfl (p_ld (k := 1) Try.underlying3 rfl rfl rfl (by first | exact of_decide_eq_true rfl | omega) (rfl : _ = Value.int _ _)) ?_
  refine r_val .none rfl (p_field Try.underlying64 rfl sz61 rfl) ?_
  refine r_val .none rfl (p_lda (k := 1) Try.underlying61 rfl sz61 rfl rfl (by first | exact of_decide_eq_true rfl | omega) (rfl : _ = Value.agg #[_, _, _])) ?_
  refine r_val .none rfl (p_build (vs := [(0, Value.int _ _), (1, Value.agg #[_, _, _])]) rfl (bl70_0i1_1a3 _ _ _ _)) ?_
  refine r_alloc .none rfl zr70 (IsRow.lit _) (fun b_3 => ?_)
  refine r_stw (k := 0) .none sz70 rfl rfl (IsRow.lit _) (one_lit rfl rfl) rfl ?_
  refine r_nil ?_
  refine e_next ?_
  refine c_seq ?_
  refine c_seq ?_
  refine c_region ?_
  refine r_val .none rfl (p_field Try.underlying64 rfl sz62 rfl) ?_
  refine r_val .none rfl (p_ld (k := 2) Try.underlying62 rfl rfl rfl (by first | exact of_decide_eq_true rfl | omega) rfl) ?_
  refine r_val .none rfl (p_leng Try.underlying62 rfl ht) ?_
  have bd_1 := (ht).bound
  refine r_val .none rfl (p_move rfl) ?_
  refine r_nil ?_
  refine e_next ?_
  refine c_block ?_
  refine c_nilrow 96 3 ?_
  refine c_name (d := 1) rfl (fun u_2 hu_2 => ?_)
  refine c_name (d := 2) rfl (fun u_3 hu_3 => ?_)
  refine c_name (d := 3) rfl (fun u_4 hu_4 => ?_)
  refine c_name (d := 14) rfl (fun u_5 hu_5 => ?_)
  refine c_name (d := 15) rfl (fun u_6 hu_6 => ?_)
  refine c_nameL (k := 2) rfl (fun A_7 hA_7 => ?_)
  refine c_nameL (k := 3) rfl (fun A_8 hA_8 => ?_)
  refine c_loop (σ := Nat × Value) (fun s => [(16, Value.int .i64 (s.1 : Nat)), (1, u_2), (2, u_3), (3, u_4), (14, u_5), (15, u_6)]) (fun s => [rowA (s.2) 96 3 ((c.h.ts.take s.1)).length (((c.h.ts.take s.1)).flatMap tC), box b_3 6 70 (at_ [.int .i64 c.h.k, .int .i64 c.h.k0, .int .i64 c.h.k1, .int .i64 c.h.k2, s.2, .slice none 0 0]), A_7, A_8]) (fun _ => _) (fun s => s.1 ≤ c.h.ts.length) (fun s => c.h.ts.length - s.1) ((0, _)) (Nat.zero_le _) rfl ⟨rfl, rfl, rfl, rfl, rfl, rfl, trivial⟩ (.keep (fun _ _ h => rowA_nil rfl _ _ h) (.keep (fun _ _ h => box_congr (fun i hi => by match i, hi with | 0, _ => rfl | 1, _ => rfl | 2, _ => rfl | 3, _ => rfl | 4, _ => rfl | 5, _ => rfl) _ _ h) (.keep (fun _ _ h => h) (.keep (fun _ _ h => h) (.nil))))) (fun s hphi => ?_)
  subst hu_2
  subst hu_3
  subst hu_4
  subst hu_5
  subst hu_6
  subst hA_7
  subst hA_8
  obtain ⟨j, tv⟩ := s
  dsimp only at hphi ⊢
  refine c_row1 (k := 0) rfl (fun ov => ?_)
  refine c_rowlen (k := 0) rfl (fun l63 => ?_)
  refine c_seq ?_
  refine c_region ?_
  refine r_val .none rfl (p_lt rfl rfl) ?_
  refine r_nil ?_
  refine e_next ?_
  refine c_seq ?_
  refine c_splitd (d := 17) rfl (fun h_9 => ?_) (fun h_9 => ?_)
  · skip
    first
      | (exfalso; omega)
      | (
        refine c_cond_t rfl ?_
        refine c_skip ?_
        refine e_next ?_
        refine c_seq ?_
        refine c_block ?_
        refine c_seq ?_
        refine c_region ?_
        refine r_iaddr_g .none rfl Try.underlying62 sz92 rfl ht rfl (by first | exact of_decide_eq_true rfl | omega) (fun p_11 o_12 R_10 => ?_)
        refine r_val .none rfl (p_ldga0 Try.underlying92 rfl sz92 rfl R_10 (by first | exact of_decide_eq_true rfl | omega) (rfl : _ = Value.agg #[_, _, _])) ?_
        refine r_alloc .none rfl zr92 (IsRow.lit _) (fun b_4 => ?_)
        refine r_stw (k := 0) .none sz92 rfl rfl (IsRow.lit _) (one_lit rfl rfl) rfl ?_
        refine r_nil ?_
        refine e_next ?_
        refine c_region ?_
        refine r_val .none rfl (p_field Try.underlying70 rfl sz68 rfl) ?_
        refine r_val .none rfl (p_ld (k := 2) Try.underlying68 rfl rfl rfl (by first | exact of_decide_eq_true rfl | omega) rfl) ?_
        refine r_val .none rfl (p_field Try.underlying92 rfl sz3 rfl) ?_
        refine r_val .none rfl (p_ld (k := 0) Try.underlying3 rfl rfl rfl (by first | exact of_decide_eq_true rfl | omega) (rfl : _ = Value.int _ _)) ?_
        refine r_val .none rfl (p_field Try.underlying92 rfl sz3 rfl) ?_
        refine r_val .none rfl (p_ld (k := 0) Try.underlying3 rfl rfl rfl (by first | exact of_decide_eq_true rfl | omega) (rfl : _ = Value.int _ _)) ?_
        refine r_val .none rfl (p_field Try.underlying92 rfl sz3 rfl) ?_
        refine r_val .none rfl (p_ld (k := 0) Try.underlying3 rfl rfl rfl (by first | exact of_decide_eq_true rfl | omega) (rfl : _ = Value.int _ _)) ?_
        refine r_val .none rfl (p_build (vs := [(0, Value.int _ _), (1, Value.int _ _), (2, Value.int _ _)]) rfl (bl96_0i1_1i1_2i1 _ _ _)) ?_
        refine r_bslice (vs := [(0, Value.agg #[_, _, _])]) (c := #[_, _, _]) .none rfl Try.underlying68 el96 rfl rfl rfl (bs96_10a3 _ _ _) (IsRow.lit _) (fun b_5 => ?_)
        refine r_append (k := 2) (k2 := 0) .none rfl Try.underlying68 el96 rfl (by decide) rfl rfl rfl rfl rfl (one_lit rfl rfl) (by rw [List.length_take]; simp only [maxLen]; omega) (by rw [List.length_take]; omega) (fun v_13 => ?_)
        refine r_row1 (k := 2) rfl (fun o_14 => ?_)
        refine r_val .none rfl (p_field Try.underlying70 rfl sz68 rfl) ?_
        refine r_st (k := 3) .none sz68 rfl rfl o_14 rfl (by first | exact of_decide_eq_true rfl | omega) ?_
        refine r_nil ?_
        refine e_norm_block ?_
        refine e_next ?_
        refine c_region ?_
        refine r_val .none rfl (p_add rfl rfl (by omega)) ?_
        refine r_val .none rfl (p_move rfl) ?_
        refine r_nil ?_
        refine e_round ((j + 1, _)) ⟨by dsimp only; omega, by dsimp only; omega⟩ rfl ⟨rfl, rfl, rfl, rfl, rfl, rfl, trivial⟩ (.drop (.drop (.keep (fun _ _ h => rowA_snoc (ts_next (by omega)) rfl rfl rfl _ _ h) (.keep (fun _ _ h => box_congr (fun i hi => by match i, hi with | 0, _ => rfl | 1, _ => rfl | 2, _ => rfl | 3, _ => rfl | 4, _ => rfl | 5, _ => rfl) _ _ h) (.keep (fun _ _ h => h) (.keep (fun _ _ h => h) (.nil)))))))
        )
  · skip
    first
      | (exfalso; omega)
      | (
        refine c_cond_f rfl ?_
        refine c_exit ?_
        refine e_exit_then ?_
        refine e_exit_then ?_
        refine e_exit_block ?_
        refine e_next ?_
        refine c_seq ?_
        refine c_seq ?_
        refine c_region ?_
        have hj2 : c.h.ts.take j = c.h.ts := List.take_of_length_le (by omega)
        refine r_freeze (k := 0) rfl (fun G_15 hn_16 hs_17 => ?_)
        replace ht := ht.mono hn_16.le
        replace hr := hr.mono hn_16.le
        replace hrt := fun p hm0 => (hrt p hm0).mono hn_16.le
        replace hrs := fun p hm0 => (hrs p hm0).mono hn_16.le
        have hts : SlL G_15 tv 3 tC t0 c.h.ts := SlL.of2 t0 (fun _ => rfl) (by rw [hj2]) (by rw [hj2]) hs_17
        refine r_val .none rfl (p_field Try.underlying64 rfl sz50 rfl) ?_
        refine r_val .none rfl (p_ld (k := 2) Try.underlying50 rfl rfl rfl (by first | exact of_decide_eq_true rfl | omega) rfl) ?_
        refine r_val .none rfl (p_leng Try.underlying50 rfl hr) ?_
        have bd_18 := (hr).bound
        refine r_val .none rfl (p_move rfl) ?_
        refine r_nil ?_
        refine e_next ?_
        refine c_block ?_
        refine c_nilrow 70 6 ?_
        refine c_name (d := 2) rfl (fun u_19 hu_19 => ?_)
        refine c_name (d := 3) rfl (fun u_20 hu_20 => ?_)
        refine c_name (d := 34) rfl (fun u_21 hu_21 => ?_)
        refine c_name (d := 35) rfl (fun u_22 hu_22 => ?_)
        refine c_nameL (k := 2) rfl (fun A_23 hA_23 => ?_)
        refine c_nameL (k := 3) rfl (fun A_24 hA_24 => ?_)
        refine c_loop (σ := Nat × Value × List SVal × Ghost) (fun s => [(36, Value.int .i64 (s.1 : Nat)), (2, u_19), (3, u_20), (34, u_21), (35, u_22)]) (fun s => [rowA (s.2.1) 70 6 (s.2.2.1).length ((s.2.2.1).flatMap sC), box b_3 6 70 (at_ [.int .i64 c.h.k, .int .i64 c.h.k0, .int .i64 c.h.k1, .int .i64 c.h.k2, tv, s.2.1]), A_23, A_24]) (fun s => s.2.2.2) (fun s => s.1 ≤ rs.length ∧ s.2.2.1.map Prod.fst = (rs.map Prod.fst).take s.1 ∧ (∀ p ∈ s.2.2.1, SlL s.2.2.2 p.2.1 3 tC t0 p.1.h.ts) ∧ (∀ p ∈ s.2.2.1, Ss s.2.2.2 p.2.2 p.1.subs) ∧ GNew w nX G_15 s.2.2.2) (fun s => rs.length - s.1) ((0, _, [], _)) ⟨Nat.zero_le _, rfl, by simp, by simp, GNew.refl _ _ _⟩ rfl ⟨rfl, rfl, rfl, rfl, rfl, trivial⟩ (.keep (fun _ _ h => rowA_nil rfl _ _ h) (.keep (fun _ _ h => box_congr (fun i hi => by match i, hi with | 0, _ => rfl | 1, _ => rfl | 2, _ => rfl | 3, _ => rfl | 4, _ => rfl | 5, _ => rfl) _ _ h) (.keep (fun _ _ h => h) (.keep (fun _ _ h => h) (.nil))))) (fun s hphi => ?_)
        subst hu_19
        subst hu_20
        subst hu_21
        subst hu_22
        subst hA_23
        subst hA_24
        obtain ⟨k, v, qs, H⟩ := s
        obtain ⟨hk, hq, hqt, hqs, hgn⟩ := hphi
        dsimp only at hk hq hqt hqs hgn ⊢
        have hql : qs.length ≤ k := (by have := congrArg List.length hq; simp at this; omega)
        refine c_row1 (k := 0) rfl (fun ov => ?_)
        refine c_rowlen (k := 0) rfl (fun l63 => ?_)
        replace ht := ht.mono hgn.le
        replace hr := hr.mono hgn.le
        replace hrt := fun p hm0 => (hrt p hm0).mono hgn.le
        replace hrs := fun p hm0 => (hrs p hm0).mono hgn.le
        replace hts := hts.mono hgn.le
        refine c_seq ?_
        refine c_region ?_
        refine r_val .none rfl (p_lt rfl rfl) ?_
        refine r_nil ?_
        refine e_next ?_
        refine c_seq ?_
        refine c_splitd (d := 37) rfl (fun h_25 => ?_) (fun h_25 => ?_)
        · skip
          first
            | (exfalso; omega)
            | (
              refine c_cond_t rfl ?_
              refine c_skip ?_
              refine e_next ?_
              refine c_seq ?_
              refine c_block ?_
              refine c_seq ?_
              refine c_region ?_
              refine r_iaddr_g .none rfl Try.underlying50 sz64 rfl hr rfl (by first | exact of_decide_eq_true rfl | omega) (fun p_27 o_28 R_26 => ?_)
              have ht_29 := hrt _ (getD_mem (i := k) (d := s0) (by omega))
              have hc_30 := hrs _ (getD_mem (i := k) (d := s0) (by omega))
              have hz8 : ssz (rs.getD k s0).1 ≤ 5000 := Nat.le_trans (sszL_mem (l := c.subs) (by rw [hl]; exact sv_mem (k := k) (by omega))) (by omega)
              refine r_val .none rfl (p_ldga0 Try.underlying64 rfl sz64 rfl R_26 (by first | exact of_decide_eq_true rfl | omega) (rfl : _ = Value.agg #[_, _, _, _, _, _])) ?_
              refine r_alloc .none rfl zr64 (IsRow.lit _) (fun b_6 => ?_)
              refine r_stw (k := 0) .none sz64 rfl rfl (IsRow.lit _) (one_lit rfl (all_cons rfl (all_cons rfl (all_cons rfl (all_cons rfl (all_cons (ht_29).one (all_cons (hc_30).one rfl))))))) rfl ?_
              refine r_nil ?_
              refine e_next ?_
              refine c_region_d (fun j => [5, 6, 7].contains j) _ mixed (.keep (fun _ _ h => h) (.keep (fun _ _ h => h) (.keep (fun _ _ h => h) (.keep (fun _ _ h => h) (.keep (fun _ _ h => h) (.nil)))))) ?_
              refine d_val1 0 rfl rfl (by kernel_rfl) (fun j hj => by have h : 7 < j := (Nat.lt_of_lt_of_le (by decide : 7 < 8) hj); simp; omega) .none rfl (p_field Try.underlying70 rfl sz48 rfl) ?_
              refine d_val1 1 rfl rfl (by kernel_rfl) (fun j hj => by have h : 7 < j := (Nat.lt_of_lt_of_le (by decide : 7 < 8) hj); simp; omega) .none rfl (p_ld (k := 2) Try.underlying48 rfl rfl rfl (by first | exact of_decide_eq_true rfl | omega) rfl) ?_
              refine d_val1 2 rfl rfl (by kernel_rfl) (fun j hj => by have h : 7 < j := (Nat.lt_of_lt_of_le (by decide : 7 < 8) hj); simp; omega) .none rfl (p_ldw (k := 0) Try.underlying64 rfl sz64 rfl rfl (rfl : _ = Value.agg #[_, _, _, _, _, _])) ?_
              refine d_eff 3 rfl (by kernel_rfl) (fun K_31 hKK_31 hcK_31 => ?_)
              refine r_callm (vs := [_]) .none rfl cl33 rfl (fun w hw => ih (rs.getD k s0).1 _ _ _ w (ssz_at hl (by omega) hz) hz8 ht_29 hc_30 hw) (fun G_32 v_35 hn_33 hr_34 => ?_)
              replace ht := ht.mono hn_33.le
              replace hr := hr.mono hn_33.le
              replace hrt := fun p hm0 => (hrt p hm0).mono hn_33.le
              replace hrs := fun p hm0 => (hrs p hm0).mono hn_33.le
              replace hts := hts.mono hn_33.le
              replace hqt := fun p hm0 => (hqt p hm0).mono hn_33.le
              replace hqs := fun p hm0 => (hqs p hm0).mono hn_33.le
              replace R_26 := R_26.mono hn_33.le
              replace ht_29 := ht_29.mono hn_33.le
              replace hc_30 := hc_30.mono hn_33.le
              obtain ⟨u_36a, u_36b, rfl, u_36s, u_36t⟩ := hr_34
              refine r_nil (e_d (i := 3) (brk := (fun j => [5, 6, 7].contains j)) (ph' := true) hKK_31 hcK_31 rfl (fun _ => hn_33.le) (fun _ => .keep (fun _ _ h => h) (.keep (fun _ _ h => h) (.keep (fun _ _ h => h) (.keep (fun _ _ h => h) (.keep (fun _ _ h => h) (.nil)))))) ?_)
              clear hKK_31 hcK_31 K_31
              refine d_eff 4 rfl (by kernel_rfl) (fun K_37 hKK_37 hcK_37 => ?_)
              refine r_bslice (vs := [(0, Value.agg #[_, _, _, _, _, _])]) (c := #[_, _, _, _, _, _]) .none rfl Try.underlying48 el70 rfl rfl rfl (bs70_10a6 _ _ _ _ _ _) (IsRow.lit _) (fun b_7 => ?_)
              refine r_nil (e_d (i := 4) (brk := (fun j => [5, 6, 7].contains j)) (ph' := true) hKK_37 hcK_37 rfl (fun _ => hn_33.le) (fun _ => .drop (.keep (fun _ _ h => h) (.keep (fun _ _ h => h) (.keep (fun _ _ h => h) (.keep (fun _ _ h => h) (.keep (fun _ _ h => h) (.nil))))))) ?_)
              clear hKK_37 hcK_37 K_37
              refine d_eff 5 rfl (by kernel_rfl) (fun K_38 hKK_38 hcK_38 => ?_)
              refine r_append (k := 2) (k2 := 0) .none rfl Try.underlying48 el70 rfl (by decide) rfl rfl rfl rfl rfl (one_lit rfl (all_cons rfl (all_cons rfl (all_cons rfl (all_cons rfl (all_cons (u_36s).one (all_cons (u_36t).one rfl))))))) (by simp only [maxLen]; omega) (by omega) (fun v_39 => ?_)
              refine r_row1 (k := 2) rfl (fun o_40 => ?_)
              refine r_nil (e_d (i := 5) (brk := (fun j => [5, 6, 7].contains j)) (ph' := false) hKK_38 hcK_38 rfl (fun h => by cases h) (fun h => by cases h) ?_)
              clear hKK_38 hcK_38 K_38
              refine d_val2 6 rfl rfl (by kernel_rfl) .none rfl (fun _ => p_field Try.underlying70 rfl sz48 rfl) ?_
              refine d_eff 7 rfl (by kernel_rfl) (fun K_41 hKK_41 hcK_41 => ?_)
              refine r_st (k := 3) .none sz48 rfl rfl o_40 rfl (by first | exact of_decide_eq_true rfl | omega) ?_
              refine r_nil (e_d (i := 7) (brk := (fun j => [5, 6, 7].contains j)) (ph' := false) hKK_41 hcK_41 rfl (fun h => by cases h) (fun h => by cases h) ?_)
              clear hKK_41 hcK_41 K_41
              refine d_nil (by kernel_rfl) ?_
              refine e_norm_block ?_
              refine e_next ?_
              refine c_region ?_
              refine r_val .none rfl (p_add rfl rfl (by omega)) ?_
              refine r_val .none rfl (p_move rfl) ?_
              refine r_nil ?_
              refine e_round ((k + 1, _, qs ++ [((rs.getD k s0).1, u_36a, u_36b)], _)) ⟨⟨by dsimp only; omega, by rw [sv_take (by omega), List.map_append, hq]; rfl, (fun p hp' => by rcases List.mem_append.1 hp' with h | h; exact hqt p h; rw [List.mem_singleton.1 h]; exact u_36s), (fun p hp' => by rcases List.mem_append.1 hp' with h | h; exact hqs p h; rw [List.mem_singleton.1 h]; exact u_36t), (hgn.trans hn_33)⟩, by dsimp only; omega⟩ rfl ⟨rfl, rfl, rfl, rfl, rfl, trivial⟩ (.drop (.drop (.keep (fun _ _ h => rowA_snoc (l := qs) (x := ((rs.getD k s0).1, u_36a, u_36b)) rfl rfl rfl rfl _ _ h) (.keep (fun _ _ h => box_congr (fun i hi => by match i, hi with | 0, _ => rfl | 1, _ => rfl | 2, _ => rfl | 3, _ => rfl | 4, _ => rfl | 5, _ => rfl) _ _ h) (.keep (fun _ _ h => h) (.keep (fun _ _ h => h) (.nil)))))))
              )
        · skip
          first
            | (exfalso; omega)
            | (
              refine c_cond_f rfl ?_
              refine c_exit ?_
              refine e_exit_then ?_
              refine e_exit_then ?_
              refine e_exit_block ?_
              refine e_next ?_
              refine c_seq ?_
              refine c_region ?_
              refine r_val .none rfl (p_ldw (k := 1) Try.underlying70 rfl sz70 rfl rfl (rfl : _ = Value.agg #[_, _, _, _, _, _])) ?_
              refine r_stw (k := 2) .none sz70 rfl rfl (IsRow.lit _) (one_lit rfl (all_cons rfl (all_cons rfl (all_cons rfl (all_cons rfl (all_cons (hts).one (all_cons ov rfl))))))) rfl ?_
              refine r_nil ?_
              refine e_next ?_
              refine c_ret ?_
              refine e_freeze (k := 0) rfl (fun G_42 hn_43 hs_44 => ?_)
              replace ht := ht.mono hn_43.le
              replace hr := hr.mono hn_43.le
              replace hrt := fun p hm0 => (hrt p hm0).mono hn_43.le
              replace hrs := fun p hm0 => (hrs p hm0).mono hn_43.le
              replace hts := hts.mono hn_43.le
              replace hqt := fun p hm0 => (hqt p hm0).mono hn_43.le
              replace hqs := fun p hm0 => (hqs p hm0).mono hn_43.le
              refine e_ret1 Try.results33 (.cell (k := 1) rfl Try.underlying70 rfl sz70 rfl (rfl : _ = Value.agg #[_, _, _, _, _, _]) .nil) (fun w hm => ⟨_, ((hn_16.trans hgn).trans hn_43), hm.has, ?_, hm.since⟩)
              exact ⟨_, _, rfl, hts, by rw [show c.subs = qs.map Prod.fst by rw [hq, hl, List.take_of_length_le (by simp; omega)]]; exact Ss.mk qs (SlL.of s0 (fun _ => rfl) rfl hs_44) hqt hqs⟩
              )
        )
theorem c_sref_n : ∀ n, SrefIs n
  | 0 => fun c ta sb G w hz _ _ _ _ => absurd hz (by have := s_pos c; omega)
  | n + 1 => fun c ta sb G w hz hsz ht hs hG => c_sref_s n (c_sref_n n) c ta sb hz hsz ht hs w hG
theorem c_sref (c : ST) (ta sb : Value) {G : Ghost} (hsz : ssz c ≤ 5000) (ht : SlL G ta 3 tC t0 c.h.ts) (hs : Ss G sb c.subs) (w : World) (hG : Has G w) : Calls Try.prog 33 #[Value.agg #[Value.int .i64 c.h.k, Value.int .i64 c.h.k0, Value.int .i64 c.h.k1, Value.int .i64 c.h.k2, ta, sb]] w (Ret fun r w' => ∃ G', GNew w nX G G' ∧ Has G' w' ∧ (∃ ua ub, r = Value.agg #[Value.int .i64 (c).h.k, Value.int .i64 (c).h.k0, Value.int .i64 (c).h.k1, Value.int .i64 (c).h.k2, ua, ub] ∧ SlL G' ua 3 tC t0 (c).h.ts ∧ Ss G' ub (c).subs) ∧ Since nX w w') := c_sref_n _ c ta sb G w (Nat.le_refl _) hsz ht hs hG
theorem c_srefs (v : Value) (l : List ST) {G : Ghost} (hsz : sszL l ≤ 5000) (hs : Ss G v l) (w : World) (hG : Has G w) :
    Calls Try.prog 23 #[v] w (Ret fun r w' => ∃ G', GNew w nX G G' ∧ Has G' w' ∧ Ss G' r l ∧ Since nX w w') := by
  refine enter (args := [_]) (X := nX) (G := G) (l := [(0, v)]) Try.func23 rfl Try.ntmps23 hG ⟨rfl, trivial⟩ (Nat.le_of_ble_eq_true rfl) ?_
  obtain ⟨rs, hr, hrt, hrs, hl⟩ := hs.inv
  have hbd := hr.bound
  have hll := sszL_len l
  have hlr : l.length = rs.length := by rw [hl]; simp
  refine c_seq ?_
  refine c_region ?_
  refine r_val .none rfl (p_assign rfl) ?_
  refine r_nil ?_
  refine e_next ?_
  refine c_seq ?_
  refine c_region ?_
  refine r_val .none rfl (p_assign rfl) ?_
  refine r_nil ?_
  refine e_next ?_
  refine c_seq ?_
  refine c_seq ?_
  refine c_region ?_
  refine r_val .none rfl (p_move rfl) ?_
  refine r_val .none rfl (p_leng Try.underlying50 rfl hr) ?_
  have bd_1 := (hr).bound
  refine r_val .none rfl (p_move rfl) ?_
  refine r_nil ?_
  refine e_next ?_
  refine c_block ?_
  refine c_nilrow 70 6 ?_
  refine c_name (d := 2) rfl (fun u_2 hu_2 => ?_)
  refine c_name (d := 6) rfl (fun u_3 hu_3 => ?_)
  refine c_name (d := 7) rfl (fun u_4 hu_4 => ?_)
  refine c_loop (σ := Nat × Value × List SVal × Ghost) (fun s => [(8, Value.int .i64 (s.1 : Nat)), (3, s.2.1), (2, u_2), (6, u_3), (7, u_4)]) (fun s => [rowA (s.2.1) 70 6 (s.2.2.1).length ((s.2.2.1).flatMap sC)]) (fun s => s.2.2.2) (fun s => s.1 ≤ rs.length ∧ s.2.2.1.map Prod.fst = (rs.map Prod.fst).take s.1 ∧ (∀ p ∈ s.2.2.1, SlL s.2.2.2 p.2.1 3 tC t0 p.1.h.ts) ∧ (∀ p ∈ s.2.2.1, Ss s.2.2.2 p.2.2 p.1.subs) ∧ GNew w nX G s.2.2.2) (fun s => rs.length - s.1) ((0, _, [], _)) ⟨Nat.zero_le _, rfl, by simp, by simp, GNew.refl _ _ _⟩ rfl ⟨rfl, rfl, rfl, rfl, rfl, trivial⟩ (.keep (fun _ _ h => rowA_nil rfl _ _ h) (.nil)) (fun s hphi => ?_)
  subst hu_2
  subst hu_3
  subst hu_4
  obtain ⟨k, v, qs, H⟩ := s
  obtain ⟨hk, hq, hqt, hqs, hgn⟩ := hphi
  dsimp only at hk hq hqt hqs hgn ⊢
  have hql : qs.length ≤ k := (by have := congrArg List.length hq; simp at this; omega)
  replace hr := hr.mono hgn.le
  replace hrt := fun p hm0 => (hrt p hm0).mono hgn.le
  replace hrs := fun p hm0 => (hrs p hm0).mono hgn.le
  refine c_seq ?_
  refine c_region ?_
  refine r_val .none rfl (p_lt rfl rfl) ?_
  refine r_nil ?_
  refine e_next ?_
  refine c_seq ?_
  refine c_splitd (d := 9) rfl (fun h_5 => ?_) (fun h_5 => ?_)
  · skip
    first
      | (exfalso; omega)
      | (
        refine c_cond_t rfl ?_
        refine c_skip ?_
        refine e_next ?_
        refine c_seq ?_
        refine c_block ?_
        refine c_seq ?_
        refine c_region ?_
        refine r_iaddr_g .none rfl Try.underlying50 sz64 rfl hr rfl (by first | exact of_decide_eq_true rfl | omega) (fun p_7 o_8 R_6 => ?_)
        have ht_9 := hrt _ (getD_mem (i := k) (d := s0) (by omega))
        have hc_10 := hrs _ (getD_mem (i := k) (d := s0) (by omega))
        have hz8 : ssz (rs.getD k s0).1 ≤ 5000 := Nat.le_trans (sszL_mem (by rw [hl]; exact sv_mem (k := k) (by omega))) hsz
        refine r_val .none rfl (p_ldga0 Try.underlying64 rfl sz64 rfl R_6 (by first | exact of_decide_eq_true rfl | omega) (rfl : _ = Value.agg #[_, _, _, _, _, _])) ?_
        refine r_alloc .none rfl zr64 (IsRow.lit _) (fun b_1 => ?_)
        refine r_stw (k := 0) .none sz64 rfl rfl (IsRow.lit _) (one_lit rfl (all_cons rfl (all_cons rfl (all_cons rfl (all_cons rfl (all_cons (ht_9).one (all_cons (hc_10).one rfl))))))) rfl ?_
        refine r_nil ?_
        refine e_next ?_
        refine c_region ?_
        refine r_val .none rfl (p_move rfl) ?_
        refine r_val .none rfl (p_ldw (k := 0) Try.underlying64 rfl sz64 rfl rfl (rfl : _ = Value.agg #[_, _, _, _, _, _])) ?_
        refine r_callm (vs := [_]) .none rfl cl33 rfl (fun w hw => c_sref (rs.getD k s0).1 _ _ hz8 ht_9 hc_10 w hw) (fun G_11 v_14 hn_12 hr_13 => ?_)
        replace hr := hr.mono hn_12.le
        replace hrt := fun p hm0 => (hrt p hm0).mono hn_12.le
        replace hrs := fun p hm0 => (hrs p hm0).mono hn_12.le
        replace hqt := fun p hm0 => (hqt p hm0).mono hn_12.le
        replace hqs := fun p hm0 => (hqs p hm0).mono hn_12.le
        replace R_6 := R_6.mono hn_12.le
        replace ht_9 := ht_9.mono hn_12.le
        replace hc_10 := hc_10.mono hn_12.le
        obtain ⟨u_15a, u_15b, rfl, u_15s, u_15t⟩ := hr_13
        refine r_bslice (vs := [(0, Value.agg #[_, _, _, _, _, _])]) (c := #[_, _, _, _, _, _]) .none rfl Try.underlying48 el70 rfl rfl rfl (bs70_10a6 _ _ _ _ _ _) (IsRow.lit _) (fun b_2 => ?_)
        refine r_append (k := 2) (k2 := 0) .none rfl Try.underlying48 el70 rfl (by decide) rfl rfl rfl rfl rfl (one_lit rfl (all_cons rfl (all_cons rfl (all_cons rfl (all_cons rfl (all_cons (u_15s).one (all_cons (u_15t).one rfl))))))) (by simp only [maxLen]; omega) (by omega) (fun v_16 => ?_)
        refine r_row1 (k := 2) rfl (fun o_17 => ?_)
        refine r_val .none rfl (p_assign rfl) ?_
        refine r_nil ?_
        refine e_norm_block ?_
        refine e_next ?_
        refine c_region ?_
        refine r_val .none rfl (p_add rfl rfl (by omega)) ?_
        refine r_val .none rfl (p_move rfl) ?_
        refine r_nil ?_
        refine e_round ((k + 1, _, qs ++ [((rs.getD k s0).1, u_15a, u_15b)], _)) ⟨⟨by dsimp only; omega, by rw [sv_take (by omega), List.map_append, hq]; rfl, (fun p hp' => by rcases List.mem_append.1 hp' with h | h; exact hqt p h; rw [List.mem_singleton.1 h]; exact u_15s), (fun p hp' => by rcases List.mem_append.1 hp' with h | h; exact hqs p h; rw [List.mem_singleton.1 h]; exact u_15t), (hgn.trans hn_12)⟩, by dsimp only; omega⟩ rfl ⟨rfl, rfl, rfl, rfl, rfl, trivial⟩ (.drop (.drop (.keep (fun _ _ h => rowA_snoc (l := qs) (x := ((rs.getD k s0).1, u_15a, u_15b)) rfl rfl rfl rfl _ _ h) (.nil))))
        )
  · skip
    first
      | (exfalso; omega)
      | (
        refine c_cond_f rfl ?_
        refine c_exit ?_
        refine e_exit_then ?_
        refine e_exit_then ?_
        refine e_exit_block ?_
        refine e_next ?_
        refine c_seq ?_
        refine c_region ?_
        refine r_val .none rfl (p_move rfl) ?_
        refine r_val .none rfl (p_assign rfl) ?_
        refine r_nil ?_
        refine e_next ?_
        refine c_ret ?_
        refine e_freeze (k := 0) rfl (fun G_18 hn_19 hs_20 => ?_)
        replace hr := hr.mono hn_19.le
        replace hrt := fun p hm0 => (hrt p hm0).mono hn_19.le
        replace hrs := fun p hm0 => (hrs p hm0).mono hn_19.le
        replace hqt := fun p hm0 => (hqt p hm0).mono hn_19.le
        replace hqs := fun p hm0 => (hqs p hm0).mono hn_19.le
        refine e_ret1 Try.results23 (.tmp rfl .nil) (fun w hm => ⟨_, (hgn.trans hn_19), hm.has, ?_, hm.since⟩)
        rw [show l = qs.map Prod.fst by rw [hq, hl, List.take_of_length_le (by simp; omega)]]
        exact Ss.mk qs (SlL.of s0 (fun _ => rfl) rfl hs_20) hqt hqs
        )
theorem c_rsameS_s (n : Nat) (ih : RsameSIs n) (c c2 : ST) (ta sb ta2 sb2 : Value) {G : Ghost} (hz : SizeOf.sizeOf c ≤ n + 1) (ht : SlL G ta 3 tC t0 c.h.ts) (hs : Ss G sb c.subs) (ht2 : SlL G ta2 3 tC t0 c2.h.ts) (hs2 : Ss G sb2 c2.subs) (w : World) (hG : Has G w) :
    Calls Try.prog 32 #[Value.agg #[Value.int .i64 c.h.k, Value.int .i64 c.h.k0, Value.int .i64 c.h.k1, Value.int .i64 c.h.k2, ta, sb], Value.agg #[Value.int .i64 c2.h.k, Value.int .i64 c2.h.k0, Value.int .i64 c2.h.k1, Value.int .i64 c2.h.k2, ta2, sb2]] w (Ret fun r w' => r = Value.bool (seq c c2) ∧ Since nX w w') := by
  refine enter (args := [_, _]) (X := nX) (G := G) (l := [(0, Value.agg #[Value.int .i64 c.h.k, Value.int .i64 c.h.k0, Value.int .i64 c.h.k1, Value.int .i64 c.h.k2, ta, sb]), (1, Value.agg #[Value.int .i64 c2.h.k, Value.int .i64 c2.h.k0, Value.int .i64 c2.h.k1, Value.int .i64 c2.h.k2, ta2, sb2])]) Try.func32 rfl Try.ntmps32 hG ⟨rfl, rfl, trivial⟩ (Nat.le_of_ble_eq_true rfl) ?_
  obtain ⟨rs, hr, hrt, hrs, hl⟩ := hs.inv
  obtain ⟨rs2, hr2, hrt2, hrs2, hl2⟩ := hs2.inv
  have hbd := hr.bound
  have hbd2 := hr2.bound
  have hbd3 := ht.bound
  have hbd4 := ht2.bound
  have hlr : c.subs.length = rs.length := by rw [hl]; simp
  have hlr2 : c2.subs.length = rs2.length := by rw [hl2]; simp
  refine c_seq ?_
  refine c_region ?_
  refine r_box .none rfl rfl (IsRow.lit _) (fun b_1 => ?_)
  refine r_box .none rfl rfl (IsRow.lit _) (fun b_2 => ?_)
  refine r_val .none rfl (p_assign rfl) ?_
  refine r_nil ?_
  refine e_next ?_
  refine c_seq ?_
  refine c_seq ?_
  refine c_region ?_
  refine r_val .none rfl (p_field Try.underlying70 rfl sz3 rfl) ?_
  refine r_val .none rfl (p_ld (k := 1) Try.underlying3 rfl rfl rfl (by first | exact of_decide_eq_true rfl | omega) (rfl : _ = Value.int _ _)) ?_
  refine r_val .none rfl (p_field Try.underlying70 rfl sz3 rfl) ?_
  refine r_val .none rfl (p_ld (k := 0) Try.underlying3 rfl rfl rfl (by first | exact of_decide_eq_true rfl | omega) (rfl : _ = Value.int _ _)) ?_
  refine r_val .none rfl (p_ne rfl rfl) ?_
  refine r_val .none rfl (p_move rfl) ?_
  refine' r_or (c := 12) (d := 18) [_, _, _, _, _, _] rfl (fun h_1 Q_2 hQ_3 => ?_) (fun h_1 Q_2 hQ_3 => ?_) ?_
  rotate_left 1
  · skip
    replace h_1 := of_decide_eq_false h_1
    refine r_val (.some rfl rfl) rfl (p_field Try.underlying70 rfl sz60 rfl) ?_
    refine r_val (.some rfl rfl) rfl (p_lda (k := 1) Try.underlying60 rfl sz60 rfl rfl (by first | exact of_decide_eq_true rfl | omega) (rfl : _ = Value.agg #[_, _, _])) ?_
    refine r_val (.some rfl rfl) rfl (p_field Try.underlying70 rfl sz60 rfl) ?_
    refine r_val (.some rfl rfl) rfl (p_lda (k := 0) Try.underlying60 rfl sz60 rfl rfl (by first | exact of_decide_eq_true rfl | omega) (rfl : _ = Value.agg #[_, _, _])) ?_
    refine r_val (.some rfl rfl) rfl (p_nea rfl rfl (eq_flat Try.underlying60 rfl lf60 ef60 eg60 (.cons (.int Try.underlying3) (.cons (.int Try.underlying3) (.cons (.int Try.underlying3) (.nil)))) (.cons (.int Try.underlying3) (.cons (.int Try.underlying3) (.cons (.int Try.underlying3) (.nil)))))) ?_
    refine r_val .none rfl (p_pick_f rfl rfl) ?_
    refine r_nil (e_fin (d := 18) hQ_3 rfl (by repeat (first | exact .refl | refine .put rfl ?_ | refine .say rfl ?_ | refine .say2 rfl (by first | assumption | simp_all) ?_)))
  · skip
    repeat (first | refine r_skip rfl (.no rfl rfl) ?_ | refine r_skip rfl (.un rfl rfl) ?_)
    refine r_val (by first | exact .none | exact .some rfl rfl) rfl (p_pick_t rfl rfl) ?_
    refine r_nil (e_fin (d := 18) hQ_3 rfl (by repeat (first | exact .refl | refine .put rfl ?_ | refine .say rfl ?_ | refine .say2 rfl (by first | assumption | simp_all) ?_)))
  refine r_val .none rfl (p_move rfl) ?_
  refine' r_or (c := 19) (d := 27) [_, _, _, _, _, _, _, _] rfl (fun h_5 Q_6 hQ_7 => ?_) (fun h_5 Q_6 hQ_7 => ?_) ?_
  rotate_left 1
  · skip
    try simp only [norms] at h_5
    refine r_val (.some rfl rfl) rfl (p_field Try.underlying70 rfl sz68 rfl) ?_
    refine r_val (.some rfl rfl) rfl (p_ld (k := 1) Try.underlying68 rfl rfl rfl (by first | exact of_decide_eq_true rfl | omega) rfl) ?_
    refine r_val (.some rfl rfl) rfl (p_leng Try.underlying68 rfl ht) ?_
    have bd_9 := (ht).bound
    refine r_val (.some rfl rfl) rfl (p_field Try.underlying70 rfl sz68 rfl) ?_
    refine r_val (.some rfl rfl) rfl (p_ld (k := 0) Try.underlying68 rfl rfl rfl (by first | exact of_decide_eq_true rfl | omega) rfl) ?_
    refine r_val (.some rfl rfl) rfl (p_leng Try.underlying68 rfl ht2) ?_
    have bd_10 := (ht2).bound
    refine r_val (.some rfl rfl) rfl (p_ne rfl rfl) ?_
    refine r_val .none rfl (p_pick_f rfl rfl) ?_
    refine r_nil (e_fin (d := 27) hQ_7 rfl (by repeat (first | exact .refl | refine .put rfl ?_ | refine .say rfl ?_ | refine .say2 rfl (by first | assumption | simp_all) ?_)))
  · skip
    repeat (first | refine r_skip rfl (.no rfl rfl) ?_ | refine r_skip rfl (.un rfl rfl) ?_)
    refine r_val (by first | exact .none | exact .some rfl rfl) rfl (p_pick_t rfl rfl) ?_
    refine r_nil (e_fin (d := 27) hQ_7 rfl (by repeat (first | exact .refl | refine .put rfl ?_ | refine .say rfl ?_ | refine .say2 rfl (by first | assumption | simp_all) ?_)))
  refine r_val .none rfl (p_move rfl) ?_
  refine' r_or (c := 28) (d := 36) [_, _, _, _, _, _, _, _] rfl (fun h_11 Q_12 hQ_13 => ?_) (fun h_11 Q_12 hQ_13 => ?_) ?_
  rotate_left 1
  · skip
    try simp only [norms] at h_11
    refine r_val (.some rfl rfl) rfl (p_field Try.underlying70 rfl sz48 rfl) ?_
    refine r_val (.some rfl rfl) rfl (p_ld (k := 1) Try.underlying48 rfl rfl rfl (by first | exact of_decide_eq_true rfl | omega) rfl) ?_
    refine r_val (.some rfl rfl) rfl (p_leng Try.underlying48 rfl hr) ?_
    have bd_15 := (hr).bound
    refine r_val (.some rfl rfl) rfl (p_field Try.underlying70 rfl sz48 rfl) ?_
    refine r_val (.some rfl rfl) rfl (p_ld (k := 0) Try.underlying48 rfl rfl rfl (by first | exact of_decide_eq_true rfl | omega) rfl) ?_
    refine r_val (.some rfl rfl) rfl (p_leng Try.underlying48 rfl hr2) ?_
    have bd_16 := (hr2).bound
    refine r_val (.some rfl rfl) rfl (p_ne rfl rfl) ?_
    refine r_val .none rfl (p_pick_f rfl rfl) ?_
    refine r_nil (e_fin (d := 36) hQ_13 rfl (by repeat (first | exact .refl | refine .put rfl ?_ | refine .say rfl ?_ | refine .say2 rfl (by first | assumption | simp_all) ?_)))
  · skip
    repeat (first | refine r_skip rfl (.no rfl rfl) ?_ | refine r_skip rfl (.un rfl rfl) ?_)
    refine r_val (by first | exact .none | exact .some rfl rfl) rfl (p_pick_t rfl rfl) ?_
    refine r_nil (e_fin (d := 36) hQ_13 rfl (by repeat (first | exact .refl | refine .put rfl ?_ | refine .say rfl ?_ | refine .say2 rfl (by first | assumption | simp_all) ?_)))
  refine r_nil ?_
  refine e_next ?_
  refine c_split (d := 36) rfl (fun h_17 => ?_) (fun h_17 => ?_)
  · skip
    try simp only [norms] at h_17
    have hN : ((¬ c.h.k = c2.h.k ∨ kEq c.h c2.h = false) ∨ ¬ (c.h.ts.length : Int) = c2.h.ts.length) ∨ ¬ (rs.length : Int) = rs2.length := h_17
    first
      | (exfalso; omega)
      | (
        refine c_cond_t rfl ?_
        refine c_seq ?_
        refine c_region ?_
        refine r_val .none rfl (p_assign rfl) ?_
        refine r_nil ?_
        refine e_next ?_
        refine c_ret ?_
        refine e_ret_then ?_
        refine e_ret1 Try.results32 (.tmp rfl .nil) (fun w hm => ⟨?_, hm.since⟩)
        first
        | exact congrArg Value.bool (seq_no (hN.imp (Or.imp_right (fun hx => by omega)) (fun hx => by omega))).symm
        | exact congrArg Value.bool (seq_ts (ne_of_get hE)).symm
        | (rw [seq_sub hN.1.1.1 hN.1.1.2 hts, hl, hl2, ← hphi.2.2, seqL_no (by omega) (by omega) hF]; done)
        | (rw [seq_sub hN.1.1.1 hN.1.1.2 hts, hl, hl2, ← hphi.2.2, List.drop_eq_nil_of_le (by simp; omega), List.drop_eq_nil_of_le (by simp; omega)]; rfl)
        )
  · skip
    try simp only [norms] at h_17
    have hN : ((c.h.k = c2.h.k ∧ kEq c.h c2.h = true) ∧ (c.h.ts.length : Int) = c2.h.ts.length) ∧ (rs.length : Int) = rs2.length := h_17
    first
      | (exfalso; omega)
      | (
        refine c_cond_f rfl ?_
        refine c_skip ?_
        refine e_next ?_
        refine c_seq ?_
        refine c_seq ?_
        refine c_region ?_
        refine r_val .none rfl (p_field Try.underlying70 rfl sz68 rfl) ?_
        refine r_val .none rfl (p_ld (k := 1) Try.underlying68 rfl rfl rfl (by first | exact of_decide_eq_true rfl | omega) rfl) ?_
        refine r_val .none rfl (p_leng Try.underlying68 rfl ht) ?_
        have bd_18 := (ht).bound
        refine r_val .none rfl (p_move rfl) ?_
        refine r_nil ?_
        refine e_next ?_
        refine c_block ?_
        refine c_name (d := 2) rfl (fun u_19 hu_19 => ?_)
        refine c_name (d := 3) rfl (fun u_20 hu_20 => ?_)
        refine c_name (d := 39) rfl (fun u_21 hu_21 => ?_)
        refine c_nameL (k := 0) rfl (fun A_22 hA_22 => ?_)
        refine c_nameL (k := 1) rfl (fun A_23 hA_23 => ?_)
        refine c_loop (σ := Nat) (fun j => [(40, Value.int .i64 (j : Nat)), (2, u_19), (3, u_20), (39, u_21)]) (fun j => [A_22, A_23]) (fun _ => _) (fun j => j ≤ c.h.ts.length ∧ c.h.ts.take j = c2.h.ts.take j) (fun j => c.h.ts.length - j) (0) ⟨Nat.zero_le _, rfl⟩ rfl ⟨rfl, rfl, rfl, rfl, trivial⟩ (.keep (fun _ _ h => h) (.keep (fun _ _ h => h) (.nil))) (fun j hphi => ?_)
        subst hu_19
        subst hu_20
        subst hu_21
        subst hA_22
        subst hA_23
        have hj := hphi
        refine c_seq ?_
        refine c_region ?_
        refine r_val .none rfl (p_lt rfl rfl) ?_
        refine r_nil ?_
        refine e_next ?_
        refine c_seq ?_
        refine c_splitd (d := 41) rfl (fun h_24 => ?_) (fun h_24 => ?_)
        · skip
          first
            | (exfalso; omega)
            | (
              refine c_cond_t rfl ?_
              refine c_skip ?_
              refine e_next ?_
              refine c_seq ?_
              refine c_block ?_
              refine c_seq ?_
              refine c_region ?_
              refine r_val .none rfl (p_move rfl) ?_
              refine r_val .none rfl (p_assign rfl) ?_
              refine r_nil ?_
              refine e_next ?_
              refine c_seq ?_
              refine c_region_q mixed (by kernel_rfl) ?_
              refine q_val .none rfl (p_field Try.underlying70 rfl sz68 rfl) ?_
              refine q_val .none rfl (p_ld (k := 1) Try.underlying68 rfl rfl rfl (by first | exact of_decide_eq_true rfl | omega) rfl) ?_
              refine q_val .none rfl (p_move rfl) ?_
              refine q_iaddr_g .none rfl Try.underlying68 sz96 rfl ht rfl (by first | exact of_decide_eq_true rfl | omega) (fun p_26 o_27 R_25 => ?_)
              refine q_val .none rfl (p_ldga0 Try.underlying96 rfl sz96 rfl R_25 (by first | exact of_decide_eq_true rfl | omega) (rfl : _ = Value.agg #[_, _, _])) ?_
              refine q_val .none rfl (p_field Try.underlying70 rfl sz68 rfl) ?_
              refine q_val .none rfl (p_ld (k := 0) Try.underlying68 rfl rfl rfl (by first | exact of_decide_eq_true rfl | omega) rfl) ?_
              refine q_val .none rfl (p_move rfl) ?_
              refine q_iaddr_g .none rfl Try.underlying68 sz96 rfl ht2 rfl (by first | exact of_decide_eq_true rfl | omega) (fun p_29 o_30 R_28 => ?_)
              refine q_val .none rfl (p_ldga0 Try.underlying96 rfl sz96 rfl R_28 (by first | exact of_decide_eq_true rfl | omega) (rfl : _ = Value.agg #[_, _, _])) ?_
              refine q_val .none rfl (p_nea rfl rfl (eq_flat Try.underlying96 rfl lf96 ef96 eg96 (.cons (.int Try.underlying3) (.cons (.int Try.underlying3) (.cons (.int Try.underlying3) (.nil)))) (.cons (.int Try.underlying3) (.cons (.int Try.underlying3) (.cons (.int Try.underlying3) (.nil)))))) ?_
              refine q_nil ?_
              refine e_next ?_
              refine c_splitn (d := 53) rfl (fun h_31 => ?_) (fun h_31 => ?_)
              · skip
                have hE : c.h.ts.getD j t0 ≠ c2.h.ts.getD j t0 := of_decide_eq_false ((tC_eq _ _).symm.trans h_31)
                first
                  | (exfalso; omega)
                  | (
                    refine c_cond_t rfl ?_
                    refine c_seq ?_
                    refine c_region ?_
                    refine r_val .none rfl (p_assign rfl) ?_
                    refine r_nil ?_
                    refine e_next ?_
                    refine c_ret ?_
                    refine e_ret_block ?_
                    refine e_ret_then ?_
                    refine e_ret_then ?_
                    refine e_ret_block ?_
                    refine e_ret_then ?_
                    refine e_ret1 Try.results32 (.tmp rfl .nil) (fun w hm => ⟨?_, hm.since⟩)
                    first
                    | exact congrArg Value.bool (seq_no (hN.imp (Or.imp_right (fun hx => by omega)) (fun hx => by omega))).symm
                    | exact congrArg Value.bool (seq_ts (ne_of_get hE)).symm
                    | (rw [seq_sub hN.1.1.1 hN.1.1.2 hts, hl, hl2, ← hphi.2.2, seqL_no (by omega) (by omega) hF]; done)
                    | (rw [seq_sub hN.1.1.1 hN.1.1.2 hts, hl, hl2, ← hphi.2.2, List.drop_eq_nil_of_le (by simp; omega), List.drop_eq_nil_of_le (by simp; omega)]; rfl)
                    )
              · skip
                have hE : c.h.ts.getD j t0 = c2.h.ts.getD j t0 := of_decide_eq_true ((tC_eq _ _).symm.trans h_31)
                first
                  | (exfalso; omega)
                  | (
                    refine c_cond_f rfl ?_
                    refine c_skip ?_
                    refine e_norm_block ?_
                    refine e_next ?_
                    refine c_region ?_
                    refine r_val .none rfl (p_add rfl rfl (by omega)) ?_
                    refine r_val .none rfl (p_move rfl) ?_
                    refine r_nil ?_
                    refine e_round (j + 1) ⟨⟨by omega, take_eq_succ (d := t0) (by omega) (by omega) hphi.2 hE⟩, by omega⟩ rfl ⟨rfl, rfl, rfl, rfl, trivial⟩ (.keep (fun _ _ h => h) (.keep (fun _ _ h => h) (.nil)))
                    )
              )
        · skip
          first
            | (exfalso; omega)
            | (
              refine c_cond_f rfl ?_
              refine c_exit ?_
              refine e_exit_then ?_
              refine e_exit_then ?_
              refine e_exit_block ?_
              refine e_next ?_
              refine c_seq ?_
              refine c_seq ?_
              refine c_region ?_
              refine r_val .none rfl (p_field Try.underlying70 rfl sz48 rfl) ?_
              refine r_val .none rfl (p_ld (k := 1) Try.underlying48 rfl rfl rfl (by first | exact of_decide_eq_true rfl | omega) rfl) ?_
              refine r_val .none rfl (p_leng Try.underlying48 rfl hr) ?_
              have bd_32 := (hr).bound
              refine r_val .none rfl (p_move rfl) ?_
              refine r_nil ?_
              refine e_next ?_
              refine c_block ?_
              have hts : c.h.ts = c2.h.ts := by have hk := hj.2; rw [List.take_of_length_le (by omega), List.take_of_length_le (by omega)] at hk; exact hk
              refine c_name (d := 2) rfl (fun u_33 hu_33 => ?_)
              refine c_name (d := 3) rfl (fun u_34 hu_34 => ?_)
              refine c_name (d := 57) rfl (fun u_35 hu_35 => ?_)
              refine c_nameL (k := 0) rfl (fun A_36 hA_36 => ?_)
              refine c_nameL (k := 1) rfl (fun A_37 hA_37 => ?_)
              refine c_loop (σ := Nat) (fun k => [(58, Value.int .i64 (k : Nat)), (2, u_33), (3, u_34), (57, u_35)]) (fun k => [A_36, A_37]) (fun _ => _) (fun k => k ≤ rs.length ∧ rs.length = rs2.length ∧ seqL ((rs.map Prod.fst).drop k) ((rs2.map Prod.fst).drop k) = seqL (rs.map Prod.fst) (rs2.map Prod.fst)) (fun k => rs.length - k) (0) ⟨Nat.zero_le _, by omega, rfl⟩ rfl ⟨rfl, rfl, rfl, rfl, trivial⟩ (.keep (fun _ _ h => h) (.keep (fun _ _ h => h) (.nil))) (fun k hphi => ?_)
              subst hu_33
              subst hu_34
              subst hu_35
              subst hA_36
              subst hA_37
              refine c_seq ?_
              refine c_region ?_
              refine r_val .none rfl (p_lt rfl rfl) ?_
              refine r_nil ?_
              refine e_next ?_
              refine c_seq ?_
              refine c_splitd (d := 59) rfl (fun h_38 => ?_) (fun h_38 => ?_)
              · skip
                first
                  | (exfalso; omega)
                  | (
                    refine c_cond_t rfl ?_
                    refine c_skip ?_
                    refine e_next ?_
                    refine c_seq ?_
                    refine c_block ?_
                    refine c_seq ?_
                    refine c_region ?_
                    refine r_val .none rfl (p_move rfl) ?_
                    refine r_val .none rfl (p_assign rfl) ?_
                    refine r_nil ?_
                    refine e_next ?_
                    refine c_seq ?_
                    refine c_region_q mixed (by kernel_rfl) ?_
                    refine q_val .none rfl (p_field Try.underlying70 rfl sz48 rfl) ?_
                    refine q_val .none rfl (p_ld (k := 1) Try.underlying48 rfl rfl rfl (by first | exact of_decide_eq_true rfl | omega) rfl) ?_
                    refine q_val .none rfl (p_move rfl) ?_
                    refine q_iaddr_g .none rfl Try.underlying48 sz70 rfl hr rfl (by first | exact of_decide_eq_true rfl | omega) (fun p_40 o_41 R_39 => ?_)
                    have ht_42 := hrt _ (getD_mem (i := k) (d := s0) (by omega))
                    have hc_43 := hrs _ (getD_mem (i := k) (d := s0) (by omega))
                    refine q_val .none rfl (p_ldga0 Try.underlying70 rfl sz70 rfl R_39 (by first | exact of_decide_eq_true rfl | omega) (rfl : _ = Value.agg #[_, _, _, _, _, _])) ?_
                    refine q_val .none rfl (p_field Try.underlying70 rfl sz48 rfl) ?_
                    refine q_val .none rfl (p_ld (k := 0) Try.underlying48 rfl rfl rfl (by first | exact of_decide_eq_true rfl | omega) rfl) ?_
                    refine q_val .none rfl (p_move rfl) ?_
                    refine q_iaddr_g .none rfl Try.underlying48 sz70 rfl hr2 rfl (by first | exact of_decide_eq_true rfl | omega) (fun p_45 o_46 R_44 => ?_)
                    have ht_47 := hrt2 _ (getD_mem (i := k) (d := s0) (by omega))
                    have hc_48 := hrs2 _ (getD_mem (i := k) (d := s0) (by omega))
                    refine q_val .none rfl (p_ldga0 Try.underlying70 rfl sz70 rfl R_44 (by first | exact of_decide_eq_true rfl | omega) (rfl : _ = Value.agg #[_, _, _, _, _, _])) ?_
                    refine q_call (vs := [_, _]) .none rfl cl32 rfl (fun w hw => ih (rs.getD k s0).1 _ _ _ _ _ _ w (ssz_at hl (by omega) hz) ht_42 hc_43 ht_47 hc_48 hw) ?_
                    refine q_val .none rfl (p_not rfl) ?_
                    refine q_nil ?_
                    refine e_next ?_
                    refine c_splitn (d := 72) rfl (fun h_49 => ?_) (fun h_49 => ?_)
                    · skip
                      have hF := h_49
                      first
                        | (exfalso; omega)
                        | (
                          refine c_cond_t rfl ?_
                          refine c_seq ?_
                          refine c_region ?_
                          refine r_val .none rfl (p_assign rfl) ?_
                          refine r_nil ?_
                          refine e_next ?_
                          refine c_ret ?_
                          refine e_ret_block ?_
                          refine e_ret_then ?_
                          refine e_ret_then ?_
                          refine e_ret_block ?_
                          refine e_ret_then ?_
                          refine e_ret1 Try.results32 (.tmp rfl .nil) (fun w hm => ⟨?_, hm.since⟩)
                          first
                          | exact congrArg Value.bool (seq_no (hN.imp (Or.imp_right (fun hx => by omega)) (fun hx => by omega))).symm
                          | exact congrArg Value.bool (seq_ts (ne_of_get hE)).symm
                          | (rw [seq_sub hN.1.1.1 hN.1.1.2 hts, hl, hl2, ← hphi.2.2, seqL_no (by omega) (by omega) hF]; done)
                          | (rw [seq_sub hN.1.1.1 hN.1.1.2 hts, hl, hl2, ← hphi.2.2, List.drop_eq_nil_of_le (by simp; omega), List.drop_eq_nil_of_le (by simp; omega)]; rfl)
                          )
                    · skip
                      have hF := h_49
                      first
                        | (exfalso; omega)
                        | (
                          refine c_cond_f rfl ?_
                          refine c_skip ?_
                          refine e_norm_block ?_
                          refine e_next ?_
                          refine c_region ?_
                          refine r_val .none rfl (p_add rfl rfl (by omega)) ?_
                          refine r_val .none rfl (p_move rfl) ?_
                          refine r_nil ?_
                          refine e_round (k + 1) ⟨⟨by omega, hphi.2.1, by rw [seqL_yes (by omega) (by omega) hF]; exact hphi.2.2⟩, by omega⟩ rfl ⟨rfl, rfl, rfl, rfl, trivial⟩ (.keep (fun _ _ h => h) (.keep (fun _ _ h => h) (.nil)))
                          )
                    )
              · skip
                first
                  | (exfalso; omega)
                  | (
                    refine c_cond_f rfl ?_
                    refine c_exit ?_
                    refine e_exit_then ?_
                    refine e_exit_then ?_
                    refine e_exit_block ?_
                    refine e_next ?_
                    refine c_seq ?_
                    refine c_region ?_
                    refine r_val .none rfl (p_assign rfl) ?_
                    refine r_nil ?_
                    refine e_next ?_
                    refine c_ret ?_
                    refine e_ret1 Try.results32 (.tmp rfl .nil) (fun w hm => ⟨?_, hm.since⟩)
                    first
                    | exact congrArg Value.bool (seq_no (hN.imp (Or.imp_right (fun hx => by omega)) (fun hx => by omega))).symm
                    | exact congrArg Value.bool (seq_ts (ne_of_get hE)).symm
                    | (rw [seq_sub hN.1.1.1 hN.1.1.2 hts, hl, hl2, ← hphi.2.2, seqL_no (by omega) (by omega) hF]; done)
                    | (rw [seq_sub hN.1.1.1 hN.1.1.2 hts, hl, hl2, ← hphi.2.2, List.drop_eq_nil_of_le (by simp; omega), List.drop_eq_nil_of_le (by simp; omega)]; rfl)
                    )
              )
        )
theorem c_rsameS_n : ∀ n, RsameSIs n
  | 0 => fun c c2 ta sb ta2 sb2 G w hz _ _ _ _ _ => absurd hz (by have := s_pos c; omega)
  | n + 1 => fun c c2 ta sb ta2 sb2 G w hz ht hs ht2 hs2 hG => c_rsameS_s n (c_rsameS_n n) c c2 ta sb ta2 sb2 hz ht hs ht2 hs2 w hG
theorem c_rsameS (c c2 : ST) (ta sb ta2 sb2 : Value) {G : Ghost} (ht : SlL G ta 3 tC t0 c.h.ts) (hs : Ss G sb c.subs) (ht2 : SlL G ta2 3 tC t0 c2.h.ts) (hs2 : Ss G sb2 c2.subs) (w : World) (hG : Has G w) : Calls Try.prog 32 #[Value.agg #[Value.int .i64 c.h.k, Value.int .i64 c.h.k0, Value.int .i64 c.h.k1, Value.int .i64 c.h.k2, ta, sb], Value.agg #[Value.int .i64 c2.h.k, Value.int .i64 c2.h.k0, Value.int .i64 c2.h.k1, Value.int .i64 c2.h.k2, ta2, sb2]] w (Ret fun r w' => r = Value.bool (seq c c2) ∧ Since nX w w') := c_rsameS_n _ c c2 ta sb ta2 sb2 G w (Nat.le_refl _) ht hs ht2 hs2 hG
theorem c_all8 (v v2 : Value) (l l2 : List ST) {G : Ghost} (hs : Ss G v l) (hs2 : Ss G v2 l2) (w : World) (hG : Has G w) :
    Calls Try.prog 22 #[v, v2] w (Ret fun r w' => r = Value.bool (seqL l l2) ∧ Since nX w w') := by
  refine enter (args := [_, _]) (X := nX) (G := G) (l := [(0, v), (1, v2)]) Try.func22 rfl Try.ntmps22 hG ⟨rfl, rfl, trivial⟩ (Nat.le_of_ble_eq_true rfl) ?_
  obtain ⟨rs, hr, hrt, hrs, hl⟩ := hs.inv
  obtain ⟨rs2, hr2, hrt2, hrs2, hl2⟩ := hs2.inv
  have hbd := hr.bound
  have hbd2 := hr2.bound
  refine c_seq ?_
  refine c_region ?_
  refine r_val .none rfl (p_assign rfl) ?_
  refine r_nil ?_
  refine e_next ?_
  refine c_seq ?_
  refine c_seq ?_
  refine c_region ?_
  refine r_val .none rfl (p_move rfl) ?_
  refine r_val .none rfl (p_leng Try.underlying48 rfl hr) ?_
  have bd_1 := (hr).bound
  refine r_val .none rfl (p_move rfl) ?_
  refine r_val .none rfl (p_leng Try.underlying48 rfl hr2) ?_
  have bd_2 := (hr2).bound
  refine r_val .none rfl (p_ne rfl rfl) ?_
  refine r_nil ?_
  refine e_next ?_
  refine c_splitd (d := 10) rfl (fun h_3 => ?_) (fun h_3 => ?_)
  · skip
    first
      | (exfalso; omega)
      | (
        refine c_cond_t rfl ?_
        refine c_seq ?_
        refine c_region ?_
        refine r_val .none rfl (p_assign rfl) ?_
        refine r_nil ?_
        refine e_next ?_
        refine c_ret ?_
        refine e_ret_then ?_
        refine e_ret1 Try.results22 (.tmp rfl .nil) (fun w hm => ⟨?_, hm.since⟩)
        first
        | (rw [hl, hl2, seqL_len (by simp; omega)])
        | (rw [hl, hl2, ← hphi.2.2, seqL_no (by omega) (by omega) hE])
        | (rw [hl, hl2, ← hphi.2.2, List.drop_eq_nil_of_le (by simp; omega), List.drop_eq_nil_of_le (by simp; omega)]; rfl)
        )
  · skip
    first
      | (exfalso; omega)
      | (
        refine c_cond_f rfl ?_
        refine c_skip ?_
        refine e_next ?_
        refine c_seq ?_
        refine c_seq ?_
        refine c_region ?_
        refine r_val .none rfl (p_move rfl) ?_
        refine r_val .none rfl (p_leng Try.underlying48 rfl hr) ?_
        have bd_4 := (hr).bound
        refine r_val .none rfl (p_move rfl) ?_
        refine r_nil ?_
        refine e_next ?_
        refine c_block ?_
        refine c_name (d := 0) rfl (fun u_5 hu_5 => ?_)
        refine c_name (d := 1) rfl (fun u_6 hu_6 => ?_)
        refine c_name (d := 12) rfl (fun u_7 hu_7 => ?_)
        refine c_loop (σ := Nat) (fun k => [(13, Value.int .i64 (k : Nat)), (0, u_5), (1, u_6), (12, u_7)]) (fun k => []) (fun _ => _) (fun k => k ≤ rs.length ∧ rs.length = rs2.length ∧ seqL ((rs.map Prod.fst).drop k) ((rs2.map Prod.fst).drop k) = seqL (rs.map Prod.fst) (rs2.map Prod.fst)) (fun k => rs.length - k) (0) ⟨Nat.zero_le _, by omega, rfl⟩ rfl ⟨rfl, rfl, rfl, rfl, trivial⟩ (.nil) (fun k hphi => ?_)
        subst hu_5
        subst hu_6
        subst hu_7
        refine c_seq ?_
        refine c_region ?_
        refine r_val .none rfl (p_lt rfl rfl) ?_
        refine r_nil ?_
        refine e_next ?_
        refine c_seq ?_
        refine c_splitd (d := 14) rfl (fun h_8 => ?_) (fun h_8 => ?_)
        · skip
          first
            | (exfalso; omega)
            | (
              refine c_cond_t rfl ?_
              refine c_skip ?_
              refine e_next ?_
              refine c_seq ?_
              refine c_block ?_
              refine c_seq ?_
              refine c_region ?_
              refine r_val .none rfl (p_move rfl) ?_
              refine r_val .none rfl (p_assign rfl) ?_
              refine r_nil ?_
              refine e_next ?_
              refine c_seq ?_
              refine c_region_q mixed (by kernel_rfl) ?_
              refine q_val .none rfl (p_move rfl) ?_
              refine q_val .none rfl (p_move rfl) ?_
              refine q_iaddr_g .none rfl Try.underlying48 sz70 rfl hr rfl (by first | exact of_decide_eq_true rfl | omega) (fun p_10 o_11 R_9 => ?_)
              have ht_12 := hrt _ (getD_mem (i := k) (d := s0) (by omega))
              have hc_13 := hrs _ (getD_mem (i := k) (d := s0) (by omega))
              refine q_val .none rfl (p_ldga0 Try.underlying70 rfl sz70 rfl R_9 (by first | exact of_decide_eq_true rfl | omega) (rfl : _ = Value.agg #[_, _, _, _, _, _])) ?_
              refine q_val .none rfl (p_move rfl) ?_
              refine q_val .none rfl (p_move rfl) ?_
              refine q_iaddr_g .none rfl Try.underlying48 sz70 rfl hr2 rfl (by first | exact of_decide_eq_true rfl | omega) (fun p_15 o_16 R_14 => ?_)
              have ht_17 := hrt2 _ (getD_mem (i := k) (d := s0) (by omega))
              have hc_18 := hrs2 _ (getD_mem (i := k) (d := s0) (by omega))
              refine q_val .none rfl (p_ldga0 Try.underlying70 rfl sz70 rfl R_14 (by first | exact of_decide_eq_true rfl | omega) (rfl : _ = Value.agg #[_, _, _, _, _, _])) ?_
              refine q_call (vs := [_, _]) .none rfl cl32 rfl (fun w hw => c_rsameS (rs.getD k s0).1 _ _ _ _ _ ht_12 hc_13 ht_17 hc_18 w hw) ?_
              refine q_val .none rfl (p_not rfl) ?_
              refine q_nil ?_
              refine e_next ?_
              refine c_splitn (d := 25) rfl (fun h_19 => ?_) (fun h_19 => ?_)
              · skip
                have hE := h_19
                first
                  | (exfalso; omega)
                  | (
                    refine c_cond_t rfl ?_
                    refine c_seq ?_
                    refine c_region ?_
                    refine r_val .none rfl (p_assign rfl) ?_
                    refine r_nil ?_
                    refine e_next ?_
                    refine c_ret ?_
                    refine e_ret_block ?_
                    refine e_ret_then ?_
                    refine e_ret_then ?_
                    refine e_ret_block ?_
                    refine e_ret_then ?_
                    refine e_ret1 Try.results22 (.tmp rfl .nil) (fun w hm => ⟨?_, hm.since⟩)
                    first
                    | (rw [hl, hl2, seqL_len (by simp; omega)])
                    | (rw [hl, hl2, ← hphi.2.2, seqL_no (by omega) (by omega) hE])
                    | (rw [hl, hl2, ← hphi.2.2, List.drop_eq_nil_of_le (by simp; omega), List.drop_eq_nil_of_le (by simp; omega)]; rfl)
                    )
              · skip
                have hE := h_19
                first
                  | (exfalso; omega)
                  | (
                    refine c_cond_f rfl ?_
                    refine c_skip ?_
                    refine e_norm_block ?_
                    refine e_next ?_
                    refine c_region ?_
                    refine r_val .none rfl (p_add rfl rfl (by omega)) ?_
                    refine r_val .none rfl (p_move rfl) ?_
                    refine r_nil ?_
                    refine e_round (k + 1) ⟨⟨by omega, hphi.2.1, by rw [seqL_yes (by omega) (by omega) hE]; exact hphi.2.2⟩, by omega⟩ rfl ⟨rfl, rfl, rfl, rfl, trivial⟩ (.nil)
                    )
              )
        · skip
          first
            | (exfalso; omega)
            | (
              refine c_cond_f rfl ?_
              refine c_exit ?_
              refine e_exit_then ?_
              refine e_exit_then ?_
              refine e_exit_block ?_
              refine e_next ?_
              refine c_seq ?_
              refine c_region ?_
              refine r_val .none rfl (p_assign rfl) ?_
              refine r_nil ?_
              refine e_next ?_
              refine c_ret ?_
              refine e_ret1 Try.results22 (.tmp rfl .nil) (fun w hm => ⟨?_, hm.since⟩)
              first
              | (rw [hl, hl2, seqL_len (by simp; omega)])
              | (rw [hl, hl2, ← hphi.2.2, seqL_no (by omega) (by omega) hE])
              | (rw [hl, hl2, ← hphi.2.2, List.drop_eq_nil_of_le (by simp; omega), List.drop_eq_nil_of_le (by simp; omega)]; rfl)
              )
        )
end Go.Proofs.Ytoflaphnlfggkaa

/- Walks: what Go functions of this chapter come to, each as a function on plain data; no condition but those that each theorem names. Printed by a program of this work (gen.py). -/
namespace Go.Proofs.Ytoflaphnlfggkaa
open Go.Gx Go.Gx.T4 Go.Gx.T3 Go.Gx.T6 Go.Gx.T8 Go.Gx.T4 Go.Gx.T3 Go.Gx.T8 Go.Gx.T4 Go.Gx.T3 Go.Gx.T8 Go.Gx.T6 Go.Gx.T4 Go.Gx.T3
theorem cl11 : Callable Try.prog 11 := callable Try.func11 (by kernel_rfl) rfl
theorem cl20 : Callable Try.prog 20 := callable Try.func20 (by kernel_rfl) rfl
theorem cl22 : Callable Try.prog 22 := callable Try.func22 (by kernel_rfl) rfl
theorem cl23 : Callable Try.prog 23 := callable Try.func23 (by kernel_rfl) rfl
theorem cl25 : Callable Try.prog 25 := callable Try.func25 (by kernel_rfl) rfl
theorem cl26 : Callable Try.prog 26 := callable Try.func26 (by kernel_rfl) rfl
theorem c_CompChains (v : Value) (l : List CT) {G : Ghost} (hs : Cs G v l) (w : World) (hG : Has G w) :
    Calls Try.prog 7 #[v] w (Ret fun r w' => r = Value.bool true ∧ Since nX w w') := by
  refine enter (args := [_]) (X := nX) (G := G) (l := [(0, v)]) Try.func7 rfl Try.ntmps7 hG ⟨rfl, trivial⟩ (Nat.le_of_ble_eq_true rfl) ?_
  refine c_seq ?_
  refine c_region ?_
  refine r_val .none rfl (p_assign rfl) ?_
  refine r_nil ?_
  refine e_next ?_
  refine c_seq ?_
  refine c_seq ?_
  refine c_region ?_
  refine r_val .none rfl (p_move rfl) ?_
  refine r_call (vs := [_]) .none rfl cl11 rfl (fun w hw => c_fine6 _ _ hs w hw) ?_
  refine r_val .none rfl (p_not rfl) ?_
  refine r_nil ?_
  refine e_next ?_
  refine c_splitn (d := 9) rfl (fun h_1 => ?_) (fun h_1 => ?_)
  · skip
    first
      | (exfalso; first | omega | assumption)
      | (
        refine c_cond_t rfl ?_
        refine c_seq ?_
        refine c_region ?_
        refine r_call (vs := []) .none rfl cl20 rfl (fun w hw => c_awake8 w) ?_
        refine r_val .none rfl (p_assign rfl) ?_
        refine r_nil ?_
        refine e_next ?_
        refine c_ret ?_
        refine e_ret_then ?_
        refine e_ret1 Try.results7 (.tmp rfl .nil) (fun w hm => ⟨?_, hm.since⟩)
        rfl
        )
  · skip
    have hf : fineL l = true := h_1
    have hfy := fineL_yes hf
    have hsz : sizeL l ≤ 1000 := by omega
    have hll := sizeL_len l
    have hflat := flat_all_of hfy.1
    first
      | (exfalso; first | omega | assumption)
      | (
        refine c_cond_f rfl ?_
        refine c_skip ?_
        refine e_next ?_
        refine c_seq ?_
        refine c_region ?_
        refine r_val .none rfl (p_move rfl) ?_
        refine r_callm (vs := [_]) .none rfl cl15 rfl (fun w hw => c_lref _ _ hsz hs w hw) (fun G_2 v_5 hn_3 hr_4 => ?_)
        replace hs := hs.mono hn_3.le
        have hR := hr_4
        have hss6 : sszL (stepsOf [] l) ≤ 64 := Nat.le_trans (sszL_of l []) (by omega)
        have hss : sszL (stepsOf [] l) ≤ 5000 := by omega
        refine r_callm (vs := [_]) .none rfl cl25 rfl (fun w hw => c_compile _ _ hsz hR w hw) (fun G_7 v_10 hn_8 hr_9 => ?_)
        replace hs := hs.mono hn_8.le
        replace hR := hR.mono hn_8.le
        have hS := hr_9
        refine r_val .none rfl (p_assign rfl) ?_
        refine r_nil ?_
        refine e_next ?_
        refine c_seq ?_
        refine c_region ?_
        refine r_val .none rfl (p_move rfl) ?_
        refine r_callm (vs := [_]) .none rfl cl27 rfl (fun w hw => c_steps _ _ hss hS w hw) (fun G_12 v_15 hn_13 hr_14 => ?_)
        replace hs := hs.mono hn_13.le
        replace hR := hR.mono hn_13.le
        replace hS := hS.mono hn_13.le
        have hP := hr_14
        refine r_callm (vs := [_]) .none rfl cl26 rfl (fun w hw => c_chainsS _ _ (by omega) hP w hw) (fun G_17 v_20 hn_18 hr_19 => ?_)
        replace hs := hs.mono hn_18.le
        replace hR := hR.mono hn_18.le
        replace hS := hS.mono hn_18.le
        replace hP := hP.mono hn_18.le
        obtain ⟨u_21qs, u_21q, u_21p, u_21l⟩ := hr_19
        have u_21l2 : schains [] (stepsOf [] l) = u_21qs.map Prod.fst := u_21l
        have hnc : u_21qs.length = (schains [] (stepsOf [] l)).length := by have h := congrArg List.length u_21l; rw [List.length_map] at h; exact h.symm
        refine r_val .none rfl (p_assign rfl) ?_
        refine r_nil ?_
        refine e_next ?_
        refine c_seq ?_
        refine c_region ?_
        refine r_val .none rfl (p_move rfl) ?_
        refine r_nilrow 70 6 ?_
        refine r_callom (k := 0) (vs := [_, _]) .none rfl cl28 rfl rfl (fun w F hw hA hFG => c_rchS _ _ [] _ (by simp; omega) (by simp) (by simp) hS w hw hA hFG) (fun G_22 v_25 hn_23 hr_24 => ?_)
        replace hs := hs.mono hn_23.le
        replace hR := hR.mono hn_23.le
        replace hS := hS.mono hn_23.le
        replace hP := hP.mono hn_23.le
        replace u_21q := u_21q.mono hn_23.le
        replace u_21p := fun p hm0 => (u_21p p hm0).mono hn_23.le
        obtain ⟨u_26qs, u_26q, u_26p, u_26l⟩ := hr_24
        have u_26l2 : schains [] (stepsOf [] l) = u_26qs.map Prod.fst := u_26l
        have hnw : u_26qs.length = (schains [] (stepsOf [] l)).length := by have h := congrArg List.length u_26l; rw [List.length_map] at h; exact h.symm
        refine r_val .none rfl (p_assign rfl) ?_
        refine r_nil ?_
        refine e_next ?_
        refine c_seq ?_
        refine c_seq ?_
        refine c_region ?_
        refine r_val .none rfl (p_move rfl) ?_
        refine r_val .none rfl (p_leng Try.underlying54 rfl u_21q) ?_
        have bd_27 := (u_21q).bound
        refine r_val .none rfl (p_move rfl) ?_
        refine r_val .none rfl (p_leng Try.underlying57 rfl u_26q) ?_
        have bd_28 := (u_26q).bound
        refine r_val .none rfl (p_ne rfl rfl) ?_
        refine r_nil ?_
        refine e_next ?_
        refine c_splitd (d := 23) rfl (fun h_29 => ?_) (fun h_29 => ?_)
        · skip
          first
            | (exfalso; first | omega | assumption)
            | (
              refine c_cond_t rfl ?_
              refine c_seq ?_
              refine c_region ?_
              refine r_val .none rfl (p_assign rfl) ?_
              refine r_nil ?_
              refine e_next ?_
              refine c_ret ?_
              refine e_ret_then ?_
              refine e_ret1 Try.results7 (.tmp rfl .nil) (fun w hm => ⟨?_, hm.since⟩)
              rfl
              )
        · skip
          first
            | (exfalso; first | omega | assumption)
            | (
              refine c_cond_f rfl ?_
              refine c_skip ?_
              refine e_next ?_
              refine c_seq ?_
              refine c_seq ?_
              refine c_region ?_
              refine r_val .none rfl (p_move rfl) ?_
              refine r_val .none rfl (p_leng Try.underlying54 rfl u_21q) ?_
              have bd_30 := (u_21q).bound
              refine r_val .none rfl (p_move rfl) ?_
              refine r_nil ?_
              refine e_next ?_
              refine c_block ?_
              refine c_name (d := 4) rfl (fun u_31 hu_31 => ?_)
              refine c_name (d := 5) rfl (fun u_32 hu_32 => ?_)
              refine c_name (d := 25) rfl (fun u_33 hu_33 => ?_)
              refine c_nameL (k := 0) rfl (fun A_34 hA_34 => ?_)
              refine c_loop (σ := Nat × Ghost) (fun s => [(26, Value.int .i64 (s.1 : Nat)), (4, u_31), (5, u_32), (25, u_33)]) (fun s => [A_34]) (fun s => s.2) (fun s => s.1 ≤ (schains [] (stepsOf [] l)).length ∧ GNew w nX G_22 s.2) (fun s => (schains [] (stepsOf [] l)).length - s.1) ((0, _)) ⟨Nat.zero_le _, GNew.refl _ _ _⟩ rfl ⟨rfl, rfl, rfl, rfl, trivial⟩ (.keep (fun _ _ h => h) (.nil)) (fun s hphi => ?_)
              subst hu_31
              subst hu_32
              subst hu_33
              subst hA_34
              obtain ⟨k, H⟩ := s
              obtain ⟨hk, hgn⟩ := hphi
              dsimp only at hk hgn ⊢
              replace hs := hs.mono hgn.le
              replace hR := hR.mono hgn.le
              replace hS := hS.mono hgn.le
              replace hP := hP.mono hgn.le
              replace u_21q := u_21q.mono hgn.le
              replace u_21p := fun p hm0 => (u_21p p hm0).mono hgn.le
              replace u_26q := u_26q.mono hgn.le
              replace u_26p := fun p hm0 => (u_26p p hm0).mono hgn.le
              refine c_seq ?_
              refine c_region ?_
              refine r_val .none rfl (p_lt rfl rfl) ?_
              refine r_nil ?_
              refine e_next ?_
              refine c_seq ?_
              refine c_splitd (d := 27) rfl (fun h_35 => ?_) (fun h_35 => ?_)
              · skip
                first
                  | (exfalso; first | omega | assumption)
                  | (
                    refine c_cond_t rfl ?_
                    refine c_skip ?_
                    refine e_next ?_
                    refine c_seq ?_
                    refine c_block ?_
                    refine c_seq ?_
                    refine c_region ?_
                    refine r_val .none rfl (p_move rfl) ?_
                    refine r_val .none rfl (p_assign rfl) ?_
                    refine r_nil ?_
                    refine e_next ?_
                    refine c_seq ?_
                    refine c_region_d (fun _ => false) _ mixed (.keep (fun _ _ h => h) (.nil)) ?_
                    refine d_val1 0 rfl rfl (by kernel_rfl) (fun _ _ => rfl) .none rfl (p_move rfl) ?_
                    refine d_val1 1 rfl rfl (by kernel_rfl) (fun _ _ => rfl) .none rfl (p_move rfl) ?_
                    refine d_iaddr_g 2 rfl rfl (by kernel_rfl) (fun _ _ => rfl) .none rfl Try.underlying54 sz50 rfl u_21q rfl (by first | exact of_decide_eq_true rfl | omega) (fun p_37 o_38 R_36 => ?_)
                    have hc_39 := u_21p _ (getD_mem (i := k) (d := es6) (by omega))
                    have hssz : sszL (u_21qs.getD k es6).1 ≤ 5000 := schain_small u_21l2 (by omega) hss
                    refine d_val1 3 rfl rfl (by kernel_rfl) (fun _ _ => rfl) .none rfl (p_ldg0 Try.underlying50 rfl rfl R_36 (by first | exact of_decide_eq_true rfl | omega) rfl) ?_
                    refine d_val1 5 rfl rfl (by kernel_rfl) (fun _ _ => rfl) .none rfl (p_move rfl) ?_
                    refine d_val1 6 rfl rfl (by kernel_rfl) (fun _ _ => rfl) .none rfl (p_move rfl) ?_
                    refine d_iaddr_g 7 rfl rfl (by kernel_rfl) (fun _ _ => rfl) .none rfl Try.underlying57 sz48 rfl u_26q rfl (by first | exact of_decide_eq_true rfl | omega) (fun p_41 o_42 R_40 => ?_)
                    have hc_43 := u_26p _ (getD_mem (i := k) (d := es6) (by omega))
                    refine d_val1 8 rfl rfl (by kernel_rfl) (fun _ _ => rfl) .none rfl (p_ldg0 Try.underlying48 rfl rfl R_40 (by first | exact of_decide_eq_true rfl | omega) rfl) ?_
                    refine d_eff 4 rfl (by kernel_rfl) (fun K_44 hKK_44 hcK_44 => ?_)
                    refine r_callm (vs := [_]) .none rfl cl23 rfl (fun w hw => c_srefs _ _ hssz hc_39 w hw) (fun G_45 v_48 hn_46 hr_47 => ?_)
                    replace hs := hs.mono hn_46.le
                    replace hR := hR.mono hn_46.le
                    replace hS := hS.mono hn_46.le
                    replace hP := hP.mono hn_46.le
                    replace u_21q := u_21q.mono hn_46.le
                    replace u_21p := fun p hm0 => (u_21p p hm0).mono hn_46.le
                    replace u_26q := u_26q.mono hn_46.le
                    replace u_26p := fun p hm0 => (u_26p p hm0).mono hn_46.le
                    replace R_36 := R_36.mono hn_46.le
                    replace hc_39 := hc_39.mono hn_46.le
                    replace R_40 := R_40.mono hn_46.le
                    replace hc_43 := hc_43.mono hn_46.le
                    have u_49 := hr_47
                    refine r_nil (e_d (i := 4) (brk := (fun _ => false)) (ph' := true) hKK_44 hcK_44 rfl (fun _ => hn_46.le) (fun _ => .keep (fun _ _ h => h) (.nil)) ?_)
                    clear hKK_44 hcK_44 K_44
                    refine d_eff 9 rfl (by kernel_rfl) (fun K_50 hKK_50 hcK_50 => ?_)
                    refine r_call (vs := [_, _]) .none rfl cl22 rfl (fun w hw => c_all8 _ _ _ _ u_49 hc_43 w hw) ?_
                    refine r_nil (e_d (i := 9) (brk := (fun _ => false)) (ph' := true) hKK_50 hcK_50 rfl (fun _ => hn_46.le) (fun _ => .keep (fun _ _ h => h) (.nil)) ?_)
                    clear hKK_50 hcK_50 K_50
                    refine d_val1 10 rfl rfl (by kernel_rfl) (fun _ _ => rfl) .none rfl (p_not rfl) ?_
                    refine d_nil (by kernel_rfl) ?_
                    refine e_next ?_
                    refine c_splitn (d := 39) rfl (fun h_51 => ?_) (fun h_51 => ?_)
                    · skip
                      have hx : False := absurd (h_51) (by rw [schain_same u_21l2 u_26l2]; decide)
                      first
                        | (exfalso; first | omega | assumption)
                        | (
                          refine c_cond_t rfl ?_
                          refine c_seq ?_
                          refine c_region ?_
                          refine r_val .none rfl (p_assign rfl) ?_
                          refine r_nil ?_
                          refine e_next ?_
                          refine c_ret ?_
                          refine e_ret_block ?_
                          refine e_ret_then ?_
                          refine e_ret_then ?_
                          refine e_ret_block ?_
                          refine e_ret_then ?_
                          refine e_ret1 Try.results7 (.tmp rfl .nil) (fun w hm => ⟨?_, hm.since⟩)
                          rfl
                          )
                    · skip
                      first
                        | (exfalso; first | omega | assumption)
                        | (
                          refine c_cond_f rfl ?_
                          refine c_skip ?_
                          refine e_norm_block ?_
                          refine e_next ?_
                          refine c_region ?_
                          refine r_val .none rfl (p_add rfl rfl (by omega)) ?_
                          refine r_val .none rfl (p_move rfl) ?_
                          refine r_nil ?_
                          refine e_round ((k + 1, _)) ⟨⟨by dsimp only; omega, (hgn.trans hn_46)⟩, by dsimp only; omega⟩ rfl ⟨rfl, rfl, rfl, rfl, trivial⟩ (.keep (fun _ _ h => h) (.nil))
                          )
                    )
              · skip
                first
                  | (exfalso; first | omega | assumption)
                  | (
                    refine c_cond_f rfl ?_
                    refine c_exit ?_
                    refine e_exit_then ?_
                    refine e_exit_then ?_
                    refine e_exit_block ?_
                    refine e_next ?_
                    refine c_seq ?_
                    refine c_region ?_
                    refine r_call (vs := []) .none rfl cl20 rfl (fun w hw => c_awake8 w) ?_
                    refine r_val .none rfl (p_assign rfl) ?_
                    refine r_nil ?_
                    refine e_next ?_
                    refine c_ret ?_
                    refine e_ret1 Try.results7 (.tmp rfl .nil) (fun w hm => ⟨?_, hm.since⟩)
                    rfl
                    )
              )
        )
end Go.Proofs.Ytoflaphnlfggkaa

/- Walks: what Go functions of this chapter come to, each as a function on plain data; no condition but those that each theorem names. Printed by a program of this work (gen.py). -/
namespace Go.Proofs.Ytoflaphnlfggkaa
open Go.Gx Go.Gx.T3 Go.Gx.T4 Go.Gx.T3 Go.ChangeShapes Go.WideShapes Go.ChangeAt Go.RowKit

theorem open_cond_l : leafT Try.prog 10 38 = some [3, 4, 3, 4, 3, 4, 3, 22] := by kernel_rfl
theorem open_cond_n {H : Type} {enc : TypeId × Value → H} {W : World} {base : Nat} {sp : Nat → Bool} {held : Bool} : ∀ (B n : Nat) (cs : List Value) (x : DataW H × List MemPlace), n ≤ B → DataW.trod enc Try.prog W base sp held n 38 cs = some x → ∃ a : CT × Value, cs = cvC a ∧ Cs (GW W) a.2 a.1.subs
  | 0, n, cs, x, hn, h => by
    obtain rfl : n = 0 := by omega
    simp [DataW.trod] at h
  | B + 1, n, cs, x, hn, h => by
    obtain ⟨n', rfl, hl⟩ := leavesB_struct 9 Try.underlying38 open_cond_l h
    obtain ⟨x0, r0, e0, f0, g0⟩ := hl.inv
    obtain ⟨a0, rfl, _⟩ := f0.leaf.int Try.underlying3
    obtain ⟨x1, r1, e1, f1, g1⟩ := g0.inv
    obtain ⟨a1, rfl⟩ := f1.leaf.bool Try.underlying4
    obtain ⟨x2, r2, e2, f2, g2⟩ := g1.inv
    obtain ⟨a2, rfl, _⟩ := f2.leaf.int Try.underlying3
    obtain ⟨x3, r3, e3, f3, g3⟩ := g2.inv
    obtain ⟨a3, rfl⟩ := f3.leaf.bool Try.underlying4
    obtain ⟨x4, r4, e4, f4, g4⟩ := g3.inv
    obtain ⟨a4, rfl, _⟩ := f4.leaf.int Try.underlying3
    obtain ⟨x5, r5, e5, f5, g5⟩ := g4.inv
    obtain ⟨a5, rfl⟩ := f5.leaf.bool Try.underlying4
    obtain ⟨x6, r6, e6, f6, g6⟩ := g5.inv
    obtain ⟨a6, rfl, _⟩ := f6.leaf.int Try.underlying3
    obtain ⟨x7, r7, e7, f7, g7⟩ := g6.inv
    have z := g7.inv0
    obtain ⟨l, h1, h2⟩ := open_slB (cells := cvC) (Qa := fun a => Cs (GW W) a.2 a.1.subs) d0 Try.underlying22 (show Program.cellsOf Try.prog 38 = 8 by kernel_rfl) (by decide) (fun m cs' y hm hy => open_cond_n B m cs' y (by omega) hy) f7
    refine ⟨(CT.mk ⟨a0, a1, a2, a3, a4, a5, a6⟩ (l.map Prod.fst), x7), ?_, Tr.mk l h1 h2⟩
    rw [e0, e1, e2, e3, e4, e5, e6, e7, z]; rfl
set_option maxRecDepth 100000 in
theorem open_cond {H : Type} {enc : TypeId × Value → H} {W : World} {base : Nat} {sp : Nat → Bool} {held : Bool} {r : Reach} {b0 : Nat} {v : Value} {y : DataW H} {ps : List MemPlace} (hv : Value.okWide Try.prog W r b0 38 v) (h : DataW.Trod enc Try.prog W base sp held 38 v y ps) : ∃ (c : CT) (sv : Value), v = Value.agg #[Value.int .i64 c.h.k, Value.bool c.h.v0, Value.int .i64 c.h.n0, Value.bool c.h.v1, Value.int .i64 c.h.n1, Value.bool c.h.v2, Value.int .i64 c.h.n2, sv] ∧ Cs (GW W) sv c.subs := by
  obtain ⟨cs, rfl⟩ := agg_of_wide Try.underlying38 rfl hv
  obtain ⟨fuel, hf⟩ := h
  obtain ⟨a, e, hs⟩ := open_cond_n fuel fuel cs.toList _ (Nat.le_refl _) hf
  refine ⟨a.1, a.2, ?_, hs⟩
  have : cs = (cvC a).toArray := by apply Array.ext'; simpa using e
  rw [this]; rfl
set_option maxRecDepth 100000 in
theorem open_conds {H : Type} {enc : TypeId × Value → H} {W : World} {base : Nat} {sp : Nat → Bool} {held : Bool} {r : Reach} {b0 : Nat} {v : Value} {y : DataW H} {ps : List MemPlace} (hv : Value.okWide Try.prog W r b0 22 v) (h : DataW.Trod enc Try.prog W base sp held 22 v y ps) : ∃ l : List CT, Cs (GW W) v l := by
  obtain ⟨a, n, c, rfl⟩ := okWide_slice Try.underlying22 hv
  obtain ⟨fuel, hf⟩ := h
  obtain ⟨l, h1, h2⟩ := open_slB (B := fuel) (cells := cvC) (Qa := fun a => Cs (GW W) a.2 a.1.subs) d0 Try.underlying22 (show Program.cellsOf Try.prog 38 = 8 by kernel_rfl) (by decide) (fun m cs' y hm hy => open_cond_n fuel m cs' y (by omega) hy) ⟨fuel, _, Nat.le_refl _, hf⟩
  exact ⟨l.map Prod.fst, Tr.mk l h1 h2⟩
end Go.Proofs.Ytoflaphnlfggkaa
