/- Texts of this work, laid together: a logic of steps, plain laws, and walks of Go functions, each without a condition but those that its theorems name. -/
import Derived.Test.YtdcaehepmkhciaaKTreeTypes2
import Derived.Test.YtdcaehepmkhciaaRows
/- Walks: what Go functions of this chapter come to, each as a function on plain data; no condition but those that each theorem names. Printed by a program of this work (gen.py). -/
namespace Go.Proofs.Ytdcaehepmkhciaa
open Go.Gx Go.Gx Go.Gx.T10 Go.Gx.T12 Go.Gx.T10 Go.Gx.T11 Go.Gx.T15 Go.Gx.T12 Go.Gx.T6 Go.Gx.T4
theorem sz40 : SzIs Try.prog 40 3 := by
 unfold SzIs
 kernel_rfl
theorem lf40 : leafT Try.prog 9 40 = some [3, 9, 3] := by
 kernel_rfl
theorem ef40 : eqT Try.prog 9 40 = true := by
 kernel_rfl
theorem eg40 : Try.prog.eqGuardType Try.prog.depth 40 = false := by
 kernel_rfl
theorem cl10 : Callable Try.prog 10 := callable Try.func10 (by kernel_rfl) rfl
theorem cl12 : Callable Try.prog 12 := callable Try.func12 (by kernel_rfl) rfl
theorem cl13 : Callable Try.prog 13 := callable Try.func13 (by kernel_rfl) rfl
theorem c_EaddS {F : Nat → Prop} {G : Ghost} (p : Nat) (par : Int) (a : ByteArray) (f : Int) (s : TS (Tk ByteArray) ByteArray) (hI : TInv s) (hl : s.last ≤ 1000) (w : World) (hG : Has G w) (hA : (treeE 119 122 3 kS p s).holds w F) (hFG : ∀ b, F b → G b = none) :
  Calls Try.prog 13 #[Value.pointer (some ⟨p, 0, none⟩), Value.int .i64 par, kS a, Value.int .i64 f] w (Ret fun r w' => r = Value.tuple #[Value.int .i64 (addN s par), Value.int .i64 (addX s par)] ∧ Kept (treeE 119 122 3 kS p (addS s par a f)) F w w') :=
 c_taddS p par a f s ⟨by have := hI.lo; omega, hl⟩ (fun id x e => (hI.rng id x e).2.1) (fun id x e => by have := hI.klen e; omega) w hG hA hFG
theorem c_EaddI {F : Nat → Prop} {G : Ghost} (p : Nat) (par : Int) (a : Int) (f : Int) (s : TS (Tk Int) Int) (hI : TInv s) (hl : s.last ≤ 1000) (w : World) (hG : Has G w) (hA : (treeE 127 131 3 kI p s).holds w F) (hFG : ∀ b, F b → G b = none) :
  Calls Try.prog 18 #[Value.pointer (some ⟨p, 0, none⟩), Value.int .i64 par, kI a, Value.int .i64 f] w (Ret fun r w' => r = Value.tuple #[Value.int .i64 (addN s par), Value.int .i64 (addX s par)] ∧ Kept (treeE 127 131 3 kI p (addS s par a f)) F w w') :=
 c_taddI p par a f s ⟨by have := hI.lo; omega, hl⟩ (fun id x e => (hI.rng id x e).2.1) (fun id x e => by have := hI.klen e; omega) w hG hA hFG
theorem c_EdelI {F : Nat → Prop} {G : Ghost} (p : Nat) (id : Int) (s : TS (Tk Int) Int) (T : RT Int) (x xp : Tk Int) (hI : TInv s) (hl : s.last ≤ 1000) (hid : ¬ id = 1) (hx : lkp s.toks id = some x) (hp : lkp s.toks x.par = some xp) (g : Goes s id T) (w : World) (hG : Has G w) (hA : (treeE 127 131 3 kI p s).holds w F) (hFG : ∀ b, F b → G b = none) :
  Calls Try.prog 22 #[Value.pointer (some ⟨p, 0, none⟩), Value.int .i64 id] w (Ret fun r w' => ∃ v, r = Value.tuple #[v, Value.int .i64 0] ∧ Kept (starL [rowA v 53 3 ((post T)).length (((post T)).flatMap (gnC kI)), treeE 127 131 3 kI p (delS s x xp id T)]) F w w') :=
 c_tdelyesI p id s T x xp hid hx hp g.top g.fit g.nd (g.pn hI hx) (by have := g.len hI; omega) w hG hA hFG
theorem c_awake15   (w : World)  :
  Calls Try.prog 11 #[] w (Ret fun r w' => r = Value.bool true ∧ Since nX w w') := by
 refine enter (args := []) (X := nX) (G := (fun _ => none)) (l := []) Try.func11 rfl Try.ntmps11 (fun _ _ h => by cases h) trivial (Nat.le_of_ble_eq_true rfl) ?_
 refine c_seq ?_
 refine c_region ?_
 refine r_val .none rfl (p_assign rfl) ?_
 refine r_nil ?_
 refine e_next ?_
 refine c_seq ?_
 refine c_region ?_
 refine r_callnew (vs := [_]) .none rfl cl10 rfl (fun w hw => c_tnewS awT w hw) (fun p_1 => ?_)
 refine r_val .none rfl (p_assign rfl) ?_
 refine r_nil ?_
 refine e_next ?_
 refine c_seq ?_
 refine c_seq ?_
 refine c_region ?_
 refine r_val .none rfl (p_move rfl) ?_
 refine r_val .none rfl (p_eq_ptr Try.underlying23 (by first | exact .inr rfl | exact .inl rfl) rfl rfl) ?_
 refine r_say (d := 12) (v := Value.bool false) rfl ?_
 refine r_nil ?_
 refine e_next ?_
 refine c_cond_f rfl ?_
 refine c_skip ?_
 refine e_next ?_
 refine c_seq ?_
 refine c_region ?_
 refine r_val .none rfl (p_move rfl) ?_
 refine r_callo (k := 0) (vs := [_, _, _, _]) .none rfl cl13 rfl rfl (fun w F hw hA hFG => c_EaddS _ 1 awX 5 aw0 awI.1 (by decide) w hw hA hFG) ?_
 refine r_say (d := 15) (v := Value.tuple #[Value.int .i64 2, Value.int .i64 0]) rfl ?_
 refine r_val .none rfl (p_move rfl) ?_
 refine r_val .none rfl (p_extract rfl rfl) ?_
 refine r_val .none rfl (p_extract rfl rfl) ?_
 refine r_val .none rfl (p_assign rfl) ?_
 refine r_val .none rfl (p_assign rfl) ?_
 refine r_nil ?_
 refine e_next ?_
 refine c_seq ?_
 refine c_region ?_
 refine r_val .none rfl (p_move rfl) ?_
 refine r_callo (k := 0) (vs := [_, _, _, _]) .none rfl cl13 rfl rfl (fun w F hw hA hFG => c_EaddS _ 1 awX 6 aw1 awI.2.1 (by decide) w hw hA hFG) ?_
 refine r_say (d := 20) (v := Value.tuple #[Value.int .i64 3, Value.int .i64 0]) rfl ?_
 refine r_val .none rfl (p_move rfl) ?_
 refine r_val .none rfl (p_extract rfl rfl) ?_
 refine r_val .none rfl (p_extract rfl rfl) ?_
 refine r_val .none rfl (p_assign rfl) ?_
 refine r_val .none rfl (p_assign rfl) ?_
 refine r_nil ?_
 refine e_next ?_
 refine c_seq ?_
 refine c_region ?_
 refine r_val .none rfl (p_move rfl) ?_
 refine r_callo (k := 0) (vs := [_, _, _, _]) .none rfl cl13 rfl rfl (fun w F hw hA hFG => c_EaddS _ 2 awY 0 aw2 awI.2.2.1 (by decide) w hw hA hFG) ?_
 refine r_say (d := 25) (v := Value.tuple #[Value.int .i64 4, Value.int .i64 0]) rfl ?_
 refine r_val .none rfl (p_move rfl) ?_
 refine r_val .none rfl (p_extract rfl rfl) ?_
 refine r_val .none rfl (p_extract rfl rfl) ?_
 refine r_val .none rfl (p_assign rfl) ?_
 refine r_val .none rfl (p_assign rfl) ?_
 refine r_nil ?_
 refine e_next ?_
 refine c_seq ?_
 refine c_region ?_
 refine r_val .none rfl (p_move rfl) ?_
 refine r_callov (k := 0) (vs := [_, _]) (u := fun v => .tuple #[v, Value.int .i64 0]) .none rfl cl12 rfl rfl (fun w F hw hA hFG => c_tdelyesS _ 2 aw3 awTr ⟨awX, 1, 5, [4]⟩ ⟨awT, 0, 0, [2, 3]⟩ (by decide) aw_x aw_xp rfl aw_fit (by decide) (by decide) (by decide) w hw hA hFG) (fun dv_2 => ?_)
 refine r_unpack ?_
 refine r_val .none rfl (p_move rfl) ?_
 refine r_val .none rfl (p_extract rfl rfl) ?_
 refine r_val .none rfl (p_extract rfl rfl) ?_
 refine r_val .none rfl (p_assign rfl) ?_
 refine r_val .none rfl (p_assign rfl) ?_
 refine r_nil ?_
 refine e_next ?_
 refine c_seq ?_
 refine c_region ?_
 refine r_val .none rfl (p_move rfl) ?_
 refine r_val .none rfl (p_eq rfl rfl) ?_
 refine r_say (d := 34) (v := Value.bool true) rfl ?_
 refine r_val .none rfl (p_move rfl) ?_
 refine r_val (.some rfl rfl) rfl (p_move rfl) ?_
 refine r_val (.some rfl rfl) rfl (p_eq rfl rfl) ?_
 refine r_say (d := 37) (v := Value.bool true) rfl ?_
 refine r_val .none rfl (p_pick_t rfl rfl) ?_
 refine r_val .none rfl (p_move rfl) ?_
 refine r_val (.some rfl rfl) rfl (p_move rfl) ?_
 refine r_val (.some rfl rfl) rfl (p_eq rfl rfl) ?_
 refine r_say (d := 41) (v := Value.bool true) rfl ?_
 refine r_val .none rfl (p_pick_t rfl rfl) ?_
 refine r_val .none rfl (p_move rfl) ?_
 refine r_val (.some rfl rfl) rfl (p_move rfl) ?_
 refine r_val (.some rfl rfl) rfl (p_eq rfl rfl) ?_
 refine r_say (d := 45) (v := Value.bool true) rfl ?_
 refine r_val .none rfl (p_pick_t rfl rfl) ?_
 refine r_val .none rfl (p_move rfl) ?_
 refine r_val (.some rfl rfl) rfl (p_move rfl) ?_
 refine r_val (.some rfl rfl) rfl (p_eq rfl rfl) ?_
 refine r_say (d := 49) (v := Value.bool true) rfl ?_
 refine r_val .none rfl (p_pick_t rfl rfl) ?_
 refine r_val .none rfl (p_move rfl) ?_
 refine r_val (.some rfl rfl) rfl (p_move rfl) ?_
 refine r_val (.some rfl rfl) rfl (p_eq rfl rfl) ?_
 refine r_say (d := 53) (v := Value.bool true) rfl ?_
 refine r_val .none rfl (p_pick_t rfl rfl) ?_
 refine r_val .none rfl (p_move rfl) ?_
 refine r_val (.some rfl rfl) rfl (p_move rfl) ?_
 refine r_val (.some rfl rfl) rfl (p_eq rfl rfl) ?_
 refine r_val .none rfl (p_pick_t rfl rfl) ?_
 refine r_val .none rfl (p_move rfl) ?_
 refine r_splitd (d := 59) rfl (fun h_3 => ?_) (fun h_3 => ?_)
 ·
  first
   | (exfalso; omega)
   | (
    refine r_val (.some rfl rfl) rfl (p_move rfl) ?_
    refine r_val (.some rfl rfl) rfl (p_leno (k := 0) Try.underlying28 rfl rfl) ?_
    refine r_say (d := 61) (v := Value.int .i64 2) rfl ?_
    refine r_val (.some rfl rfl) rfl (p_eq rfl rfl) ?_
    refine r_say (d := 62) (v := Value.bool true) rfl ?_
    refine r_val .none rfl (p_pick_t rfl rfl) ?_
    refine r_val .none rfl (p_move rfl) ?_
    refine r_val (.some rfl rfl) rfl (p_move rfl) ?_
    refine r_iaddr_o (k := 0) (i := 0) (.some rfl rfl) rfl Try.underlying28 sz40 rfl rfl rfl (by first | exact of_decide_eq_true rfl | omega) (fun p_4 c_5 hv_6 => ?_)
    refine r_val (.some rfl rfl) rfl (p_field Try.underlying40 rfl sz3 rfl) ?_
    refine r_val (.some rfl rfl) rfl (p_ldo (k := 0) (j := 0) (i := 0) Try.underlying3 rfl rfl hv_6 rfl (by first | exact of_decide_eq_true rfl | omega) (by first | exact of_decide_eq_true rfl | omega) ((flatMap_get (cells := (gnC kS)) (fun _ => rfl) (0, ByteArray.empty, 0) _ _ _ (by first | exact of_decide_eq_true rfl | omega) (by first | exact of_decide_eq_true rfl | omega)).trans (rfl : _ = Value.int _ _))) ?_
    refine r_say (d := 68) (v := Value.int .i64 4) rfl ?_
    refine r_val (.some rfl rfl) rfl (p_eq rfl rfl) ?_
    refine r_say (d := 69) (v := Value.bool true) rfl ?_
    refine r_val .none rfl (p_pick_t rfl rfl) ?_
    refine r_val .none rfl (p_move rfl) ?_
    refine r_val (.some rfl rfl) rfl (p_move rfl) ?_
    refine r_iaddr_o (k := 0) (i := 1) (.some rfl rfl) rfl Try.underlying28 sz40 rfl rfl rfl (by first | exact of_decide_eq_true rfl | omega) (fun p_7 c_8 hv_9 => ?_)
    refine r_val (.some rfl rfl) rfl (p_ldoa0 (k := 0) (i := 1) Try.underlying40 rfl sz40 rfl hv_9 rfl (by first | exact of_decide_eq_true rfl | omega) (by first | exact of_decide_eq_true rfl | omega) (fun c hc => flatMap_get (cells := (gnC kS)) (fun _ => rfl) (0, ByteArray.empty, 0) _ _ _ (by first | exact of_decide_eq_true rfl | omega) (by first | exact of_decide_eq_true rfl | omega)) (rfl : _ = Value.agg #[_, _, _])) ?_
    refine r_val (.some rfl rfl) rfl (p_build (vs := [(0, Value.int _ _), (1, Value.string _), (2, Value.int _ _)]) rfl (bl40_0i1_1s1_2i1 _ _ _)) ?_
    refine r_val (.some rfl rfl) rfl (p_eqa rfl rfl (eq_flat Try.underlying40 rfl lf40 ef40 eg40 (.cons (.int Try.underlying3) (.cons (.string Try.underlying9) (.cons (.int Try.underlying3) (.nil)))) (.cons (.int Try.underlying3) (.cons (.string Try.underlying9) (.cons (.int Try.underlying3) (.nil)))))) ?_
    refine r_val .none rfl (p_pick_t rfl rfl) ?_
    refine r_val .none rfl (p_assign rfl) ?_
    refine r_nil ?_
    refine e_next ?_
    refine c_ret ?_
    refine e_ret1 Try.results11 (.tmp rfl .nil) (fun w hm => ⟨?_, hm.since⟩)
    first
    | rfl
    | exact congrArg Value.bool (by decide +kernel)
    )
 ·
  first
   | (exfalso; omega)
   | (
    refine r_skip rfl (.no rfl rfl) ?_
    refine r_skip rfl (.no rfl rfl) ?_
    refine r_skip rfl (.no rfl rfl) ?_
    refine r_val .none rfl (p_pick_f rfl rfl) ?_
    refine r_val .none rfl (p_move rfl) ?_
    refine r_skip rfl (.no rfl rfl) ?_
    refine r_skip rfl (.no rfl rfl) ?_
    refine r_skip rfl (.no rfl rfl) ?_
    refine r_skip rfl (.no rfl rfl) ?_
    refine r_skip rfl (.no rfl rfl) ?_
    refine r_val .none rfl (p_pick_f rfl rfl) ?_
    refine r_val .none rfl (p_move rfl) ?_
    refine r_skip rfl (.no rfl rfl) ?_
    refine r_skip rfl (.no rfl rfl) ?_
    refine r_skip rfl (.no rfl rfl) ?_
    refine r_skip rfl (.no rfl rfl) ?_
    refine r_skip rfl (.no rfl rfl) ?_
    refine r_val .none rfl (p_pick_f rfl rfl) ?_
    refine r_val .none rfl (p_assign rfl) ?_
    refine r_nil ?_
    refine e_next ?_
    refine c_ret ?_
    refine e_ret1 Try.results11 (.tmp rfl .nil) (fun w hm => ⟨?_, hm.since⟩)
    first
    | rfl
    | exact congrArg Value.bool (by decide +kernel)
    )
end Go.Proofs.Ytdcaehepmkhciaa

/- What '%' makes of numbers of either sign. -/
namespace Go.Gx
open Go.RowKit
section
variable {P : Program} {N : Nat} {X : Nat → Prop} {w0 : World} {G : Ghost} {l : List (Nat × Value)} {L : List Asrt}
variable {d : Nat} {ty : TypeId} {pos : String} {after : Array Edge} {gd : Option (Nat × Bool)} {x y : Operand}
end
end Go.Gx

/- Plain laws of trees of tokens: who is out with a token is who has it above itself. -/
namespace Go.Gx.T15
open Go.Gx Go.Gx.T10 Go.Gx.T12
section
variable {α : Type} {s : TS (Tk α) α} {id k up : Int} {b : List (Int × Int)} {f : Bool}
def parS (s : TS (Tk α) α) (up : Int) : Int := ((lkp s.toks up).map Tk.par).getD 0
theorem parS_some {x : Tk α} (h : lkp s.toks up = some x) : parS s up = x.par := by unfold parS; rw [h]; rfl
theorem parS_none (h : lkp s.toks up = none) : parS s up = 0 := by unfold parS; rw [h]; rfl
theorem parS_lt (hI : TInv s) (h : 0 < up) : parS s up < up ∧ 0 ≤ parS s up := by
  cases e : lkp s.toks up with
  | none => rw [parS_none e]; omega
  | some x => rw [parS_some e]; have := hI.rng up x e; omega
structure Bl (s : TS (Tk α) α) (id k : Int) (b : List (Int × Int)) : Prop where
  mm : Mm b (fun c => 2 ≤ c ∧ c < k ∧ Anc (lkp s.toks) id c)
structure Bw (s : TS (Tk α) α) (id k up : Int) (b : List (Int × Int)) (f : Bool) : Prop where
  mm : Mm b (fun c => (2 ≤ c ∧ c < k ∧ Anc (lkp s.toks) id c) ∨ (c = k ∧ f = true))
  an : Anc (lkp s.toks) id k ↔ (f = true ∨ Anc (lkp s.toks) id up)
  up0 : 0 ≤ up
theorem Bl.start : Bl s id 2 [] := ⟨Mm.nil.congr (fun c => ⟨False.elim, fun h => by omega⟩)⟩
theorem Bl.go (h : Bl s id k b) (hk : 0 ≤ k) : Bw s id k k b false := ⟨h.mm.congr (fun c => by simp), by simp, hk⟩
theorem anc_zero (hI : TInv s) (hid : 2 ≤ id) (hu : up ≤ 0) : ¬ Anc (lkp s.toks) id up := fun h => by
  have := h.le hI.ord; omega
theorem anc_par (hI : TInv s) (hid : 2 ≤ id) (hne : ¬ up = id) : Anc (lkp s.toks) id up ↔ Anc (lkp s.toks) id (parS s up) := by
  cases e : lkp s.toks up with
  | none =>
    rw [parS_none e]
    constructor
    · intro h
      cases h with
      | refl => exact absurd rfl hne
      | step h1 _ => rw [e] at h1; cases h1
    · exact fun h => absurd h (anc_zero hI hid (Int.le_refl _))
  | some x =>
    rw [parS_some e]
    constructor
    · intro h
      cases h with
      | refl => exact absurd rfl hne
      | step h1 h2 => rw [e] at h1; simp only [Option.some.injEq] at h1; subst h1; exact h2
    · exact fun h => .step e h
theorem Bw.no (hI : TInv s) (h : Bw s id k up b f) (hne : ¬ up = id) (hid : 2 ≤ id) (hup : 0 < up) : Bw s id k (parS s up) b f :=
  ⟨h.mm, h.an.trans (or_congr Iff.rfl (anc_par hI hid hne)), (parS_lt hI hup).2⟩
variable {T : RT α}
theorem Bl.has (hI : TInv s) (h : Bl s id (s.last + 1) b) (hg : Goes s id T) (hid : 2 ≤ id) (c : Int) : (lkp b c).isSome = true ↔ c ∈ (post T).map (·.1) := by
  rw [h.mm.mem, hg.mem hI (by omega)]
  constructor
  · exact fun h1 => h1.2.2
  · intro h1
    have h2 := h1.le hI.ord
    have h3 := (hg.mem hI (by omega) c).2 h1
    obtain ⟨y, hy⟩ := hg.here c h3
    have := hI.rng c y hy
    exact ⟨by omega, by omega, h1⟩
theorem Bl.len (hI : TInv s) (h : Bl s id (s.last + 1) b) (hg : Goes s id T) (hid : 2 ≤ id) : b.length = (post T).length := by
  have h1 := nodup_same h.mm.nd hg.nd (fun c => (lkp_keys).trans (h.has hI hg hid c))
  simpa using h1
theorem Bl.get (hI : TInv s) (h : Bl s id (s.last + 1) b) (hg : Goes s id T) (hid : 2 ≤ id) {c : Int} (hc : c ∈ (post T).map (·.1)) : (lkp b c).getD 0 = 1 := by
  obtain ⟨v, hv⟩ := Option.isSome_iff_exists.1 ((h.has hI hg hid c).2 hc)
  rw [hv]
  exact h.mm.one _ (lkp_some hv)
end
section
variable {α : Type} [DecidableEq α] {s : TS (Tk α) α} {par : Int} {a : α} {f : Int}
omit [DecidableEq α] in
theorem addN_some {x : Tk α} (h : lkp s.toks par = some x) : addN s par = s.last + 1 := by unfold addN; rw [h]; rfl
omit [DecidableEq α] in
theorem addX_some {x : Tk α} (h : lkp s.toks par = some x) : addX s par = 0 := by unfold addX; rw [h]; rfl
theorem addL_some {x : Tk α} (h : lkp s.toks par = some x) : (addS s par a f).last = s.last + 1 := by rw [add_last, h]; rfl
end
end Go.Gx.T15

/- Plain laws of trees of tokens: one below the other. -/
namespace Go.Gx.T15
open Go.Gx Go.Gx.T10 Go.Gx.T12
def chP (l : List Int) (k : Int) : Int := if k = 1 then -1 else l.getD (k - 2).toNat 0
/-- One stands below the other. -/
structure Ch (s : TS (Tk Int) Int) (l : List Int) (n : Nat) : Prop where
  inv : TInv s
  last : s.last = (n : Int) + 1
  len : s.toks.length = n + 1
  tok : ∀ k : Int, 1 ≤ k → k ≤ (n : Int) + 1 → ∃ f, lkp s.toks k = some ⟨chP l k, k - 1, f, if k ≤ (n : Int) then [k + 1] else []⟩
theorem mput_len_new {κ ν : Type} [DecidableEq κ] {k : κ} {v : ν} : ∀ {l : List (κ × ν)}, lkp l k = none → (mput l k v).length = l.length + 1
  | [], _ => rfl
  | p :: t, h => by
    rw [lkp] at h
    rw [mput]
    by_cases e : p.1 = k
    · rw [if_pos e] at h; cases h
    · rw [if_neg e] at h ⊢
      simp only [List.length_cons, mput_len_new h]
theorem Ch.new (l : List Int) : Ch (newS (-1)) l 0 := by
  refine ⟨TInv.new _, rfl, rfl, fun k h1 h2 => ?_⟩
  obtain rfl : k = 1 := by omega
  exact ⟨0, rfl⟩
variable {s : TS (Tk Int) Int} {l : List Int} {n : Nat}
theorem Ch.at (h : Ch s l n) : ∃ f, lkp s.toks ((n : Int) + 1) = some ⟨chP l ((n : Int) + 1), n, f, []⟩ := by
  obtain ⟨f, hf⟩ := h.tok ((n : Int) + 1) (by omega) (Int.le_refl _)
  rw [if_neg (by omega), show (n : Int) + 1 - 1 = n by omega] at hf
  exact ⟨f, hf⟩
theorem Ch.addN (h : Ch s l n) : T15.addN s ((n : Int) + 1) = (n : Int) + 2 := by
  obtain ⟨f, hf⟩ := h.at
  rw [addN_some hf, h.last]; omega
theorem Ch.addX (h : Ch s l n) : T15.addX s ((n : Int) + 1) = 0 := by
  obtain ⟨f, hf⟩ := h.at
  exact addX_some hf
theorem Ch.add (h : Ch s l n) : Ch (addS s ((n : Int) + 1) (l.getD n 0) (n : Int)) l (n + 1) := by
  obtain ⟨f, hf⟩ := h.at
  have hno : lkp s.toks (s.last + 1) = none := by
    cases e : lkp s.toks (s.last + 1) with
    | none => rfl
    | some y => have := h.inv.rng _ y e; omega
  have hl := h.last
  refine ⟨h.inv.add _ _ _, by rw [addL_some hf]; omega, ?_, fun k h1 h2 => ?_⟩
  · have e2 : (addS s ((n : Int) + 1) (l.getD n 0) (n : Int)).toks = mput (mput s.toks (s.last + 1) ⟨l.getD n 0, (n : Int) + 1, (n : Int), []⟩) ((n : Int) + 1) ⟨chP l ((n : Int) + 1), n, f, [] ++ [s.last + 1]⟩ := by unfold addS; rw [hf]
    have h3 : lkp (mput s.toks (s.last + 1) (⟨l.getD n 0, (n : Int) + 1, (n : Int), []⟩ : Tk Int)) ((n : Int) + 1) = some ⟨chP l ((n : Int) + 1), n, f, []⟩ := by
      rw [lkp_mput, if_neg (by omega)]; exact hf
    rw [e2, mput_len h3, mput_len_new hno, h.len]
  · rw [add_lkp hf]
    by_cases e : (n : Int) + 1 = k
    · subst e
      rw [if_pos rfl, if_pos (by omega)]
      refine ⟨f, ?_⟩
      rw [show (n : Int) + 1 - 1 = n by omega, show s.last + 1 = (n : Int) + 1 + 1 by omega]
      rfl
    · rw [if_neg e]
      by_cases e2 : s.last + 1 = k
      · rw [if_pos e2]
        refine ⟨(n : Int), ?_⟩
        obtain rfl : k = (n : Int) + 2 := by omega
        have h3 : chP l ((n : Int) + 2) = l.getD n 0 := by
          unfold chP
          rw [if_neg (by omega), show ((n : Int) + 2 - 2).toNat = n by omega]
        rw [h3, if_neg (by omega), show (n : Int) + 2 - 1 = (n : Int) + 1 by omega]
      · rw [if_neg e2]
        obtain ⟨g, hg⟩ := h.tok k h1 (by omega)
        rw [if_pos (by omega)] at hg ⊢
        exact ⟨g, hg⟩
theorem up_chain (h : Ch s l n) {m : Int} {a : Int} (hm : 1 ≤ m) (ha : chP l m = a) : ∀ (q : Nat) (k : Int), m ≤ k → k ≤ (n : Int) + 1 → k.toNat < q → m ≤ upF q (lkp s.toks) k a ∧ ∃ z, lkp s.toks (upF q (lkp s.toks) k a) = some z ∧ z.pla = a
  | 0, _, _, _, hq => absurd hq (Nat.not_lt_zero _)
  | q + 1, k, h1, h2, hq => by
    obtain ⟨f, hf⟩ := h.tok k (by omega) h2
    rw [upF_some hf]
    by_cases e : chP l k = a
    · simp only [e, if_true]
      exact ⟨h1, ⟨_, hf, e⟩⟩
    · simp only [e, if_false]
      have hne : ¬ m = k := fun e2 => e (e2 ▸ ha)
      exact up_chain h hm ha q (k - 1) (by omega) (by omega) (by omega)
theorem Ch.up (h : Ch s l l.length) {i : Nat} (hi : i < l.length) : ∃ r, upF (s.last.toNat + 1) (lkp s.toks) ((l.length : Int) + 1) (l.getD i 0) = r ∧ (i : Int) + 2 ≤ r ∧ ∃ z, lkp s.toks r = some z ∧ z.pla = l.getD i 0 := by
  have hl := h.last
  have ha : chP l ((i : Int) + 2) = l.getD i 0 := by
    unfold chP
    rw [if_neg (by omega), show ((i : Int) + 2 - 2).toNat = i by omega]
  obtain ⟨h1, h2⟩ := up_chain h (show (1 : Int) ≤ (i : Int) + 2 by omega) ha (s.last.toNat + 1) ((l.length : Int) + 1) (by omega) (Int.le_refl _) (by omega)
  exact ⟨_, rfl, h1, h2⟩
theorem Ch.two (h : Ch s l n) (hn : 0 < n) : ¬ lkp s.toks 2 = none := fun e => by
  obtain ⟨f, hf⟩ := h.tok 2 (by decide) (by omega)
  rw [e] at hf; cases hf
theorem chain_post (h : Ch s l n) : ∀ (q : Nat) (T : RT Int), FitsG (lkp s.toks) T → 1 ≤ T.id → T.id ≤ (n : Int) + 1 → ((n : Int) + 1 - T.id).toNat = q → (post T).length = q + 1 ∧ ((post T).getD 0 (0, 0, 0)).1 = (n : Int) + 1
  | q, .mk k a f ks, ⟨⟨x, h1, h2, h3, h4⟩, h5⟩, hk1, hk2, hq => by
    obtain ⟨g, hg⟩ := h.tok k hk1 hk2
    rw [h1] at hg
    simp only [Option.some.injEq] at hg
    subst hg
    simp only [RT.id] at hk1 hk2 hq
    cases q with
    | zero =>
      have hkn : ¬ k ≤ (n : Int) := by omega
      simp only [hkn, if_false] at h4
      have : ks = [] := by cases ks with | nil => rfl | cons t ts => simp at h4
      subst this
      refine ⟨by simp [post, postL], ?_⟩
      simp only [post, postL, List.nil_append, List.getD_cons_zero]
      omega
    | succ q =>
      have hkn : k ≤ (n : Int) := by omega
      simp only [hkn, if_true] at h4
      obtain ⟨t, rfl⟩ : ∃ t, ks = [t] := by
        cases ks with
        | nil => simp at h4
        | cons t ts => cases ts with
          | nil => exact ⟨t, rfl⟩
          | cons u us => simp at h4
      simp only [List.map_cons, List.map_nil, List.cons.injEq, and_true] at h4
      have hid : t.id = k + 1 := h4.symm
      obtain ⟨r1, r2⟩ := chain_post h q t h5.1 (by omega) (by omega) (by omega)
      have e : post (RT.mk k a f [t]) = post t ++ [(k, a, f)] := by simp [post, postL]
      rw [e]
      refine ⟨by simp [r1], ?_⟩
      have h0 : 0 < (post t).length := by omega
      rw [List.getD_eq_getElem?_getD, List.getElem?_append_left h0, ← List.getD_eq_getElem?_getD]
      exact r2
theorem Ch.post {T : RT Int} (h : Ch s l l.length) (hn : 0 < l.length) (hg : Goes s 2 T) : (T15.post T).length = l.length ∧ ((T15.post T).getD 0 (0, 0, 0)).1 = (l.length : Int) + 1 := by
  have ht := hg.top
  obtain ⟨h1, h2⟩ := chain_post h (l.length - 1) T hg.fit (by omega) (by omega) (by omega)
  exact ⟨by omega, h2⟩
theorem Ch.kids1 {T : RT Int} {x xp : Tk Int} (h : Ch s l l.length) (hn : 0 < l.length) (hx : lkp s.toks 2 = some x) (hp : lkp s.toks x.par = some xp) (hg : Goes s 2 T) : ((lkp (delS s x xp 2 T).toks 1).map Tk.kids).getD [] = [] := by
  obtain ⟨f, hf⟩ := h.tok 2 (by decide) (by omega)
  rw [hx] at hf; simp only [Option.some.injEq] at hf
  have hpar : x.par = 1 := by rw [hf]; rfl
  obtain ⟨f1, hf1⟩ := h.tok 1 (by decide) (by omega)
  rw [if_pos (by omega)] at hf1
  rw [hpar, hf1] at hp; simp only [Option.some.injEq] at hp
  have h1 : ¬ (1 : Int) ∈ (T15.post T).map (·.1) := fun hm => by
    have := (hg.anc 1 hm).le h.inv.ord; omega
  rw [del_lkp h.inv, if_neg h1, if_pos hpar, ← hp]
  simp [less]
end Go.Gx.T15

/- Walks: what Go functions of this chapter come to, each as a function on plain data; no condition but those that each theorem names. Printed by a program of this work (gen.py). -/
namespace Go.Proofs.Ytdcaehepmkhciaa
open Go.Gx Go.Gx Go.Gx.T10 Go.Gx.T12 Go.Gx.T10 Go.Gx.T11 Go.Gx.T15 Go.Gx.T12 Go.Gx.T6 Go.Gx.T4
theorem sz53 : SzIs Try.prog 53 3 := by
 unfold SzIs
 kernel_rfl
theorem cl11 : Callable Try.prog 11 := callable Try.func11 (by kernel_rfl) rfl
theorem cl17 : Callable Try.prog 17 := callable Try.func17 (by kernel_rfl) rfl
theorem cl18 : Callable Try.prog 18 := callable Try.func18 (by kernel_rfl) rfl
theorem cl19 : Callable Try.prog 19 := callable Try.func19 (by kernel_rfl) rfl
theorem cl20 : Callable Try.prog 20 := callable Try.func20 (by kernel_rfl) rfl
theorem cl21 : Callable Try.prog 21 := callable Try.func21 (by kernel_rfl) rfl
theorem cl22 : Callable Try.prog 22 := callable Try.func22 (by kernel_rfl) rfl
theorem cl23 : Callable Try.prog 23 := callable Try.func23 (by kernel_rfl) rfl
theorem c_TreeTypes (v : Value) (l : List Int) {G : Ghost} (hs : SlL G v 1 cI (0 : Int) l) (w : World) (hG : Has G w) :
  Calls Try.prog 4 #[v] w (Ret fun r w' => r = Value.bool true ∧ Since nX w w') := by
 refine enter (args := [_]) (X := nX) (G := G) (l := [(0, v)]) Try.func4 rfl Try.ntmps4 hG ⟨rfl, trivial⟩ (Nat.le_of_ble_eq_true rfl) ?_
 refine c_seq ?_
 refine c_region ?_
 refine r_val .none rfl (p_assign rfl) ?_
 refine r_nil ?_
 refine e_next ?_
 refine c_seq ?_
 refine c_region ?_
 refine r_callnew (vs := [_]) .none rfl cl17 rfl (fun w hw => c_tnewI (-1) w hw) (fun p_1 => ?_)
 refine r_val .none rfl (p_assign rfl) ?_
 refine r_nil ?_
 refine e_next ?_
 refine c_seq ?_
 refine c_seq ?_
 refine c_region ?_
 refine r_val .none rfl (p_move rfl) ?_
 refine r_val .none rfl (p_leng Try.underlying42 rfl hs) ?_
 have bd_2 := (hs).bound
 refine r_val .none rfl (p_gt rfl rfl) ?_
 refine r_val .none rfl (p_move rfl) ?_
 refine r_splitd (d := 20) rfl (fun h_3 => ?_) (fun h_3 => ?_)
 ·
  first
   | (exfalso; first | omega | assumption)
   | (
    refine r_skip rfl (.no rfl rfl) ?_
    refine r_skip rfl (.no rfl rfl) ?_
    refine r_val .none rfl (p_pick_t rfl rfl) ?_
    refine r_nil ?_
    refine e_next ?_
    refine c_cond_t rfl ?_
    refine c_seq ?_
    refine c_region ?_
    refine r_val .none rfl (p_move rfl) ?_
    refine r_val .none rfl (p_ne_ptr Try.underlying43 (by first | exact .inr rfl | exact .inl rfl) rfl rfl) ?_
    refine r_say (d := 25) (v := Value.bool true) rfl ?_
    refine r_val .none rfl (p_move rfl) ?_
    refine r_call (vs := []) (.some rfl rfl) rfl cl11 rfl (fun w hw => c_awake15 w) ?_
    refine r_val .none rfl (p_pick_t rfl rfl) ?_
    refine r_val .none rfl (p_assign rfl) ?_
    refine r_nil ?_
    refine e_next ?_
    refine c_ret ?_
    refine e_ret_then ?_
    refine e_ret1 Try.results4 (.tmp rfl .nil) (fun w hm => ⟨?_, hm.since⟩)
    first
    | rfl
    | (simp; done)
    )
 ·
  first
   | (exfalso; first | omega | assumption)
   | (
    refine r_val (.some rfl rfl) rfl (p_move rfl) ?_
    refine r_val (.some rfl rfl) rfl (p_eq_ptr Try.underlying43 (by first | exact .inr rfl | exact .inl rfl) rfl rfl) ?_
    refine r_say (d := 22) (v := Value.bool false) rfl ?_
    refine r_val .none rfl (p_pick_f rfl rfl) ?_
    refine r_nil ?_
    refine e_next ?_
    refine c_cond_f rfl ?_
    refine c_skip ?_
    refine e_next ?_
    refine c_seq ?_
    refine c_seq ?_
    refine c_region ?_
    refine r_val .none rfl (p_move rfl) ?_
    refine r_val .none rfl (p_leng Try.underlying42 rfl hs) ?_
    have bd_4 := (hs).bound
    refine r_val .none rfl (p_move rfl) ?_
    refine r_nil ?_
    refine e_next ?_
    refine c_block ?_
    refine c_name (d := 0) rfl (fun u_5 hu_5 => ?_)
    refine c_name (d := 3) rfl (fun u_6 hu_6 => ?_)
    refine c_name (d := 29) rfl (fun u_7 hu_7 => ?_)
    refine c_name (d := 30) rfl (fun u_8 hu_8 => ?_)
    refine c_loop (σ := Nat × TS (Tk Int) Int) (fun s' => [(31, Value.int .i64 (s'.1 : Nat)), (0, u_5), (3, u_6), (29, u_7), (30, u_8)]) (fun s' => [treeE 127 131 3 kI p_1 s'.2]) (fun _ => _) (fun s' => s'.1 ≤ l.length ∧ Ch s'.2 l s'.1) (fun s' => l.length - s'.1) ((0, newS (-1))) ⟨Nat.zero_le _, Ch.new _⟩ rfl ⟨rfl, rfl, rfl, rfl, rfl, trivial⟩ (.keep (fun _ _ h => h) (.nil)) (fun s' hphi => ?_)
    subst hu_5
    subst hu_6
    subst hu_7
    subst hu_8
    obtain ⟨j, t⟩ := s'
    obtain ⟨hj, hC⟩ := hphi
    dsimp only at hj hC ⊢
    refine c_seq ?_
    refine c_region ?_
    refine r_val .none rfl (p_lt rfl rfl) ?_
    refine r_nil ?_
    refine e_next ?_
    refine c_seq ?_
    refine c_splitd (d := 32) rfl (fun h_9 => ?_) (fun h_9 => ?_)
    ·
     first
      | (exfalso; first | omega | assumption)
      | (
       refine c_cond_t rfl ?_
       refine c_skip ?_
       refine e_next ?_
       refine c_seq ?_
       refine c_block ?_
       refine c_seq ?_
       refine c_region ?_
       refine r_val .none rfl (p_move rfl) ?_
       refine r_iaddr_g .none rfl Try.underlying42 sz3 rfl hs rfl (by first | exact of_decide_eq_true rfl | omega) (fun p_11 o_12 R_10 => ?_)
       refine r_val .none rfl (p_ldg0 Try.underlying3 rfl rfl R_10 (by first | exact of_decide_eq_true rfl | omega) (rfl : _ = Value.int _ _)) ?_
       refine r_val .none rfl (p_assign rfl) ?_
       refine r_val .none rfl (p_assign rfl) ?_
       refine r_nil ?_
       refine e_next ?_
       refine c_seq ?_
       refine c_region ?_
       refine r_val .none rfl (p_move rfl) ?_
       refine r_val .none rfl (p_move rfl) ?_
       refine r_val .none rfl (p_add rfl rfl (by omega)) ?_
       refine r_val .none rfl (p_move rfl) ?_
       refine r_val .none rfl (p_move rfl) ?_
       refine r_callo (k := 0) (vs := [_, _, _, _]) .none rfl cl18 rfl rfl (fun w F hw hA hFG => c_EaddI _ ((j : Int) + 1) (l.getD j 0) (j : Int) t hC.inv (by have h8 := hC.last; omega) w hw hA hFG) ?_
       rw [hC.addN, hC.addX]
       refine r_val .none rfl (p_move rfl) ?_
       refine r_val .none rfl (p_extract rfl rfl) ?_
       refine r_val .none rfl (p_extract rfl rfl) ?_
       refine r_val .none rfl (p_assign rfl) ?_
       refine r_val .none rfl (p_assign rfl) ?_
       refine r_nil ?_
       refine e_next ?_
       refine c_seq ?_
       refine c_region ?_
       refine r_val .none rfl (p_move rfl) ?_
       refine r_val .none rfl (p_move rfl) ?_
       refine r_val .none rfl (p_add rfl rfl (by omega)) ?_
       refine r_val .none rfl (p_ne rfl rfl) ?_
       refine r_val .none rfl (p_move rfl) ?_
       refine r_splitd (d := 49) rfl (fun h_13 => ?_) (fun h_13 => ?_)
       ·
        first
         | (exfalso; first | omega | assumption)
         | (
          refine r_skip rfl (.no rfl rfl) ?_
          refine r_skip rfl (.no rfl rfl) ?_
          refine r_val .none rfl (p_pick_t rfl rfl) ?_
          refine r_nil ?_
          refine e_next ?_
          refine c_cond_t rfl ?_
          refine c_seq ?_
          refine c_region ?_
          refine r_val .none rfl (p_assign rfl) ?_
          refine r_nil ?_
          refine e_next ?_
          refine c_ret ?_
          refine e_ret_block ?_
          refine e_ret_then ?_
          refine e_ret_then ?_
          refine e_ret_block ?_
          refine e_ret_then ?_
          refine e_ret1 Try.results4 (.tmp rfl .nil) (fun w hm => ⟨?_, hm.since⟩)
          first
          | rfl
          | (simp; done)
          )
       ·
        first
         | (exfalso; first | omega | assumption)
         | (
          refine r_val (.some rfl rfl) rfl (p_move rfl) ?_
          refine r_val (.some rfl rfl) rfl (p_ne rfl rfl) ?_
          refine r_say (d := 51) (v := Value.bool false) rfl ?_
          refine r_val .none rfl (p_pick_f rfl rfl) ?_
          refine r_nil ?_
          refine e_next ?_
          refine c_cond_f rfl ?_
          refine c_skip ?_
          refine e_norm_block ?_
          refine e_next ?_
          refine c_region ?_
          refine r_val .none rfl (p_add rfl rfl (by omega)) ?_
          refine r_val .none rfl (p_move rfl) ?_
          refine r_nil ?_
          refine e_round ((j + 1, addS t ((j : Int) + 1) (l.getD j 0) (j : Int))) ⟨⟨by dsimp only; omega, hC.add⟩, by dsimp only; omega⟩ rfl ⟨rfl, rfl, rfl, rfl, rfl, trivial⟩ (.keep (fun _ _ h => h) (.nil))
          )
       )
    ·
     first
      | (exfalso; first | omega | assumption)
      | (
       refine c_cond_f rfl ?_
       refine c_exit ?_
       refine e_exit_then ?_
       refine e_exit_then ?_
       refine e_exit_block ?_
       refine e_next ?_
       refine c_seq ?_
       refine c_seq ?_
       refine c_region ?_
       obtain rfl : j = l.length := by omega
       have hcl := hC.len
       refine r_val .none rfl (p_move rfl) ?_
       refine r_val .none rfl (p_leng Try.underlying42 rfl hs) ?_
       have bd_14 := (hs).bound
       refine r_val .none rfl (p_move rfl) ?_
       refine r_nil ?_
       refine e_next ?_
       refine c_block ?_
       refine c_name (d := 0) rfl (fun u_15 hu_15 => ?_)
       refine c_name (d := 3) rfl (fun u_16 hu_16 => ?_)
       refine c_name (d := 54) rfl (fun u_17 hu_17 => ?_)
       refine c_name (d := 55) rfl (fun u_18 hu_18 => ?_)
       refine c_nameL (k := 0) rfl (fun A_19 hA_19 => ?_)
       refine c_loop (σ := Nat) (fun i => [(56, Value.int .i64 (i : Nat)), (0, u_15), (3, u_16), (54, u_17), (55, u_18)]) (fun i => [A_19]) (fun _ => _) (fun i => i ≤ l.length) (fun i => l.length - i) (0) (Nat.zero_le _) rfl ⟨rfl, rfl, rfl, rfl, rfl, trivial⟩ (.keep (fun _ _ h => h) (.nil)) (fun i hphi => ?_)
       subst hu_15
       subst hu_16
       subst hu_17
       subst hu_18
       subst hA_19
       refine c_seq ?_
       refine c_region ?_
       refine r_val .none rfl (p_lt rfl rfl) ?_
       refine r_nil ?_
       refine e_next ?_
       refine c_seq ?_
       refine c_splitd (d := 57) rfl (fun h_20 => ?_) (fun h_20 => ?_)
       ·
        first
         | (exfalso; first | omega | assumption)
         | (
          refine c_cond_t rfl ?_
          refine c_skip ?_
          refine e_next ?_
          refine c_seq ?_
          refine c_block ?_
          refine c_seq ?_
          refine c_region ?_
          refine r_val .none rfl (p_move rfl) ?_
          refine r_iaddr_g .none rfl Try.underlying42 sz3 rfl hs rfl (by first | exact of_decide_eq_true rfl | omega) (fun p_22 o_23 R_21 => ?_)
          refine r_val .none rfl (p_ldg0 Try.underlying3 rfl rfl R_21 (by first | exact of_decide_eq_true rfl | omega) (rfl : _ = Value.int _ _)) ?_
          refine r_val .none rfl (p_assign rfl) ?_
          refine r_val .none rfl (p_assign rfl) ?_
          refine r_nil ?_
          refine e_next ?_
          refine c_seq ?_
          refine c_region ?_
          refine r_val .none rfl (p_move rfl) ?_
          refine r_val .none rfl (p_move rfl) ?_
          refine r_val .none rfl (p_leng Try.underlying42 rfl hs) ?_
          have bd_24 := (hs).bound
          refine r_val .none rfl (p_add rfl rfl (by omega)) ?_
          refine r_val .none rfl (p_move rfl) ?_
          refine r_callo (k := 0) (vs := [_, _, _]) .none rfl cl19 rfl rfl (fun w F hw hA hFG => c_EupI _ ((l.length : Int) + 1) (l.getD i 0) t hC.inv (by have h8 := hC.last; omega) w hw hA hFG) ?_
          obtain ⟨r, hr, hr1, z, hz, hza⟩ := hC.up (i := i) (by omega)
          rw [hr, decide_eq_true (show 0 < r by omega)]
          refine r_say (d := 67) (v := Value.tuple #[Value.int .i64 r, Value.bool true]) rfl ?_
          refine r_val .none rfl (p_move rfl) ?_
          refine r_val .none rfl (p_extract rfl rfl) ?_
          refine r_val .none rfl (p_extract rfl rfl) ?_
          refine r_val .none rfl (p_assign rfl) ?_
          refine r_val .none rfl (p_assign rfl) ?_
          refine r_nil ?_
          refine e_next ?_
          refine c_seq ?_
          refine c_seq ?_
          refine c_region ?_
          refine r_val .none rfl (p_move rfl) ?_
          refine r_val .none rfl (p_not rfl) ?_
          refine r_say (d := 71) (v := Value.bool false) rfl ?_
          refine r_val .none rfl (p_move rfl) ?_
          refine r_val (.some rfl rfl) rfl (p_move rfl) ?_
          refine r_val (.some rfl rfl) rfl (p_move rfl) ?_
          refine r_val (.some rfl rfl) rfl (p_add rfl rfl (by omega)) ?_
          refine r_val (.some rfl rfl) rfl (p_lt rfl rfl) ?_
          refine r_val .none rfl (p_pick_f rfl rfl) ?_
          refine r_nil ?_
          refine e_next ?_
          refine c_splitd (d := 77) rfl (fun h_25 => ?_) (fun h_25 => ?_)
          ·
           first
            | (exfalso; first | omega | assumption)
            | (
             refine c_cond_t rfl ?_
             refine c_seq ?_
             refine c_region ?_
             refine r_val .none rfl (p_assign rfl) ?_
             refine r_nil ?_
             refine e_next ?_
             refine c_ret ?_
             refine e_ret_then ?_
             refine e_ret_block ?_
             refine e_ret_then ?_
             refine e_ret_then ?_
             refine e_ret_block ?_
             refine e_ret_then ?_
             refine e_ret1 Try.results4 (.tmp rfl .nil) (fun w hm => ⟨?_, hm.since⟩)
             first
             | rfl
             | (simp; done)
             )
          ·
           first
            | (exfalso; first | omega | assumption)
            | (
             refine c_cond_f rfl ?_
             refine c_skip ?_
             refine e_next ?_
             refine c_seq ?_
             refine c_region ?_
             refine r_val .none rfl (p_move rfl) ?_
             refine r_val .none rfl (p_move rfl) ?_
             refine r_callo (k := 0) (vs := [_, _]) .none rfl cl20 rfl rfl (fun w F hw hA hFG => c_EplaceI _ r t w hw hA hFG) ?_
             rw [hz]
             refine r_say (d := 81) (v := Value.tuple #[Value.int .i64 z.pla, Value.bool true]) rfl ?_
             rw [hza]
             refine r_val .none rfl (p_move rfl) ?_
             refine r_val .none rfl (p_extract rfl rfl) ?_
             refine r_val .none rfl (p_extract rfl rfl) ?_
             refine r_val .none rfl (p_assign rfl) ?_
             refine r_val .none rfl (p_assign rfl) ?_
             refine r_nil ?_
             refine e_next ?_
             refine c_seq ?_
             refine c_region ?_
             refine r_val .none rfl (p_move rfl) ?_
             refine r_val .none rfl (p_not rfl) ?_
             refine r_say (d := 85) (v := Value.bool false) rfl ?_
             refine r_val .none rfl (p_move rfl) ?_
             refine r_val (.some rfl rfl) rfl (p_move rfl) ?_
             refine r_val (.some rfl rfl) rfl (p_move rfl) ?_
             refine r_val (.some rfl rfl) rfl (p_ne rfl rfl) ?_
             refine r_val .none rfl (p_pick_f rfl rfl) ?_
             refine r_nil ?_
             refine e_next ?_
             refine c_splitd (d := 90) rfl (fun h_26 => ?_) (fun h_26 => ?_)
             ·
              first
               | (exfalso; first | omega | assumption)
               | (
                refine c_cond_t rfl ?_
                refine c_seq ?_
                refine c_region ?_
                refine r_val .none rfl (p_assign rfl) ?_
                refine r_nil ?_
                refine e_next ?_
                refine c_ret ?_
                refine e_ret_block ?_
                refine e_ret_then ?_
                refine e_ret_then ?_
                refine e_ret_block ?_
                refine e_ret_then ?_
                refine e_ret1 Try.results4 (.tmp rfl .nil) (fun w hm => ⟨?_, hm.since⟩)
                first
                | rfl
                | (simp; done)
                )
             ·
              first
               | (exfalso; first | omega | assumption)
               | (
                refine c_cond_f rfl ?_
                refine c_skip ?_
                refine e_norm_block ?_
                refine e_next ?_
                refine c_region ?_
                refine r_val .none rfl (p_add rfl rfl (by omega)) ?_
                refine r_val .none rfl (p_move rfl) ?_
                refine r_nil ?_
                refine e_round (i + 1) ⟨by omega, by omega⟩ rfl ⟨rfl, rfl, rfl, rfl, rfl, trivial⟩ (.keep (fun _ _ h => h) (.nil))
                )
             )
          )
       ·
        first
         | (exfalso; first | omega | assumption)
         | (
          refine c_cond_f rfl ?_
          refine c_exit ?_
          refine e_exit_then ?_
          refine e_exit_then ?_
          refine e_exit_block ?_
          refine e_next ?_
          refine c_seq ?_
          refine c_seq ?_
          refine c_region ?_
          refine r_val .none rfl (p_move rfl) ?_
          refine r_val .none rfl (p_leng Try.underlying42 rfl hs) ?_
          have bd_27 := (hs).bound
          refine r_val .none rfl (p_eq rfl rfl) ?_
          refine r_nil ?_
          refine e_next ?_
          refine c_splitd (d := 94) rfl (fun h_28 => ?_) (fun h_28 => ?_)
          ·
           first
            | (exfalso; first | omega | assumption)
            | (
             refine c_cond_t rfl ?_
             refine c_seq ?_
             refine c_region ?_
             refine r_val .none rfl (p_move rfl) ?_
             refine r_callo (k := 0) (vs := [_]) .none rfl cl21 rfl rfl (fun w F hw hA hFG => c_ElenI _ t w hw hA hFG) ?_
             refine r_val .none rfl (p_eq rfl rfl) ?_
             refine r_val .none rfl (p_move rfl) ?_
             refine r_splitd (d := 98) rfl (fun h_29 => ?_) (fun h_29 => ?_)
             ·
              first
               | (exfalso; first | omega | assumption)
               | (
                refine r_call (vs := []) (.some rfl rfl) rfl cl11 rfl (fun w hw => c_awake15 w) ?_
                refine r_val .none rfl (p_pick_t rfl rfl) ?_
                refine r_val .none rfl (p_assign rfl) ?_
                refine r_nil ?_
                refine e_next ?_
                refine c_ret ?_
                refine e_ret_then ?_
                refine e_ret1 Try.results4 (.tmp rfl .nil) (fun w hm => ⟨?_, hm.since⟩)
                first
                | rfl
                | (simp; done)
                )
             ·
              first
               | (exfalso; first | omega | assumption)
               | (
                refine r_skip rfl (.no rfl rfl) ?_
                refine r_val .none rfl (p_pick_f rfl rfl) ?_
                refine r_val .none rfl (p_assign rfl) ?_
                refine r_nil ?_
                refine e_next ?_
                refine c_ret ?_
                refine e_ret_then ?_
                refine e_ret1 Try.results4 (.tmp rfl .nil) (fun w hm => ⟨?_, hm.since⟩)
                first
                | rfl
                | (simp; done)
                )
             )
          ·
           first
            | (exfalso; first | omega | assumption)
            | (
             refine c_cond_f rfl ?_
             refine c_skip ?_
             refine e_next ?_
             refine c_seq ?_
             refine c_region ?_
             refine r_val .none rfl (p_move rfl) ?_
             obtain ⟨x, xp, T, hx0, hp, hg⟩ := hC.inv.delgo (show ¬ (2 : Int) = 1 by decide) (hC.two (by omega))
             obtain ⟨hpl, hph⟩ := hC.post (by omega) hg
             have hdl := del_len hC.inv hx0 hp hg
             have hk0 := hC.kids1 (by omega) hx0 hp hg
             have hk1 : (((lkp (delS t x xp 2 T).toks 1).map Tk.kids).getD []).length = 0 := by rw [hk0]; rfl
             have hkl : ∀ y, lkp (delS t x xp 2 T).toks 1 = some y → y.kids.length ≤ 1000 := fun y hy => by (rw [hy] at hk1; have h7 : y.kids.length = 0 := hk1; omega)
             refine r_callov (k := 0) (vs := [_, _]) (u := fun v => .tuple #[v, Value.int .i64 0]) .none rfl cl22 rfl rfl (fun w F hw hA hFG => c_EdelI _ 2 t T x xp hC.inv (by have h8 := hC.last; omega) (by decide) hx0 hp hg w hw hA hFG) (fun dv_30 => ?_)
             refine r_unpack ?_
             refine r_val .none rfl (p_move rfl) ?_
             refine r_val .none rfl (p_extract rfl rfl) ?_
             refine r_val .none rfl (p_extract rfl rfl) ?_
             refine r_val .none rfl (p_assign rfl) ?_
             refine r_val .none rfl (p_assign rfl) ?_
             refine r_nil ?_
             refine e_next ?_
             refine c_seq ?_
             refine c_region ?_
             refine r_val .none rfl (p_move rfl) ?_
             refine r_val .none rfl (p_eq rfl rfl) ?_
             refine r_say (d := 107) (v := Value.bool true) rfl ?_
             refine r_val .none rfl (p_move rfl) ?_
             refine r_val (.some rfl rfl) rfl (p_move rfl) ?_
             refine r_val (.some rfl rfl) rfl (p_leno (k := 0) Try.underlying49 rfl rfl) ?_
             refine r_val (.some rfl rfl) rfl (p_move rfl) ?_
             refine r_val (.some rfl rfl) rfl (p_leng Try.underlying42 rfl hs) ?_
             have bd_31 := (hs).bound
             refine r_val (.some rfl rfl) rfl (p_eq rfl rfl) ?_
             refine r_val .none rfl (p_pick_t rfl rfl) ?_
             refine r_val .none rfl (p_move rfl) ?_
             refine r_splitd (d := 115) rfl (fun h_32 => ?_) (fun h_32 => ?_)
             ·
              first
               | (exfalso; first | omega | assumption)
               | (
                refine r_val (.some rfl rfl) rfl (p_move rfl) ?_
                refine r_iaddr_o (k := 0) (i := 0) (.some rfl rfl) rfl Try.underlying49 sz53 rfl rfl rfl (by first | exact of_decide_eq_true rfl | omega) (fun p_33 c_34 hv_35 => ?_)
                refine r_val (.some rfl rfl) rfl (p_field Try.underlying53 rfl sz3 rfl) ?_
                refine r_val (.some rfl rfl) rfl (p_ldo (k := 0) (j := 0) (i := 0) Try.underlying3 rfl rfl hv_35 rfl (by first | exact of_decide_eq_true rfl | omega) (by first | exact of_decide_eq_true rfl | omega) ((flatMap_get (cells := (gnC kI)) (fun _ => rfl) (0, 0, 0) _ _ _ (by first | exact of_decide_eq_true rfl | omega) (by first | exact of_decide_eq_true rfl | omega)).trans (rfl : _ = Value.int _ _))) ?_
                refine r_val (.some rfl rfl) rfl (p_move rfl) ?_
                refine r_val (.some rfl rfl) rfl (p_leng Try.underlying42 rfl hs) ?_
                have bd_36 := (hs).bound
                refine r_val (.some rfl rfl) rfl (p_add rfl rfl (by omega)) ?_
                refine r_val (.some rfl rfl) rfl (p_eq rfl rfl) ?_
                refine r_val .none rfl (p_pick_t rfl rfl) ?_
                refine r_val .none rfl (p_move rfl) ?_
                refine r_splitd (d := 125) rfl (fun h_37 => ?_) (fun h_37 => ?_)
                ·
                 first
                  | (exfalso; first | omega | assumption)
                  | (
                   refine r_val (.some rfl rfl) rfl (p_move rfl) ?_
                   refine r_callo (k := 1) (vs := [_]) (.some rfl rfl) rfl cl21 rfl rfl (fun w F hw hA hFG => c_ElenI _ (delS t x xp 2 T) w hw hA hFG) ?_
                   refine r_val (.some rfl rfl) rfl (p_eq rfl rfl) ?_
                   refine r_val .none rfl (p_pick_t rfl rfl) ?_
                   refine r_val .none rfl (p_move rfl) ?_
                   refine r_splitd (d := 130) rfl (fun h_38 => ?_) (fun h_38 => ?_)
                   ·
                    first
                     | (exfalso; first | omega | assumption)
                     | (
                      refine r_val (.some rfl rfl) rfl (p_move rfl) ?_
                      refine r_front (k := 1) rfl ?_
                      refine r_callor (k := 0) (vs := [_, _]) (.some rfl rfl) rfl cl23 rfl rfl (fun w F hw hA hFG => c_EkidsI _ 1 (delS t x xp 2 T) hkl w hw hA hFG) (fun r_39 => ?_)
                      refine r_unpack ?_
                      refine r_val (.some rfl rfl) rfl (p_leno (k := 0) Try.underlying42 rfl rfl) ?_
                      refine r_val (.some rfl rfl) rfl (p_eq rfl rfl) ?_
                      refine r_val .none rfl (p_pick_t rfl rfl) ?_
                      refine r_val .none rfl (p_move rfl) ?_
                      refine r_splitd (d := 136) rfl (fun h_40 => ?_) (fun h_40 => ?_)
                      ·
                       first
                        | (exfalso; first | omega | assumption)
                        | (
                         refine r_call (vs := []) (.some rfl rfl) rfl cl11 rfl (fun w hw => c_awake15 w) ?_
                         refine r_val .none rfl (p_pick_t rfl rfl) ?_
                         refine r_val .none rfl (p_assign rfl) ?_
                         refine r_nil ?_
                         refine e_next ?_
                         refine c_ret ?_
                         refine e_ret1 Try.results4 (.tmp rfl .nil) (fun w hm => ⟨?_, hm.since⟩)
                         first
                         | rfl
                         | (simp; done)
                         )
                      ·
                       first
                        | (exfalso; first | omega | assumption)
                        | (
                         refine r_skip rfl (.no rfl rfl) ?_
                         refine r_val .none rfl (p_pick_f rfl rfl) ?_
                         refine r_val .none rfl (p_assign rfl) ?_
                         refine r_nil ?_
                         refine e_next ?_
                         refine c_ret ?_
                         refine e_ret1 Try.results4 (.tmp rfl .nil) (fun w hm => ⟨?_, hm.since⟩)
                         first
                         | rfl
                         | (simp; done)
                         )
                      )
                   ·
                    first
                     | (exfalso; first | omega | assumption)
                     | (
                      refine r_skip rfl (.no rfl rfl) ?_
                      refine r_skip rfl (.no rfl rfl) ?_
                      refine r_skip rfl (.no rfl rfl) ?_
                      refine r_skip rfl (.no rfl rfl) ?_
                      refine r_val .none rfl (p_pick_f rfl rfl) ?_
                      refine r_val .none rfl (p_move rfl) ?_
                      refine r_skip rfl (.no rfl rfl) ?_
                      refine r_val .none rfl (p_pick_f rfl rfl) ?_
                      refine r_val .none rfl (p_assign rfl) ?_
                      refine r_nil ?_
                      refine e_next ?_
                      refine c_ret ?_
                      refine e_ret1 Try.results4 (.tmp rfl .nil) (fun w hm => ⟨?_, hm.since⟩)
                      first
                      | rfl
                      | (simp; done)
                      )
                   )
                ·
                 first
                  | (exfalso; first | omega | assumption)
                  | (
                   refine r_skip rfl (.no rfl rfl) ?_
                   refine r_skip rfl (.no rfl rfl) ?_
                   refine r_skip rfl (.no rfl rfl) ?_
                   refine r_val .none rfl (p_pick_f rfl rfl) ?_
                   refine r_val .none rfl (p_move rfl) ?_
                   refine r_skip rfl (.no rfl rfl) ?_
                   refine r_skip rfl (.no rfl rfl) ?_
                   refine r_skip rfl (.no rfl rfl) ?_
                   refine r_skip rfl (.no rfl rfl) ?_
                   refine r_val .none rfl (p_pick_f rfl rfl) ?_
                   refine r_val .none rfl (p_move rfl) ?_
                   refine r_skip rfl (.no rfl rfl) ?_
                   refine r_val .none rfl (p_pick_f rfl rfl) ?_
                   refine r_val .none rfl (p_assign rfl) ?_
                   refine r_nil ?_
                   refine e_next ?_
                   refine c_ret ?_
                   refine e_ret1 Try.results4 (.tmp rfl .nil) (fun w hm => ⟨?_, hm.since⟩)
                   first
                   | rfl
                   | (simp; done)
                   )
                )
             ·
              first
               | (exfalso; first | omega | assumption)
               | (
                refine r_skip rfl (.no rfl rfl) ?_
                refine r_skip rfl (.no rfl rfl) ?_
                refine r_skip rfl (.no rfl rfl) ?_
                refine r_skip rfl (.no rfl rfl) ?_
                refine r_skip rfl (.no rfl rfl) ?_
                refine r_skip rfl (.no rfl rfl) ?_
                refine r_skip rfl (.no rfl rfl) ?_
                refine r_skip rfl (.no rfl rfl) ?_
                refine r_val .none rfl (p_pick_f rfl rfl) ?_
                refine r_val .none rfl (p_move rfl) ?_
                refine r_skip rfl (.no rfl rfl) ?_
                refine r_skip rfl (.no rfl rfl) ?_
                refine r_skip rfl (.no rfl rfl) ?_
                refine r_val .none rfl (p_pick_f rfl rfl) ?_
                refine r_val .none rfl (p_move rfl) ?_
                refine r_skip rfl (.no rfl rfl) ?_
                refine r_skip rfl (.no rfl rfl) ?_
                refine r_skip rfl (.no rfl rfl) ?_
                refine r_skip rfl (.no rfl rfl) ?_
                refine r_val .none rfl (p_pick_f rfl rfl) ?_
                refine r_val .none rfl (p_move rfl) ?_
                refine r_skip rfl (.no rfl rfl) ?_
                refine r_val .none rfl (p_pick_f rfl rfl) ?_
                refine r_val .none rfl (p_assign rfl) ?_
                refine r_nil ?_
                refine e_next ?_
                refine c_ret ?_
                refine e_ret1 Try.results4 (.tmp rfl .nil) (fun w hm => ⟨?_, hm.since⟩)
                first
                | rfl
                | (simp; done)
                )
             )
          )
       )
    )
end Go.Proofs.Ytdcaehepmkhciaa
