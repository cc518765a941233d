/- retiarylaw03.TermFits answers true for every input: whether any right terms fit any right triple with any binding, and what variables stand for then, is what the document says; no further condition. -/
import Derived.Test.YtjgdkahblhpinaaGxRow
import Derived.Test.YtjgdkahblhpinaaW03e
namespace Go.Proofs.Ytjgdkahblhpinaa
open Go.Gx Go.ChangeShapes Go.WideShapes Go.ChangeAt Go.RowKit
open Go.ChangeMaps (open_string shut_string)

theorem LTermFits.own : ownKnob Try.prog.godebug = none := by kernel_rfl
theorem LTermFits.laid : laidOutB Try.prog = true := by kernel_rfl

set_option maxRecDepth 100000 in
theorem LTermFits.lifted (os : Os) (started : os.Started) (H : Type) (enc : TypeId × Value → H) :
    ReturnsInHanded {} Try.checked os 8 .any (Rows.termFitsSpec.pre6 enc Try.prog Try.f8 Rows.termFitsRow.domain false) (Rows.termFitsSpec.post enc Try.prog Try.f8 false true false false) := by
  refine returnsInHanded_of_change (C := Try.checked) LTermFits.own started (by kernel_rfl) Try.func8
    (ChangeSpec.witness6 (enc := enc) (C := Try.checked) false ⟨#[], #[Value.agg #[Value.bool false, Value.int .i64 0, Value.bool false, Value.int .i64 0, Value.bool false, Value.int .i64 0], Value.agg #[Value.int .i64 0, Value.int .i64 0, Value.int .i64 0], Value.agg #[Value.int .i64 0, Value.int .i64 0, Value.int .i64 0, Value.int .i64 0, Value.int .i64 0, Value.int .i64 0, Value.int .i64 0, Value.int .i64 0, Value.int .i64 0, Value.int .i64 0, Value.int .i64 0, Value.int .i64 0, Value.int .i64 0, Value.int .i64 0, Value.int .i64 0, Value.int .i64 0, Value.int .i64 0, Value.int .i64 0, Value.int .i64 0, Value.int .i64 0, Value.int .i64 0, Value.int .i64 0, Value.int .i64 0, Value.int .i64 0, Value.int .i64 0, Value.int .i64 0, Value.int .i64 0, Value.int .i64 0, Value.int .i64 0, Value.int .i64 0, Value.int .i64 0, Value.int .i64 0, Value.int .i64 0]], []⟩ 8 (by kernel_rfl) (by kernel_rfl) (by kernel_rfl) (by kernel_rfl)) ?_
  intro W base args ds gs before hval0 hW hcnd hsz0
  have hval : ∀ (j : Nat) t v, Try.f8.params[j]? = some t → args[j]? = some v → Value.okWide Try.prog W .any base t v := hval0
  have hW' := hW
  obtain ⟨p, q, hA0, hV, rfl, hfz, hnd⟩ := hW
  have hA : DataW.TrodAll enc Try.prog W 0 (fun _ => true) true Try.f8.params.toList args.toList ds p := hA0
  rw [Try.params8] at hA hval
  obtain ⟨v0, vs0, d0, ds0, p0, q0, hargs, rfl, rfl, h0, t0⟩ := trodAll_cons hA
  obtain ⟨v1, vs1, d1, ds1, p1, q1, rfl, rfl, rfl, h1, t1⟩ := trodAll_cons t0
  obtain ⟨v2, vs2, d2, ds2, p2, q2, rfl, rfl, rfl, h2, t2⟩ := trodAll_cons t1
  obtain ⟨rfl, rfl, rfl⟩ := trodAll_nil t2
  obtain rfl : args = #[v0, v1, v2] := by cases args; simp_all
  obtain ⟨rfl, rfl⟩ := trodVars_none hV
  have k0 := h0
  have lt0 : ∀ x ∈ p0, x.block < W.heap.size := by obtain ⟨m, hm⟩ := k0; exact DataW.trod_lt m _ _ _ hm
  have k1 := h1
  have lt1 : ∀ x ∈ p1, x.block < W.heap.size := by obtain ⟨m, hm⟩ := k1; exact DataW.trod_lt m _ _ _ hm
  have k2 := h2
  have lt2 : ∀ x ∈ p2, x.block < W.heap.size := by obtain ⟨m, hm⟩ := k2; exact DataW.trod_lt m _ _ _ hm
  have shut : ∀ W', Below W.heap.size W W' → DataW.TrodAll enc Try.prog W' 0 (fun b => decide (b < W.heap.size)) true [24, 26, 28] [v0, v1, v2] [d0, d1, d2] (p0 ++ (p1 ++ (p2 ++ []))) := fun W' bel => (trodAll_cons_mk (Below.trod LTermFits.laid (by kernel_rfl) (of_decide_eq_true (by kernel_rfl)) k0 bel lt0) (trodAll_cons_mk (Below.trod LTermFits.laid (by kernel_rfl) (of_decide_eq_true (by kernel_rfl)) k1 bel lt1) (trodAll_cons_mk (Below.trod LTermFits.laid (by kernel_rfl) (of_decide_eq_true (by kernel_rfl)) k2 bel lt2) trodAll_mk0)))
  clear hA0 hval0
  have goal : Calls Try.prog 8 #[v0, v1, v2] W (Ret fun r w' => r = .bool true ∧ Since nX W w') := by
    clear shut
    have hl0 : leafT Try.prog 9 24 = some [4, 3, 4, 3, 4, 3] := by kernel_rfl
    obtain ⟨cs0, rfl, hlv0⟩ := open_leaves 9 Try.underlying24 rfl hl0 (hval 0 24 v0 rfl rfl) h0
    obtain ⟨x0_0, r0_0, e0_0, f0_0, g0_0⟩ := hlv0.inv
    obtain ⟨a1, rfl⟩ := f0_0.bool Try.underlying4
    obtain ⟨x0_1, r0_1, e0_1, f0_1, g0_1⟩ := g0_0.inv
    obtain ⟨a2, rfl, wa2⟩ := f0_1.int Try.underlying3
    obtain ⟨x0_2, r0_2, e0_2, f0_2, g0_2⟩ := g0_1.inv
    obtain ⟨a3, rfl⟩ := f0_2.bool Try.underlying4
    obtain ⟨x0_3, r0_3, e0_3, f0_3, g0_3⟩ := g0_2.inv
    obtain ⟨a4, rfl, wa4⟩ := f0_3.int Try.underlying3
    obtain ⟨x0_4, r0_4, e0_4, f0_4, g0_4⟩ := g0_3.inv
    obtain ⟨a5, rfl⟩ := f0_4.bool Try.underlying4
    obtain ⟨x0_5, r0_5, e0_5, f0_5, g0_5⟩ := g0_4.inv
    obtain ⟨a6, rfl, wa6⟩ := f0_5.int Try.underlying3
    have z0 := g0_5.inv0
    obtain rfl : cs0 = #[Value.bool a1, Value.int .i64 a2, Value.bool a3, Value.int .i64 a4, Value.bool a5, Value.int .i64 a6] := by apply Array.ext'; rw [e0_0, e0_1, e0_2, e0_3, e0_4, e0_5, z0]
    have hl1 : leafT Try.prog 9 26 = some [3, 3, 3] := by kernel_rfl
    obtain ⟨cs1, rfl, hlv1⟩ := open_leaves 9 Try.underlying26 rfl hl1 (hval 1 26 v1 rfl rfl) h1
    obtain ⟨x1_0, r1_0, e1_0, f1_0, g1_0⟩ := hlv1.inv
    obtain ⟨a7, rfl, wa7⟩ := f1_0.int Try.underlying3
    obtain ⟨x1_1, r1_1, e1_1, f1_1, g1_1⟩ := g1_0.inv
    obtain ⟨a8, rfl, wa8⟩ := f1_1.int Try.underlying3
    obtain ⟨x1_2, r1_2, e1_2, f1_2, g1_2⟩ := g1_1.inv
    obtain ⟨a9, rfl, wa9⟩ := f1_2.int Try.underlying3
    have z1 := g1_2.inv0
    obtain rfl : cs1 = #[Value.int .i64 a7, Value.int .i64 a8, Value.int .i64 a9] := by apply Array.ext'; rw [e1_0, e1_1, e1_2, z1]
    have hl2 : leafT Try.prog 9 28 = some [3, 3, 3, 3, 3, 3, 3, 3, 3, 3, 3, 3, 3, 3, 3, 3, 3, 3, 3, 3, 3, 3, 3, 3, 3, 3, 3, 3, 3, 3, 3, 3, 3] := by kernel_rfl
    obtain ⟨cs2, rfl, hlv2⟩ := open_leaves 9 Try.underlying28 rfl hl2 (hval 2 28 v2 rfl rfl) h2
    obtain ⟨li2, hli2, hll2, hlw2⟩ := hlv2.ints (k := .i64) (by intro t ht; simp at ht; subst ht; exact Try.underlying3)
    obtain rfl : cs2 = (li2.map (Value.int .i64)).toArray := by apply Array.ext'; simpa using hli2
    rw [aggF_ints, hll2]
    exact c_TermFits a1 a2 a3 a4 a5 a6 a7 a8 a9 (fun i => li2.getD i 0) W
  refine (ret_true goal).mono fun e W' ⟨he, bel⟩ => ?_
  subst he
  exact ⟨_, rfl, _, _, _, [], _, [], hW', trodAll_mk1 (shut_bool Try.underlying4 _), shut W' bel, rfl, bel.frame _, fun h => by cases h⟩

theorem LTermFits.over : Rows.termFitsRow.holds Try.pinned (OpenSpec.ofChange Rows.termFitsSpec) :=
  OpenClaim.holds_of_wide 8 Try.f8 rfl rfl rfl rfl rfl rfl rfl ⟨rfl, rfl, rfl, rfl, rfl⟩ rfl rfl rfl rfl rfl (by kernel_rfl) Try.func8 (by kernel_rfl)
    (of_decide_eq_true (by kernel_rfl)) (by unfold Func.isWrapper; rw [if_neg (of_decide_eq_false (by kernel_rfl))]; exact ⟨rfl, rfl⟩)
    (fun os started H enc _ => LTermFits.lifted os started H enc)

theorem TermFits_holds : Rows.TermFitsSaid := LTermFits.over
#print axioms TermFits_holds
end Go.Proofs.Ytjgdkahblhpinaa
