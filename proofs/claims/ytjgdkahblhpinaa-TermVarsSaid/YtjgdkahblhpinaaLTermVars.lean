/- The variables of any terms are told, each once, rising (of right ones). -/
import Derived.Test.YtjgdkahblhpinaaGxRow
import Derived.Test.YtjgdkahblhpinaaGxIn
import Derived.Test.YtjgdkahblhpinaaGxKey
import Derived.Test.YtjgdkahblhpinaaGxNum
import Derived.Test.YtjgdkahblhpinaaW03v
namespace Go.Proofs.Ytjgdkahblhpinaa
open Go.Gx Go.Gx.T3 Go.ChangeShapes Go.WideShapes Go.ChangeAt Go.RowKit
open Go.ChangeMaps (open_string shut_string)

theorem LTermVars.own : ownKnob Try.prog.godebug = none := by kernel_rfl
theorem LTermVars.laid : laidOutB Try.prog = true := by kernel_rfl

set_option maxRecDepth 100000 in
theorem LTermVars.lifted (os : Os) (started : os.Started) (H : Type) (enc : TypeId × Value → H) :
    ReturnsInHanded {} Try.checked os 12 .any (Rows.termVarsSpec.pre6 enc Try.prog Try.f12 Rows.termVarsRow.domain false) (Rows.termVarsSpec.post enc Try.prog Try.f12 false true false false) := by
  refine returnsInHanded_of_change (C := Try.checked) LTermVars.own started (by kernel_rfl) Try.func12
    (ChangeSpec.witness6 (enc := enc) (C := Try.checked) false ⟨#[], #[Value.agg #[Value.bool false, Value.int .i64 0, Value.bool false, Value.int .i64 0, Value.bool false, Value.int .i64 0]], []⟩ 8 (by kernel_rfl) (by kernel_rfl) (by kernel_rfl) (by kernel_rfl)) ?_
  intro W base args ds gs before hval0 hW hcnd hsz0
  have hval : ∀ (j : Nat) t v, Try.f12.params[j]? = some t → args[j]? = some v → Value.okWide Try.prog W .any base t v := hval0
  have hW' := hW
  obtain ⟨p, q, hA0, hV, rfl, hfz, hnd⟩ := hW
  have hA : DataW.TrodAll enc Try.prog W 0 (fun _ => true) true Try.f12.params.toList args.toList ds p := hA0
  rw [Try.params12] at hA hval
  obtain ⟨v0, vs0, d0, ds0, p0, q0, hargs, rfl, rfl, h0, t0⟩ := trodAll_cons hA
  obtain ⟨rfl, rfl, rfl⟩ := trodAll_nil t0
  obtain rfl : args = #[v0] := by cases args; simp_all
  obtain ⟨rfl, rfl⟩ := trodVars_none hV
  have k0 := h0
  have lt0 : ∀ x ∈ p0, x.block < W.heap.size := by obtain ⟨m, hm⟩ := k0; exact DataW.trod_lt m _ _ _ hm
  have shut : ∀ W', Below W.heap.size W W' → DataW.TrodAll enc Try.prog W' 0 (fun b => decide (b < W.heap.size)) true [24] [v0] [d0] (p0 ++ []) := fun W' bel => (trodAll_cons_mk (Below.trod LTermVars.laid (by kernel_rfl) (of_decide_eq_true (by kernel_rfl)) k0 bel lt0) trodAll_mk0)
  clear hA0 hval0
  have goal : Calls Try.prog 12 #[v0] W (Ret fun r w' => r = .bool true ∧ Since nX W w') := by
    clear shut
    have hl0 : leafT Try.prog 9 24 = some [4, 3, 4, 3, 4, 3] := by kernel_rfl
    obtain ⟨cs0, rfl, hlv0⟩ := open_leaves 9 Try.underlying24 rfl hl0 (hval 0 24 v0 rfl rfl) h0
    obtain ⟨x0_0, r0_0, e0_0, f0_0, g0_0⟩ := hlv0.inv
    obtain ⟨a1, rfl⟩ := f0_0.bool Try.underlying4
    obtain ⟨x0_1, r0_1, e0_1, f0_1, g0_1⟩ := g0_0.inv
    obtain ⟨a2, rfl, wa2⟩ := f0_1.int Try.underlying3
    obtain ⟨x0_2, r0_2, e0_2, f0_2, g0_2⟩ := g0_1.inv
    obtain ⟨a3, rfl⟩ := f0_2.bool Try.underlying4
    obtain ⟨x0_3, r0_3, e0_3, f0_3, g0_3⟩ := g0_2.inv
    obtain ⟨a4, rfl, wa4⟩ := f0_3.int Try.underlying3
    obtain ⟨x0_4, r0_4, e0_4, f0_4, g0_4⟩ := g0_3.inv
    obtain ⟨a5, rfl⟩ := f0_4.bool Try.underlying4
    obtain ⟨x0_5, r0_5, e0_5, f0_5, g0_5⟩ := g0_4.inv
    obtain ⟨a6, rfl, wa6⟩ := f0_5.int Try.underlying3
    have z0 := g0_5.inv0
    obtain rfl : cs0 = #[Value.bool a1, Value.int .i64 a2, Value.bool a3, Value.int .i64 a4, Value.bool a5, Value.int .i64 a6] := by apply Array.ext'; rw [e0_0, e0_1, e0_2, e0_3, e0_4, e0_5, z0]
    exact c_TermVars a1 a2 a3 a4 a5 a6  W
  refine (ret_true goal).mono fun e W' ⟨he, bel⟩ => ?_
  subst he
  exact ⟨_, rfl, _, _, _, [], _, [], hW', trodAll_mk1 (shut_bool Try.underlying4 _), shut W' bel, rfl, bel.frame _, fun h => by cases h⟩

theorem LTermVars.over : Rows.termVarsRow.holds Try.pinned (OpenSpec.ofChange Rows.termVarsSpec) :=
  OpenClaim.holds_of_wide 12 Try.f12 rfl rfl rfl rfl rfl rfl rfl ⟨rfl, rfl, rfl, rfl, rfl⟩ rfl rfl rfl rfl rfl (by kernel_rfl) Try.func12 (by kernel_rfl)
    (of_decide_eq_true (by kernel_rfl)) (by unfold Func.isWrapper; rw [if_neg (of_decide_eq_false (by kernel_rfl))]; exact ⟨rfl, rfl⟩)
    (fun os started H enc _ => LTermVars.lifted os started H enc)

theorem TermVars_holds : Rows.TermVarsSaid := LTermVars.over
#print axioms TermVars_holds
end Go.Proofs.Ytjgdkahblhpinaa
