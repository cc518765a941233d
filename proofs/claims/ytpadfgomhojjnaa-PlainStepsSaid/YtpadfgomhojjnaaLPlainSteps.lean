/- The matches of each chain of any right rule, step by step, and how many blockers of each Neg behind a chain there are, is what the document says. -/
import Derived.Test.YtpadfgomhojjnaaKPlainSteps6
namespace Go.Proofs.Ytpadfgomhojjnaa
open Go.Gx Go.Gx.T14 Go.Gx.T5 Go.Gx.T13 Go.Gx.T8 Go.Gx.T4 Go.ChangeShapes Go.WideShapes Go.ChangeAt Go.RowKit
open Go.ChangeMaps (open_string shut_string)

theorem LPlainSteps.own : ownKnob Try.prog.godebug = none := by kernel_rfl
theorem LPlainSteps.laid : laidOutB Try.prog = true := by kernel_rfl

set_option maxRecDepth 100000 in
theorem LPlainSteps.lifted (os : Os) (started : os.Started) (H : Type) (enc : TypeId × Value → H) :
    ReturnsInHanded {} Try.checked os 10 .any (Rows.plainStepsSpec.pre6 enc Try.prog Try.f10 Rows.plainStepsRow.domain false) (Rows.plainStepsSpec.post enc Try.prog Try.f10 false true false false) := by
  refine returnsInHanded_of_change (C := Try.checked) LPlainSteps.own started (by kernel_rfl) Try.func10
    (ChangeSpec.witness6 (enc := enc) (C := Try.checked) false ⟨#[], #[Value.agg #[Value.string ⟨#[]⟩, Value.slice none 0 0], Value.slice none 0 0], []⟩ 8 (by kernel_rfl) (by kernel_rfl) (by kernel_rfl) (by kernel_rfl)) ?_
  intro W base args ds gs before hval0 hW hcnd hsz0
  have hval : ∀ (j : Nat) t v, Try.f10.params[j]? = some t → args[j]? = some v → Value.okWide Try.prog W .any base t v := hval0
  have hW' := hW
  obtain ⟨p, q, hA0, hV, rfl, hfz, hnd⟩ := hW
  have hA : DataW.TrodAll enc Try.prog W 0 (fun _ => true) true Try.f10.params.toList args.toList ds p := hA0
  rw [Try.params10] at hA hval
  obtain ⟨v0, vs0, d0, ds0, p0, q0, hargs, rfl, rfl, h0, t0⟩ := trodAll_cons hA
  obtain ⟨v1, vs1, d1, ds1, p1, q1, rfl, rfl, rfl, h1, t1⟩ := trodAll_cons t0
  obtain ⟨rfl, rfl, rfl⟩ := trodAll_nil t1
  obtain rfl : args = #[v0, v1] := by cases args; simp_all
  obtain ⟨rfl, rfl⟩ := trodVars_none hV
  have k0 := h0
  have lt0 : ∀ x ∈ p0, x.block < W.heap.size := by obtain ⟨m, hm⟩ := k0; exact DataW.trod_lt m _ _ _ hm
  have k1 := h1
  have lt1 : ∀ x ∈ p1, x.block < W.heap.size := by obtain ⟨m, hm⟩ := k1; exact DataW.trod_lt m _ _ _ hm
  have shut : ∀ W', Below W.heap.size W W' → DataW.TrodAll enc Try.prog W' 0 (fun b => decide (b < W.heap.size)) true [69, 70] [v0, v1] [d0, d1] (p0 ++ (p1 ++ [])) := fun W' bel => (trodAll_cons_mk (Below.trod LPlainSteps.laid (by kernel_rfl) (of_decide_eq_true (by kernel_rfl)) k0 bel lt0) (trodAll_cons_mk (Below.trod LPlainSteps.laid (by kernel_rfl) (of_decide_eq_true (by kernel_rfl)) k1 bel lt1) trodAll_mk0))
  clear hA0 hval0
  have goal : Calls Try.prog 10 #[v0, v1] W (Ret fun r w' => r = .bool true ∧ Since nX W w') := by
    clear shut
    obtain ⟨nm0, cv0, l0, rfl, hs0⟩ := open_rule (hval 0 69 v0 rfl rfl) h0
    obtain ⟨l1, hs1⟩ := open_arg (cells := triL) z3 Try.underlying70 (show Program.cellsOf Try.prog 106 = 3 by kernel_rfl) (by decide) (fun n cs' y h => by obtain ⟨a1, a2, a3, rfl⟩ := (trod_tri (P := Try.prog) Try.underlying3 (show leafT Try.prog 9 106 = some [3, 3, 3] by kernel_rfl) h); exact ⟨(a1, a2, a3), rfl⟩) (hval 1 70 v1 rfl rfl) h1
    exact c_PlainSteps nm0 cv0 l0 v1 l1 hs0 hs1 W (has_GW W)
  refine (ret_true goal).mono fun e W' ⟨he, bel⟩ => ?_
  subst he
  exact ⟨_, rfl, _, _, _, [], _, [], hW', trodAll_mk1 (shut_bool Try.underlying4 _), shut W' bel, rfl, bel.frame _, fun h => by cases h⟩

theorem LPlainSteps.over : Rows.plainStepsRow.holds Try.pinned (OpenSpec.ofChange Rows.plainStepsSpec) :=
  OpenClaim.holds_of_wide 10 Try.f10 rfl rfl rfl rfl rfl rfl rfl ⟨rfl, rfl, rfl, rfl, rfl⟩ rfl rfl rfl rfl rfl (by kernel_rfl) Try.func10 (by kernel_rfl)
    (of_decide_eq_true (by kernel_rfl)) (by unfold Func.isWrapper; rw [if_neg (of_decide_eq_false (by kernel_rfl))]; exact ⟨rfl, rfl⟩)
    (fun os started H enc _ => LPlainSteps.lifted os started H enc)

theorem PlainSteps_holds : Rows.PlainStepsSaid := LPlainSteps.over
#print axioms PlainSteps_holds
end Go.Proofs.Ytpadfgomhojjnaa
