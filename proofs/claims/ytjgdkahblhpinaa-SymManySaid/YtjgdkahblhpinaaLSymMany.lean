/- retiarylaw01.SymMany answers true for every input: there are as many symbols as may be, and no more; no further condition. -/
import Derived.Test.YtjgdkahblhpinaaGxRow
import Derived.Test.YtjgdkahblhpinaaGxIn
import Derived.Test.YtjgdkahblhpinaaGxKey
import Derived.Test.YtjgdkahblhpinaaGxNum
import Derived.Test.YtjgdkahblhpinaaW01f
namespace Go.Proofs.Ytjgdkahblhpinaa
open Go.Gx Go.Gx.T1 Go.ChangeShapes Go.WideShapes Go.ChangeAt Go.RowKit
open Go.ChangeMaps (open_string shut_string)

theorem LSymMany.own : ownKnob Try.prog.godebug = none := by kernel_rfl
theorem LSymMany.laid : laidOutB Try.prog = true := by kernel_rfl

set_option maxRecDepth 100000 in
theorem LSymMany.lifted (os : Os) (started : os.Started) (H : Type) (enc : TypeId × Value → H) :
    ReturnsInHanded {} Try.checked os 6 .any (Rows.symManySpec.pre6 enc Try.prog Try.f6 Rows.symManyRow.domain false) (Rows.symManySpec.post enc Try.prog Try.f6 false true false false) := by
  refine returnsInHanded_of_change (C := Try.checked) LSymMany.own started (by kernel_rfl) Try.func6
    (ChangeSpec.witness6 (enc := enc) (C := Try.checked) false ⟨#[], #[Value.string ⟨#[]⟩], []⟩ 8 (by kernel_rfl) (by kernel_rfl) (by kernel_rfl) (by kernel_rfl)) ?_
  intro W base args ds gs before hval0 hW hcnd hsz0
  have hval : ∀ (j : Nat) t v, Try.f6.params[j]? = some t → args[j]? = some v → Value.okWide Try.prog W .any base t v := hval0
  have hW' := hW
  obtain ⟨p, q, hA0, hV, rfl, hfz, hnd⟩ := hW
  have hA : DataW.TrodAll enc Try.prog W 0 (fun _ => true) true Try.f6.params.toList args.toList ds p := hA0
  rw [Try.params6] at hA hval
  obtain ⟨v0, vs0, d0, ds0, p0, q0, hargs, rfl, rfl, h0, t0⟩ := trodAll_cons hA
  obtain ⟨rfl, rfl, rfl⟩ := trodAll_nil t0
  obtain rfl : args = #[v0] := by cases args; simp_all
  obtain ⟨rfl, rfl⟩ := trodVars_none hV
  have k0 := h0
  have lt0 : ∀ x ∈ p0, x.block < W.heap.size := by obtain ⟨m, hm⟩ := k0; exact DataW.trod_lt m _ _ _ hm
  have shut : ∀ W', Below W.heap.size W W' → DataW.TrodAll enc Try.prog W' 0 (fun b => decide (b < W.heap.size)) true [9] [v0] [d0] (p0 ++ []) := fun W' bel => (trodAll_cons_mk (Below.trod LSymMany.laid (by kernel_rfl) (of_decide_eq_true (by kernel_rfl)) k0 bel lt0) trodAll_mk0)
  clear hA0 hval0
  have goal : Calls Try.prog 6 #[v0] W (Ret fun r w' => r = .bool true ∧ Since nX W w') := by
    clear shut
    obtain ⟨a1, rfl, rfl, rfl, wa1⟩ := open_string Try.underlying9 (hval 0 9 v0 rfl rfl) h0
    exact c_SymMany a1  W
  refine (ret_true goal).mono fun e W' ⟨he, bel⟩ => ?_
  subst he
  exact ⟨_, rfl, _, _, _, [], _, [], hW', trodAll_mk1 (shut_bool Try.underlying4 _), shut W' bel, rfl, bel.frame _, fun h => by cases h⟩

theorem LSymMany.over : Rows.symManyRow.holds Try.pinned (OpenSpec.ofChange Rows.symManySpec) :=
  OpenClaim.holds_of_wide 6 Try.f6 rfl rfl rfl rfl rfl rfl rfl ⟨rfl, rfl, rfl, rfl, rfl⟩ rfl rfl rfl rfl rfl (by kernel_rfl) Try.func6 (by kernel_rfl)
    (of_decide_eq_true (by kernel_rfl)) (by unfold Func.isWrapper; rw [if_neg (of_decide_eq_false (by kernel_rfl))]; exact ⟨rfl, rfl⟩)
    (fun os started H enc _ => LSymMany.lifted os started H enc)

theorem SymMany_holds : Rows.SymManySaid := LSymMany.over
#print axioms SymMany_holds
end Go.Proofs.Ytjgdkahblhpinaa
