/- Any step is right or not, as the document says, and any two right ones are alike or not; no condition but the statement's own. -/
import Derived.Test.YtoflaphnlfggkaaKCompRight3
namespace Go.Proofs.Ytoflaphnlfggkaa
open Go.Gx Go.Gx.T8 Go.Gx.T4 Go.Gx.T3 Go.ChangeShapes Go.WideShapes Go.ChangeAt Go.RowKit
open Go.ChangeMaps (open_string shut_string)

theorem LCompRight.own : ownKnob Try.prog.godebug = none := by kernel_rfl
theorem LCompRight.laid : laidOutB Try.prog = true := by kernel_rfl

set_option maxRecDepth 100000 in
theorem LCompRight.lifted (os : Os) (started : os.Started) (H : Type) (enc : TypeId × Value → H) :
    ReturnsInHanded {} Try.checked os 10 .any (Rows.compRightSpec.pre6 enc Try.prog Try.f10 Rows.compRightRow.domain false) (Rows.compRightSpec.post enc Try.prog Try.f10 false true false false) := by
  refine returnsInHanded_of_change_sized (C := Try.checked) LCompRight.own started (by kernel_rfl) Try.func10
    (ChangeSpec.witness6 (enc := enc) (C := Try.checked) false ⟨#[], #[Value.agg #[Value.int .i64 0, Value.int .i64 0, Value.int .i64 0, Value.int .i64 0, Value.slice none 0 0, Value.slice none 0 0], Value.agg #[Value.int .i64 0, Value.int .i64 0, Value.int .i64 0, Value.int .i64 0, Value.slice none 0 0, Value.slice none 0 0]], []⟩ 8 (by kernel_rfl) (by kernel_rfl) (by kernel_rfl) (by kernel_rfl)) ?_
  intro W base args ds gs before hval0 hW hcnd hsz0 _
  have hval : ∀ (j : Nat) t v, Try.f10.params[j]? = some t → args[j]? = some v → Value.okWide Try.prog W .any base t v := hval0
  have hW' := hW
  obtain ⟨p, q, hA0, hV, rfl, hfz, hnd⟩ := hW
  have hA : DataW.TrodAll enc Try.prog W 0 (fun _ => true) true Try.f10.params.toList args.toList ds p := hA0
  rw [Try.params10] at hA hval
  obtain ⟨v0, vs0, d0, ds0, p0, q0, hargs, rfl, rfl, h0, t0⟩ := trodAll_cons hA
  obtain ⟨v1, vs1, d1, ds1, p1, q1, rfl, rfl, rfl, h1, t1⟩ := trodAll_cons t0
  obtain ⟨rfl, rfl, rfl⟩ := trodAll_nil t1
  obtain rfl : args = #[v0, v1] := by cases args; simp_all
  obtain ⟨rfl, rfl⟩ := trodVars_none hV
  have k0 := h0
  have lt0 : ∀ x ∈ p0, x.block < W.heap.size := by obtain ⟨m, hm⟩ := k0; exact DataW.trod_lt m _ _ _ hm
  have k1 := h1
  have lt1 : ∀ x ∈ p1, x.block < W.heap.size := by obtain ⟨m, hm⟩ := k1; exact DataW.trod_lt m _ _ _ hm
  have shut : ∀ W', Below W.heap.size W W' → DataW.TrodAll enc Try.prog W' 0 (fun b => decide (b < W.heap.size)) true [64, 64] [v0, v1] [d0, d1] (p0 ++ (p1 ++ [])) := fun W' bel => (trodAll_cons_mk (Below.trod LCompRight.laid (by kernel_rfl) (of_decide_eq_true (by kernel_rfl)) k0 bel lt0) (trodAll_cons_mk (Below.trod LCompRight.laid (by kernel_rfl) (of_decide_eq_true (by kernel_rfl)) k1 bel lt1) trodAll_mk0))
  clear hA0 hval0
  have goal : Calls Try.prog 10 #[v0, v1] W (Ret fun r w' => r = .bool true ∧ Since nX W w') := by
    clear shut
    obtain ⟨c0, ta0, sb0, rfl, ht0, hs0, hlt0⟩ := open_stepz (hval 0 64 v0 rfl rfl) h0 (light_each (j := 0) hsz0 (by rfl) (by rfl))
    obtain ⟨c1, ta1, sb1, rfl, ht1, hs1, hlt1⟩ := open_stepz (hval 1 64 v1 rfl rfl) h1 (light_each (j := 1) hsz0 (by rfl) (by rfl))
    exact c_CompRight c0 ta0 sb0 c1 ta1 sb1 ht0 hs0 hlt0 ht1 hs1 hlt1 W (has_GW W)
  refine (ret_true goal).mono fun e W' ⟨he, bel⟩ => ?_
  subst he
  exact ⟨_, rfl, _, _, _, [], _, [], hW', trodAll_mk1 (shut_bool Try.underlying4 _), shut W' bel, rfl, bel.frame _, fun h => by cases h⟩

theorem LCompRight.over : Rows.compRightRow.holds Try.pinned (OpenSpec.ofChange Rows.compRightSpec) :=
  OpenClaim.holds_of_wide 10 Try.f10 rfl rfl rfl rfl rfl rfl rfl ⟨rfl, rfl, rfl, rfl, rfl⟩ rfl rfl rfl rfl rfl (by kernel_rfl) Try.func10 (by kernel_rfl)
    (of_decide_eq_true (by kernel_rfl)) (by unfold Func.isWrapper; rw [if_neg (of_decide_eq_false (by kernel_rfl))]; exact ⟨rfl, rfl⟩)
    (fun os started H enc _ => LCompRight.lifted os started H enc)

theorem CompRight_holds : Rows.CompRightSaid := LCompRight.over
#print axioms CompRight_holds
end Go.Proofs.Ytoflaphnlfggkaa
