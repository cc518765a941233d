/- No fact meets an Ncc; of a Pos and a Neg with the same key and tests the same facts meet both. -/
import Derived.Test.YtinbigokigkfaaaGxRow
import Derived.Test.YtinbigokigkfaaaGxIn
import Derived.Test.YtinbigokigkfaaaGxKey
import Derived.Test.YtinbigokigkfaaaGxNum
import Derived.Test.YtinbigokigkfaaaW13k
import Derived.Test.YtinbigokigkfaaaW13g
namespace Go.Proofs.Ytinbigokigkfaaa
open Go.Gx Go.Gx.T13 Go.Gx.T8 Go.Gx.T4 Go.ChangeShapes Go.WideShapes Go.ChangeAt Go.RowKit
open Go.ChangeMaps (open_string shut_string)

theorem LTestKinds.own : ownKnob Try.prog.godebug = none := by kernel_rfl
theorem LTestKinds.laid : laidOutB Try.prog = true := by kernel_rfl

set_option maxRecDepth 100000 in
theorem LTestKinds.lifted (os : Os) (started : os.Started) (H : Type) (enc : TypeId × Value → H) :
    ReturnsInHanded {} Try.checked os 6 .any (Rows.testKindsSpec.pre6 enc Try.prog Try.f6 Rows.testKindsRow.domain false) (Rows.testKindsSpec.post enc Try.prog Try.f6 false true false false) := by
  refine returnsInHanded_of_change (C := Try.checked) LTestKinds.own started (by kernel_rfl) Try.func6
    (ChangeSpec.witness6 (enc := enc) (C := Try.checked) false ⟨#[], #[Value.agg #[Value.int .i64 0, Value.bool false, Value.int .i64 0, Value.bool false, Value.int .i64 0, Value.bool false, Value.int .i64 0, Value.slice none 0 0], Value.slice none 0 0, Value.agg #[Value.int .i64 0, Value.int .i64 0, Value.int .i64 0]], []⟩ 8 (by kernel_rfl) (by kernel_rfl) (by kernel_rfl) (by kernel_rfl)) ?_
  intro W base args ds gs before hval0 hW hcnd hsz0
  have hval : ∀ (j : Nat) t v, Try.f6.params[j]? = some t → args[j]? = some v → Value.okWide Try.prog W .any base t v := hval0
  have hW' := hW
  obtain ⟨p, q, hA0, hV, rfl, hfz, hnd⟩ := hW
  have hA : DataW.TrodAll enc Try.prog W 0 (fun _ => true) true Try.f6.params.toList args.toList ds p := hA0
  rw [Try.params6] at hA hval
  obtain ⟨v0, vs0, d0, ds0, p0, q0, hargs, rfl, rfl, h0, t0⟩ := trodAll_cons hA
  obtain ⟨v1, vs1, d1, ds1, p1, q1, rfl, rfl, rfl, h1, t1⟩ := trodAll_cons t0
  obtain ⟨v2, vs2, d2, ds2, p2, q2, rfl, rfl, rfl, h2, t2⟩ := trodAll_cons t1
  obtain ⟨rfl, rfl, rfl⟩ := trodAll_nil t2
  obtain rfl : args = #[v0, v1, v2] := by cases args; simp_all
  obtain ⟨rfl, rfl⟩ := trodVars_none hV
  have k0 := h0
  have lt0 : ∀ x ∈ p0, x.block < W.heap.size := by obtain ⟨m, hm⟩ := k0; exact DataW.trod_lt m _ _ _ hm
  have k1 := h1
  have lt1 : ∀ x ∈ p1, x.block < W.heap.size := by obtain ⟨m, hm⟩ := k1; exact DataW.trod_lt m _ _ _ hm
  have k2 := h2
  have lt2 : ∀ x ∈ p2, x.block < W.heap.size := by obtain ⟨m, hm⟩ := k2; exact DataW.trod_lt m _ _ _ hm
  have shut : ∀ W', Below W.heap.size W W' → DataW.TrodAll enc Try.prog W' 0 (fun b => decide (b < W.heap.size)) true [47, 22, 26] [v0, v1, v2] [d0, d1, d2] (p0 ++ (p1 ++ (p2 ++ []))) := fun W' bel => (trodAll_cons_mk (Below.trod LTestKinds.laid (by kernel_rfl) (of_decide_eq_true (by kernel_rfl)) k0 bel lt0) (trodAll_cons_mk (Below.trod LTestKinds.laid (by kernel_rfl) (of_decide_eq_true (by kernel_rfl)) k1 bel lt1) (trodAll_cons_mk (Below.trod LTestKinds.laid (by kernel_rfl) (of_decide_eq_true (by kernel_rfl)) k2 bel lt2) trodAll_mk0)))
  clear hA0 hval0
  have goal : Calls Try.prog 6 #[v0, v1, v2] W (Ret fun r w' => r = .bool true ∧ Since nX W w') := by
    clear shut
    obtain ⟨c0, s0, rfl, hs0⟩ := open_cond (hval 0 47 v0 rfl rfl) h0
    obtain ⟨l1, hs1⟩ := open_arg (cells := triL) (0, 0, 0) Try.underlying22 (show Program.cellsOf Try.prog 26 = 3 by kernel_rfl) (by decide) (fun n cs' y h => by obtain ⟨a1, a2, a3, rfl⟩ := (trod_tri (P := Try.prog) Try.underlying3 (show leafT Try.prog 9 26 = some [3, 3, 3] by kernel_rfl) h); exact ⟨(a1, a2, a3), rfl⟩) (hval 1 22 v1 rfl rfl) h1
    have hl2 : leafT Try.prog 9 26 = some [3, 3, 3] := by kernel_rfl
    obtain ⟨cs2, rfl, hlv2⟩ := open_leaves 9 Try.underlying26 rfl hl2 (hval 2 26 v2 rfl rfl) h2
    obtain ⟨x2_0, r2_0, e2_0, f2_0, g2_0⟩ := hlv2.inv
    obtain ⟨a2, rfl, wa2⟩ := f2_0.int Try.underlying3
    obtain ⟨x2_1, r2_1, e2_1, f2_1, g2_1⟩ := g2_0.inv
    obtain ⟨a3, rfl, wa3⟩ := f2_1.int Try.underlying3
    obtain ⟨x2_2, r2_2, e2_2, f2_2, g2_2⟩ := g2_1.inv
    obtain ⟨a4, rfl, wa4⟩ := f2_2.int Try.underlying3
    have z2 := g2_2.inv0
    obtain rfl : cs2 = #[Value.int .i64 a2, Value.int .i64 a3, Value.int .i64 a4] := by apply Array.ext'; rw [e2_0, e2_1, e2_2, z2]
    exact c_TestKinds c0 s0 v1 l1 (a2, a3, a4) hs0 hs1 W (has_GW W)
  refine (ret_true goal).mono fun e W' ⟨he, bel⟩ => ?_
  subst he
  exact ⟨_, rfl, _, _, _, [], _, [], hW', trodAll_mk1 (shut_bool Try.underlying4 _), shut W' bel, rfl, bel.frame _, fun h => by cases h⟩

theorem LTestKinds.over : Rows.testKindsRow.holds Try.pinned (OpenSpec.ofChange Rows.testKindsSpec) :=
  OpenClaim.holds_of_wide 6 Try.f6 rfl rfl rfl rfl rfl rfl rfl ⟨rfl, rfl, rfl, rfl, rfl⟩ rfl rfl rfl rfl rfl (by kernel_rfl) Try.func6 (by kernel_rfl)
    (of_decide_eq_true (by kernel_rfl)) (by unfold Func.isWrapper; rw [if_neg (of_decide_eq_false (by kernel_rfl))]; exact ⟨rfl, rfl⟩)
    (fun os started H enc _ => LTestKinds.lifted os started H enc)

theorem TestKinds_holds : Rows.TestKindsSaid := LTestKinds.over
#print axioms TestKinds_holds
end Go.Proofs.Ytinbigokigkfaaa
