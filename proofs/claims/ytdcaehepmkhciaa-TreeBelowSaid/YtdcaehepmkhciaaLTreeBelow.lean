/- Who is out with a token is just who had it above itself; all others stay where they are; no number is used again. -/
import Derived.Test.YtdcaehepmkhciaaKTreeBelow2
namespace Go.Proofs.Ytdcaehepmkhciaa
open Go.Gx Go.Gx.T15 Go.Gx.T12 Go.Gx.T10 Go.ChangeShapes Go.WideShapes Go.ChangeAt Go.RowKit
open Go.ChangeMaps (open_string shut_string)

theorem LTreeBelow.own : ownKnob Try.prog.godebug = none := by kernel_rfl
theorem LTreeBelow.laid : laidOutB Try.prog = true := by kernel_rfl

set_option maxRecDepth 100000 in
theorem LTreeBelow.lifted (os : Os) (started : os.Started) (H : Type) (enc : TypeId × Value → H) :
    ReturnsInHanded {} Try.checked os 3 .any (Rows.treeBelowSpec.pre6 enc Try.prog Try.f3 Rows.treeBelowRow.domain false) (Rows.treeBelowSpec.post enc Try.prog Try.f3 false true false false) := by
  refine returnsInHanded_of_change (C := Try.checked) LTreeBelow.own started (by kernel_rfl) Try.func3
    (ChangeSpec.witness6 (enc := enc) (C := Try.checked) false ⟨#[], #[Value.slice none 0 0, Value.int .i64 0], []⟩ 8 (by kernel_rfl) (by kernel_rfl) (by kernel_rfl) (by kernel_rfl)) ?_
  intro W base args ds gs before hval0 hW hcnd hsz0
  have hval : ∀ (j : Nat) t v, Try.f3.params[j]? = some t → args[j]? = some v → Value.okWide Try.prog W .any base t v := hval0
  have hW' := hW
  obtain ⟨p, q, hA0, hV, rfl, hfz, hnd⟩ := hW
  have hA : DataW.TrodAll enc Try.prog W 0 (fun _ => true) true Try.f3.params.toList args.toList ds p := hA0
  rw [Try.params3] at hA hval
  obtain ⟨v0, vs0, d0, ds0, p0, q0, hargs, rfl, rfl, h0, t0⟩ := trodAll_cons hA
  obtain ⟨v1, vs1, d1, ds1, p1, q1, rfl, rfl, rfl, h1, t1⟩ := trodAll_cons t0
  obtain ⟨rfl, rfl, rfl⟩ := trodAll_nil t1
  obtain rfl : args = #[v0, v1] := by cases args; simp_all
  obtain ⟨rfl, rfl⟩ := trodVars_none hV
  have k0 := h0
  have lt0 : ∀ x ∈ p0, x.block < W.heap.size := by obtain ⟨m, hm⟩ := k0; exact DataW.trod_lt m _ _ _ hm
  have k1 := h1
  have lt1 : ∀ x ∈ p1, x.block < W.heap.size := by obtain ⟨m, hm⟩ := k1; exact DataW.trod_lt m _ _ _ hm
  have shut : ∀ W', Below W.heap.size W W' → DataW.TrodAll enc Try.prog W' 0 (fun b => decide (b < W.heap.size)) true [22, 3] [v0, v1] [d0, d1] (p0 ++ (p1 ++ [])) := fun W' bel => (trodAll_cons_mk (Below.trod LTreeBelow.laid (by kernel_rfl) (of_decide_eq_true (by kernel_rfl)) k0 bel lt0) (trodAll_cons_mk (Below.trod LTreeBelow.laid (by kernel_rfl) (of_decide_eq_true (by kernel_rfl)) k1 bel lt1) trodAll_mk0))
  clear hA0 hval0
  have goal : Calls Try.prog 3 #[v0, v1] W (Ret fun r w' => r = .bool true ∧ Since nX W w') := by
    clear shut
    obtain ⟨l1, hs0⟩ := open_arg (cells := opC) (false, 0, ByteArray.empty, 0) Try.underlying22 (show Program.cellsOf Try.prog 27 = 4 by kernel_rfl) (by decide) (fun n cs' y h => by have h1 := (leaves_of 9).1 27 _ n cs' y (show leafT Try.prog 9 27 = some [4, 3, 9, 3] by kernel_rfl) h; obtain ⟨x0, r0, rfl, f0, g0⟩ := h1.inv; obtain ⟨x1, r1, rfl, f1, g1⟩ := g0.inv; obtain ⟨x2, r2, rfl, f2, g2⟩ := g1.inv; obtain ⟨x3, r3, rfl, f3, g3⟩ := g2.inv; obtain rfl := g3.inv0; obtain ⟨b0, rfl⟩ := f0.bool Try.underlying4; obtain ⟨b1, rfl, _⟩ := f1.int Try.underlying3; obtain ⟨b2, rfl, _⟩ := f2.string Try.underlying9; obtain ⟨b3, rfl, _⟩ := f3.int Try.underlying3; exact ⟨(b0, b1, b2, b3), rfl⟩) (hval 0 22 v0 rfl rfl) h0
    obtain ⟨a2, rfl, rfl, rfl, wa2⟩ := open_int Try.underlying3 (hval 1 3 v1 rfl rfl) h1
    exact c_TreeBelow v0 l1 a2 hs0 W (has_GW W)
  refine (ret_true goal).mono fun e W' ⟨he, bel⟩ => ?_
  subst he
  exact ⟨_, rfl, _, _, _, [], _, [], hW', trodAll_mk1 (shut_bool Try.underlying4 _), shut W' bel, rfl, bel.frame _, fun h => by cases h⟩

theorem LTreeBelow.over : Rows.treeBelowRow.holds Try.pinned (OpenSpec.ofChange Rows.treeBelowSpec) :=
  OpenClaim.holds_of_wide 3 Try.f3 rfl rfl rfl rfl rfl rfl rfl ⟨rfl, rfl, rfl, rfl, rfl⟩ rfl rfl rfl rfl rfl (by kernel_rfl) Try.func3 (by kernel_rfl)
    (of_decide_eq_true (by kernel_rfl)) (by unfold Func.isWrapper; rw [if_neg (of_decide_eq_false (by kernel_rfl))]; exact ⟨rfl, rfl⟩)
    (fun os started H enc _ => LTreeBelow.lifted os started H enc)

theorem TreeBelow_holds : Rows.TreeBelowSaid := LTreeBelow.over
#print axioms TreeBelow_holds
end Go.Proofs.Ytdcaehepmkhciaa
