/- Whatever is wanted, once more or once less, in whatever order: each answer, and all that is wanted, is what the document says; no condition but the statement's own. -/
import Derived.Test.YtinbigokigkfaaaKTallyPlays2
namespace Go.Proofs.Ytinbigokigkfaaa
open Go.Gx Go.Gx.T10 Go.ChangeShapes Go.WideShapes Go.ChangeAt Go.RowKit
open Go.ChangeMaps (open_string shut_string)

theorem LTallyPlays.own : ownKnob Try.prog.godebug = none := by kernel_rfl
theorem LTallyPlays.laid : laidOutB Try.prog = true := by kernel_rfl

set_option maxRecDepth 100000 in
theorem LTallyPlays.lifted (os : Os) (started : os.Started) (H : Type) (enc : TypeId × Value → H) :
    ReturnsInHanded {} Try.checked os 8 .any (Rows.tallyPlaysSpec.pre6 enc Try.prog Try.f8 Rows.tallyPlaysRow.domain false) (Rows.tallyPlaysSpec.post enc Try.prog Try.f8 false true false false) := by
  refine returnsInHanded_of_change (C := Try.checked) LTallyPlays.own started (by kernel_rfl) Try.func8
    (ChangeSpec.witness6 (enc := enc) (C := Try.checked) false ⟨#[], #[Value.slice none 0 0], []⟩ 8 (by kernel_rfl) (by kernel_rfl) (by kernel_rfl) (by kernel_rfl)) ?_
  intro W base args ds gs before hval0 hW hcnd hsz0
  have hval : ∀ (j : Nat) t v, Try.f8.params[j]? = some t → args[j]? = some v → Value.okWide Try.prog W .any base t v := hval0
  have hW' := hW
  obtain ⟨p, q, hA0, hV, rfl, hfz, hnd⟩ := hW
  have hA : DataW.TrodAll enc Try.prog W 0 (fun _ => true) true Try.f8.params.toList args.toList ds p := hA0
  rw [Try.params8] at hA hval
  obtain ⟨v0, vs0, d0, ds0, p0, q0, hargs, rfl, rfl, h0, t0⟩ := trodAll_cons hA
  obtain ⟨rfl, rfl, rfl⟩ := trodAll_nil t0
  obtain rfl : args = #[v0] := by cases args; simp_all
  obtain ⟨rfl, rfl⟩ := trodVars_none hV
  have k0 := h0
  have lt0 : ∀ x ∈ p0, x.block < W.heap.size := by obtain ⟨m, hm⟩ := k0; exact DataW.trod_lt m _ _ _ hm
  have shut : ∀ W', Below W.heap.size W W' → DataW.TrodAll enc Try.prog W' 0 (fun b => decide (b < W.heap.size)) true [84] [v0] [d0] (p0 ++ []) := fun W' bel => (trodAll_cons_mk (Below.trod LTallyPlays.laid (by kernel_rfl) (of_decide_eq_true (by kernel_rfl)) k0 bel lt0) trodAll_mk0)
  clear hA0 hval0
  have goal : Calls Try.prog 8 #[v0] W (Ret fun r w' => r = .bool true ∧ Since nX W w') := by
    clear shut
    obtain ⟨l1, hs0⟩ := open_arg (cells := opSC) opS0 Try.underlying84 (show Program.cellsOf Try.prog 89 = 2 by kernel_rfl) (by decide) (fun n cs' y h => by have h1 := (leaves_of 9).1 89 _ n cs' y (show leafT Try.prog 9 89 = some [4, 9] by kernel_rfl) h; obtain ⟨x0, r0, rfl, f0, g0⟩ := h1.inv; obtain ⟨x1, r1, rfl, f1, g1⟩ := g0.inv; obtain rfl := g1.inv0; obtain ⟨b0, rfl⟩ := f0.bool Try.underlying4; obtain ⟨b1, rfl, hz1⟩ := f1.string Try.underlying9; exact ⟨(b0, ⟨b1, hz1⟩), rfl⟩) (hval 0 84 v0 rfl rfl) h0
    exact c_TallyPlays v0 l1 hs0 W (has_GW W)
  refine (ret_true goal).mono fun e W' ⟨he, bel⟩ => ?_
  subst he
  exact ⟨_, rfl, _, _, _, [], _, [], hW', trodAll_mk1 (shut_bool Try.underlying4 _), shut W' bel, rfl, bel.frame _, fun h => by cases h⟩

theorem LTallyPlays.over : Rows.tallyPlaysRow.holds Try.pinned (OpenSpec.ofChange Rows.tallyPlaysSpec) :=
  OpenClaim.holds_of_wide 8 Try.f8 rfl rfl rfl rfl rfl rfl rfl ⟨rfl, rfl, rfl, rfl, rfl⟩ rfl rfl rfl rfl rfl (by kernel_rfl) Try.func8 (by kernel_rfl)
    (of_decide_eq_true (by kernel_rfl)) (by unfold Func.isWrapper; rw [if_neg (of_decide_eq_false (by kernel_rfl))]; exact ⟨rfl, rfl⟩)
    (fun os started H enc _ => LTallyPlays.lifted os started H enc)

theorem TallyPlays_holds : Rows.TallyPlaysSaid := LTallyPlays.over
#print axioms TallyPlays_holds
end Go.Proofs.Ytinbigokigkfaaa
