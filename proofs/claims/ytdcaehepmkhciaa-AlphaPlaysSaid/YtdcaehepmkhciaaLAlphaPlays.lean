/- Whatever memories are wanted or not, whatever facts come and go: each answer, and all that memories have, is what the document says; for any calls, without a condition (beyond 60 calls, and from a call on that may not be, the program's fixed answer alone). -/
import Derived.Test.YtdcaehepmkhciaaKAlphaPlays4
namespace Go.Proofs.Ytdcaehepmkhciaa
open Go.Gx Go.Gx.T12 Go.Gx.T11 Go.Gx.T10 Go.ChangeShapes Go.WideShapes Go.ChangeAt Go.RowKit
open Go.ChangeMaps (open_string shut_string)

theorem LAlphaPlays.own : ownKnob Try.prog.godebug = none := by kernel_rfl
theorem LAlphaPlays.laid : laidOutB Try.prog = true := by kernel_rfl

set_option maxRecDepth 100000 in
theorem LAlphaPlays.lifted (os : Os) (started : os.Started) (H : Type) (enc : TypeId × Value → H) :
    ReturnsInHanded {} Try.checked os 7 .any (Rows.alphaPlaysSpec.pre6 enc Try.prog Try.f7 Rows.alphaPlaysRow.domain false) (Rows.alphaPlaysSpec.post enc Try.prog Try.f7 false true false false) := by
  refine returnsInHanded_of_change (C := Try.checked) LAlphaPlays.own started (by kernel_rfl) Try.func7
    (ChangeSpec.witness6 (enc := enc) (C := Try.checked) false ⟨#[], #[Value.slice none 0 0], []⟩ 8 (by kernel_rfl) (by kernel_rfl) (by kernel_rfl) (by kernel_rfl)) ?_
  intro W base args ds gs before hval0 hW hcnd hsz0
  have hval : ∀ (j : Nat) t v, Try.f7.params[j]? = some t → args[j]? = some v → Value.okWide Try.prog W .any base t v := hval0
  have hW' := hW
  obtain ⟨p, q, hA0, hV, rfl, hfz, hnd⟩ := hW
  have hA : DataW.TrodAll enc Try.prog W 0 (fun _ => true) true Try.f7.params.toList args.toList ds p := hA0
  rw [Try.params7] at hA hval
  obtain ⟨v0, vs0, d0, ds0, p0, q0, hargs, rfl, rfl, h0, t0⟩ := trodAll_cons hA
  obtain ⟨rfl, rfl, rfl⟩ := trodAll_nil t0
  obtain rfl : args = #[v0] := by cases args; simp_all
  obtain ⟨rfl, rfl⟩ := trodVars_none hV
  have k0 := h0
  have lt0 : ∀ x ∈ p0, x.block < W.heap.size := by obtain ⟨m, hm⟩ := k0; exact DataW.trod_lt m _ _ _ hm
  have shut : ∀ W', Below W.heap.size W W' → DataW.TrodAll enc Try.prog W' 0 (fun b => decide (b < W.heap.size)) true [76] [v0] [d0] (p0 ++ []) := fun W' bel => (trodAll_cons_mk (Below.trod LAlphaPlays.laid (by kernel_rfl) (of_decide_eq_true (by kernel_rfl)) k0 bel lt0) trodAll_mk0)
  clear hA0 hval0
  have goal : Calls Try.prog 7 #[v0] W (Ret fun r w' => r = .bool true ∧ Since nX W w') := by
    clear shut
    obtain ⟨l0, hs0, hf0, hw0⟩ := open_ops12 (hval 0 76 v0 rfl rfl) h0
    exact c_AlphaPlays v0 l0 hs0 hf0 hw0 W (has_GW W)
  refine (ret_true goal).mono fun e W' ⟨he, bel⟩ => ?_
  subst he
  exact ⟨_, rfl, _, _, _, [], _, [], hW', trodAll_mk1 (shut_bool Try.underlying4 _), shut W' bel, rfl, bel.frame _, fun h => by cases h⟩

theorem LAlphaPlays.over : Rows.alphaPlaysRow.holds Try.pinned (OpenSpec.ofChange Rows.alphaPlaysSpec) :=
  OpenClaim.holds_of_wide 7 Try.f7 rfl rfl rfl rfl rfl rfl rfl ⟨rfl, rfl, rfl, rfl, rfl⟩ rfl rfl rfl rfl rfl (by kernel_rfl) Try.func7 (by kernel_rfl)
    (of_decide_eq_true (by kernel_rfl)) (by unfold Func.isWrapper; rw [if_neg (of_decide_eq_false (by kernel_rfl))]; exact ⟨rfl, rfl⟩)
    (fun os started H enc _ => LAlphaPlays.lifted os started H enc)

theorem AlphaPlays_holds : Rows.AlphaPlaysSaid := LAlphaPlays.over
#print axioms AlphaPlays_holds
end Go.Proofs.Ytdcaehepmkhciaa
