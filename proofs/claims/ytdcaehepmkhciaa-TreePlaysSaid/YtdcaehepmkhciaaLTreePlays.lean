/- Whatever tokens come and go, in whatever order: each answer, who is out with whom, and all that there is, is what the document says; for any place of the top and any calls, without a condition (beyond 60 calls the program's fixed answer alone). -/
import Derived.Test.YtdcaehepmkhciaaKTreePlays3
namespace Go.Proofs.Ytdcaehepmkhciaa
open Go.Gx Go.Gx.T15 Go.Gx.T12 Go.Gx.T11 Go.Gx.T10 Go.Gx.T6 Go.Gx.T4 Go.ChangeShapes Go.WideShapes Go.ChangeAt Go.RowKit
open Go.ChangeMaps (open_string shut_string)

theorem LTreePlays.own : ownKnob Try.prog.godebug = none := by kernel_rfl
theorem LTreePlays.laid : laidOutB Try.prog = true := by kernel_rfl

set_option maxRecDepth 100000 in
theorem LTreePlays.lifted (os : Os) (started : os.Started) (H : Type) (enc : TypeId × Value → H) :
    ReturnsInHanded {} Try.checked os 9 .any (Rows.treePlaysSpec.pre6 enc Try.prog Try.f9 Rows.treePlaysRow.domain false) (Rows.treePlaysSpec.post enc Try.prog Try.f9 false true false false) := by
  refine returnsInHanded_of_change (C := Try.checked) LTreePlays.own started (by kernel_rfl) Try.func9
    (ChangeSpec.witness6 (enc := enc) (C := Try.checked) false ⟨#[], #[Value.string ⟨#[]⟩, Value.slice none 0 0], []⟩ 8 (by kernel_rfl) (by kernel_rfl) (by kernel_rfl) (by kernel_rfl)) ?_
  intro W base args ds gs before hval0 hW hcnd hsz0
  have hval : ∀ (j : Nat) t v, Try.f9.params[j]? = some t → args[j]? = some v → Value.okWide Try.prog W .any base t v := hval0
  have hW' := hW
  obtain ⟨p, q, hA0, hV, rfl, hfz, hnd⟩ := hW
  have hA : DataW.TrodAll enc Try.prog W 0 (fun _ => true) true Try.f9.params.toList args.toList ds p := hA0
  rw [Try.params9] at hA hval
  obtain ⟨v0, vs0, d0, ds0, p0, q0, hargs, rfl, rfl, h0, t0⟩ := trodAll_cons hA
  obtain ⟨v1, vs1, d1, ds1, p1, q1, rfl, rfl, rfl, h1, t1⟩ := trodAll_cons t0
  obtain ⟨rfl, rfl, rfl⟩ := trodAll_nil t1
  obtain rfl : args = #[v0, v1] := by cases args; simp_all
  obtain ⟨rfl, rfl⟩ := trodVars_none hV
  have k0 := h0
  have lt0 : ∀ x ∈ p0, x.block < W.heap.size := by obtain ⟨m, hm⟩ := k0; exact DataW.trod_lt m _ _ _ hm
  have k1 := h1
  have lt1 : ∀ x ∈ p1, x.block < W.heap.size := by obtain ⟨m, hm⟩ := k1; exact DataW.trod_lt m _ _ _ hm
  have shut : ∀ W', Below W.heap.size W W' → DataW.TrodAll enc Try.prog W' 0 (fun b => decide (b < W.heap.size)) true [9, 22] [v0, v1] [d0, d1] (p0 ++ (p1 ++ [])) := fun W' bel => (trodAll_cons_mk (Below.trod LTreePlays.laid (by kernel_rfl) (of_decide_eq_true (by kernel_rfl)) k0 bel lt0) (trodAll_cons_mk (Below.trod LTreePlays.laid (by kernel_rfl) (of_decide_eq_true (by kernel_rfl)) k1 bel lt1) trodAll_mk0))
  clear hA0 hval0
  have goal : Calls Try.prog 9 #[v0, v1] W (Ret fun r w' => r = .bool true ∧ Since nX W w') := by
    clear shut
    obtain ⟨a1, rfl, rfl, rfl, wa1⟩ := open_string Try.underlying9 (hval 0 9 v0 rfl rfl) h0
    obtain ⟨l2, hs1⟩ := open_arg (cells := opC) (false, 0, ByteArray.empty, 0) Try.underlying22 (show Program.cellsOf Try.prog 27 = 4 by kernel_rfl) (by decide) (fun n cs' y h => by have h1 := (leaves_of 9).1 27 _ n cs' y (show leafT Try.prog 9 27 = some [4, 3, 9, 3] by kernel_rfl) h; obtain ⟨x0, r0, rfl, f0, g0⟩ := h1.inv; obtain ⟨x1, r1, rfl, f1, g1⟩ := g0.inv; obtain ⟨x2, r2, rfl, f2, g2⟩ := g1.inv; obtain ⟨x3, r3, rfl, f3, g3⟩ := g2.inv; obtain rfl := g3.inv0; obtain ⟨b0, rfl⟩ := f0.bool Try.underlying4; obtain ⟨b1, rfl, _⟩ := f1.int Try.underlying3; obtain ⟨b2, rfl, _⟩ := f2.string Try.underlying9; obtain ⟨b3, rfl, _⟩ := f3.int Try.underlying3; exact ⟨(b0, b1, b2, b3), rfl⟩) (hval 1 22 v1 rfl rfl) h1
    exact c_TreePlays a1 v1 l2 hs1 W (has_GW W)
  refine (ret_true goal).mono fun e W' ⟨he, bel⟩ => ?_
  subst he
  exact ⟨_, rfl, _, _, _, [], _, [], hW', trodAll_mk1 (shut_bool Try.underlying4 _), shut W' bel, rfl, bel.frame _, fun h => by cases h⟩

theorem LTreePlays.over : Rows.treePlaysRow.holds Try.pinned (OpenSpec.ofChange Rows.treePlaysSpec) :=
  OpenClaim.holds_of_wide 9 Try.f9 rfl rfl rfl rfl rfl rfl rfl ⟨rfl, rfl, rfl, rfl, rfl⟩ rfl rfl rfl rfl rfl (by kernel_rfl) Try.func9 (by kernel_rfl)
    (of_decide_eq_true (by kernel_rfl)) (by unfold Func.isWrapper; rw [if_neg (of_decide_eq_false (by kernel_rfl))]; exact ⟨rfl, rfl⟩)
    (fun os started H enc _ => LTreePlays.lifted os started H enc)

theorem TreePlays_holds : Rows.TreePlaysSaid := LTreePlays.over
#print axioms TreePlays_holds
end Go.Proofs.Ytdcaehepmkhciaa
