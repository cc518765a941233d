/- Facts that come and go, and keys that are wanted: each memory has just the facts that there are and that have its key. -/
import Derived.Test.YtdcaehepmkhciaaKAlphaWhole3
namespace Go.Proofs.Ytdcaehepmkhciaa
open Go.Gx Go.Gx.T12 Go.Gx.T11 Go.Gx.T10 Go.ChangeShapes Go.WideShapes Go.ChangeAt Go.RowKit
open Go.ChangeMaps (open_string shut_string)

theorem LAlphaWhole.own : ownKnob Try.prog.godebug = none := by kernel_rfl
theorem LAlphaWhole.laid : laidOutB Try.prog = true := by kernel_rfl

set_option maxRecDepth 100000 in
theorem LAlphaWhole.lifted (os : Os) (started : os.Started) (H : Type) (enc : TypeId × Value → H) :
    ReturnsInHanded {} Try.checked os 5 .any (Rows.alphaWholeSpec.pre6 enc Try.prog Try.f5 Rows.alphaWholeRow.domain false) (Rows.alphaWholeSpec.post enc Try.prog Try.f5 false true false false) := by
  refine returnsInHanded_of_change (C := Try.checked) LAlphaWhole.own started (by kernel_rfl) Try.func5
    (ChangeSpec.witness6 (enc := enc) (C := Try.checked) false ⟨#[], #[Value.slice none 0 0, Value.slice none 0 0, Value.slice none 0 0], []⟩ 8 (by kernel_rfl) (by kernel_rfl) (by kernel_rfl) (by kernel_rfl)) ?_
  intro W base args ds gs before hval0 hW hcnd hsz0
  have hval : ∀ (j : Nat) t v, Try.f5.params[j]? = some t → args[j]? = some v → Value.okWide Try.prog W .any base t v := hval0
  have hW' := hW
  obtain ⟨p, q, hA0, hV, rfl, hfz, hnd⟩ := hW
  have hA : DataW.TrodAll enc Try.prog W 0 (fun _ => true) true Try.f5.params.toList args.toList ds p := hA0
  rw [Try.params5] at hA hval
  obtain ⟨v0, vs0, d0, ds0, p0, q0, hargs, rfl, rfl, h0, t0⟩ := trodAll_cons hA
  obtain ⟨v1, vs1, d1, ds1, p1, q1, rfl, rfl, rfl, h1, t1⟩ := trodAll_cons t0
  obtain ⟨v2, vs2, d2, ds2, p2, q2, rfl, rfl, rfl, h2, t2⟩ := trodAll_cons t1
  obtain ⟨rfl, rfl, rfl⟩ := trodAll_nil t2
  obtain rfl : args = #[v0, v1, v2] := by cases args; simp_all
  obtain ⟨rfl, rfl⟩ := trodVars_none hV
  have k0 := h0
  have lt0 : ∀ x ∈ p0, x.block < W.heap.size := by obtain ⟨m, hm⟩ := k0; exact DataW.trod_lt m _ _ _ hm
  have k1 := h1
  have lt1 : ∀ x ∈ p1, x.block < W.heap.size := by obtain ⟨m, hm⟩ := k1; exact DataW.trod_lt m _ _ _ hm
  have k2 := h2
  have lt2 : ∀ x ∈ p2, x.block < W.heap.size := by obtain ⟨m, hm⟩ := k2; exact DataW.trod_lt m _ _ _ hm
  have shut : ∀ W', Below W.heap.size W W' → DataW.TrodAll enc Try.prog W' 0 (fun b => decide (b < W.heap.size)) true [56, 56, 57] [v0, v1, v2] [d0, d1, d2] (p0 ++ (p1 ++ (p2 ++ []))) := fun W' bel => (trodAll_cons_mk (Below.trod LAlphaWhole.laid (by kernel_rfl) (of_decide_eq_true (by kernel_rfl)) k0 bel lt0) (trodAll_cons_mk (Below.trod LAlphaWhole.laid (by kernel_rfl) (of_decide_eq_true (by kernel_rfl)) k1 bel lt1) (trodAll_cons_mk (Below.trod LAlphaWhole.laid (by kernel_rfl) (of_decide_eq_true (by kernel_rfl)) k2 bel lt2) trodAll_mk0)))
  clear hA0 hval0
  have goal : Calls Try.prog 5 #[v0, v1, v2] W (Ret fun r w' => r = .bool true ∧ Since nX W w') := by
    clear shut
    obtain ⟨l1, hs0⟩ := open_arg (cells := triL) ((0, 0, 0) : Tri) Try.underlying56 (show Program.cellsOf Try.prog 61 = 3 by kernel_rfl) (by decide) (fun n cs' y h => by obtain ⟨a1, a2, a3, rfl⟩ := (trod_tri (P := Try.prog) Try.underlying3 (show leafT Try.prog 9 61 = some [3, 3, 3] by kernel_rfl) h); exact ⟨(a1, a2, a3), rfl⟩) (hval 0 56 v0 rfl rfl) h0
    obtain ⟨l2, hs1⟩ := open_arg (cells := triL) ((0, 0, 0) : Tri) Try.underlying56 (show Program.cellsOf Try.prog 61 = 3 by kernel_rfl) (by decide) (fun n cs' y h => by obtain ⟨a1, a2, a3, rfl⟩ := (trod_tri (P := Try.prog) Try.underlying3 (show leafT Try.prog 9 61 = some [3, 3, 3] by kernel_rfl) h); exact ⟨(a1, a2, a3), rfl⟩) (hval 1 56 v1 rfl rfl) h1
    obtain ⟨l3, hs2⟩ := open_arg (cells := cU) (0 : Nat) Try.underlying57 (show Program.cellsOf Try.prog 5 = 1 by kernel_rfl) (by decide) (fun n cs' y h => by obtain ⟨z, rfl, hw⟩ := DataW.trod_int Try.underlying5 h; have hz := wf_u8 hw.2; exact ⟨z.toNat, by show _ = [Value.int .u8 _]; rw [show ((z.toNat % 256 : Nat) : Int) = z by omega]⟩) (hval 2 57 v2 rfl rfl) h2
    exact c_AlphaWhole v0 l1 v1 l2 v2 l3 hs0 hs1 hs2 W (has_GW W)
  refine (ret_true goal).mono fun e W' ⟨he, bel⟩ => ?_
  subst he
  exact ⟨_, rfl, _, _, _, [], _, [], hW', trodAll_mk1 (shut_bool Try.underlying4 _), shut W' bel, rfl, bel.frame _, fun h => by cases h⟩

theorem LAlphaWhole.over : Rows.alphaWholeRow.holds Try.pinned (OpenSpec.ofChange Rows.alphaWholeSpec) :=
  OpenClaim.holds_of_wide 5 Try.f5 rfl rfl rfl rfl rfl rfl rfl ⟨rfl, rfl, rfl, rfl, rfl⟩ rfl rfl rfl rfl rfl (by kernel_rfl) Try.func5 (by kernel_rfl)
    (of_decide_eq_true (by kernel_rfl)) (by unfold Func.isWrapper; rw [if_neg (of_decide_eq_false (by kernel_rfl))]; exact ⟨rfl, rfl⟩)
    (fun os started H enc _ => LAlphaWhole.lifted os started H enc)

theorem AlphaWhole_holds : Rows.AlphaWholeSaid := LAlphaWhole.over
#print axioms AlphaWhole_holds
end Go.Proofs.Ytdcaehepmkhciaa
