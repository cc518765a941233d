/- Walks: what Go functions of this chapter come to, each as a function on plain data; no condition but those that each theorem names. Printed by a program of this work (gen.py). -/
import Derived.Test.YtoflaphnlfggkaaW06f
import Derived.Test.YtoflaphnlfggkaaGxIn
import Derived.Test.YtoflaphnlfggkaaRows
namespace Go.Proofs.Ytoflaphnlfggkaa
open Go.Gx Go.Gx.T3 Go.Gx.T4 Go.Gx.T3 Go.ChangeShapes Go.WideShapes Go.ChangeAt Go.RowKit

theorem open_cond_l : leafT Try.prog 10 38 = some [3, 4, 3, 4, 3, 4, 3, 22] := by kernel_rfl
theorem open_cond_n {H : Type} {enc : TypeId × Value → H} {W : World} {base : Nat} {sp : Nat → Bool} {held : Bool} : ∀ (B n : Nat) (cs : List Value) (x : DataW H × List MemPlace), n ≤ B → DataW.trod enc Try.prog W base sp held n 38 cs = some x → ∃ a : CT × Value, cs = cvC a ∧ Cs (GW W) a.2 a.1.subs
  | 0, n, cs, x, hn, h => by
    obtain rfl : n = 0 := by omega
    simp [DataW.trod] at h
  | B + 1, n, cs, x, hn, h => by
    obtain ⟨n', rfl, hl⟩ := leavesB_struct 9 Try.underlying38 open_cond_l h
    obtain ⟨x0, r0, e0, f0, g0⟩ := hl.inv
    obtain ⟨a0, rfl, _⟩ := f0.leaf.int Try.underlying3
    obtain ⟨x1, r1, e1, f1, g1⟩ := g0.inv
    obtain ⟨a1, rfl⟩ := f1.leaf.bool Try.underlying4
    obtain ⟨x2, r2, e2, f2, g2⟩ := g1.inv
    obtain ⟨a2, rfl, _⟩ := f2.leaf.int Try.underlying3
    obtain ⟨x3, r3, e3, f3, g3⟩ := g2.inv
    obtain ⟨a3, rfl⟩ := f3.leaf.bool Try.underlying4
    obtain ⟨x4, r4, e4, f4, g4⟩ := g3.inv
    obtain ⟨a4, rfl, _⟩ := f4.leaf.int Try.underlying3
    obtain ⟨x5, r5, e5, f5, g5⟩ := g4.inv
    obtain ⟨a5, rfl⟩ := f5.leaf.bool Try.underlying4
    obtain ⟨x6, r6, e6, f6, g6⟩ := g5.inv
    obtain ⟨a6, rfl, _⟩ := f6.leaf.int Try.underlying3
    obtain ⟨x7, r7, e7, f7, g7⟩ := g6.inv
    have z := g7.inv0
    obtain ⟨l, h1, h2⟩ := open_slB (cells := cvC) (Qa := fun a => Cs (GW W) a.2 a.1.subs) d0 Try.underlying22 (show Program.cellsOf Try.prog 38 = 8 by kernel_rfl) (by decide) (fun m cs' y hm hy => open_cond_n B m cs' y (by omega) hy) f7
    refine ⟨(CT.mk ⟨a0, a1, a2, a3, a4, a5, a6⟩ (l.map Prod.fst), x7), ?_, Tr.mk l h1 h2⟩
    rw [e0, e1, e2, e3, e4, e5, e6, e7, z]; rfl
set_option maxRecDepth 100000 in
theorem open_cond {H : Type} {enc : TypeId × Value → H} {W : World} {base : Nat} {sp : Nat → Bool} {held : Bool} {r : Reach} {b0 : Nat} {v : Value} {y : DataW H} {ps : List MemPlace} (hv : Value.okWide Try.prog W r b0 38 v) (h : DataW.Trod enc Try.prog W base sp held 38 v y ps) : ∃ (c : CT) (sv : Value), v = Value.agg #[Value.int .i64 c.h.k, Value.bool c.h.v0, Value.int .i64 c.h.n0, Value.bool c.h.v1, Value.int .i64 c.h.n1, Value.bool c.h.v2, Value.int .i64 c.h.n2, sv] ∧ Cs (GW W) sv c.subs := by
  obtain ⟨cs, rfl⟩ := agg_of_wide Try.underlying38 rfl hv
  obtain ⟨fuel, hf⟩ := h
  obtain ⟨a, e, hs⟩ := open_cond_n fuel fuel cs.toList _ (Nat.le_refl _) hf
  refine ⟨a.1, a.2, ?_, hs⟩
  have : cs = (cvC a).toArray := by apply Array.ext'; simpa using e
  rw [this]; rfl
set_option maxRecDepth 100000 in
theorem open_conds {H : Type} {enc : TypeId × Value → H} {W : World} {base : Nat} {sp : Nat → Bool} {held : Bool} {r : Reach} {b0 : Nat} {v : Value} {y : DataW H} {ps : List MemPlace} (hv : Value.okWide Try.prog W r b0 22 v) (h : DataW.Trod enc Try.prog W base sp held 22 v y ps) : ∃ l : List CT, Cs (GW W) v l := by
  obtain ⟨a, n, c, rfl⟩ := okWide_slice Try.underlying22 hv
  obtain ⟨fuel, hf⟩ := h
  obtain ⟨l, h1, h2⟩ := open_slB (B := fuel) (cells := cvC) (Qa := fun a => Cs (GW W) a.2 a.1.subs) d0 Try.underlying22 (show Program.cellsOf Try.prog 38 = 8 by kernel_rfl) (by decide) (fun m cs' y hm hy => open_cond_n fuel m cs' y (by omega) hy) ⟨fuel, _, Nat.le_refl _, hf⟩
  exact ⟨l.map Prod.fst, Tr.mk l h1 h2⟩
end Go.Proofs.Ytoflaphnlfggkaa
