/-
  GX: '%' and '/' of numbers that are not negative; conversions of narrow numbers. Generic in the program.
-/
import Derived.Test.YtoflaphnlfggkaaGxKey
namespace Go.Gx
open Go.RowKit
section
variable {P : Program} {N : Nat} {X : Nat → Prop} {w0 : World} {G : Ghost} {l : List (Nat × Value)} {L : List Asrt}
variable {d : Nat} {ty : TypeId} {pos : String} {after : Array Edge} {gd : Option (Nat × Bool)} {x y : Operand}
theorem p_rem {m n : Int} (hx : ev l x = some (.int .i64 m)) (hy : ev l y = some (.int .i64 n)) (hm : 0 ≤ m ∧ 0 < n)
    {T U : TypeId} : PV P N X w0 G l L ⟨some d, .binOp .rem T x y U, ty, pos, after, gd⟩ (.int .i64 (m % n)) :=
  fun a w hS => by
    have h0 : ¬ n = 0 := by omega
    have h1 : m.tmod n = m % n := Int.tmod_eq_emod_of_nonneg hm.1
    simp only [execOp, hS.fr.eval hx, hS.fr.eval hy]
    simp [go_sem, h0, h1]
theorem p_remk {k : IntKind} {m n : Int} (hx : ev l x = some (.int k m)) (hy : ev l y = some (.int k n)) (hm : 0 ≤ m ∧ 0 < n)
    {T U : TypeId} : PV P N X w0 G l L ⟨some d, .binOp .rem T x y U, ty, pos, after, gd⟩ (.int k (m % n)) :=
  fun a w hS => by
    have h0 : ¬ n = 0 := by omega
    have h1 : m.tmod n = m % n := Int.tmod_eq_emod_of_nonneg hm.1
    simp only [execOp, hS.fr.eval hx, hS.fr.eval hy]
    simp [go_sem, h0, h1]
theorem p_quo {m n : Int} (hx : ev l x = some (.int .i64 m)) (hy : ev l y = some (.int .i64 n)) (hm : (0 ≤ m ∧ m ≤ 9223372036854775807) ∧ 0 < n)
    {T U : TypeId} : PV P N X w0 G l L ⟨some d, .binOp .quo T x y U, ty, pos, after, gd⟩ (.int .i64 (m / n)) :=
  fun a w hS => by
    have h0 : ¬ n = 0 := by omega
    have h1 : m.tdiv n = m / n := Int.tdiv_eq_ediv_of_nonneg hm.1.1
    have h2 : 0 ≤ m / n := Int.ediv_nonneg hm.1.1 (by omega)
    have h3 : m / n ≤ m := Int.ediv_le_self n hm.1.1
    simp only [execOp, hS.fr.eval hx, hS.fr.eval hy]
    simp [go_sem, h0, h1, wrap_i64 (show -9223372036854775808 ≤ m / n ∧ m / n ≤ 9223372036854775807 by omega)]
end
theorem wf_mk {n : Int} (h : -9223372036854775808 ≤ n ∧ n ≤ 9223372036854775807) : (Lit.int .i64 n).wf = true := by
  simp only [Lit.wf, Bool.and_eq_true, decide_eq_true_eq]
  exact h
theorem wf_u16 {n : Int} (h : (Lit.int .u16 n).wf = true) : 0 ≤ n ∧ n ≤ 65535 := by
  simp only [Lit.wf, Bool.and_eq_true, decide_eq_true_eq] at h
  exact h
theorem wf_u8 {n : Int} (h : (Lit.int .u8 n).wf = true) : 0 ≤ n ∧ n ≤ 255 := by
  simp only [Lit.wf, Bool.and_eq_true, decide_eq_true_eq] at h
  exact h
theorem wrap_in {n : Int} (h : -9223372036854775808 ≤ n ∧ n ≤ 9223372036854775807) : IntKind.i64.wrap n = n := wrap_i64 h
end Go.Gx
