/- Plain laws of counting: what is counted does not hang on the order; no program in sight. -/
import Derived.Test.YtinbigokigkfaaaPl10
namespace Go.Gx.T10
open Go.Gx
section
variable {κ : Type} [DecidableEq κ]
theorem Tal.perm {l : List (κ × Int)} {ns ms : List κ} (h : Tal l ns) (hp : ns.Perm ms) : Tal l ms :=
  ⟨h.nodup, h.pos, fun k => by rw [h.eq k, num_def, num_def, hp.count_eq]⟩
theorem Tal.front {l : List (κ × Int)} {ns : List κ} {i : Nat} {e : κ} (h : Tal l (ns.drop i)) (hi : i < ns.length) : Tal (tDrop l (ns.getD i e)) (ns.drop (i + 1)) ∧ 1 ≤ cnt l (ns.getD i e) := by
  have e1 : ns.drop i = ns.getD i e :: ns.drop (i + 1) := by
    rw [List.drop_eq_getElem_cons hi]; simp [List.getD, hi]
  rw [e1] at h
  refine ⟨(h.perm (List.perm_append_singleton _ _).symm).drop, ?_⟩
  rw [h.eq, num_def, List.count_cons_self]; omega
theorem cnt_tAdd (l : List (κ × Int)) (k : κ) : cnt (tAdd l k) k = cnt l k + 1 := by rw [tAdd, cnt_mput, if_pos rfl]
theorem tAdd_len (l : List (κ × Int)) (k : κ) : (tAdd l k).length ≤ l.length + 1 := by
  rw [tAdd, mput_len]; split <;> omega
end
end Go.Gx.T10
