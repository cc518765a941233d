/-
  GX: slices that came in, opened as lists over a ghost that is all that was there. Generic in the program.
-/
import Derived.Test.YtoflaphnlfggkaaGxOwn
import Derived.Test.YtoflaphnlfggkaaGxRow
import Derived.Deep.Slices
namespace Go.Gx
open Go.RowKit Go.ChangeShapes Go.WideShapes Go.ChangeAt

/-- All that is there. -/
def GW (W : World) : Ghost := fun b => W.heap[b]?
theorem has_GW (W : World) : Has (GW W) W := fun _ _ h => h

theorem cells_of_cell {W : World} {a : Addr} {v : Value} (h : W.cell? a = some v) : a.spot = none ∧ ∃ c T fr, W.heap[a.block]? = some (.cells c T fr) ∧ c[a.off]? = some v := by
  unfold World.cell? at h
  split at h
  · rename_i c T fr hc
    split at h
    · cases h
    · rename_i hs
      exact ⟨by simpa using hs, c, T, fr, hc, h⟩
  · cases h

section
variable {H : Type} {enc : TypeId × Value → H} {P : Program} {W : World} {base : Nat} {sp : Nat → Bool} {held : Bool}

/-- A slice whose elements each read as some α. -/
theorem open_sl {α : Type} {cells : α → List Value} {t e : TypeId} {sz fuel : Nat} {cs : List Value} {x : DataW H × List MemPlace} (e0 : α) (ht : P.underlying t = some (.slice e)) (hsz : P.cellsOf e = sz) (hpos : 0 < sz)
    (hp : ∀ n cs' y, DataW.trod enc P W base sp held n e cs' = some y → ∃ a : α, cs' = cells a)
    (h : DataW.trod enc P W base sp held fuel t cs = some x) : ∃ v l, cs = [v] ∧ SlL (GW W) v sz cells e0 l := by
  rcases Go.Deep.open_slice ht h with ⟨rfl, _⟩ | ⟨a, len, cap, m, n, D, Pl, rfl, _, hl, hm, hmm, rfl, hx⟩
  · exact ⟨_, [], rfl, SlG.nil _ _ _⟩
  · subst hsz
    have hlm : len ≤ m := by rw [hmm]; split <;> omega
    obtain ⟨A, hA⟩ := @Go.Deep.choose_lt α ⟨e0⟩ len (fun i v => W.cells? base (a.add (i * P.cellsOf e)) (P.cellsOf e) = some (cells v)) (fun i hi => by
      obtain ⟨cs', h1, h2⟩ := hx i (by omega)
      obtain ⟨v, rfl⟩ := hp _ _ _ h2
      exact ⟨v, h1⟩)
    refine ⟨_, (List.range len).map A, rfl, some a, cap, by simp, ⟨by simpa using hl, by simp; omega⟩, fun hn => ?_⟩
    simp only [List.length_map, List.length_range] at hn ⊢
    have h0 := (World.cells?_some (hA 0 hn)).2.2 0 hpos
    have hlen0 := (World.cells?_some (hA 0 hn)).2.1
    simp only [Nat.zero_mul] at h0
    have e1 : (a.add 0).add 0 = a := by simp [Addr.add]
    rw [e1, List.getElem?_eq_getElem (by omega)] at h0
    obtain ⟨hspot, c, T, fr, hc, _⟩ := cells_of_cell h0
    obtain ⟨ab, ao, as⟩ := a
    simp only at hspot; subst hspot
    refine ⟨ab, ao, rfl, fun i hi => ⟨c, T, fr, hc, fun j hj => ?_⟩⟩
    have h1 := (World.cells?_some (hA i hi)).2.2 j hj
    have hlen := (World.cells?_some (hA i hi)).2.1
    rw [addr_add, addr_add, List.getElem?_eq_getElem (by omega)] at h1
    obtain ⟨_, c', T', fr', hc', h2⟩ := cells_of_cell h1
    simp only at hc hc' h2
    rw [hc] at hc'
    cases hc'
    rw [h2]
    have h3 : ((List.range len).map A).getD i e0 = A i := by simp [List.getD, hi]
    rw [h3]
    have h4 := at_get (cells (A i)) j (by omega)
    rw [List.getElem?_eq_getElem (by omega)] at h4
    simpa using h4

theorem open_arg {α : Type} {cells : α → List Value} {r : Reach} {b0 : Nat} {t e : TypeId} {sz : Nat} {v : Value} {d : DataW H} {ps : List MemPlace} (e0 : α) (ht : P.underlying t = some (.slice e)) (hsz : P.cellsOf e = sz) (hpos : 0 < sz)
    (hp : ∀ n cs' y, DataW.trod enc P W base sp held n e cs' = some y → ∃ a : α, cs' = cells a)
    (hval : Value.okWide P W r b0 t v) (h : DataW.Trod enc P W base sp held t v d ps) : ∃ l, SlL (GW W) v sz cells e0 l := by
  obtain ⟨a, n, c, rfl⟩ := okWide_slice ht hval
  obtain ⟨fuel, hf⟩ := h
  obtain ⟨u, l, h1, h2⟩ := open_sl e0 ht hsz hpos hp hf
  simp [Value.cells] at h1
  subst h1
  exact ⟨l, h2⟩

end
end Go.Gx
