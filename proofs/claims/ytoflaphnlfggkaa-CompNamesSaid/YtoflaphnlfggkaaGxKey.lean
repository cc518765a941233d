/-
  GX: keys of maps that are arrays of three numbers. Generic in the program.
-/
import Derived.Test.YtoflaphnlfggkaaGxIn
import Derived.Test.YtoflaphnlfggkaaGxFlat
namespace Go.Gx
open Go.RowKit Go.MapKept

abbrev Tri := Int × Int × Int
def triL (t : Tri) : List Value := [.int .i64 t.1, .int .i64 t.2.1, .int .i64 t.2.2]
def kT (t : Tri) : Value := .agg (triL t).toArray
theorem triL_inj {a b : Tri} (h : triL a = triL b) : a = b := by
  obtain ⟨a1, a2, a3⟩ := a
  obtain ⟨b1, b2, b3⟩ := b
  simp [triL] at h
  simp [h]
theorem kT_inj (a b : Tri) (h : kT a = kT b) : a = b := by
  refine triL_inj ?_
  simpa [kT] using h

theorem csEq_tri (a b : Tri) : csEq (triL a) (triL b) = decide (a = b) := by
  obtain ⟨a1, a2, a3⟩ := a
  obtain ⟨b1, b2, b3⟩ := b
  simp only [triL, csEq, cEq, Bool.and_true, Prod.mk.injEq, Bool.decide_and]

section
variable {P : Program} {K E : TypeId}

theorem findAsking_eq {κ : Type} [DecidableEq κ] {ke : κ → Value} (hi : ∀ a b, ke a = ke b → a = b) (he : ∀ (a b : κ) (w : World), (Op.equal K (ke a) (ke b)).run P w = .ok (decide (a = b)) w) (w : World) (k : κ) : ∀ (es : List MapEntry) (i : Nat), (∀ e ∈ es, ∃ k', e.key = ke k') →
    ((Instr.findAsking K (ke k) es i).run P w = .ok none w ∧ ∀ e ∈ es, e.key ≠ ke k) ∨ ∃ j e, (Instr.findAsking K (ke k) es i).run P w = .ok (some (i + j, e.val)) w ∧ es[j]? = some e ∧ e.key = ke k
  | [], i, _ => .inl ⟨rfl, by simp⟩
  | e :: es, i, h => by
    obtain ⟨k', hk'⟩ := h e (by simp)
    unfold Instr.findAsking
    simp only [Sem.run_bind, hk', he, Result.andThen_ok]
    by_cases hkk : k = k'
    · subst hkk
      exact .inr ⟨0, e, by simp, by simp, hk'⟩
    · have hne : e.key ≠ ke k := fun e2 => hkk (hi _ _ (by rw [← e2, hk']))
      rcases findAsking_eq hi he w k es (i + 1) (fun x hx => h x (by simp [hx])) with ⟨h1, h2⟩ | ⟨j, e', h1, h2, h3⟩
      · refine .inl ⟨by simp [hkk, h1], fun x hx => ?_⟩
        rcases List.mem_cons.1 hx with rfl | hx
        · exact hne
        · exact h2 x hx
      · exact .inr ⟨j + 1, e', by simp [hkk, h1]; omega, by simpa using h2, h3⟩

theorem KeyT.tri {l : List TypeId} (hK : P.underlying K = some (.array 3 E)) (hE : P.underlying E = some (.int .i64)) (hs : SzIs P E 1) (hl : leafT P 9 K = some [E, E, E]) (he : eqT P 9 K = true) (hg : P.eqGuardType P.depth K = false) : KeyT P K kT where
  inj := kT_inj
  check := fun w em k => by
    show (Instr.checkKey em (9999 + 1) K (.agg (triL k).toArray)).run P w = .ok () w
    have h1 : ∀ v : Int, (Instr.checkKey em (9998 + 1) E (.int .i64 v)).run P w = .ok () w := fun v => run_checkKey hE (by simp [IsKey]) em 9998
    unfold Instr.checkKey
    simp only [Sem.run_bind, run_underlying hK, Result.andThen_ok]
    simp only [Std.Legacy.Range.forIn_eq_forIn_range', Std.Legacy.Range.size, List.range'_succ]
    have hp : ∀ (i : Nat) (n : Int), (triL k).toArray[i]? = some (.int .i64 n) → (part E (triL k).toArray (i * 1)).run P w = .ok (.int .i64 n) w := fun i n hi => by
      simp [part, run_isAgg hE, TypeDesc.aggB, hi]
    simp only [List.forIn_cons, List.range'_zero, List.forIn_nil, Sem.run_bind, hs.run, Result.andThen_ok, Sem.run_pure]
    rw [hp 0 k.1 rfl, Result.andThen_ok, h1, Result.andThen_ok, Result.andThen_ok]
    simp only [Sem.run_bind, hs.run, Result.andThen_ok, Sem.run_pure]
    rw [hp (0 + 1) k.2.1 rfl, Result.andThen_ok, h1, Result.andThen_ok, Result.andThen_ok]
    simp only [Sem.run_bind, hs.run, Result.andThen_ok, Sem.run_pure]
    rw [hp (0 + 1 + 1) k.2.2 rfl, Result.andThen_ok, h1, Result.andThen_ok, Result.andThen_ok]
    simp
  find := fun w k es hes => by
    have heq : ∀ (a b : Tri) (w : World), (Op.equal K (kT a) (kT b)).run P w = .ok (decide (a = b)) w := fun a b w => by
      have h := eq_flat (P := P) (cs := triL a) (cs' := triL b) hK rfl hl he hg (.cons (.int hE) (.cons (.int hE) (.cons (.int hE) .nil))) (.cons (.int hE) (.cons (.int hE) (.cons (.int hE) .nil)))
      rw [csEq_tri] at h
      exact (h (.const undef) (.const undef) w).2.2
    have hnow : ∀ (es : List MapEntry) (i : Nat), Instr.findNow (.array 3 E) (kT k) es i = match es with | [] => some none | _ :: _ => none := fun es i => by
      cases es with
      | nil => rfl
      | cons e es => simp [Instr.findNow, Instr.sameNow]
    unfold Instr.findKey
    simp only [Sem.run_bind, run_underlying hK, Result.andThen_ok, hnow]
    cases es with
    | nil => exact .inl ⟨rfl, by simp⟩
    | cons e es => simpa using findAsking_eq kT_inj heq w k (e :: es) 0 hes
  stays := fun w k => by
    have : Instr.sameBits 10000 (kT k) (kT k) = true := by
      show Instr.sameBits (9999 + 1) (.agg (triL k).toArray) (.agg (triL k).toArray) = true
      simp [Instr.sameBits, triL]
    simp [Instr.keyThatStays, this]
theorem eq_tri (hK : P.underlying K = some (.array 3 E)) (hE : P.underlying E = some (.int .i64)) (hl : leafT P 9 K = some [E, E, E]) (he : eqT P 9 K = true) (hg : P.eqGuardType P.depth K = false) (a b : Tri) : EqIs P K (kT a) (kT b) (decide (a = b)) := by
  have h := eq_flat (P := P) (cs := triL a) (cs' := triL b) hK rfl hl he hg (.cons (.int hE) (.cons (.int hE) (.cons (.int hE) .nil))) (.cons (.int hE) (.cons (.int hE) (.cons (.int hE) .nil)))
  rw [csEq_tri] at h
  exact h

theorem trod_tri {H : Type} {enc : TypeId × Value → H} {W : World} {base : Nat} {sp : Nat → Bool} {held : Bool} {n : Nat} {cs : List Value} {y : DataW H × List MemPlace} (hE : P.underlying E = some (.int .i64)) (hl : leafT P 9 K = some [E, E, E]) (h : DataW.trod enc P W base sp held n K cs = some y) : ∃ a b c : Int, cs = [.int .i64 a, .int .i64 b, .int .i64 c] := by
  have h1 := (leaves_of (enc := enc) (P := P) (W := W) (base := base) (sp := sp) (held := held) 9).1 K _ n cs y hl h
  obtain ⟨x0, r0, rfl, f0, g0⟩ := h1.inv
  obtain ⟨x1, r1, rfl, f1, g1⟩ := g0.inv
  obtain ⟨x2, r2, rfl, f2, g2⟩ := g1.inv
  obtain rfl := g2.inv0
  obtain ⟨a, rfl, _⟩ := f0.int hE
  obtain ⟨b, rfl, _⟩ := f1.int hE
  obtain ⟨c, rfl, _⟩ := f2.int hE
  exact ⟨a, b, c, rfl⟩

end
end Go.Gx
