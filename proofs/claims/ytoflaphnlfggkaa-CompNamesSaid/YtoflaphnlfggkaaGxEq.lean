/-
  GX: '==' on arrays and structs, cell by cell. Generic in the program.
-/
import Derived.Test.YtoflaphnlfggkaaGxMore
import Derived.ChangeKeysEq
namespace Go.Gx
open Go.RowKit

def EqRun (P : Program) (d : Nat) (T : TypeId) (a b : Value) (r : Bool) : Prop := ∀ w, (Op.equalIn d T a b).run P w = .ok r w

def PartIs (P : Program) (T : TypeId) (c : Array Value) (off : Nat) (v : Value) : Prop := ∀ w, (part T c off).run P w = .ok v w

section
variable {P : Program} {T E : TypeId}

theorem EqIs.of {a b : Value} {r : Bool} (h : EqRun P 10000 T a b r) (xs ys : Array Value) (ha : a = .agg xs) (hb : b = .agg ys) (hg : P.eqGuardType P.depth T = false) : EqIs P T a b r := by
  subst ha; subst hb
  intro x y w
  exact ⟨run_eqGuard_agg w .eql T x y xs ys hg, run_eqGuard_agg w .neq T x y xs ys hg, h w⟩

theorem eqr_int {d : Nat} {k k' : IntKind} {a b : Int} (h : P.underlying T = some (.int k')) : EqRun P (d + 1) T (.int k a) (.int k b) (decide (a = b)) := fun w => run_equalIn_int w d T k k' a b h
theorem eqr_bool {d : Nat} {a b : Bool} (h : P.underlying T = some .bool) : EqRun P (d + 1) T (.bool a) (.bool b) (decide (a = b)) := fun w => by
  rw [run_equalIn_bool w d T a b h]; cases a <;> cases b <;> rfl

theorem part_scal {e : TypeDesc} {c : Array Value} {off : Nat} {v : Value} (hE : P.underlying E = some e) (hs : e.aggB = false) (hv : c[off]? = some v) : PartIs P E c off v := by
  intro w
  simp [part, run_isAgg hE, hs, hv]

theorem part_agg {e : TypeDesc} {c : Array Value} {off n M : Nat} {f : Nat → Value} (hE : P.underlying E = some e) (hs : e.aggB = true) (hn : SzIs P E n) (hc : IsRow c M f) (hM : off + n ≤ M) : PartIs P E c off (aggF n (fun j => f (off + j))) := by
  intro w
  simp [part, run_isAgg hE, hs, hn.run, extract_row hc hM, aggF]

theorem SzIs.info {n : Nat} (h : SzIs P E n) : ∃ i, P.info? E = some i ∧ P.cellsOf E = n := by
  unfold SzIs at h
  cases hi : P.info? E with
  | none => rw [hi] at h; cases h
  | some i => rw [hi] at h; simp at h; exact ⟨i, rfl, by simp [Program.cellsOf, hi, h]⟩

theorem eqr_array {d n s : Nat} {c c' : Array Value} {px py : Nat → Value} {r : Nat → Bool} (hT : P.underlying T = some (.array n E)) (hE : SzIs P E s)
    (hx : ∀ i, i < n → PartIs P E c (i * s) (px i)) (hy : ∀ i, i < n → PartIs P E c' (i * s) (py i)) (hr : ∀ i, i < n → EqRun P d E (px i) (py i) (r i)) :
    EqRun P (d + 1) T (.agg c) (.agg c') (decide (∀ i, i < n → r i = true)) := by
  intro w
  obtain ⟨i, hi, hs⟩ := hE.info
  rw [run_equalIn_array w d c c' hT hi, hs, List.range_eq_range']
  have key : ∀ (m k : Nat), k + m = n → (Op.eqItems d E s c c' (List.range' k m)).run P w = .ok ((List.range' k m).all r) w := by
    intro m
    induction m with
    | zero => intro k _; simp [Op.eqItems]
    | succ m ih =>
      intro k hk
      have hk' : k < n := by omega
      simp only [List.range'_succ, Op.eqItems, Sem.run_bind, hx k hk' w, hy k hk' w, hr k hk' w, Result.andThen_ok, List.all_cons]
      cases hrk : r k with
      | false => simp
      | true => simp [ih (k + 1) (by omega)]
  rw [key n 0 (by omega)]
  congr 1
  rw [Bool.eq_iff_iff, decide_eq_true_iff, List.all_eq_true]
  constructor
  · intro h i hi; exact h i (by simp [List.mem_range'_1, hi])
  · intro h i hi; exact h i (by simp [List.mem_range'_1] at hi; omega)

/-- Arrays of numbers. -/
theorem eqr_ints {d n : Nat} {k k' : IntKind} {c c' : Array Value} {f g : Nat → Int} (hT : P.underlying T = some (.array n E)) (hE : SzIs P E 1) (hk : P.underlying E = some (.int k'))
    (hc : IsRow c n (fun i => .int k (f i))) (hc' : IsRow c' n (fun i => .int k (g i))) : EqRun P (d + 2) T (.agg c) (.agg c') (decide (∀ i, i < n → f i = g i)) := by
  have h := eqr_array (d := d + 1) (px := fun i => .int k (f i)) (py := fun i => .int k (g i)) (r := fun i => decide (f i = g i)) hT hE
    (fun i hi => part_scal hk rfl (by rw [Nat.mul_one]; exact hc.get i hi)) (fun i hi => part_scal hk rfl (by rw [Nat.mul_one]; exact hc'.get i hi)) (fun i _ => eqr_int hk)
  simpa using h

/-- Three numbers. -/
theorem eqr_three {d : Nat} {k k' : IntKind} {a b c a' b' c' : Int} (hT : P.underlying T = some (.array 3 E)) (hE : SzIs P E 1) (hk : P.underlying E = some (.int k')) :
    EqRun P (d + 2) T (.agg #[.int k a, .int k b, .int k c]) (.agg #[.int k a', .int k b', .int k c']) (decide (a = a' ∧ b = b' ∧ c = c')) := by
  have h := eqr_ints (d := d) (k := k) (f := fun i => match i with | 0 => a | 1 => b | _ => c) (g := fun i => match i with | 0 => a' | 1 => b' | _ => c') (c := #[.int k a, .int k b, .int k c]) (c' := #[.int k a', .int k b', .int k c']) hT hE hk
    ⟨rfl, fun i hi => by obtain rfl | rfl | rfl : i = 0 ∨ i = 1 ∨ i = 2 := by omega
                         all_goals rfl⟩ ⟨rfl, fun i hi => by obtain rfl | rfl | rfl : i = 0 ∨ i = 1 ∨ i = 2 := by omega
                                                             all_goals rfl⟩
  have e : (∀ i, i < 3 → (match i with | 0 => a | 1 => b | _ => c) = (match i with | 0 => a' | 1 => b' | _ => c')) ↔ (a = a' ∧ b = b' ∧ c = c') := by
    constructor
    · intro h; exact ⟨h 0 (by omega), h 1 (by omega), h 2 (by omega)⟩
    · rintro ⟨h1, h2, h3⟩ i hi
      obtain rfl | rfl | rfl : i = 0 ∨ i = 1 ∨ i = 2 := by omega
      · exact h1
      · exact h2
      · exact h3
  simp only [decide_eq_decide.2 e] at h
  exact h

theorem eqf_nil {d : Nat} {c c' : Array Value} (w : World) : (Op.eqFields d c c' []).run P w = .ok true w := rfl

theorem eqf_cons {d : Nat} {c c' : Array Value} {f : Field} {fs : List Field} {a b : Value} {r r' : Bool} (hn : (f.name == "_") = false) (ha : PartIs P f.type c f.offset a) (hb : PartIs P f.type c' f.offset b) (hr : EqRun P d f.type a b r)
    (h : ∀ w, (Op.eqFields d c c' fs).run P w = .ok r' w) : ∀ w, (Op.eqFields d c c' (f :: fs)).run P w = .ok (r && r') w := by
  intro w
  have hn' : f.name ≠ "_" := by simpa using hn
  simp only [Op.eqFields, if_pos hn', Sem.run_bind, ha w, hb w, hr w, Result.andThen_ok]
  cases r <;> simp [h w]

theorem eqr_struct {d : Nat} {c c' : Array Value} {fs : Array Field} {r : Bool} (hT : P.underlying T = some (.struct fs)) (hp : P.stoodInHeld T = false) (h : ∀ w, (Op.eqFields d c c' fs.toList).run P w = .ok r w) :
    EqRun P (d + 1) T (.agg c) (.agg c') r := by
  intro w
  have e : P.fieldsOf T = fs := by simp [Program.fieldsOf, hT]
  rw [run_equalIn_struct w d T c c' (by rw [e]; exact hT) hp, e]
  exact h w

/-- A struct of a truth and a number. -/
theorem eqr_bi {d : Nat} {f g : Field} {k k' : IntKind} {a a' : Bool} {b b' : Int} (hT : P.underlying T = some (.struct #[f, g])) (hp : P.stoodInHeld T = false) (hf : (f.name == "_") = false) (hg : (g.name == "_") = false)
    (hfo : f.offset = 0) (hgo : g.offset = 1) (hft : P.underlying f.type = some .bool) (hgt : P.underlying g.type = some (.int k')) :
    EqRun P (d + 2) T (.agg #[.bool a, .int k b]) (.agg #[.bool a', .int k b']) (decide (a = a' ∧ b = b')) := by
  have h := eqr_struct (d := d + 1) (c := #[.bool a, .int k b]) (c' := #[.bool a', .int k b']) hT hp (eqf_cons hf (part_scal hft rfl (by rw [hfo]; rfl)) (part_scal hft rfl (by rw [hfo]; rfl)) (eqr_bool hft)
    (eqf_cons hg (part_scal hgt rfl (by rw [hgo]; rfl)) (part_scal hgt rfl (by rw [hgo]; rfl)) (eqr_int hgt) eqf_nil))
  simpa using h

end
end Go.Gx
