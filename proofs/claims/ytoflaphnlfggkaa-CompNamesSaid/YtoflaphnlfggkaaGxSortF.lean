/-
  GX: a row of the call's own is sorted by the library with a function of the program's. Generic in the program.
-/
import Derived.Test.YtoflaphnlfggkaaGxSort
import Derived.Shelf.SlSortCmp.WholeK
namespace Go.Gx
open Go.RowKit Go.Sort Go.Proofs

section
variable {α : Type} [Inhabited α]

theorem flatK_eq {enc : α → List Value} {kk : Nat} (hk : ∀ x, (enc x).length = kk) (d : Array α) : flatK enc kk d = (d.toList.flatMap enc).toArray := by
  have hlen : (d.toList.flatMap enc).length = d.size * kk := by
    rw [List.length_flatMap]
    have : d.toList.map (fun x => (enc x).length) = List.replicate d.size kk := by
      rw [List.map_congr_left (fun x _ => hk x), List.map_const']; simp
    rw [this]; simp
  refine ext_get! (by simp [hlen]) fun t ht => ?_
  have ht' : t < d.size * kk := by simpa using ht
  have k0 : 0 < kk := by
    rcases Nat.eq_zero_or_pos kk with h | h
    · subst h; simp at ht'
    · exact h
  rw [get_flatK _ _ _ t ht']
  have h1 : t / kk < d.size := Nat.div_lt_of_lt_mul (by rw [Nat.mul_comm]; exact ht')
  have h2 : t % kk < kk := Nat.mod_lt _ k0
  have h3 := flatMap_get (cells := enc) hk default d.toList (t / kk) (t % kk) (by simpa using h1) h2
  rw [show t / kk * kk + t % kk = t by rw [Nat.mul_comm]; exact Nat.div_add_mod t kk] at h3
  have h4 : (d.toList.flatMap enc).toArray[t]! = (d.toList.flatMap enc).getD t undef := by
    have h5 : t < (d.toList.flatMap enc).length := by rw [hlen]; exact ht'
    rw [getElem!_pos _ t (by simpa using h5)]
    simp [List.getD, List.getElem?_eq_getElem h5]
  rw [h4, h3]
  have h6 : d.toList.getD (t / kk) default = d[t / kk]! := by
    simp [List.getD, Array.getElem!_eq_getD, Array.getD, h1]
  rw [h6]
  have h7 : t % kk < (enc d[t / kk]!).length := by rw [hk]; exact h2
  rw [getElem!_pos (enc d[t / kk]!) (t % kk) h7]
  have h8 := at_get (enc d[t / kk]!) (t % kk) h7
  rw [List.getElem?_eq_getElem h7] at h8
  simpa using h8

theorem holdsV {w : World} {g : Nat} {E : TypeId} {cur : Array Value} {vs : List Value} (hg : w.heap[g]? = some (.cells cur E (0, 0))) (ht : cur.toList.take vs.length = vs) : Holds id w g 0 vs.toArray := by
  intro j hj
  have hj' : j < vs.length := by simpa using hj
  have h1 := congrArg (fun l => l[j]?) ht
  simp only [List.getElem?_take, hj', if_true, List.getElem?_eq_getElem hj'] at h1
  constructor
  · rw [cell_of_row w g (0 + j) cur E (0, 0) hg, Nat.zero_add]
    rw [← Array.getElem?_toList, h1]
    simp [hj']
  · simp [World.frozen?, hg]

theorem afterV {w : World} {g cap q n sz : Nat} {E : TypeId} {cur : Array Value} {os : Array Obj} {vs : List Value} (hg : w.heap[g]? = some (.cells cur E (0, 0))) (hl : vs.length = n * sz) (hc : cur.size = cap * sz) (hcm : cap ≤ maxLen) (hn : n ≤ cap) :
    (rowA (.slice (some ⟨g, 0, none⟩) n cap) E sz n vs).holds (grow (putRow id (Sort.ahead w q) g 0 vs.toArray) os) (fun b => b = g) := by
  have hg' : (Sort.ahead w q).heap[g]? = some (.cells cur E (0, 0)) := hg
  have h1 := putRow_heap (enc := id) (n := 0) (d := vs.toArray) hg'
  have hlt : g < (putRow id (Sort.ahead w q) g 0 vs.toArray).heap.size := lt_of_heap h1
  have hle : vs.length ≤ cur.size := by rw [hl, hc]; exact Nat.mul_le_mul_right sz hn
  refine ⟨⟨hl, .inr ⟨g, cap, putCells id 0 vs.toArray cur, rfl, Nat.zero_le _, ?_, hn, hcm, ?_, ?_⟩⟩, fun b => ⟨fun h => by subst h; rfl, fun h => by simp [Value.ownBlock] at h; exact h.symm⟩, Nat.le_trans hn hcm⟩
  · show ((putRow id (Sort.ahead w q) g 0 vs.toArray).heap ++ os)[g]? = _
    rw [Array.getElem?_append_left hlt]; exact h1
  · simp [putCells, hc]
  · rw [← hl, putCells_take (by simp) (by simpa using hle)]; simp

theorem since_sortV {w : World} {g q : Nat} {os : Array Obj} {vs : Array Value} {F : Nat → Prop} (hF : F g) : Since F w (grow (putRow id (Sort.ahead w q) g 0 vs) os) := by
  have hsz : (putRow id (Sort.ahead w q) g 0 vs).heap.size = w.heap.size := by
    show (w.heap.modify g _).size = _
    simp
  refine ⟨rfl, rfl, rfl, ?_, fun b hb hx => ?_⟩
  · show w.heap.size ≤ (((putRow id (Sort.ahead w q) g 0 vs).heap ++ os)).size
    rw [Array.size_append]; omega
  · have hne : b ≠ g := fun e => hx (e ▸ hF)
    show ((putRow id (Sort.ahead w q) g 0 vs).heap ++ os)[b]? = _
    rw [Array.getElem?_append_left (by omega), putRow_other hne]
    rfl
end

/-- What a call of the library's slices.SortFunc comes to. -/
def SortFC (P : Program) {α : Type} [Inhabited α] (f g : FuncId) (enc : α → List Value) (kk : Nat) (lt : α → α → Bool) : Prop := ∀ (blk cap : Nat) (zs : List α) (w : World), HoldsK enc kk w blk 0 zs.toArray → blk < w.heap.size → zs.length < 4611686018427387904 →
  Calls P f #[.slice (some ⟨blk, 0, none⟩) zs.length cap, .func (.func g) #[] #[]] w fun e w' => e = .returned (.tuple #[]) ∧ ∃ (d' : Array α) (n : Nat) (os : Array Obj), PermIn 0 zs.toArray.size zs.toArray d' ∧ SortedIn lt 0 zs.toArray.size d' ∧ w' = sortWorldK enc kk w blk 0 n d' os
def SortFN (P : Program) (f g : FuncId) : Prop := ∀ (p : Option Addr) (cap : Nat) (w : World), Calls P f #[.slice p 0 cap, .func (.func g) #[] #[]] w fun e w' => e = .returned (.tuple #[]) ∧ w' = w

section
variable {P : Program} {ops : Array Oper} {Q : Exit → Act → World → Prop} {N : Nat} {X : Nat → Prop} {w0 : World} {G : Ghost} {l : List (Nat × Value)} {L : List Asrt}
variable {rest : List Oper} {d k : Nat} {ty : TypeId} {pos : String} {after : Array Edge} {gd : Option (Nat × Bool)} {v : Value} {E : TypeId} {f g : FuncId} {xs : List Operand} {ats : Array TypeId}
variable {α : Type} [Inhabited α] {enc : α → List Value} {kk : Nat} {lt : α → α → Bool} {zs : List α}

theorem r_sortf (hw : Wt ops l gd) (hd : Nat.blt d N = true) (hf : Callable P f) (hv : evs l xs = some [v, .func (.func g) #[] #[]]) (hL : L[k]? = some (rowA v E kk zs.length (zs.flatMap enc))) (hk : ∀ x, (enc x).length = kk) (hs : SortFC P f g enc kk lt) (hn : SortFN P f g) (hlen : zs.length < 4611686018427387904)
    (h : ∀ zs' : List α, zs'.Perm zs → zs'.Pairwise (fun a b => lt b a = false) → Runs P ops Q N X w0 G rest ((d, .tuple #[]) :: l) (L.set k (rowA v E kk zs'.length (zs'.flatMap enc)))) : Runs P ops Q N X w0 G (⟨some d, .call ⟨.value (.func f), xs.toArray, ats⟩, ty, pos, after, gd⟩ :: rest) l L := by
  refine Runs.step hw (fun a w hS => ?_)
  show Oper.upon P _ a _ Q _
  rw [run_call hS.fr hv hf, Oper.upon_enter]
  obtain ⟨F, ⟨⟨hlen1, hown⟩, hF, hmax⟩, _, hput⟩ := hS.mem.take hL
  by_cases hz : zs.length = 0
  · have hz' : zs = [] := List.eq_nil_of_length_eq_zero hz
    subst hz'
    have h' := h [] .nil .nil
    rw [set_same hL] at h'
    have hv2 : ∃ p c, v = .slice p 0 c := by
      rcases hown with ⟨rfl, _⟩ | ⟨g, cap, cur, rfl, _⟩
      · exact ⟨_, _, rfl⟩
      · exact ⟨_, _, rfl⟩
    obtain ⟨p, c, rfl⟩ := hv2
    refine (hn p c w).mono (fun e w' hR => ?_)
    obtain ⟨rfl, rfl⟩ := hR
    exact h' _ _ ⟨hS.fr.put (by simpa using hd) _, hS.mem⟩
  · rcases hown with ⟨_, h0⟩ | ⟨b, cap, cur, rfl, _, hg, hnc, hcm, hcs, htk⟩
    · exact absurd h0 hz
    · have htk' : cur.toList.take (zs.flatMap enc).length = zs.flatMap enc := by rw [hlen1]; exact htk
      have hH : HoldsK enc kk w b 0 zs.toArray := by
        unfold HoldsK
        rw [flatK_eq hk]
        exact holdsV hg (by simpa using htk')
      refine (hs b cap zs w hH (lt_of_heap hg) hlen).mono (fun e w' hR => ?_)
      obtain ⟨rfl, d', q, os, hp, hsd, rfl⟩ := hR
      have hFg : F b := (hF b).2 rfl
      have hsz' : d'.size = zs.length := by have := hp.1; simpa using this
      have hperm : d'.toList.Perm zs := by
        have h3 := hp.2.2
        have e1 : (d'.extract 0 zs.toArray.size).toList = d'.toList := by
          have e3 : zs.toArray.size = d'.size := by simp [hsz']
          rw [e3]; simp
        have e2 : (zs.toArray.extract 0 zs.toArray.size).toList = zs := by simp
        rw [e1, e2] at h3
        exact h3
      have hsort : d'.toList.Pairwise (fun a b => lt b a = false) := by
        rw [List.pairwise_iff_getElem]
        intro i j hi hj hij
        have h4 := hsd i j (Nat.zero_le _) hij (by simp at hj ⊢; omega)
        have hi' : i < d'.size := by simpa using hi
        have hj' : j < d'.size := by simpa using hj
        rw [getElem!_pos d' i hi', getElem!_pos d' j hj'] at h4
        simpa using h4
      refine h d'.toList hperm hsort _ _ ⟨hS.fr.put (by simpa using hd) _, hput _ _ (fun x => x = b) ?_ ?_ (fun x hx => .inl (hx ▸ hFg))⟩
      · unfold sortWorldK putRowK
        exact since_sortV hFg
      · unfold sortWorldK putRowK
        rw [flatK_eq hk]
        have hl2 : (d'.toList.flatMap enc).length = zs.length * kk := by
          have h5 := congrArg Array.size (flatK_eq hk d')
          rw [size_flatK, hsz'] at h5
          simpa using h5.symm
        have h6 := afterV (q := q) (os := os) (vs := d'.toList.flatMap enc) (n := zs.length) hg hl2 hcs hcm hnc
        rw [show d'.toList.length = zs.length by simpa using hsz']
        exact h6
end
end Go.Gx
