/- Plain laws: 4096 names that differ; no program in sight. -/
import Derived.Test.YtjgdkahblhpinaaPl01
namespace Go.Gx.T1
open Go.Gx

def nm (i : Nat) : ByteArray := ⟨#[UInt8.ofNat (97 + i / 256), UInt8.ofNat (97 + i / 16 % 16), UInt8.ofNat (97 + i % 16)]⟩
theorem u8_inj {a b : Nat} (ha : a < 256) (hb : b < 256) (h : UInt8.ofNat a = UInt8.ofNat b) : a = b := by
  have := congrArg UInt8.toNat h
  rw [UInt8.toNat_ofNat', UInt8.toNat_ofNat'] at this
  omega
theorem nm_inj {i j : Nat} (hi : i < 4096) (hj : j < 4096) (h : nm i = nm j) : i = j := by
  simp only [nm, ByteArray.mk.injEq, Array.mk.injEq, List.cons.injEq, and_true] at h
  obtain ⟨h1, h2, h3⟩ := h
  have e1 := u8_inj (by omega) (by omega) h1
  have e2 := u8_inj (by omega) (by omega) h2
  have e3 := u8_inj (by omega) (by omega) h3
  omega
def nms (k : Nat) : List ByteArray := (List.range k).map nm
theorem nms_succ (k : Nat) : nms (k + 1) = nms k ++ [nm k] := by simp [nms, List.range_succ]
theorem nms_len (k : Nat) : (nms k).length = k := by simp [nms]
theorem fnd_none {l : List ByteArray} {s : ByteArray} (h : ∀ x ∈ l, x ≠ s) : ∀ i, fnd l s i = 0 := by
  induction l with
  | nil => intro i; rfl
  | cons x t ih =>
    intro i
    rw [fnd, if_neg (h x (by simp)), ih (fun y hy => h y (by simp [hy]))]
theorem fnd_nms {k : Nat} (hk : k < 4096) : fnd (nms k) (nm k) 0 = 0 := by
  refine fnd_none (fun x hx e => ?_) 0
  simp only [nms, List.mem_map, List.mem_range] at hx
  obtain ⟨i, hi, rfl⟩ := hx
  have := nm_inj (by omega) hk e
  omega
theorem nm_right {k : Nat} (hk : k < 4096) : symRight (nm k) = true := by
  have hs : (nm k).size = 3 := rfl
  refine symRight_yes (by omega) (fun i hi => ?_)
  rw [hs] at hi
  have hb : ∀ a : Nat, 97 ≤ a → a ≤ 122 → okb (UInt8.ofNat a).toNat = true := fun a h1 h2 => by
    rw [UInt8.toNat_ofNat']
    simp [okb]
    omega
  match i, hi with
  | 0, _ => exact hb (97 + k / 256) (by omega) (by omega)
  | 1, _ => exact hb (97 + k / 16 % 16) (by omega) (by omega)
  | 2, _ => exact hb (97 + k % 16) (by omega) (by omega)
theorem nm_eq (k : Nat) : (⟨#[UInt8.ofNat ((97 : Int) + (k : Int) / 256).toNat, UInt8.ofNat ((97 : Int) + (k : Int) / 16 % 16).toNat, UInt8.ofNat ((97 : Int) + (k : Int) % 16).toNat]⟩ : ByteArray) = nm k := by
  have e1 : ((97 : Int) + (k : Int) / 256).toNat = 97 + k / 256 := by omega
  have e2 : ((97 : Int) + (k : Int) / 16 % 16).toNat = 97 + k / 16 % 16 := by omega
  have e3 : ((97 : Int) + (k : Int) % 16).toNat = 97 + k % 16 := by omega
  rw [e1, e2, e3]; rfl
theorem intern_nm {k : Nat} (hk : k < 4096) : intern (nms k) (nm k) = (nms (k + 1), k + 1, 0) := by
  rw [intern_4 (nm_right hk) (by rw [fnd_nms hk]; omega) (by rw [nms_len]; omega), ← nms_succ, nms_len]
theorem intern_full {l : List ByteArray} {s : ByteArray} (h : 4096 ≤ l.length) : (intern l s).1 = l := by
  unfold intern
  repeat' split
  all_goals first | rfl | (exfalso; omega)
end Go.Gx.T1
