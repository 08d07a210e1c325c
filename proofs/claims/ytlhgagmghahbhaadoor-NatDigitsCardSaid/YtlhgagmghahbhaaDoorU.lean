/- Decimal digits, one at a time or nine at a time. Plain. -/
import Derived.Lib.ItoaNum
namespace Go.Proofs.YtlhgagmghahbhaaDoor.U
set_option linter.unusedVariables false

def ch (d : Nat) : UInt8 := UInt8.ofNat (48 + d)
/-- The digits of a number; of zero none. -/
def ds (v : Nat) : List UInt8 := if v = 0 then [] else Lib.decDigits v
theorem ds_zero : ds 0 = [] := rfl
theorem ds_pos {v : Nat} (h : v ≠ 0) : ds v = Lib.decDigits v := if_neg h
theorem ds_step {v : Nat} (h : v ≠ 0) : ds v = ds (v / 10) ++ [ch (v % 10)] := by
  rw [ds_pos h, Lib.decDigits]
  by_cases h1 : v < 10
  · rw [dif_pos h1, show v / 10 = 0 by omega, ds_zero, show v % 10 = v by omega]; rfl
  · rw [dif_neg h1, ds_pos (by omega)]; rfl
/-- The last k digits. -/
def padk : Nat → Nat → List UInt8
  | 0, _ => []
  | k + 1, r => padk k (r / 10) ++ [ch (r % 10)]
theorem pow_split (v k : Nat) : v / 10 ^ (k + 1) = v / 10 / 10 ^ k := by rw [Nat.pow_succ, Nat.mul_comm, Nat.div_div_eq_div_mul]
theorem ds_block (k : Nat) : ∀ v, v / 10 ^ k ≠ 0 → ds v = ds (v / 10 ^ k) ++ padk k v := by
  induction k with
  | zero => intro v h; simp [padk]
  | succ k ih =>
    intro v h
    have h0 : v ≠ 0 := by rintro rfl; simp at h
    rw [pow_split] at h
    rw [pow_split, ds_step h0, ih (v / 10) h, List.append_assoc]
    rfl
theorem padk_mod (k : Nat) : ∀ v, padk k (v % 10 ^ k) = padk k v := by
  induction k with
  | zero => intro v; rfl
  | succ k ih =>
    intro v
    have e1 : v % 10 ^ (k + 1) / 10 = v / 10 % 10 ^ k := by
      rw [Nat.pow_succ, Nat.mul_comm, Nat.mod_mul_right_div_self]
    have e2 : v % 10 ^ (k + 1) % 10 = v % 10 := Nat.mod_mod_of_dvd v (Nat.pow_succ 10 k ▸ Nat.dvd_mul_left 10 (10 ^ k))
    simp only [padk]
    rw [e1, e2, ih]
theorem padk_zero (k : Nat) : padk k 0 = List.replicate k 48 := by
  induction k with
  | zero => rfl
  | succ k ih => simp only [padk]; rw [Nat.zero_div, ih, List.replicate_succ']; rfl
theorem padk_dec (k : Nat) : ∀ r, r < 10 ^ (k + 1) → (Lib.decDigits r).length ≤ k + 1 ∧ padk (k + 1) r = List.replicate (k + 1 - (Lib.decDigits r).length) 48 ++ Lib.decDigits r := by
  induction k with
  | zero =>
    intro r h
    have h1 : r < 10 := by simpa using h
    rw [Lib.decDigits, dif_pos h1]
    simp only [padk]
    rw [show r % 10 = r by omega]
    exact ⟨Nat.le_refl _, rfl⟩
  | succ k ih =>
    intro r h
    by_cases h1 : r < 10
    · rw [Lib.decDigits, dif_pos h1]
      refine ⟨by simp, ?_⟩
      rw [padk, show r / 10 = 0 by omega, padk_zero, show r % 10 = r by omega]
      rfl
    · have h2 : r / 10 < 10 ^ (k + 1) := by rw [Nat.pow_succ] at h; omega
      obtain ⟨l1, l2⟩ := ih (r / 10) h2
      rw [padk, l2, Lib.decDigits.eq_1 r, dif_neg h1]
      refine ⟨by rw [List.length_append, List.length_singleton]; omega, ?_⟩
      rw [List.length_append, List.length_singleton, List.append_assoc, show k + 1 + 1 - ((Lib.decDigits (r / 10)).length + 1) = k + 1 - (Lib.decDigits (r / 10)).length by omega]
      rfl
/-- Nine digits behind the rest. -/
theorem ds_nine {v : Nat} (h : v / 1000000000 ≠ 0) : ds v = ds (v / 1000000000) ++ (List.replicate (9 - (Lib.decDigits (v % 1000000000)).length) 48 ++ Lib.decDigits (v % 1000000000)) ∧ (Lib.decDigits (v % 1000000000)).length ≤ 9 := by
  obtain ⟨l1, l2⟩ := padk_dec 8 (v % 1000000000) (Nat.mod_lt _ (by decide))
  have h1 := ds_block 9 v h
  rw [← padk_mod 9 v] at h1
  exact ⟨h1.trans (by rw [show (10 : Nat) ^ 9 = 1000000000 from rfl, l2]), l1⟩
/-! ### texts -/
def bs (l : List UInt8) : ByteArray := ⟨l.toArray⟩
theorem bs_app (a b : List UInt8) : bs a ++ bs b = bs (a ++ b) := by
  apply ByteArray.ext
  rw [ByteArray.data_append]
  simp [bs]
theorem bs_size (a : List UInt8) : (bs a).size = a.length := by simp [bs, ByteArray.size]
end Go.Proofs.YtlhgagmghahbhaaDoor.U
