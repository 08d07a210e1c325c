/- A text made of characters: what its characters are. Plain. -/
import Derived.Lib.TrimUEq
import Derived.Test.YtimiapghmehnaaaF2
namespace Go.Proofs.Ytimiapghmehnaaa.U
open Go.RowKit Go.Proofs.Ytimiapghmehnaaa.Q
set_option linter.unusedVariables false
set_option linter.unusedSimpArgs false

/-- The number that stands for a character. -/
def code (r : Int) : Nat := if Utf8.valid r = true then r.toNat else 65533
def encN (c : Nat) : List UInt8 :=
  if c < 0x80 then [UInt8.ofNat c]
  else if c < 0x800 then [UInt8.ofNat (0xC0 + c / 64), UInt8.ofNat (0x80 + c % 64)]
  else if c < 0x10000 then [UInt8.ofNat (0xE0 + c / 4096), UInt8.ofNat (0x80 + c / 64 % 64), UInt8.ofNat (0x80 + c % 64)]
  else [UInt8.ofNat (0xF0 + c / 262144), UInt8.ofNat (0x80 + c / 4096 % 64), UInt8.ofNat (0x80 + c / 64 % 64), UInt8.ofNat (0x80 + c % 64)]
theorem encB (c : Nat) : (if c < 0x80 then (⟨#[UInt8.ofNat c]⟩ : ByteArray)
  else if c < 0x800 then ⟨#[UInt8.ofNat (0xC0 + c / 64), UInt8.ofNat (0x80 + c % 64)]⟩
  else if c < 0x10000 then ⟨#[UInt8.ofNat (0xE0 + c / 4096), UInt8.ofNat (0x80 + c / 64 % 64), UInt8.ofNat (0x80 + c % 64)]⟩
  else ⟨#[UInt8.ofNat (0xF0 + c / 262144), UInt8.ofNat (0x80 + c / 4096 % 64), UInt8.ofNat (0x80 + c / 64 % 64), UInt8.ofNat (0x80 + c % 64)]⟩).data.toList = encN c := by
  unfold encN
  split
  · rfl
  · split
    · rfl
    · split <;> rfl
theorem enc_eq (r : Int) : (Utf8.encode r).data.toList = encN (code r) := encB (code r)
theorem size_list (s : ByteArray) : s.size = s.data.toList.length := by cases s; rfl
theorem code_ok (r : Int) : code r < 55296 ∨ (57344 ≤ code r ∧ code r ≤ 1114111) := by
  unfold code
  split
  · next h => simp [Utf8.valid] at h; omega
  · omega
theorem nat8 {n : Nat} (h : n < 256) : (UInt8.ofNat n).toNat = n := by simp; omega
theorem dn1 (n c b1 b2 b3 : Nat) (h : c < 128) : Lib.decodeN n c b1 b2 b3 = (c, 1) := by unfold Lib.decodeN; rw [if_pos h]
theorem dn2 (n c b2 b3 : Nat) (h0 : 128 ≤ c) (h : c < 2048) (hn : 2 ≤ n) : Lib.decodeN n (192 + c / 64) (128 + c % 64) b2 b3 = (c, 2) := by
  have e : (192 + c / 64) % 32 * 64 + (128 + c % 64) % 64 = c := by omega
  unfold Lib.decodeN
  rw [if_neg (by omega), if_pos ⟨by omega, by omega, by omega⟩, e, if_pos (by omega)]
theorem dn3 (n c b3 : Nat) (h0 : 2048 ≤ c) (h : c < 65536) (hc : c < 55296 ∨ (57344 ≤ c ∧ c ≤ 1114111)) (hn : 3 ≤ n) : Lib.decodeN n (224 + c / 4096) (128 + c / 64 % 64) (128 + c % 64) b3 = (c, 3) := by
  have e : (224 + c / 4096) % 16 * 4096 + (128 + c / 64 % 64) % 64 * 64 + (128 + c % 64) % 64 = c := by omega
  unfold Lib.decodeN
  rw [if_neg (by omega), if_neg (by omega), if_pos ⟨by omega, ⟨by omega, by omega⟩, by omega, by omega⟩, e, if_pos ⟨h0, hc⟩]
theorem dn4 (n c : Nat) (h0 : 65536 ≤ c) (hc : c < 55296 ∨ (57344 ≤ c ∧ c ≤ 1114111)) (hn : 4 ≤ n) : Lib.decodeN n (240 + c / 262144) (128 + c / 4096 % 64) (128 + c / 64 % 64) (128 + c % 64) = (c, 4) := by
  have e : (240 + c / 262144) % 8 * 262144 + (128 + c / 4096 % 64) % 64 * 4096 + (128 + c / 64 % 64) % 64 * 64 + (128 + c % 64) % 64 = c := by omega
  unfold Lib.decodeN
  rw [if_neg (by omega), if_neg (by omega), if_neg (by omega), if_pos ⟨by omega, ⟨by omega, by omega⟩, ⟨by omega, by omega⟩, by omega, by omega⟩, e, if_pos ⟨h0, hc⟩]
theorem dec_enc {c : Nat} (hc : c < 55296 ∨ (57344 ≤ c ∧ c ≤ 1114111)) (t : List UInt8) : Lib.decodeL (encN c ++ t) = (c, (encN c).length) := by
  rw [Lib.decodeL_N]
  unfold encN
  by_cases h1 : c < 128
  · rw [if_pos h1, List.singleton_append, List.getD_cons_zero, nat8 (show c < 256 by omega)]
    exact dn1 _ _ _ _ _ h1
  by_cases h2 : c < 2048
  · rw [if_neg h1, if_pos h2]
    simp only [List.cons_append, List.nil_append, List.getD_cons_zero, List.getD_cons_succ]
    rw [nat8 (show 192 + c / 64 < 256 by omega), nat8 (show 128 + c % 64 < 256 by omega)]
    exact dn2 _ c _ _ (by omega) h2 (by simp)
  by_cases h3 : c < 65536
  · rw [if_neg h1, if_neg h2, if_pos h3]
    simp only [List.cons_append, List.nil_append, List.getD_cons_zero, List.getD_cons_succ]
    rw [nat8 (show 224 + c / 4096 < 256 by omega), nat8 (show 128 + c / 64 % 64 < 256 by omega), nat8 (show 128 + c % 64 < 256 by omega)]
    exact dn3 _ c _ (by omega) h3 hc (by simp)
  · rw [if_neg h1, if_neg h2, if_neg h3]
    simp only [List.cons_append, List.nil_append, List.getD_cons_zero, List.getD_cons_succ]
    rw [nat8 (show 240 + c / 262144 < 256 by omega), nat8 (show 128 + c / 4096 % 64 < 256 by omega), nat8 (show 128 + c / 64 % 64 < 256 by omega), nat8 (show 128 + c % 64 < 256 by omega)]
    exact dn4 _ c (by omega) hc (by simp)
theorem enc_ne (c : Nat) : encN c ≠ [] := by unfold encN; split; simp; split; simp; split <;> simp
/-- The characters of a list of bytes. -/
def runesLL : Nat → List UInt8 → List Int
  | 0, _ => []
  | f + 1, l => if l ≠ [] then ((Lib.decodeL l).1 : Int) :: runesLL f (l.drop (Lib.decodeL l).2) else []
theorem runes_list (s : ByteArray) (f : Nat) : ∀ pos, runesL s f pos = runesLL f (s.data.toList.drop pos) := by
  induction f with
  | zero => intro pos; rfl
  | succ f ih =>
    intro pos
    have hsz := size_list s
    simp only [runesL, runesLL]
    by_cases h : pos < s.size
    · rw [if_pos h, if_pos (by intro e; have := congrArg List.length e; simp at this; omega), ih, Lib.decodeL_drop, List.drop_drop]
    · rw [if_neg h, if_neg (by simp [List.drop_eq_nil_iff]; omega)]
theorem runes_nil (f : Nat) : runesLL f [] = [] := by cases f <;> simp [runesLL]
theorem runes_any (f : Nat) : ∀ (g : Nat) (l : List UInt8), l.length ≤ f → l.length ≤ g → runesLL f l = runesLL g l := by
  induction f with
  | zero => intro g l h _; obtain rfl := List.eq_nil_of_length_eq_zero (Nat.le_zero.1 h); rw [runes_nil, runes_nil]
  | succ f ih =>
    intro g l hf hg
    by_cases hl : l = []
    · subst hl; rw [runes_nil, runes_nil]
    · have hp : 0 < l.length := List.length_pos_iff.2 hl
      have hw := Lib.decodeL_width l
      obtain ⟨g, rfl⟩ : ∃ g', g = g' + 1 := ⟨g - 1, by omega⟩
      simp only [runesLL]
      rw [if_pos hl, if_pos hl, ih g (l.drop (Lib.decodeL l).2) (by rw [List.length_drop]; omega) (by rw [List.length_drop]; omega)]
def flat (xs : List Int) : List UInt8 := xs.flatMap fun x => encN (code x)
theorem runes_flat (xs : List Int) : ∀ (f : Nat) (t : List UInt8), (flat xs ++ t).length ≤ f → runesLL f (flat xs ++ t) = xs.map (fun x => ((code x : Nat) : Int)) ++ runesLL t.length t := by
  induction xs with
  | nil => intro f t h; exact runes_any f t.length t (by simpa [flat] using h) (Nat.le_refl _)
  | cons x xs ih =>
    intro f t h
    have e : flat (x :: xs) ++ t = encN (code x) ++ (flat xs ++ t) := by simp [flat]
    rw [e] at h ⊢
    have hne : encN (code x) ++ (flat xs ++ t) ≠ [] := by intro h; exact enc_ne _ (List.append_eq_nil_iff.1 h).1
    have hp : 0 < (encN (code x)).length := List.length_pos_iff.2 (enc_ne _)
    rw [List.length_append] at h
    obtain ⟨f, rfl⟩ : ∃ f', f = f' + 1 := ⟨f - 1, by omega⟩
    simp only [runesLL]
    rw [if_pos hne, dec_enc (code_ok x), List.drop_left, ih f t (by omega)]
    rfl
theorem bytes_flat (xs : List Int) : ∀ s : ByteArray, (xs.foldl (fun r n => r ++ Utf8.encode n) s).data.toList = s.data.toList ++ flat xs := by
  induction xs with
  | nil => intro s; simp [flat]
  | cons x xs ih =>
    intro s
    rw [List.foldl_cons, ih, ByteArray.data_append, Array.toList_append, enc_eq, List.append_assoc]
    simp [flat]
theorem bytes_of (xs : List Int) : (runesBytes xs).data.toList = flat xs := by
  unfold runesBytes; rw [bytes_flat]; rfl
theorem runes_alone (s : ByteArray) : runesL s s.size 0 = runesLL s.data.toList.length s.data.toList := by rw [runes_list, List.drop_zero, size_list]
theorem runes_made (xs : List Int) : runesL (runesBytes xs) (runesBytes xs).size 0 = xs.map (fun x => ((code x : Nat) : Int)) := by
  have h := runes_flat xs (flat xs).length [] (by simp)
  rw [runes_alone, bytes_of]
  simpa [runes_nil] using h
theorem runes_behind (xs : List Int) (t : ByteArray) : runesL (runesBytes xs ++ t) (runesBytes xs ++ t).size 0 = runesL (runesBytes xs) (runesBytes xs).size 0 ++ runesL t t.size 0 := by
  rw [runes_made, runes_alone (runesBytes xs ++ t), ByteArray.data_append, Array.toList_append, bytes_of, runes_flat xs _ _ (Nat.le_refl _), runes_alone t]
end Go.Proofs.Ytimiapghmehnaaa.U
