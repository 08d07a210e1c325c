/-! Values of lists of limbs: plain lemmas. -/
namespace FNat
def val : List Int → Int
  | [] => 0
  | x :: l => x + 4294967296 * val l
def Lim (l : List Int) : Prop := ∀ x ∈ l, 0 ≤ x ∧ x < 4294967296
def Tr (l : List Int) : Prop := ∀ h : l ≠ [], l.getLast h ≠ 0
def pw (n : Nat) : Int := 4294967296 ^ n

theorem pw_zero : pw 0 = 1 := by simp [pw]
theorem pw_succ (n : Nat) : pw (n + 1) = 4294967296 * pw n := by simp only [pw, Int.pow_succ]; omega
theorem pw_pos (n : Nat) : 0 < pw n := by
  induction n with
  | zero => simp [pw]
  | succ n ih => rw [pw_succ]; omega
theorem pw_add (m n : Nat) : pw (m + n) = pw m * pw n := by simp only [pw, Int.pow_add]
theorem pw_le {m n : Nat} (h : m ≤ n) : pw m ≤ pw n := by
  induction h with
  | refl => exact Int.le_refl _
  | step _ ih => rw [Nat.succ_eq_add_one, pw_succ]; have := pw_pos m; omega
theorem lim_nil : Lim [] := by intro x hx; cases hx
theorem lim_cons {x : Int} {l : List Int} : Lim (x :: l) ↔ (0 ≤ x ∧ x < 4294967296) ∧ Lim l := by
  simp [Lim]
theorem lim_append {a b : List Int} : Lim (a ++ b) ↔ Lim a ∧ Lim b := by
  simp only [Lim, List.mem_append]
  exact ⟨fun h => ⟨fun x hx => h x (.inl hx), fun x hx => h x (.inr hx)⟩, fun h x hx => hx.elim (h.1 x) (h.2 x)⟩
theorem lim_take {l : List Int} (h : Lim l) (n : Nat) : Lim (l.take n) := fun x hx => h x (List.mem_of_mem_take hx)
theorem lim_drop {l : List Int} (h : Lim l) (n : Nat) : Lim (l.drop n) := fun x hx => h x (List.mem_of_mem_drop hx)
theorem lim_set {l : List Int} (h : Lim l) (i : Nat) {v : Int} (hv : 0 ≤ v ∧ v < 4294967296) : Lim (l.set i v) := fun x hx =>
  (List.mem_or_eq_of_mem_set hx).elim (h x) (fun e => e ▸ hv)
theorem lim_replicate (n : Nat) : Lim (List.replicate n 0) := fun x hx => by
  have := List.eq_of_mem_replicate hx; omega
theorem getD_lt {l : List Int} {i : Nat} (h : i < l.length) : l.getD i 0 = l[i] := by simp [List.getD, h]
theorem getD_ge {l : List Int} {i : Nat} (h : l.length ≤ i) : l.getD i 0 = 0 := by simp [List.getD, h]
theorem lim_getD {l : List Int} (h : Lim l) (i : Nat) : 0 ≤ l.getD i 0 ∧ l.getD i 0 < 4294967296 := by
  by_cases hi : i < l.length
  · rw [getD_lt hi]; exact h _ (List.getElem_mem hi)
  · rw [getD_ge (by omega)]; omega

theorem val_nil : val [] = 0 := rfl
theorem val_cons (x : Int) (l : List Int) : val (x :: l) = x + 4294967296 * val l := rfl
theorem val_append (a b : List Int) : val (a ++ b) = val a + pw a.length * val b := by
  induction a with
  | nil => simp [val, pw]
  | cons x a ih => simp only [List.cons_append, val, List.length_cons, pw_succ, ih]; grind
theorem val_replicate (n : Nat) : val (List.replicate n 0) = 0 := by
  induction n with
  | zero => rfl
  | succ n ih => simp [List.replicate_succ, val, ih]
theorem val_nonneg {l : List Int} (h : Lim l) : 0 ≤ val l := by
  induction l with
  | nil => simp [val]
  | cons x l ih => have := ih (lim_cons.1 h).2; have := (lim_cons.1 h).1; simp only [val]; omega
theorem val_lt {l : List Int} (h : Lim l) : val l < pw l.length := by
  induction l with
  | nil => simp [val, pw]
  | cons x l ih => have := ih (lim_cons.1 h).2; have := (lim_cons.1 h).1; simp only [val, List.length_cons, pw_succ]; omega
theorem val_set (l : List Int) (i : Nat) (v : Int) (hi : i < l.length) : val (l.set i v) = val l + pw i * (v - l.getD i 0) := by
  induction l generalizing i with
  | nil => simp at hi
  | cons x l ih =>
    cases i with
    | zero => simp [val, pw]; omega
    | succ i =>
      have := ih i (by simpa using hi)
      simp only [List.set_cons_succ, val, List.getD_cons_succ, this, pw_succ]; grind
theorem val_split (l : List Int) (n : Nat) (hn : n ≤ l.length) : val l = val (l.take n) + pw n * val (l.drop n) := by
  have := val_append (l.take n) (l.drop n)
  rw [List.take_append_drop, List.length_take, Nat.min_eq_left hn] at this
  exact this
theorem take_snoc (l : List Int) (n : Nat) (hn : n < l.length) : l.take (n + 1) = l.take n ++ [l.getD n 0] := by
  rw [List.take_succ_eq_append_getElem hn, getD_lt hn]
theorem val_take_succ (l : List Int) (n : Nat) (hn : n < l.length) : val (l.take (n + 1)) = val (l.take n) + pw n * l.getD n 0 := by
  rw [take_snoc l n hn, val_append, List.length_take, Nat.min_eq_left (by omega)]; simp [val]
theorem val_drop (l : List Int) (n : Nat) (hn : n < l.length) : val (l.drop n) = l.getD n 0 + 4294967296 * val (l.drop (n + 1)) := by
  rw [List.drop_eq_getElem_cons hn, getD_lt hn]; rfl
theorem val_snoc (l : List Int) (x : Int) : val (l ++ [x]) = val l + pw l.length * x := by rw [val_append]; simp [val]

theorem tr_nil : Tr [] := fun h => absurd rfl h
theorem tr_cons {x : Int} {l : List Int} (hl : l ≠ []) (h : Tr (x :: l)) : Tr l := fun h' => by
  have := h (by simp); rwa [List.getLast_cons hl] at this
theorem tr_snoc {l : List Int} {x : Int} (hx : x ≠ 0) : Tr (l ++ [x]) := fun _ => by simpa using hx
theorem tr_snoc_iff {l : List Int} {x : Int} : Tr (l ++ [x]) ↔ x ≠ 0 := ⟨fun h => by simpa using h (by simp), tr_snoc⟩
theorem tr_low {l : List Int} (hl : Lim l) (ht : Tr l) (hne : l ≠ []) : pw (l.length - 1) ≤ val l := by
  obtain ⟨a, x, rfl⟩ : ∃ a x, l = a ++ [x] := ⟨l.dropLast, l.getLast hne, (List.dropLast_concat_getLast hne).symm⟩
  have hx := tr_snoc_iff.1 ht
  have ha := val_nonneg (lim_append.1 hl).1
  have hx' := (lim_cons.1 (lim_append.1 hl).2).1
  rw [val_snoc]; simp only [List.length_append, List.length_singleton, Nat.add_sub_cancel]
  have hp := pw_pos a.length
  have : pw a.length * 1 ≤ pw a.length * x := Int.mul_le_mul_of_nonneg_left (by omega) (by omega)
  omega
theorem len_le {l : List Int} (hl : Lim l) (ht : Tr l) {n : Nat} (h : val l < pw n) : l.length ≤ n := by
  by_cases hne : l = []
  · simp [hne]
  · have h1 := tr_low hl ht hne
    by_cases hc : l.length ≤ n
    · exact hc
    · have : pw n ≤ pw (l.length - 1) := pw_le (by omega)
      omega
theorem val_zero {l : List Int} (hl : Lim l) (ht : Tr l) : val l = 0 ↔ l = [] := by
  constructor
  · intro h
    by_cases hne : l = []
    · exact hne
    · have := tr_low hl ht hne; have := pw_pos (l.length - 1); omega
  · rintro rfl; rfl
theorem val_inj {a b : List Int} (ha : Lim a) (hb : Lim b) (hl : a.length = b.length) (h : val a = val b) : a = b := by
  induction a generalizing b with
  | nil => exact (List.eq_nil_of_length_eq_zero (by simpa using hl.symm)).symm
  | cons x a ih =>
    cases b with
    | nil => simp at hl
    | cons y b =>
      have h1 := lim_cons.1 ha; have h2 := lim_cons.1 hb
      simp only [val] at h
      have e : x = y := by omega
      rw [e, ih h1.2 h2.2 (by simpa using hl) (by omega)]
theorem tr_inj {a b : List Int} (ha : Lim a) (hb : Lim b) (ta : Tr a) (tb : Tr b) (h : val a = val b) : a = b := by
  refine val_inj ha hb ?_ h
  have h1 := len_le ha ta (n := b.length) (by rw [h]; exact val_lt hb)
  have h2 := len_le hb tb (n := a.length) (by rw [← h]; exact val_lt ha)
  omega
/-- What a comparison by values answers. -/
def cmpv (x y : Int) : Int := if x < y then -1 else if x = y then 0 else 1
theorem cmp_len {a b : List Int} (ha : Lim a) (hb : Lim b) (tb : Tr b) (h : a.length < b.length) : val a < val b := by
  have h1 := val_lt ha
  have h2 := tr_low hb tb (by intro e; simp [e] at h)
  have := pw_le (m := a.length) (n := b.length - 1) (by omega)
  omega
theorem val_take_next (l : List Int) (n : Nat) : val (l.take (n + 1)) = val (l.take n) + pw n * l.getD n 0 := by
  by_cases h : n < l.length
  · exact val_take_succ l n h
  · rw [getD_ge (by omega), List.take_of_length_le (by omega), List.take_of_length_le (by omega)]; omega
theorem mul_lim {x y : Int} (hx : 0 ≤ x ∧ x < 4294967296) (hy : 0 ≤ y ∧ y < 4294967296) : 0 ≤ x * y ∧ x * y ≤ 18446744065119617025 := by
  refine ⟨Int.mul_nonneg hx.1 hy.1, ?_⟩
  have h1 : x * y ≤ 4294967295 * y := Int.mul_le_mul_of_nonneg_right (by omega) hy.1
  omega
theorem getD_set_self {l : List Int} {i : Nat} {v : Int} (h : i < l.length) : (l.set i v).getD i 0 = v := by simp [List.getD, h]
theorem getD_set_ne {l : List Int} {i j : Nat} {v : Int} (h : i ≠ j) : (l.set i v).getD j 0 = l.getD j 0 := by simp [List.getD, h]
theorem getD_replicate (n i : Nat) : (List.replicate n (0 : Int)).getD i 0 = 0 := by
  by_cases h : i < n <;> simp [List.getD, h]
theorem cmpv_neg {x y : Int} : cmpv x y = -1 ↔ x < y := by unfold cmpv; split <;> (try split) <;> omega
theorem cmpv_zero {x y : Int} : cmpv x y = 0 ↔ x = y := by unfold cmpv; split <;> (try split) <;> omega
theorem cmpv_le {x y : Int} : cmpv x y ≤ 0 ↔ x ≤ y := by unfold cmpv; split <;> (try split) <;> omega
theorem cmpv_lt {x y : Int} : cmpv x y < 0 ↔ x < y := by unfold cmpv; split <;> (try split) <;> omega
theorem cmpv_ge {x y : Int} : cmpv x y ≥ 0 ↔ y ≤ x := by unfold cmpv; split <;> (try split) <;> omega
end FNat
