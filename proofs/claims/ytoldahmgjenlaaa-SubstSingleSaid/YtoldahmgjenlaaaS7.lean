/- Lookups of one or two rules, in a line from a place on: plain lemmas. -/
import Derived.Test.YtoldahmgjenlaaaS4
namespace Go.Proofs.Ytoldahmgjenlaaa.S
open Go.RowKit Go.Proofs.Ytoldahmgjenlaaa.Q Go.Proofs.YtoldahmgjenlaaaW.PrintWords Go.Proofs.YtoldahmgjenlaaaW.PrintLast Go.Proofs.Ytoldahmgjenlaaa.C
set_option linter.unusedVariables false

theorem rd_at (pre xs : List Int) (x : Int) : rd (pre ++ x :: xs) (pre.length : Int) = x := by rw [rd_nat]; simp [List.getD]
theorem place_at (pre xs : List Int) (x : Int) : C.Place (pre ++ x :: xs) (pre.length : Int) := ⟨by omega, by simp; omega⟩
theorem putv_at (pre xs o : List Int) (x : Int) : putv (pre ++ x :: xs) (pre.length : Int) ((pre.length : Int) + 1) o = pre ++ (o ++ xs) := by
  unfold putv
  rw [if_neg (by simp; omega)]
  have h1 : ((pre.length : Int) + 1).toNat = pre.length + 1 := by omega
  rw [h1, Int.toNat_natCast, List.take_left']
  · congr 2
    rw [show pre ++ x :: xs = (pre ++ [x]) ++ xs by simp, List.drop_left']
    simp
  · rfl
theorem meet_one (line : List Int) (marks : List Bool) (a g : Int) (skip : Bool) : meetv line marks a [g] skip = if C.Place line a ∧ rd line a = g then ([a], true) else ([], false) := by
  unfold meetv
  rw [if_neg (by simp)]
  simp only [meetFrom]
  by_cases h : C.Place line a ∧ rd line a = g
  · rw [if_pos h, if_pos h]; rfl
  · rw [if_neg h, if_neg h]
theorem meet_two (pre xs : List Int) (marks : List Bool) (x y g h : Int) : meetv (pre ++ x :: y :: xs) marks (pre.length : Int) [g, h] false = if x = g ∧ y = h then ([(pre.length : Int), (pre.length : Int) + 1], true) else ([], false) := by
  have hn : nextv (pre ++ x :: y :: xs) marks (pre.length : Int) false = (pre.length : Int) + 1 := by
    unfold nextv
    rw [if_pos (place_at pre (y :: xs) x), Int.toNat_natCast, show (pre ++ x :: y :: xs).length - (pre.length + 1) = xs.length + 1 by simp; omega]
    simp only [C.up]
    rw [if_neg (by simp)]; omega
  have h2 : C.Place (pre ++ x :: y :: xs) ((pre.length : Int) + 1) := ⟨by omega, by simp; omega⟩
  have h3 : rd (pre ++ x :: y :: xs) ((pre.length : Int) + 1) = y := by
    have := rd_at (pre ++ [x]) xs y
    simp only [List.append_assoc, List.length_append, List.length_singleton, List.singleton_append] at this
    exact_mod_cast this
  unfold meetv
  rw [if_neg (by simp)]
  simp only [meetFrom]
  rw [hn, rd_at, h3]
  by_cases c : x = g
  · rw [if_pos ⟨place_at pre (y :: xs) x, c⟩]
    by_cases e : y = h
    · rw [if_pos ⟨h2, e⟩, if_pos ⟨c, e⟩]; rfl
    · rw [if_neg (fun hh => e hh.2), if_neg (fun hh => e hh.2)]; rfl
  · rw [if_neg (fun hh => c hh.2), if_neg (fun hh => c hh.1)]
theorem meet_head (pre xs : List Int) (marks : List Bool) (x g h : Int) (c : x ≠ g) : meetv (pre ++ x :: xs) marks (pre.length : Int) [g, h] false = ([], false) := by
  unfold meetv
  rw [if_neg (by simp)]
  simp only [meetFrom]
  rw [rd_at, if_neg (fun hh => c hh.2)]
theorem mark_nil (g : Int) : markv [] g = false := by unfold markv; split <;> rfl

/-! ### Multiple -/
def splitL (p q r : Int) : List Int → List Int
  | [] => []
  | x :: xs => if x = p then q :: r :: splitL p q r xs else x :: splitL p q r xs
theorem multi_on {l : List S46} {marks : List Bool} {k p : Int} {o : List Int} {z : S41} (hx : rd_T46 l k = ⟨2, false, [⟨[p], o, 0, 0, z, z, z⟩]⟩) (pre xs : List Int) (x : Int) :
    onev l marks 7 k (pre ++ x :: xs) (pre.length : Int) = if x = p then (pre ++ (o ++ xs), (pre.length : Int) + o.length, true) else (pre ++ x :: xs, (pre.length : Int), false) := by
  rw [onev_eq, hx]
  unfold atv
  rw [if_neg (by simp)]
  simp only [rulesv]
  have hm := meet_one (pre ++ x :: xs) marks (pre.length : Int) p false
  rw [rd_at] at hm
  by_cases c : x = p
  · rw [hm.trans (if_pos ⟨place_at pre xs x, c⟩), if_pos c, if_pos rfl]
    simp only [ruleres]
    rw [if_pos (by simp), putv_at]
  · rw [hm.trans (if_neg (fun hh => c hh.2)), if_neg c, if_neg (by simp)]
theorem multi_line {l : List S46} {marks : List Bool} {k p q r : Int} {z : S41} (hx : rd_T46 l k = ⟨2, false, [⟨[p], [q, r], 0, 0, z, z, z⟩]⟩) (xs : List Int) : ∀ (d : Nat) (pre : List Int), xs.length ≤ d → pre.length + 2 * xs.length ≤ 100 →
    lineF l marks k d (pre ++ xs) (pre.length : Int) = (pre ++ splitL p q r xs, 0) := by
  induction xs with
  | nil =>
    intro d pre hd hl
    simp only [splitL, List.append_nil]
    cases d with
    | zero => rfl
    | succ d => simp only [lineF]; rw [if_neg (by omega)]
  | cons x xs ih =>
    intro d pre hd hl
    simp only [List.length_cons] at hd hl
    cases d with
    | zero => omega
    | succ d =>
      simp only [lineF]
      rw [if_pos (place_at pre xs x).2, multi_on hx]
      by_cases c : x = p
      · have h := ih d (pre ++ [q, r]) (by omega) (by simp; omega)
        simp only [if_pos c, splitL]
        rw [if_pos trivial, if_neg (by simp; omega)]
        simpa [List.append_assoc] using h
      · have h := ih d (pre ++ [x]) (by omega) (by simp; omega)
        simp only [if_neg c, splitL]
        rw [if_neg (by simp)]
        simpa [List.append_assoc] using h
theorem splitL_len (p q r : Int) (xs : List Int) : (splitL p q r xs).length = xs.length + xs.count p := by
  induction xs with
  | nil => rfl
  | cons x xs ih =>
    simp only [splitL]
    by_cases c : x = p
    · rw [if_pos c, c]; simp [ih]; omega
    · rw [if_neg c]; simp [ih, c]; omega

/-! ### Ligature -/
theorem lig_on {l : List S46} {marks : List Bool} {k p q r : Int} {z : S41} (hx : rd_T46 l k = ⟨3, false, [⟨[q, r], [p], 0, 0, z, z, z⟩]⟩) (pre xs : List Int) :
    onev l marks 7 k (pre ++ q :: r :: xs) (pre.length : Int) = (pre ++ (p :: xs), (pre.length : Int) + 1, true) := by
  rw [onev_eq, hx]
  unfold atv
  rw [if_neg (by simp)]
  simp only [rulesv]
  rw [(meet_two pre xs marks q r q r).trans (if_pos ⟨rfl, rfl⟩), if_pos rfl]
  have h1 : putv (pre ++ q :: r :: xs) ((pre.length : Int) + 1) ((pre.length : Int) + 1 + 1) [] = pre ++ q :: xs := by
    have := putv_at (pre ++ [q]) xs [] r
    simp only [List.append_assoc, List.length_append, List.length_singleton, List.singleton_append, List.nil_append] at this
    exact_mod_cast this
  simp only [ruleres]
  rw [if_neg (by simp), if_pos trivial]
  simp only [List.length_cons, List.length_nil, ligv, List.getD_cons_succ, List.getD_cons_zero]
  rw [h1, putv_at]; rfl
theorem lig_off {l : List S46} {marks : List Bool} {k p q r : Int} {z : S41} (hx : rd_T46 l k = ⟨3, false, [⟨[q, r], [p], 0, 0, z, z, z⟩]⟩) (pre xs : List Int) (x : Int) (c : x ≠ q) :
    onev l marks 7 k (pre ++ x :: xs) (pre.length : Int) = (pre ++ x :: xs, (pre.length : Int), false) := by
  rw [onev_eq, hx]
  unfold atv
  rw [if_neg (by simp)]
  simp only [rulesv]
  rw [meet_head _ _ _ _ _ _ c, if_neg (by simp)]
theorem lig_line {l : List S46} {marks : List Bool} {k p q r : Int} {z : S41} (hx : rd_T46 l k = ⟨3, false, [⟨[q, r], [p], 0, 0, z, z, z⟩]⟩) (xs : List Int) : ∀ (d : Nat) (pre : List Int), (splitL p q r xs).length ≤ d → pre.length + (splitL p q r xs).length ≤ 100 → (∀ x ∈ xs, x ≠ q) →
    lineF l marks k d (pre ++ splitL p q r xs) (pre.length : Int) = (pre ++ xs, 0) := by
  induction xs with
  | nil =>
    intro d pre hd hl hq
    simp only [splitL, List.append_nil]
    cases d with
    | zero => rfl
    | succ d => simp only [lineF]; rw [if_neg (by omega)]
  | cons x xs ih =>
    intro d pre hd hl hq
    have hx1 := hq x (List.mem_cons_self)
    have hxs := fun y hy => hq y (List.mem_cons_of_mem _ hy)
    cases d with
    | zero =>
      simp only [splitL] at hd
      by_cases c : x = p
      · rw [if_pos c] at hd; simp at hd
      · rw [if_neg c] at hd; simp at hd
    | succ d =>
      by_cases c : x = p
      · simp only [splitL, if_pos c, List.length_cons] at hd hl ⊢
        have h := ih d (pre ++ [p]) (by omega) (by simp; omega) hxs
        simp only [lineF]
        rw [if_pos (place_at pre _ q).2, lig_on hx]
        simp only
        rw [if_pos trivial, if_neg (by simp; omega), c]
        simpa [List.append_assoc] using h
      · simp only [splitL, if_neg c, List.length_cons] at hd hl ⊢
        have h := ih d (pre ++ [x]) (by omega) (by simp; omega) hxs
        simp only [lineF]
        rw [if_pos (place_at pre _ x).2, lig_off hx _ _ _ hx1]
        simp only
        rw [if_neg (by simp)]
        simpa [List.append_assoc] using h

/-! ### Single -/
def swapv (p q x : Int) : Int := if x = p then q else if x = q then p else x
theorem single_on {l : List S46} {marks : List Bool} {k p q : Int} {skip : Bool} {z : S41} (hx : rd_T46 l k = ⟨1, skip, [⟨[p], [q], 0, 0, z, z, z⟩, ⟨[q], [p], 0, 0, z, z, z⟩]⟩) (hm : skip = true → marks = []) (pre xs : List Int) (x : Int) :
    onev l marks 7 k (pre ++ x :: xs) (pre.length : Int) = if x = p ∨ x = q then (pre ++ swapv p q x :: xs, (pre.length : Int) + 1, true) else (pre ++ x :: xs, (pre.length : Int), false) := by
  rw [onev_eq, hx]
  unfold atv
  rw [if_neg (fun h => by rw [hm h.1, mark_nil] at h; cases h.2)]
  simp only [rulesv]
  have hm1 := meet_one (pre ++ x :: xs) marks (pre.length : Int) p skip
  have hm2 := meet_one (pre ++ x :: xs) marks (pre.length : Int) q skip
  rw [rd_at] at hm1 hm2
  by_cases c : x = p
  · rw [hm1.trans (if_pos ⟨place_at pre xs x, c⟩), if_pos rfl, if_pos (.inl c)]
    simp only [ruleres]
    rw [if_pos (by simp), putv_at]
    simp [swapv, c]
  · by_cases e : x = q
    · rw [hm1.trans (if_neg (fun hh => c hh.2)), if_neg (by simp), hm2.trans (if_pos ⟨place_at pre xs x, e⟩), if_pos rfl, if_pos (.inr e)]
      simp only [ruleres]
      rw [if_pos (by simp), putv_at]
      simp only [swapv, if_neg c, if_pos e]; rfl
    · rw [hm1.trans (if_neg (fun hh => c hh.2)), if_neg (by simp), hm2.trans (if_neg (fun hh => e hh.2)), if_neg (by simp), if_neg (fun hh => hh.elim c e)]
theorem single_line {l : List S46} {marks : List Bool} {k p q : Int} {skip : Bool} {z : S41} (hx : rd_T46 l k = ⟨1, skip, [⟨[p], [q], 0, 0, z, z, z⟩, ⟨[q], [p], 0, 0, z, z, z⟩]⟩) (hm : skip = true → marks = []) (xs : List Int) : ∀ (d : Nat) (pre : List Int), xs.length ≤ d → pre.length + xs.length ≤ 100 →
    lineF l marks k d (pre ++ xs) (pre.length : Int) = (pre ++ xs.map (swapv p q), 0) := by
  induction xs with
  | nil =>
    intro d pre hd hl
    simp only [List.map_nil, List.append_nil]
    cases d with
    | zero => rfl
    | succ d => simp only [lineF]; rw [if_neg (by omega)]
  | cons x xs ih =>
    intro d pre hd hl
    simp only [List.length_cons] at hd hl
    cases d with
    | zero => omega
    | succ d =>
      simp only [lineF, List.map_cons]
      have h := ih d (pre ++ [swapv p q x]) (by omega) (by simp; omega)
      rw [if_pos (place_at pre xs x).2, single_on hx hm]
      by_cases c : x = p ∨ x = q
      · simp only [if_pos c]
        rw [if_pos trivial, if_neg (by simp; omega)]
        simpa [List.append_assoc] using h
      · simp only [if_neg c]
        have e : swapv p q x = x := by unfold swapv; rw [if_neg (fun h => c (.inl h)), if_neg (fun h => c (.inr h))]
        rw [if_neg (by simp)]
        rw [e] at h ⊢
        simpa [List.append_assoc] using h
end Go.Proofs.Ytoldahmgjenlaaa.S
