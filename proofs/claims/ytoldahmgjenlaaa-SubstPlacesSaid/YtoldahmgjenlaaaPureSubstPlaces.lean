/- SubstPlaces: at every place of a line, and beside it, a lookup does what the reference's does. -/
import Derived.Test.YtoldahmgjenlaaaStSubstPlaces
import Derived.Test.YtoldahmgjenlaaaS8
import Derived.Test.YtoldahmgjenlaaaS6
namespace Go.Proofs.Ytoldahmgjenlaaa.Pure
open Go.RowKit Go.Proofs.Ytoldahmgjenlaaa.Q Go.Proofs.YtoldahmgjenlaaaW.PrintWords Go.Proofs.YtoldahmgjenlaaaW.PrintLast Go.Proofs.Ytoldahmgjenlaaa.C Go.Proofs.Ytoldahmgjenlaaa.S
set_option linter.unusedVariables false

theorem w46_of {l : List S46} (h2 : ∀ x ∈ l, W46 x) (i : Nat) : (rd_T46 l (i : Int)).f2.length ≤ maxLen ∧ ∀ r ∈ (rd_T46 l (i : Int)).f2, W43 r := by
  by_cases hi : i < l.length
  · have hm : rd_T46 l (i : Int) ∈ l := by
      have : rd_T46 l (i : Int) = l[i] := by unfold rd_T46; simp [List.getD, hi]
      rw [this]; exact List.getElem_mem hi
    exact (h2 _ hm).2.2
  · have : rd_T46 l (i : Int) = z46 := by unfold rd_T46; simp [List.getD, Nat.not_lt.1 hi]
    rw [this]; exact ⟨by simp [z46], by simp [z46]⟩
theorem sized_of {l : List S46} (h1 : l.length ≤ maxLen) (h2 : ∀ x ∈ l, W46 x) : Sized l := by
  refine ⟨by unfold maxLen at h1; omega, fun i => ?_⟩
  have := (w46_of h2 i).1
  unfold maxLen at this; omega
theorem big_of {l : List S46} (h1 : l.length ≤ maxLen) (h2 : ∀ x ∈ l, W46 x) : Big l := by
  refine ⟨by unfold maxLen at h1; omega, fun i k => ?_⟩
  have h := (w46_of h2 i).2
  generalize (rd_T46 l (i : Int)).f2 = rs at h
  by_cases hk : k < rs.length
  · have hm : rd_T43 rs (k : Int) ∈ rs := by
      have : rd_T43 rs (k : Int) = rs[k] := by unfold rd_T43; simp [List.getD, hk]
      rw [this]; exact List.getElem_mem hk
    have h3 := h _ hm
    have a1 := h3.1.1
    have a2 := h3.2.1.1
    unfold maxLen at a1 a2
    exact ⟨by omega, by omega⟩
  · have : rd_T43 rs (k : Int) = z43 := by unfold rd_T43; simp [List.getD, Nat.not_lt.1 hk]
    rw [this]; exact ⟨by simp [z43], by simp [z43]⟩
theorem places_l0 (d : Nat) : ∀ (l : List S46) (k : Int) (marks : List Bool) (line : List Int) (a : Int), Big l → line.length ≤ 150 → -1 ≤ a → (line.length : Int) + 1 - a ≤ (d : Int) →
    Ev (fun f => foundrylaw20_SubstPlaces.l0 f l k a line marks) true := by
  induction d with
  | zero =>
    intro l k marks line a hB hl h0 hd
    exact Ev.step (fun f => (foundrylaw20_SubstPlaces.l0.eq_2 l k a line marks f).trans (if_neg (by omega))) (Ev.now true)
  | succ d ih =>
    intro l k marks line a hB hl h0 hd
    by_cases hlt : a ≤ (line.length : Int)
    · have e1 : wrap64 (a + 1) = a + 1 := w1 (by omega) (by omega)
      have hlen := placev_len l marks k line a
      refine Ev.step (fun f => (foundrylaw20_SubstPlaces.l0.eq_2 l k a line marks f).trans (if_pos hlt)) (Ev.bind (place_ev l marks k line a (by omega)) (Ev.bind (rplace_ev marks k line a hB (by omega)) ?_))
      refine Ev.congr (fun f => (if_pos rfl).trans (if_neg (by simp))) (Ev.bind (same_refl (by omega)) (Ev.congr (fun f => (if_pos rfl).trans (by rw [e1])) ?_))
      exact ih l k marks line (a + 1) hB hl (by omega) (by omega)
    · exact Ev.step (fun f => (foundrylaw20_SubstPlaces.l0.eq_2 l k a line marks f).trans (if_neg hlt)) (Ev.now true)
theorem SubstPlaces : foundrylaw20_SubstPlaces.Pure := by
  intro l k line marks hl _ hx _
  have hs := sized_of hl.1 hl.2
  have hB := big_of hl.1 hl.2
  refine Ev.rounds ?_
  refine Ev.bind awake20_ev (Ev.congr (fun f => if_pos rfl) ?_)
  obtain ⟨b, hb, hb2⟩ := few20_ev l line marks hs
  have hno : Ev (fun f => foundrylaw20_SubstPlaces.j0 f l k true line marks) true :=
    Ev.step (fun f => (foundrylaw20_SubstPlaces.j0.eq_2 l k true line marks f).trans (if_pos rfl)) (Ev.bind awake20_ev (Ev.now true))
  refine Ev.bind hb ?_
  cases b with
  | false => exact Ev.congr (fun f => if_neg (by simp)) hno
  | true =>
    obtain ⟨b1, b2⟩ := hb2 rfl
    refine Ev.congr (fun f => if_pos rfl) ?_
    by_cases h20 : (line.length : Int) > 20
    · rw [decide_eq_true h20]; exact hno
    · rw [decide_eq_false h20]
      exact Ev.step (fun f => (foundrylaw20_SubstPlaces.j0.eq_2 l k false line marks f).trans (if_neg (by simp))) (places_l0 (line.length + 2) l k marks line (-1) hB b1 (by omega) (by omega))
end Go.Proofs.Ytoldahmgjenlaaa.Pure
