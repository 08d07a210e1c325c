/- SubstLines: what lookups make of a line is what the reference makes of it, and both tell the same lists formed. -/
import Derived.Test.YtoldahmgjenlaaaStSubstLines
import Derived.Test.YtoldahmgjenlaaaS5
import Derived.Test.YtoldahmgjenlaaaS3
import Derived.Test.YtoldahmgjenlaaaS6
namespace Go.Proofs.Ytoldahmgjenlaaa.Pure
open Go.RowKit Go.Proofs.Ytoldahmgjenlaaa.Q Go.Proofs.YtoldahmgjenlaaaW.PrintWords Go.Proofs.YtoldahmgjenlaaaW.PrintLast Go.Proofs.Ytoldahmgjenlaaa.C Go.Proofs.Ytoldahmgjenlaaa.S
set_option linter.unusedVariables false

theorem copied_eq {l : List Int} (h : l.length ≤ 1000000000) : foundryref20_copied.f l = some l := by
  unfold foundryref20_copied.f
  rw [if_pos (by simp; omega), List.nil_append]
theorem onev_not {l : List S46} {marks : List Bool} {n : Nat} {k : Int} {line : List Int} {a : Int} (h : (onev l marks n k line a).2.2 = false) : (onev l marks n k line a).1 = line := by
  rw [onev_eq] at h ⊢
  unfold atv at h ⊢
  split at h
  · next hc => rw [if_pos hc]
  · next hc =>
    rw [if_neg hc]
    revert h
    generalize (rd_T46 l k).f2 = rs
    induction rs with
    | nil => intro _; rfl
    | cons r rs ih =>
      intro h
      simp only [rulesv] at h ⊢
      split at h
      · cases h
      · next hm => rw [if_neg hm]; exact ih h
theorem rline_l0 (d : Nat) : ∀ (l : List S46) (marks : List Bool) (k : Int) (line : List Int) (a : Int), Formed l → Valid l k → line.length ≤ 100 → 0 ≤ a → (line.length : Int) - a ≤ (d : Int) →
    Ev (fun f => foundryref20_Line.l0 f l k marks line a) (lineF l marks k d line a) := by
  induction d with
  | zero =>
    intro l marks k line a hF hk hl h0 hd
    refine Ev.step (fun f => (foundryref20_Line.l0.eq_2 l k marks line a f).trans (if_neg (by omega))) (ev_some fun f => ?_)
    rw [foundryref20_Line.j2.eq_2, if_neg Bool.false_ne_true]; rfl
  | succ d ih =>
    intro l marks k line a hF hk hl h0 hd
    simp only [lineF]
    by_cases hlt : a < (line.length : Int)
    · have ha : C.Place line a := ⟨h0, hlt⟩
      rw [if_pos hlt]
      have ho := rone_ev (marks := marks) hF 7 k line a 1 hk ha (by omega) (by omega)
      have hno := onev_not (l := l) (marks := marks) (n := 7) (k := k) (line := line) (a := a)
      refine Ev.step (fun f => (foundryref20_Line.l0.eq_2 l k marks line a f).trans ((if_pos hlt).trans ((if_pos hk.1).trans ((if_pos hk.2.1).trans (by rw [rputs_eq, Option.bind_some, hk.2.2]))))) ?_
      refine Ev.step (fun f => (foundryref20_Line.j2.eq_2 l k marks line a true f).trans (if_pos rfl)) (Ev.bind ho ?_)
      by_cases hok : (onev l marks 7 k line a).2.2 = true
      · obtain ⟨p1, p2⟩ := onev_prog hF hk ha hok
        rw [if_pos hok]
        by_cases h100 : ((onev l marks 7 k line a).1.length : Int) > 100
        · rw [if_pos h100]; exact Ev.congr (fun f => if_pos h100) (Ev.now _)
        · rw [if_neg h100]
          have hn := ih l marks k (onev l marks 7 k line a).1 (onev l marks 7 k line a).2.1 hF hk (by omega) (by omega) (by omega)
          refine Ev.congr (fun f => (if_neg h100).trans ((if_pos hok).trans ?_)) hn
          by_cases he : (onev l marks 7 k line a).2.1 = a
          · rw [if_pos he, if_neg (by omega)]
          · rw [if_neg he]
      · have e := hno (Bool.eq_false_iff.2 hok)
        have e1 : wrap64 (a + 1) = a + 1 := w1 (by omega) (by omega)
        have hn := ih l marks k line (a + 1) hF hk hl (by omega) (by omega)
        have h100 : ¬ ((onev l marks 7 k line a).1.length : Int) > 100 := by rw [e]; omega
        rw [if_neg hok]
        refine Ev.congr (fun f => (if_neg h100).trans ((if_neg hok).trans ?_)) hn
        rw [e, e1]
    · rw [if_neg hlt]
      refine Ev.step (fun f => (foundryref20_Line.l0.eq_2 l k marks line a f).trans (if_neg hlt)) (ev_some fun f => ?_)
      rw [foundryref20_Line.j2.eq_2, if_neg Bool.false_ne_true]
theorem rline_ev {l : List S46} (marks : List Bool) (k : Int) (line : List Int) (hB : Big l) : Ev (fun f => foundryref20_Line.f f l k marks line) (linev l k marks line) := by
  have hno : Ev (fun f => foundryref20_Line.j0 f l k marks line true) ([], 5) := ev_some fun f => by rw [foundryref20_Line.j0.eq_2, if_pos rfl]
  refine Ev.bind (rformed_ev 65536 hB) ?_
  unfold linev
  by_cases hf : formedv l 65536 = true
  · rw [if_pos hf, hf]
    refine Ev.congr (fun f => if_pos rfl) ?_
    by_cases h1 : (line.length : Int) > 100
    · rw [if_pos h1]; exact Ev.congr (fun f => if_pos h1) (Ev.now _)
    by_cases h2 : k < 0
    · rw [if_neg h1, if_pos h2]; exact Ev.congr (fun f => (if_neg h1).trans (if_pos h2)) hno
    by_cases h3 : k ≥ (l.length : Int)
    · rw [if_neg h1, if_neg h2, if_pos h3]; exact Ev.congr (fun f => (if_neg h1).trans ((if_neg h2).trans (by rw [decide_eq_true h3]))) hno
    rw [if_neg h1, if_neg h2, if_neg h3]
    refine Ev.congr (fun f => (if_neg h1).trans ((if_neg h2).trans (by rw [decide_eq_false h3]))) ?_
    refine Ev.step (fun f => (foundryref20_Line.j0.eq_2 l k marks line false f).trans ((if_neg Bool.false_ne_true).trans (by rw [copied_eq (by omega), Option.bind_some]))) ?_
    by_cases h4 : putsv (rd_T46 l k).f0 = true
    · rw [if_pos h4]
      exact rline_l0 line.length l marks k line 0 (formedv_all hf).1 ⟨by omega, by omega, h4⟩ (by omega) (by omega) (by omega)
    · rw [if_neg h4]
      have hz : ∀ b, b = false → Ev (fun f => foundryref20_Line.j2 f l k marks line 0 b) (line, 0) := fun b hb => by
        subst hb
        exact ev_some fun f => by rw [foundryref20_Line.j2.eq_2, if_neg Bool.false_ne_true]
      refine Ev.step (fun f => foundryref20_Line.l0.eq_2 l k marks line 0 f) ?_
      by_cases h5 : (0 : Int) < (line.length : Int)
      · exact Ev.congr (fun f => (if_pos h5).trans ((if_pos (by omega)).trans ((if_pos (by omega)).trans (by rw [rputs_eq, Option.bind_some])))) (hz _ (Bool.eq_false_iff.2 h4))
      · exact Ev.congr (fun f => if_neg h5) (hz false rfl)
  · rw [if_neg hf, Bool.eq_false_iff.2 hf]
    exact Ev.congr (fun f => if_neg Bool.false_ne_true) (Ev.now _)
theorem rall_l0' (d : Nat) : ∀ (l : List S46) (marks : List Bool) (looks line : List Int) (i : Nat), Big l → looks.length ≤ 1000000 → i + d = looks.length →
    Ev (fun f => foundryref20_All.l0 f l looks marks line (i : Int)) (allF l marks (looks.drop i) line) := by
  induction d with
  | zero =>
    intro l marks looks line i hB hl hi
    refine ev_some fun f => ?_
    rw [foundryref20_All.l0.eq_2, if_neg (by omega), List.drop_of_length_le (by omega)]; rfl
  | succ d ih =>
    intro l marks looks line i hB hl hi
    have hil : i < looks.length := by omega
    have e1 : wrap64 ((i : Int) + 1) = ((i + 1 : Nat) : Int) := by rw [w1 (by omega) (by omega)]; rfl
    rw [drop_cons looks i hil]
    simp only [allF]
    refine Ev.step (fun f => (foundryref20_All.l0.eq_2 l looks marks line (i : Int) f).trans ((if_pos (Int.ofNat_lt.2 hil)).trans (if_pos (Int.natCast_nonneg i)))) (Ev.bind (rline_ev marks (rd looks (i : Int)) line hB) ?_)
    rw [rd_nat]
    by_cases h0 : (linev l (looks.getD i 0) marks line).2 = 0
    · rw [if_pos h0]
      exact Ev.congr (fun f => (if_pos h0).trans (by rw [e1])) (ih l marks looks (linev l (looks.getD i 0) marks line).1 (i + 1) hB hl (by omega))
    · rw [if_neg h0]
      exact Ev.congr (fun f => if_neg h0) (Ev.now _)
theorem rall_ev' {l : List S46} (looks : List Int) (marks : List Bool) (line : List Int) (hB : Big l) (hl : looks.length ≤ 1000000) (h2 : line.length ≤ 1000000) : Ev (fun f => foundryref20_All.f f l looks marks line) (allF l marks looks line) := by
  have h := rall_l0' looks.length l marks looks line 0 hB hl (by omega)
  rw [List.drop_zero] at h
  refine Ev.congr (fun f => ?_) h
  unfold foundryref20_All.f
  rw [copied_eq (by omega), Option.bind_some]; rfl
theorem lineF_len {l : List S46} {marks : List Bool} {k : Int} (d : Nat) : ∀ (line : List Int) (a : Int), line.length ≤ 100 → (lineF l marks k d line a).1.length ≤ 100 := by
  induction d with
  | zero => intro line a h; exact h
  | succ d ih =>
    intro line a h
    simp only [lineF]
    split
    · split
      · split
        · simp
        · exact ih _ _ (by omega)
      · exact ih _ _ h
    · exact h
theorem linev_len (l : List S46) (marks : List Bool) (k : Int) (line : List Int) : (linev l k marks line).1.length ≤ 100 := by
  unfold linev
  split
  · split
    · simp
    · split
      · simp
      · split
        · simp
        · split
          · exact lineF_len _ _ _ (by omega)
          · simp only; omega
  · simp
theorem allF_len (l : List S46) (marks : List Bool) (looks : List Int) : ∀ line : List Int, line.length ≤ 1000000 → (allF l marks looks line).1.length ≤ 1000000 := by
  induction looks with
  | nil => intro line h; exact h
  | cons k ks ih =>
    intro line h
    simp only [allF]
    have := linev_len l marks k line
    split
    · exact ih _ (by omega)
    · simp
theorem w46_of {l : List S46} (h2 : ∀ x ∈ l, W46 x) (i : Nat) : (rd_T46 l (i : Int)).f2.length ≤ maxLen ∧ ∀ r ∈ (rd_T46 l (i : Int)).f2, W43 r := by
  by_cases hi : i < l.length
  · have hm : rd_T46 l (i : Int) ∈ l := by
      have : rd_T46 l (i : Int) = l[i] := by unfold rd_T46; simp [List.getD, hi]
      rw [this]; exact List.getElem_mem hi
    exact (h2 _ hm).2.2
  · have : rd_T46 l (i : Int) = z46 := by unfold rd_T46; simp [List.getD, Nat.not_lt.1 hi]
    rw [this]; exact ⟨by simp [z46], by simp [z46]⟩
theorem sized_of {l : List S46} (h1 : l.length ≤ maxLen) (h2 : ∀ x ∈ l, W46 x) : Sized l := by
  refine ⟨by unfold maxLen at h1; omega, fun i => ?_⟩
  have := (w46_of h2 i).1
  unfold maxLen at this; omega
theorem big_of {l : List S46} (h1 : l.length ≤ maxLen) (h2 : ∀ x ∈ l, W46 x) : Big l := by
  refine ⟨by unfold maxLen at h1; omega, fun i k => ?_⟩
  have h := (w46_of h2 i).2
  generalize (rd_T46 l (i : Int)).f2 = rs at h
  by_cases hk : k < rs.length
  · have hm : rd_T43 rs (k : Int) ∈ rs := by
      have : rd_T43 rs (k : Int) = rs[k] := by unfold rd_T43; simp [List.getD, hk]
      rw [this]; exact List.getElem_mem hk
    have h3 := h _ hm
    have a1 := h3.1.1
    have a2 := h3.2.1.1
    unfold maxLen at a1 a2
    exact ⟨by omega, by omega⟩
  · have : rd_T43 rs (k : Int) = z43 := by unfold rd_T43; simp [List.getD, Nat.not_lt.1 hk]
    rw [this]; exact ⟨by simp [z43], by simp [z43]⟩
theorem SubstLines : foundrylaw20_SubstLines.Pure := by
  intro l looks line marks hl _ hx _
  have hs := sized_of hl.1 hl.2
  have hB := big_of hl.1 hl.2
  refine Ev.rounds ?_
  refine Ev.bind awake20_ev (Ev.congr (fun f => if_pos rfl) ?_)
  obtain ⟨b, hb, hb2⟩ := few20_ev l line marks hs
  have hno : Ev (fun f => foundrylaw20_SubstLines.j0 f l looks true line marks) true :=
    Ev.step (fun f => (foundrylaw20_SubstLines.j0.eq_2 l looks true line marks f).trans (if_pos rfl)) (Ev.bind awake20_ev (Ev.now true))
  refine Ev.bind hb ?_
  cases b with
  | false => exact Ev.congr (fun f => if_neg (by simp)) hno
  | true =>
    obtain ⟨b1, b2⟩ := hb2 rfl
    refine Ev.congr (fun f => if_pos rfl) ?_
    by_cases h20 : (looks.length : Int) > 20
    · rw [decide_eq_true h20]; exact hno
    · rw [decide_eq_false h20]
      have hlen := allF_len l marks looks line (by omega)
      refine Ev.step (fun f => (foundrylaw20_SubstLines.j0.eq_2 l looks false line marks f).trans (if_neg (by simp))) (Ev.bind (all_ev l looks marks line (by omega) (by omega)) (Ev.bind (rall_ev' looks marks line hB (by omega) (by omega)) ?_))
      refine Ev.congr (fun f => if_pos rfl) (Ev.bind (same_refl (by omega)) (Ev.congr (fun f => (if_pos rfl).trans (by rw [formed_eq, Option.bind_some])) (Ev.bind (rformed_ev 50 hB) ?_)))
      refine Ev.congr (fun f => ?_) (Ev.now true)
      simp
end Go.Proofs.Ytoldahmgjenlaaa.Pure
