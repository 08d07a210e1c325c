/- SubstLengths: a Single changes no line's length, a Ligature makes none longer, of a line without glyphs nothing comes, and no other lookup answers anything but a line or 'too long'. -/
import Derived.Test.YtoldahmgjenlaaaStSubstLengths
import Derived.Test.YtoldahmgjenlaaaS6
namespace Go.Proofs.Ytoldahmgjenlaaa.Pure
open Go.RowKit Go.Proofs.Ytoldahmgjenlaaa.Q Go.Proofs.YtoldahmgjenlaaaW.PrintWords Go.Proofs.YtoldahmgjenlaaaW.PrintLast Go.Proofs.Ytoldahmgjenlaaa.C Go.Proofs.Ytoldahmgjenlaaa.S

set_option linter.unusedVariables false
theorem sized_of {l : List S46} (h1 : l.length ≤ maxLen) (h2 : ∀ x ∈ l, W46 x) : Sized l := by
  refine ⟨by unfold maxLen at h1; omega, fun i => ?_⟩
  by_cases hi : i < l.length
  · have hm : rd_T46 l (i : Int) ∈ l := by
      have : rd_T46 l (i : Int) = l[i] := by unfold rd_T46; simp [List.getD, hi]
      rw [this]; exact List.getElem_mem hi
    have := (h2 _ hm).2.2.1
    unfold maxLen at this; omega
  · have : rd_T46 l (i : Int) = z46 := by unfold rd_T46; simp [List.getD, Nat.not_lt.1 hi]
    rw [this]; simp [z46]
theorem single_len {l : List S46} {marks : List Bool} {n : Nat} {k : Int} {line : List Int} {a : Int} (hF : Formed l) (hk : Valid l k) (ha : C.Place line a) (h1 : (rd_T46 l k).f0 = 1) : (onev l marks n k line a).1.length = line.length := by
  rw [onev_eq]; unfold atv
  split
  · rfl
  · have hr := (hF k hk.1 hk.2.1 hk.2.2).2
    rw [h1] at hr ⊢
    generalize (rd_T46 l k).f2 = rs at hr
    induction rs with
    | nil => rfl
    | cons r rs ih =>
      simp only [rulesv]
      split
      · have := putv_in (o := r.f1) ha
        have h2 := ((hr r (List.mem_cons_self)).one rfl).2
        simp only [ruleres]; rw [if_pos (by simp)]; simp only; omega
      · exact ih (fun r hr2 => hr r (List.mem_cons_of_mem _ hr2))
theorem lig_len {l : List S46} {marks : List Bool} {n : Nat} {k : Int} {line : List Int} {a : Int} (hF : Formed l) (hk : Valid l k) (ha : C.Place line a) (h3 : (rd_T46 l k).f0 = 3) : (onev l marks n k line a).1.length ≤ line.length := by
  rw [onev_eq]; unfold atv
  split
  · exact Nat.le_refl _
  · have hr := (hF k hk.1 hk.2.1 hk.2.2).2
    rw [h3] at hr ⊢
    generalize (rd_T46 l k).f2 = rs at hr
    induction rs with
    | nil => exact Nat.le_refl _
    | cons r rs ih =>
      simp only [rulesv]
      split
      · have h2 := ((hr r (List.mem_cons_self)).lig rfl).2
        have h4 := ligv_len (meetv line marks a r.f0 (rd_T46 l k).f1).1 ((meetv line marks a r.f0 (rd_T46 l k).f1).1.length - 1) line
        have h5 := putv_one (line := ligv (meetv line marks a r.f0 (rd_T46 l k).f1).1 ((meetv line marks a r.f0 (rd_T46 l k).f1).1.length - 1) line) (a := a) (o := r.f1) (by omega)
        simp only [ruleres]; rw [if_neg (by simp), if_pos trivial]; simp only; omega
      · exact ih (fun r hr2 => hr r (List.mem_cons_of_mem _ hr2))
theorem lineF_single {l : List S46} {marks : List Bool} {k : Int} (hF : Formed l) (hk : Valid l k) (h1 : (rd_T46 l k).f0 = 1) (d : Nat) : ∀ (line : List Int) (a : Int), 0 ≤ a → line.length ≤ 100 → (lineF l marks k d line a).2 = 0 ∧ (lineF l marks k d line a).1.length = line.length := by
  induction d with
  | zero => intro line a _ _; exact ⟨rfl, rfl⟩
  | succ d ih =>
    intro line a h0 hl
    simp only [lineF]
    split
    · next hlt =>
      have ha : C.Place line a := ⟨h0, hlt⟩
      have hs := single_len (marks := marks) (n := 7) hF hk ha h1
      split
      · next hok =>
        have hp := onev_prog hF hk ha hok
        rw [if_neg (by omega)]
        have := ih (onev l marks 7 k line a).1 (onev l marks 7 k line a).2.1 (by omega) (by omega)
        exact ⟨this.1, by omega⟩
      · exact ih line (a + 1) (by omega) hl
    · exact ⟨rfl, rfl⟩
theorem lineF_lig {l : List S46} {marks : List Bool} {k : Int} (hF : Formed l) (hk : Valid l k) (h1 : (rd_T46 l k).f0 = 3) (d : Nat) : ∀ (line : List Int) (a : Int), 0 ≤ a → line.length ≤ 100 → (lineF l marks k d line a).2 = 0 ∧ (lineF l marks k d line a).1.length ≤ line.length := by
  induction d with
  | zero => intro line a _ _; exact ⟨rfl, Nat.le_refl _⟩
  | succ d ih =>
    intro line a h0 hl
    simp only [lineF]
    split
    · next hlt =>
      have ha : C.Place line a := ⟨h0, hlt⟩
      have hs := lig_len (marks := marks) (n := 7) hF hk ha h1
      split
      · next hok =>
        have hp := onev_prog hF hk ha hok
        rw [if_neg (by omega)]
        have := ih (onev l marks 7 k line a).1 (onev l marks 7 k line a).2.1 (by omega) (by omega)
        exact ⟨this.1, by omega⟩
      · exact ih line (a + 1) (by omega) hl
    · exact ⟨rfl, Nat.le_refl _⟩
theorem lineF_code {l : List S46} {marks : List Bool} {k : Int} (d : Nat) : ∀ (line : List Int) (a : Int), (lineF l marks k d line a).2 = 0 ∨ (lineF l marks k d line a).2 = 3 := by
  induction d with
  | zero => intro line a; exact .inl rfl
  | succ d ih =>
    intro line a
    simp only [lineF]
    split
    · split
      · split
        · exact .inr rfl
        · exact ih _ _
      · exact ih _ _
    · exact .inl rfl
theorem SubstLengths : foundrylaw20_SubstLengths.Pure := by
  intro l k line marks hl _ hx _
  have hs := sized_of hl.1 hl.2
  refine Ev.rounds ?_
  refine Ev.bind awake20_ev (Ev.congr (fun f => if_pos rfl) ?_)
  obtain ⟨b, hb, hb2⟩ := few20_ev l line marks hs
  have hno : Ev (fun f => foundrylaw20_SubstLengths.j0 f l k true line marks) true :=
    Ev.step (fun f => (foundrylaw20_SubstLengths.j0.eq_2 l k true line marks f).trans (if_pos rfl)) (Ev.bind awake20_ev (Ev.now true))
  refine Ev.bind hb ?_
  cases b with
  | false => exact Ev.congr (fun f => if_neg (by simp)) hno
  | true =>
    refine Ev.congr (fun f => if_pos rfl) ?_
    by_cases h1 : k < 0
    · exact Ev.congr (fun f => if_pos h1) hno
    by_cases h2 : k ≥ (l.length : Int)
    · exact Ev.congr (fun f => (if_neg h1).trans (if_pos h2)) hno
    refine Ev.congr (fun f => (if_neg h1).trans ((if_neg h2).trans (by rw [formed_eq, Option.bind_some]))) ?_
    by_cases hf : formedv l 65536 = true
    · refine Ev.congr (fun f => if_pos hf) ?_
      by_cases h100 : (line.length : Int) > 100
      · rw [decide_eq_true h100]; exact hno
      · rw [decide_eq_false h100]
        refine Ev.step (fun f => (foundrylaw20_SubstLengths.j0.eq_2 l k false line marks f).trans (if_neg (by simp))) (Ev.bind (line_ev l marks k line) (Ev.bind (line_ev l marks k []) ?_))
        have hF := (formedv_all hf).1
        have e1 : ∀ x : List Int, ¬ (x.length : Int) > 100 → linev l k marks x = if putsv (rd_T46 l k).f0 = true then lineF l marks k x.length x 0 else (x, 0) := by
          intro x hx2; unfold linev; rw [if_pos hf, if_neg hx2, if_neg h1, if_neg h2]
        have e2 : linev l k marks [] = ([], 0) := by
          rw [e1 [] (by simp)]
          split <;> rfl
        rw [e2]
        refine Ev.congr (fun f => if_pos rfl) ?_
        refine Ev.step (fun f => (foundrylaw20_SubstLengths.j1.eq_2 l k (linev l k marks line).1 (linev l k marks line).2 false line marks f).trans ((if_neg (by simp)).trans ((if_pos (by omega)).trans (if_pos (by omega))))) ?_
        rw [e1 line h100]
        by_cases c1 : (rd_T46 l k).f0 = 1
        · have hp : putsv (rd_T46 l k).f0 = true := by rw [c1]; rfl
          obtain ⟨q1, q2⟩ := lineF_single (marks := marks) hF ⟨by omega, by omega, hp⟩ c1 line.length line 0 (by omega) (by omega)
          rw [if_pos hp]
          refine Ev.congr (fun f => (if_pos c1).trans (if_pos q1)) (Ev.congr (fun f => ?_) (Ev.now true))
          rw [q2]; simp
        by_cases c3 : (rd_T46 l k).f0 = 3
        · have hp : putsv (rd_T46 l k).f0 = true := by rw [c3]; rfl
          obtain ⟨q1, q2⟩ := lineF_lig (marks := marks) hF ⟨by omega, by omega, hp⟩ c3 line.length line 0 (by omega) (by omega)
          rw [if_pos hp]
          refine Ev.congr (fun f => (if_neg c1).trans ((if_pos c3).trans (if_pos q1))) (Ev.congr (fun f => ?_) (Ev.now true))
          rw [decide_eq_true (by omega)]
        · refine Ev.congr (fun f => (if_neg c1).trans (if_neg c3)) (Ev.congr (fun f => ?_) (Ev.now true))
          by_cases hp : putsv (rd_T46 l k).f0 = true
          · rw [if_pos hp]
            rcases lineF_code (l := l) (marks := marks) (k := k) line.length line 0 with h | h
            · rw [if_pos h]
            · rw [if_neg (by omega), h]; rfl
          · rw [if_neg hp, if_pos rfl]
    · exact Ev.congr (fun f => if_neg hf) hno
end Go.Proofs.Ytoldahmgjenlaaa.Pure
