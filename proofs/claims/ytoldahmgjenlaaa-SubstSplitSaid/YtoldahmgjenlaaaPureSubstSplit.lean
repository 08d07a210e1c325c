/- SubstSplit: what a Multiple splits into two glyphs that aren't split, a Ligature of these puts together again, in every line of at most 50 glyphs that holds none of the two. -/
import Derived.Test.YtoldahmgjenlaaaStSubstSplit
import Derived.Test.YtoldahmgjenlaaaS7
namespace Go.Proofs.Ytoldahmgjenlaaa.Pure
open Go.RowKit Go.Proofs.Ytoldahmgjenlaaa.Q Go.Proofs.YtoldahmgjenlaaaW.PrintWords Go.Proofs.YtoldahmgjenlaaaW.PrintLast Go.Proofs.Ytoldahmgjenlaaa.C Go.Proofs.Ytoldahmgjenlaaa.S
set_option linter.unusedVariables false

theorem wf_u8 {n : Int} (h : (Lit.int .u8 n).wf = true) : 0 ≤ n ∧ n ≤ 255 := by
  simp only [Lit.wf, IntKind.min, IntKind.max, IntKind.signed, IntKind.bits] at h
  simpa using h
def z0 : S41 := ⟨0, 0⟩
def two (p q r : Int) : List S46 := [⟨2, false, [⟨[p], [q, r], 0, 0, z0, z0, z0⟩]⟩, ⟨3, false, [⟨[q, r], [p], 0, 0, z0, z0, z0⟩]⟩]
theorem not_bad {g : Int} (h0 : 0 ≤ g) (h1 : g < 65536) : badv 65536 g = false := by
  unfold badv; rw [decide_eq_false (by omega), decide_eq_false (by omega)]; rfl
theorem two_formed {p q r : Int} (hp : 0 ≤ p ∧ p < 65536) (hq : 0 ≤ q ∧ q < 65536) (hr : 0 ≤ r ∧ r < 65536) : formedv (two p q r) 65536 = true := by
  have b1 := not_bad hp.1 hp.2
  have b2 := not_bad hq.1 hq.2
  have b3 := not_bad hr.1 hr.2
  simp [formedv, two, lookv, rulew, rulev, shapev, putsv, b1, b2, b3, z0]
theorem two_at0 (p q r : Int) : rd_T46 (two p q r) 0 = ⟨2, false, [⟨[p], [q, r], 0, 0, z0, z0, z0⟩]⟩ := rfl
theorem two_at1 (p q r : Int) : rd_T46 (two p q r) 1 = ⟨3, false, [⟨[q, r], [p], 0, 0, z0, z0, z0⟩]⟩ := rfl
theorem split_line {p q r : Int} (hp : 0 ≤ p ∧ p < 65536) (hq : 0 ≤ q ∧ q < 65536) (hr : 0 ≤ r ∧ r < 65536) {line : List Int} (h : line.length ≤ 50) : linev (two p q r) 0 [] line = (splitL p q r line, 0) := by
  have hl : (two p q r).length = 2 := rfl
  unfold linev
  rw [if_pos (two_formed hp hq hr), if_neg (by omega), if_neg (by omega), if_neg (by rw [hl]; omega), two_at0, if_pos (by rfl)]
  have := multi_line (marks := []) (two_at0 p q r) line line.length [] (Nat.le_refl _) (by simp; omega)
  simpa using this
theorem join_line {p q r : Int} (hp : 0 ≤ p ∧ p < 65536) (hq : 0 ≤ q ∧ q < 65536) (hr : 0 ≤ r ∧ r < 65536) {line : List Int} (h : line.length ≤ 50) (hn : ∀ x ∈ line, x ≠ q) : linev (two p q r) 1 [] (splitL p q r line) = (line, 0) := by
  have hl : (two p q r).length = 2 := rfl
  have hc : (splitL p q r line).length ≤ 100 := by rw [splitL_len]; have := List.count_le_length (l := line) (a := p); omega
  unfold linev
  rw [if_pos (two_formed hp hq hr), if_neg (by omega), if_neg (by omega), if_neg (by rw [hl]; omega), two_at1, if_pos (by rfl)]
  have := lig_line (marks := []) (two_at1 p q r) line (splitL p q r line).length [] (Nat.le_refl _) (by simp; omega) hn
  simpa using this
theorem up1 {i : Nat} (h : i ≤ 1000000) : wrap64 ((i : Int) + 1) = ((i + 1 : Nat) : Int) := by rw [w1 (by omega) (by omega)]; rfl
theorem in_of {i : Nat} {line : List Int} (h : i < line.length) : (i : Int) < (line.length : Int) := by omega
theorem at_least (i : Nat) : (0 : Int) ≤ (i : Int) := by omega
theorem count_snoc (line : List Int) (p : Int) (i : Nat) (h : i < line.length) : (line.take (i + 1)).count p = (line.take i).count p + (if line.getD i 0 = p then 1 else 0) := by
  rw [C.take_snoc line i h, List.count_append, List.count_singleton]
  by_cases c : line.getD i 0 = p
  · rw [if_pos c, c]; simp
  · rw [if_neg c, if_neg (by simpa using c)]
theorem split_l1 (d : Nat) : ∀ (line : List Int) (p q r : Int) (i : Nat), (0 ≤ p ∧ p < 65536) → (0 ≤ q ∧ q < 65536) → (0 ≤ r ∧ r < 65536) → line.length ≤ 50 → (∀ x ∈ line, x ≠ q) → i + d = line.length →
    Ev (fun f => foundrylaw20_SubstSplit.l1 f line p (two p q r) (((line.length + (line.take i).count p : Nat)) : Int) (i : Int)) true := by
  induction d with
  | zero =>
    intro line p q r i hp hq hr hl hn hi
    have h1 := line_ev (two p q r) [] 0 line
    have h2 := all_ev (two p q r) [0, 1] [] line (by simp) (by omega)
    have e : allF (two p q r) [] [0, 1] line = (line, 0) := by
      simp only [allF]
      rw [split_line hp hq hr hl, join_line hp hq hr hl hn]; rfl
    rw [e] at h2
    rw [split_line hp hq hr hl] at h1
    refine Ev.step (fun f => (foundrylaw20_SubstSplit.l1.eq_2 line p (two p q r) _ (i : Int) f).trans (if_neg (by omega))) (Ev.bind h1 (Ev.bind h2 ?_))
    rw [List.take_of_length_le (by omega)]
    refine Ev.congr (fun f => (if_pos rfl).trans ((if_pos rfl).trans (if_pos (by simp only [splitL_len])))) ?_
    exact Ev.bind (same_refl (show line.length ≤ 9000000000000000000 by omega)) (Ev.now true)
  | succ d ih =>
    intro line p q r i hp hq hr hl hn hi
    have hil : i < line.length := by omega
    have hc := count_snoc line p i hil
    have hcl : (line.take i).count p ≤ 50 := by
      have hcl := List.count_le_length (l := line.take i) (a := p)
      rw [List.length_take] at hcl; omega
    have e1 := up1 (i := i) (by omega)
    have e2 := up1 (i := line.length + (line.take i).count p) (by omega)
    have h := ih line p q r (i + 1) hp hq hr hl hn (by omega)
    refine Ev.step (fun f => (foundrylaw20_SubstSplit.l1.eq_2 line p (two p q r) _ (i : Int) f).trans ((if_pos (in_of hil)).trans (if_pos (at_least i)))) ?_
    by_cases c : rd line (i : Int) = p
    · rw [if_pos (by rwa [rd_nat] at c)] at hc
      rw [hc, ← Nat.add_assoc] at h
      rw [e1, e2]
      exact Ev.congr (fun f => if_pos c) h
    · rw [if_neg (by rwa [rd_nat] at c)] at hc
      rw [hc, Nat.add_zero] at h
      rw [e1]
      exact Ev.congr (fun f => if_neg c) h
theorem split_l0 (d : Nat) : ∀ (line : List Int) (p q r : Int) (i : Nat), (0 ≤ p ∧ p < 65536) → (0 ≤ q ∧ q < 65536) → (0 ≤ r ∧ r < 65536) → line.length ≤ 50 → (∀ j, j < i → line.getD j 0 ≠ q) → i + d = line.length →
    Ev (fun f => foundrylaw20_SubstSplit.l0 f line p q r (i : Int)) true := by
  induction d with
  | zero =>
    intro line p q r i hp hq hr hl hn hi
    have hx : ∀ x ∈ line, x ≠ q := by
      intro x hx
      obtain ⟨j, hj, rfl⟩ := List.mem_iff_getElem.1 hx
      have := hn j (by omega)
      rwa [C.getD_lt hj] at this
    have h := split_l1 line.length line p q r 0 hp hq hr hl hx (by omega)
    refine Ev.step (fun f => (foundrylaw20_SubstSplit.l0.eq_2 line p q r (i : Int) f).trans (if_neg (by omega))) ?_
    rw [List.take_zero, List.count_nil, Nat.add_zero] at h
    exact h
  | succ d ih =>
    intro line p q r i hp hq hr hl hn hi
    have e1 := up1 (i := i) (by omega)
    have hs : ∀ f, foundrylaw20_SubstSplit.l0 (f + 1) line p q r (i : Int) = _ := fun f => (foundrylaw20_SubstSplit.l0.eq_2 line p q r (i : Int) f).trans ((if_pos (in_of (by omega))).trans (if_pos (at_least i)))
    by_cases c1 : rd line (i : Int) = q
    · exact Ev.step (fun f => (hs f).trans (if_pos c1)) (Ev.now true)
    by_cases c2 : rd line (i : Int) = r
    · exact Ev.step (fun f => (hs f).trans ((if_neg c1).trans (if_pos c2))) (Ev.now true)
    · refine Ev.step (fun f => (hs f).trans ((if_neg c1).trans ((if_neg c2).trans (by rw [e1])))) (ih line p q r (i + 1) hp hq hr hl (fun j hj => ?_) (by omega))
      by_cases e : j = i
      · subst e; exact c1
      · exact hn j (by omega)
theorem split_awake : foundrylaw20_awake.f 40 = some true := by decide +kernel
theorem SubstSplit : foundrylaw20_SubstSplit.Pure := by
  intro line a b c _ ha hb hc
  have ha := wf_u8 ha
  have hb := wf_u8 hb
  have hc := wf_u8 hc
  have haw : Ev (fun k => foundrylaw20_awake.f k) true := Ev.of foundrylaw20_awake.mono split_awake
  refine Ev.rounds ?_
  refine Ev.bind haw (Ev.congr (fun f => if_pos rfl) ?_)
  rw [w1 (x := a) (by omega) (by omega), w1 (x := b) (by omega) (by omega), w1 (x := c) (by omega) (by omega), w1 (x := 300 + b) (by omega) (by omega), w1 (x := 600 + c) (by omega) (by omega)]
  by_cases h : (line.length : Int) > 50
  · rw [decide_eq_true h]
    exact Ev.step (fun f => (foundrylaw20_SubstSplit.j0.eq_2 line a (300 + b) (600 + c) true f).trans (if_pos rfl)) (Ev.bind haw (Ev.now true))
  · rw [decide_eq_false h]
    exact Ev.step (fun f => (foundrylaw20_SubstSplit.j0.eq_2 line a (300 + b) (600 + c) false f).trans (if_neg (by simp))) (split_l0 line.length line a (300 + b) (600 + c) 0 (by omega) (by omega) (by omega) (by omega) (fun j hj => by omega) (by omega))
end Go.Proofs.Ytoldahmgjenlaaa.Pure
