/- SubstSingle: two glyphs are swapped by a Single lookup, and twice the lookup is no change, in every line of at most 100 glyphs. -/
import Derived.Test.YtoldahmgjenlaaaStSubstSingle
import Derived.Test.YtoldahmgjenlaaaS7
namespace Go.Proofs.Ytoldahmgjenlaaa.Pure
open Go.RowKit Go.Proofs.Ytoldahmgjenlaaa.Q Go.Proofs.YtoldahmgjenlaaaW.PrintWords Go.Proofs.YtoldahmgjenlaaaW.PrintLast Go.Proofs.Ytoldahmgjenlaaa.C Go.Proofs.Ytoldahmgjenlaaa.S
set_option linter.unusedVariables false

theorem wf_u8 {n : Int} (h : (Lit.int .u8 n).wf = true) : 0 ≤ n ∧ n ≤ 255 := by
  simp only [Lit.wf, IntKind.min, IntKind.max, IntKind.signed, IntKind.bits] at h
  simpa using h
def z0 : S41 := ⟨0, 0⟩
def one (skip : Bool) (p q : Int) : List S46 := [⟨1, skip, [⟨[p], [q], 0, 0, z0, z0, z0⟩, ⟨[q], [p], 0, 0, z0, z0, z0⟩]⟩]
theorem not_bad {g : Int} (h0 : 0 ≤ g) (h1 : g < 65536) : badv 65536 g = false := by
  unfold badv; rw [decide_eq_false (by omega), decide_eq_false (by omega)]; rfl
theorem one_formed {skip : Bool} {p q : Int} (hp : 0 ≤ p ∧ p < 65536) (hq : 0 ≤ q ∧ q < 65536) : formedv (one skip p q) 65536 = true := by
  have b1 := not_bad hp.1 hp.2
  have b2 := not_bad hq.1 hq.2
  simp [formedv, one, lookv, rulew, rulev, shapev, putsv, b1, b2, z0]
theorem one_at (skip : Bool) (p q : Int) : rd_T46 (one skip p q) 0 = ⟨1, skip, [⟨[p], [q], 0, 0, z0, z0, z0⟩, ⟨[q], [p], 0, 0, z0, z0, z0⟩]⟩ := rfl
theorem swap_line {skip : Bool} {marks : List Bool} {p q : Int} (hp : 0 ≤ p ∧ p < 65536) (hq : 0 ≤ q ∧ q < 65536) (hm : skip = true → marks = []) {line : List Int} (h : line.length ≤ 100) : linev (one skip p q) 0 marks line = (line.map (swapv p q), 0) := by
  have hl : (one skip p q).length = 1 := rfl
  unfold linev
  rw [if_pos (one_formed hp hq), if_neg (by omega), if_neg (by omega), if_neg (by rw [hl]; omega), one_at, if_pos (by rfl)]
  have := single_line (one_at skip p q) hm line line.length [] (Nat.le_refl _) (by simp; omega)
  simpa using this
theorem swap_swap (p q x : Int) : swapv p q (swapv p q x) = x := by
  unfold swapv
  by_cases c : x = p
  · rw [if_pos c]
    by_cases e : q = p
    · rw [if_pos e, e, c]
    · rw [if_neg e, if_pos rfl, c]
  · rw [if_neg c]
    by_cases e : x = q
    · rw [if_pos e, if_pos rfl, e]
    · rw [if_neg e, if_neg c, if_neg e]
theorem swap_twice (p q : Int) (line : List Int) : (line.map (swapv p q)).map (swapv p q) = line := by
  rw [List.map_map]
  conv => rhs; rw [← List.map_id line]
  exact List.map_congr_left fun x _ => swap_swap p q x
theorem up1 {i : Nat} (h : i ≤ 1000000) : wrap64 ((i : Int) + 1) = ((i + 1 : Nat) : Int) := by rw [w1 (by omega) (by omega)]; rfl
theorem in_of {i : Nat} {line : List Int} (h : i < line.length) : (i : Int) < (line.length : Int) := by omega
theorem at_least (i : Nat) : (0 : Int) ≤ (i : Int) := by omega
theorem swap_l0 (marks : List Bool) (d : Nat) : ∀ (line : List Int) (p q : Int) (i : Nat), line.length ≤ 100 → i + d = line.length →
    Ev (fun f => foundrylaw20_SubstSingle.l0 f p q (line.map (swapv p q)) (i : Int) line marks) true := by
  induction d with
  | zero =>
    intro line p q i hl hi
    exact Ev.step (fun f => (foundrylaw20_SubstSingle.l0.eq_2 p q (line.map (swapv p q)) (i : Int) line marks f).trans (if_neg (by rw [List.length_map]; omega))) (Ev.now true)
  | succ d ih =>
    intro line p q i hl hi
    have hil : i < line.length := by omega
    have e1 := up1 (i := i) (by omega)
    have h := ih line p q (i + 1) hl (by omega)
    have hr : rd (line.map (swapv p q)) (i : Int) = swapv p q (rd line (i : Int)) := by
      rw [rd_nat, rd_nat]; simp [List.getD, hil]
    refine Ev.step (fun f => (foundrylaw20_SubstSingle.l0.eq_2 p q (line.map (swapv p q)) (i : Int) line marks f).trans ((if_pos (in_of (by rw [List.length_map]; exact hil))).trans ((if_pos (at_least i)).trans (if_pos (in_of hil))))) ?_
    rw [e1, hr]
    by_cases c : rd line (i : Int) = p
    · exact Ev.congr (fun f => (if_pos c).trans (if_pos (by unfold swapv; rw [if_pos c]))) h
    by_cases e : rd line (i : Int) = q
    · exact Ev.congr (fun f => (if_neg c).trans ((if_pos e).trans (if_pos (by unfold swapv; rw [if_neg c, if_pos e])))) h
    · exact Ev.congr (fun f => (if_neg c).trans ((if_neg e).trans (if_pos (by unfold swapv; rw [if_neg c, if_neg e])))) h
theorem swap_j1 (marks : List Bool) (line : List Int) (p q : Int) (h : line.length ≤ 100) : Ev (fun f => foundrylaw20_SubstSingle.j1 f p q (line.map (swapv p q)) false line marks) true :=
  Ev.step (fun f => (foundrylaw20_SubstSingle.j1.eq_2 p q _ false line marks f).trans (if_neg (by simp))) (swap_l0 marks line.length line p q 0 h (by omega))
theorem swap_j3 (marks : List Bool) (line : List Int) (p q : Int) (h : line.length ≤ 100) : Ev (fun f => foundrylaw20_SubstSingle.j3 f p q (line.map (swapv p q)) false line marks) true :=
  Ev.step (fun f => (foundrylaw20_SubstSingle.j3.eq_2 p q _ false line marks f).trans (if_neg (by simp))) (swap_l0 marks line.length line p q 0 h (by omega))
theorem single_awake : foundrylaw20_awake.f 40 = some true := by decide +kernel
theorem awake_yes : Ev (fun k => foundrylaw20_awake.f k) true := Ev.of foundrylaw20_awake.mono single_awake
theorem swap_j0t (line : List Int) (marks : List Bool) (p q : Int) (skip : Bool) : Ev (fun f => foundrylaw20_SubstSingle.j0 f skip p q true line marks) true :=
  Ev.step (fun f => (foundrylaw20_SubstSingle.j0.eq_2 skip p q true line marks f).trans (if_pos rfl)) (Ev.bind awake_yes (Ev.now true))
theorem len_map (line : List Int) (p q : Int) : ((line.map (swapv p q)).length : Int) = (line.length : Int) := by rw [List.length_map]
theorem swap_j0 (line : List Int) (marks : List Bool) (p q : Int) (skip : Bool) (hp : 0 ≤ p ∧ p ≤ 255) (hq : 0 ≤ q ∧ q ≤ 255) (h : line.length ≤ 100) (hk : marks.length ≤ 1000) : Ev (fun f => foundrylaw20_SubstSingle.j0 f skip p q false line marks) true := by
  have ep : wrap64 p = p := w1 (by omega) (by omega)
  have eq : wrap64 q = q := w1 (by omega) (by omega)
  have hs := same_refl (a := line) (Nat.le_trans h (by decide))
  refine Ev.step (fun f => (foundrylaw20_SubstSingle.j0.eq_2 skip p q false line marks f).trans (if_neg (by simp))) ?_
  rw [ep, eq]
  refine Ev.congr (fun f => (Option.bind_some _ _).trans (Option.bind_some _ _)) ?_
  cases skip with
  | true =>
    have h1 := line_ev (one true p q) [] 0 line
    have h2 := line_ev (one true p q) [] 0 (line.map (swapv p q))
    rw [swap_line ⟨hp.1, by omega⟩ ⟨hq.1, by omega⟩ (fun _ => rfl) h] at h1
    rw [swap_line ⟨hp.1, by omega⟩ ⟨hq.1, by omega⟩ (fun _ => rfl) (by rw [List.length_map]; exact h), swap_twice] at h2
    refine Ev.congr (fun f => if_pos rfl) (Ev.bind h1 (Ev.bind h2 (Ev.congr (fun f => (if_pos rfl).trans ((if_pos rfl).trans (if_pos (len_map line p q)))) (Ev.bind hs ?_))))
    exact swap_j1 marks line p q h
  | false =>
    have h1 := line_ev (one false p q) marks 0 line
    have h2 := line_ev (one false p q) marks 0 (line.map (swapv p q))
    rw [swap_line ⟨hp.1, by omega⟩ ⟨hq.1, by omega⟩ (fun h => by cases h) h] at h1
    rw [swap_line ⟨hp.1, by omega⟩ ⟨hq.1, by omega⟩ (fun h => by cases h) (by rw [List.length_map]; exact h), swap_twice] at h2
    refine Ev.congr (fun f => if_neg (by simp)) (Ev.bind h1 (Ev.bind h2 (Ev.congr (fun f => (if_pos rfl).trans ((if_pos rfl).trans (if_pos (len_map line p q)))) (Ev.bind hs ?_))))
    exact swap_j3 marks line p q h
theorem SubstSingle : foundrylaw20_SubstSingle.Pure := by
  intro line marks a b skip _ _ ha hb
  have ha := wf_u8 ha
  have hb := wf_u8 hb
  refine Ev.rounds ?_
  refine Ev.bind awake_yes (Ev.congr (fun f => if_pos rfl) ?_)
  by_cases h : (line.length : Int) > 100
  · exact Ev.congr (fun f => if_pos h) (swap_j0t line marks a b skip)
  by_cases h2 : (marks.length : Int) > 1000
  · exact Ev.congr (fun f => (if_neg h).trans (if_pos h2)) (swap_j0t line marks a b skip)
  · refine Ev.congr (fun f => (if_neg h).trans (if_neg h2)) ?_
    cases hab : a == b with
    | true => exact swap_j0t line marks a b skip
    | false => exact swap_j0 line marks a b skip ha hb (by omega) (by omega)
end Go.Proofs.Ytoldahmgjenlaaa.Pure
