/- Contracts: One, and the reference's. -/
import Derived.Test.YtoldahmgjenlaaaS5
import Derived.Test.YtoldahmgjenlaaaS3
import Derived.Test.YtoldahmgjenlaaaQx26
import Derived.Test.YtoldahmgjenlaaaQx30
namespace Go.Proofs.Ytoldahmgjenlaaa.S
open Go.RowKit Go.Proofs.Ytoldahmgjenlaaa.Q Go.Proofs.YtoldahmgjenlaaaW.PrintWords Go.Proofs.YtoldahmgjenlaaaW.PrintLast Go.Proofs.Ytoldahmgjenlaaa.C
set_option linter.unusedVariables false

theorem copied_eq {l : List Int} (h : l.length ≤ 1000000000) : foundryref20_copied.f l = some l := by
  unfold foundryref20_copied.f
  rw [if_pos (by simp; omega), List.nil_append]
/-- A lookup at a place, asked for from without. -/
def placev (l : List S46) (marks : List Bool) (k : Int) (line : List Int) (a : Int) : List Int × Int × Bool :=
  if 0 ≤ k ∧ k < (l.length : Int) then (if 0 ≤ a ∧ a < (line.length : Int) then (if putsv (rd_T46 l k).f0 = true then (if formedv l 65536 = true then onev l marks 7 k line a else (line, a, false)) else (line, a, false)) else (line, a, false)) else (line, a, false)
theorem placev_len (l : List S46) (marks : List Bool) (k : Int) (line : List Int) (a : Int) : (placev l marks k line a).1.length ≤ line.length + 8 := by
  unfold placev
  split
  · split
    · split
      · split
        · next h1 h2 h3 h4 => exact onev_len (formedv_all h4).1 7 k line a ⟨h1.1, h1.2, h3⟩ ⟨h2.1, h2.2⟩
        · simp only; omega
      · simp only; omega
    · simp only; omega
  · simp only; omega
theorem place_ev (l : List S46) (marks : List Bool) (k : Int) (line : List Int) (a : Int) (hl : line.length ≤ 1000000) : Ev (fun f => subst_One.f f l k marks line a) (placev l marks k line a) := by
  have hno : Ev (fun f => subst_One.j0 f l k marks line a true) (line, a, false) :=
    Ev.step (fun f => (subst_One.j0.eq_2 l k marks line a true f).trans ((if_pos rfl).trans (by rw [clone_eq (by omega), Option.bind_some]))) (Ev.now _)
  unfold placev
  by_cases h1 : k < 0
  · rw [if_neg (by omega)]; exact Ev.congr (fun f => if_pos h1) hno
  by_cases h2 : k ≥ (l.length : Int)
  · rw [if_neg (by omega)]; exact Ev.congr (fun f => (if_neg h1).trans (if_pos h2)) hno
  rw [if_pos (show 0 ≤ k ∧ k < (l.length : Int) from ⟨by omega, by omega⟩)]
  refine Ev.congr (fun f => (if_neg h1).trans ((if_neg h2).trans ((if_pos (by omega)).trans ((if_pos (by omega)).trans (by rw [puts_eq, Option.bind_some]))))) ?_
  by_cases hp : putsv (rd_T46 l k).f0 = true
  · refine Ev.congr (fun f => if_pos hp) ?_
    by_cases h3 : a < 0
    · rw [if_neg (show ¬ (0 ≤ a ∧ a < (line.length : Int)) by omega)]; exact Ev.congr (fun f => if_pos h3) hno
    by_cases h4 : a ≥ (line.length : Int)
    · rw [if_neg (show ¬ (0 ≤ a ∧ a < (line.length : Int)) by omega)]; exact Ev.congr (fun f => (if_neg h3).trans (if_pos h4)) hno
    rw [if_pos (show 0 ≤ a ∧ a < (line.length : Int) from ⟨by omega, by omega⟩), if_pos hp]
    refine Ev.congr (fun f => (if_neg h3).trans ((if_neg h4).trans (by rw [formed_eq, Option.bind_some]))) ?_
    by_cases hf : formedv l 65536 = true
    · rw [if_pos hf, hf]
      have hF := (formedv_all hf).1
      have hlen := onev_len (marks := marks) hF 7 k line a ⟨by omega, by omega, hp⟩ ⟨by omega, by omega⟩
      have ho := one_ev (marks := marks) hF 7 k line a 1 ⟨by omega, by omega, hp⟩ ⟨by omega, by omega⟩ (by omega) (by omega)
      refine Ev.step (fun f => (subst_One.j0.eq_2 l k marks line a _ f).trans (if_neg (by simp))) (Ev.bind ho (Ev.congr (fun f => by rw [clone_eq (by omega), Option.bind_some]) (Ev.now _)))
    · rw [if_neg hf, Bool.eq_false_iff.2 hf]; exact hno
  · have hz : (if 0 ≤ a ∧ a < (line.length : Int) then (if putsv (rd_T46 l k).f0 = true then (if formedv l 65536 = true then onev l marks 7 k line a else (line, a, false)) else (line, a, false)) else (line, a, false)) = (line, a, false) := by
      rw [if_neg hp]; split <;> rfl
    rw [hz]
    exact Ev.congr (fun f => if_neg hp) hno
theorem rplace_ev {l : List S46} (marks : List Bool) (k : Int) (line : List Int) (a : Int) (hB : Big l) (hl : line.length ≤ 1000000) : Ev (fun f => foundryref20_One.f f l k marks line a) (placev l marks k line a) := by
  have hno : Ev (fun f => foundryref20_One.j0 f l k marks line a true) (line, a, false) :=
    Ev.step (fun f => (foundryref20_One.j0.eq_2 l k marks line a true f).trans ((if_pos rfl).trans (by rw [copied_eq (by omega), Option.bind_some]))) (Ev.now _)
  unfold placev
  by_cases h1 : k < 0
  · rw [if_neg (by omega)]; exact Ev.congr (fun f => if_pos h1) hno
  by_cases h2 : k ≥ (l.length : Int)
  · rw [if_neg (by omega)]; exact Ev.congr (fun f => (if_neg h1).trans (if_pos h2)) hno
  rw [if_pos (show 0 ≤ k ∧ k < (l.length : Int) from ⟨by omega, by omega⟩)]
  refine Ev.congr (fun f => (if_neg h1).trans (if_neg h2)) ?_
  by_cases h3 : a < 0
  · rw [if_neg (show ¬ (0 ≤ a ∧ a < (line.length : Int)) by omega)]; exact Ev.congr (fun f => if_pos h3) hno
  by_cases h4 : a ≥ (line.length : Int)
  · rw [if_neg (show ¬ (0 ≤ a ∧ a < (line.length : Int)) by omega)]; exact Ev.congr (fun f => (if_neg h3).trans (if_pos h4)) hno
  rw [if_pos (show 0 ≤ a ∧ a < (line.length : Int) from ⟨by omega, by omega⟩)]
  refine Ev.congr (fun f => (if_neg h3).trans (if_neg h4)) (Ev.bind (rformed_ev 65536 hB) ?_)
  by_cases hf : formedv l 65536 = true
  · rw [hf]
    refine Ev.congr (fun f => (if_pos rfl).trans ((if_pos (by omega)).trans ((if_pos (by omega)).trans (by rw [rputs_eq, Option.bind_some])))) ?_
    by_cases hp : putsv (rd_T46 l k).f0 = true
    · rw [if_pos hp, hp, if_pos rfl]
      have hF := (formedv_all hf).1
      have hlen := onev_len (marks := marks) hF 7 k line a ⟨by omega, by omega, hp⟩ ⟨by omega, by omega⟩
      have ho := rone_ev (marks := marks) hF 7 k line a 1 ⟨by omega, by omega, hp⟩ ⟨by omega, by omega⟩ (by omega) (by omega)
      refine Ev.step (fun f => (foundryref20_One.j0.eq_2 l k marks line a _ f).trans (if_neg (by simp))) (Ev.bind ho (Ev.congr (fun f => by rw [copied_eq (by omega), Option.bind_some]) (Ev.now _)))
    · rw [if_neg hp, Bool.eq_false_iff.2 hp]; exact hno
  · rw [Bool.eq_false_iff.2 hf]
    have hz : (if putsv (rd_T46 l k).f0 = true then (if false = true then onev l marks 7 k line a else (line, a, false)) else (line, a, false)) = (line, a, false) := by
      rw [if_neg Bool.false_ne_true]; split <;> rfl
    rw [hz]
    exact Ev.congr (fun f => if_neg Bool.false_ne_true) hno
end Go.Proofs.Ytoldahmgjenlaaa.S
