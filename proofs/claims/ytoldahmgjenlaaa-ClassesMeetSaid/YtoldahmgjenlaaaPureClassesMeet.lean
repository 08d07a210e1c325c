/- ClassesMeet: in every line of at most 200 glyphs, at each place, glyphs are met, or not, where the reference says. -/
import Derived.Test.YtoldahmgjenlaaaStClassesMeet
import Derived.Test.YtoldahmgjenlaaaC1
namespace Go.Proofs.Ytoldahmgjenlaaa.Pure
open Go.RowKit Go.Proofs.Ytoldahmgjenlaaa.Q Go.Proofs.YtoldahmgjenlaaaW.PrintWords Go.Proofs.YtoldahmgjenlaaaW.PrintLast Go.Proofs.Ytoldahmgjenlaaa.C
theorem ClassesMeet : foundrylaw19_ClassesMeet.Pure := by
  intro line marks a gs skip _ _ _ _
  refine Ev.rounds ?_
  refine Ev.bind (f := fun k t => if t = true then (foundrylaw19_few.f line marks).bind fun s => (if s = true then foundrylaw19_ClassesMeet.j0 k a (decide ((gs.length : Int) > 200)) line marks gs skip else foundrylaw19_ClassesMeet.j0 k a true line marks gs skip) else foundrylaw19_ClassesMeet.j0 k a true line marks gs skip) awake_ev ?_
  rw [few_eq]
  have hno : Ev (fun k => foundrylaw19_ClassesMeet.j0 k a true line marks gs skip) true := by
    refine Ev.step (f := fun k => (foundrylaw19_awake.f k).bind fun s => some s) (fun k => by simp only [foundrylaw19_ClassesMeet.j0]; exact if_pos trivial) ?_
    exact Ev.bind (f := fun k s => some s) awake_ev (Ev.now true)
  by_cases h : line.length ≤ 200 ∧ marks.length ≤ 1000
  · by_cases hg : gs.length ≤ 200
    · refine Ev.congr (f := fun k => foundrylaw19_ClassesMeet.j0 k a false line marks gs skip) (fun k => by simp [h]; rw [decide_eq_false (show ¬ (200 : Int) < (gs.length : Int) by omega)]) ?_
      have hl : line.length ≤ 9000000000000000000 := by omega
      refine Ev.step (fun k => by simp only [foundrylaw19_ClassesMeet.j0]; rw [if_neg (by simp)]) ?_
      refine Ev.bind (f := fun k s => _) (meet_ev line marks a gs skip hl (by omega)) (Ev.bind (f := fun k s => _) (rmeet_ev line marks a gs skip hl (by omega)) (Ev.congr (fun k => if_pos (by simp)) ?_))
      exact Ev.bind (f := fun k s => some s) (same_refl (by have := meetv_len line marks a gs skip; omega)) (Ev.now true)
    · refine Ev.congr (fun k => ?_) hno
      simp [h]; rw [decide_eq_true (show (200 : Int) < (gs.length : Int) by omega)]
  · refine Ev.congr (fun k => ?_) hno
    simp [h]
end Go.Proofs.Ytoldahmgjenlaaa.Pure
