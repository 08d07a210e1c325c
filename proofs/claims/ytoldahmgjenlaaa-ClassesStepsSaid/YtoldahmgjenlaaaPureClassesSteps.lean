/- ClassesSteps: in every line of at most 200 glyphs each place has the next and the one back that the reference says, and each glyph is told to be a mark or not. -/
import Derived.Test.YtoldahmgjenlaaaStClassesSteps
import Derived.Test.YtoldahmgjenlaaaC1
namespace Go.Proofs.Ytoldahmgjenlaaa.Pure
open Go.RowKit Go.Proofs.Ytoldahmgjenlaaa.Q Go.Proofs.YtoldahmgjenlaaaW.PrintWords Go.Proofs.YtoldahmgjenlaaaW.PrintLast Go.Proofs.Ytoldahmgjenlaaa.C
theorem ClassesSteps : foundrylaw19_ClassesSteps.Pure := by
  intro line marks a skip _ _ _
  refine Ev.rounds ?_
  refine Ev.bind (f := fun k t => if t = true then (foundrylaw19_few.f line marks).bind fun s => foundrylaw19_ClassesSteps.j0 k a skip (!s) line marks else foundrylaw19_ClassesSteps.j0 k a skip true line marks) awake_ev ?_
  rw [few_eq]
  by_cases h : line.length ≤ 200 ∧ marks.length ≤ 1000
  · refine Ev.congr (f := fun k => foundrylaw19_ClassesSteps.j0 k a skip false line marks) (fun k => by simp [h]) ?_
    have hl : line.length ≤ 9000000000000000000 := by omega
    refine Ev.step (fun k => by simp only [foundrylaw19_ClassesSteps.j0]; rw [if_neg (by simp)]) ?_
    refine Ev.bind (f := fun k s => _) (next_ev line marks a skip hl) (Ev.bind (f := fun k s => _) (rnext_ev line marks a skip hl) (Ev.congr (fun k => if_pos rfl) ?_))
    refine Ev.bind (f := fun k s => _) (back_ev line marks a hl) (Ev.bind (f := fun k s => _) (rback_ev line marks a hl) (Ev.congr (fun k => if_pos rfl) ?_))
    exact Ev.congr (fun k => by rw [mark_eq, rmark_eq]; simp) (Ev.now true)
  · refine Ev.congr (f := fun k => foundrylaw19_ClassesSteps.j0 k a skip true line marks) (fun k => by simp [h]) ?_
    refine Ev.step (f := fun k => (foundrylaw19_awake.f k).bind fun s => some s) (fun k => by simp only [foundrylaw19_ClassesSteps.j0]; exact if_pos trivial) ?_
    exact Ev.bind (f := fun k s => some s) awake_ev (Ev.now true)
end Go.Proofs.Ytoldahmgjenlaaa.Pure
