/- ClassesBack: from the next place with skip the nearest one back that is no mark is the place itself, if that is no mark (lines of at most 200 glyphs). -/
import Derived.Test.YtoldahmgjenlaaaStClassesBack
import Derived.Test.YtoldahmgjenlaaaC1
namespace Go.Proofs.Ytoldahmgjenlaaa.Pure
open Go.RowKit Go.Proofs.Ytoldahmgjenlaaa.Q Go.Proofs.YtoldahmgjenlaaaW.PrintWords Go.Proofs.YtoldahmgjenlaaaW.PrintLast Go.Proofs.Ytoldahmgjenlaaa.C
set_option linter.unusedVariables false
theorem cb_l0 (d : Nat) : ∀ (line : List Int) (marks : List Bool) (i : Nat), i + d = line.length → line.length ≤ 200 → (∀ j : Nat, i ≤ j → j < line.length → markv marks (line.getD j 0) = true) →
    Ev (fun k => foundrylaw19_ClassesBack.l0 k (i : Int) line marks) true := by
  induction d with
  | zero =>
    intro line marks i hi hl hj
    refine ev_some fun k => ?_
    simp only [foundrylaw19_ClassesBack.l0]; rw [if_neg (by omega)]
  | succ d ih =>
    intro line marks i hi hl hj
    refine Ev.step (fun k => ?_) (ih line marks (i + 1) (by omega) hl (fun j h1 h2 => hj j (by omega) h2))
    simp only [foundrylaw19_ClassesBack.l0]
    rw [if_pos (by omega), if_pos (by omega), rd_nat, mark_eq]; simp only [Option.bind_some]
    rw [if_pos (hj i (Nat.le_refl _) (by omega)), w64 (by omega) (by omega)]; rfl
theorem ClassesBack : foundrylaw19_ClassesBack.Pure := by
  intro line marks a _ _ _
  refine Ev.rounds ?_
  refine Ev.bind (f := fun k t => if t = true then (foundrylaw19_few.f line marks).bind fun s => (if s = true then (if a < 0 then foundrylaw19_ClassesBack.j0 k a true line marks else foundrylaw19_ClassesBack.j0 k a (decide (a ≥ (line.length : Int))) line marks) else foundrylaw19_ClassesBack.j0 k a true line marks) else foundrylaw19_ClassesBack.j0 k a true line marks) awake_ev ?_
  rw [few_eq]
  have hno : Ev (fun k => foundrylaw19_ClassesBack.j0 k a true line marks) true := by
    refine Ev.step (f := fun k => (foundrylaw19_awake.f k).bind fun s => some s) (fun k => by simp only [foundrylaw19_ClassesBack.j0]; exact if_pos trivial) ?_
    exact Ev.bind (f := fun k s => some s) awake_ev (Ev.now true)
  by_cases h : line.length ≤ 200 ∧ marks.length ≤ 1000
  · by_cases hp : C.Place line a
    · have hl : line.length ≤ 9000000000000000000 := by omega
      obtain ⟨p0, p1⟩ := hp
      obtain ⟨i, rfl⟩ := Int.eq_ofNat_of_zero_le p0
      refine Ev.congr (f := fun k => foundrylaw19_ClassesBack.j0 k (i : Int) false line marks) (fun k => by simp [h]; rw [if_neg (by omega), decide_eq_false (by omega)]) ?_
      have hn := next_ev line marks (i : Int) true hl
      refine Ev.step (fun k => by simp only [foundrylaw19_ClassesBack.j0]; rw [if_neg (by simp)]) (Ev.bind (f := fun k s => _) hn ?_)
      rcases next_spec line marks (i : Int) true ⟨p0, p1⟩ with ⟨e, hj⟩ | ⟨n, e, h1, h2, h3, hj⟩
      · rw [e]
        refine Ev.congr (fun k => if_pos rfl) ?_
        rw [w64 (by omega) (by omega)]
        exact cb_l0 (line.length - (i + 1)) line marks (i + 1) (by omega) h.1 (fun j g1 g2 => (hj j (by omega) g2).2)
      · rw [e]
        have hm : markv marks (line.getD n 0) = false := by
          cases hq : markv marks (line.getD n 0) with
          | false => rfl
          | true => exact absurd ⟨rfl, hq⟩ h3
        refine Ev.congr (f := fun k => foundrylaw19_ClassesBack.j2 k (i : Int) (n : Int) false line marks) (fun k => ?_) ?_
        · rw [if_neg (by omega), if_neg (by omega), if_neg (by omega), if_pos (by omega), if_pos (by omega), rd_nat, mark_eq, hm]; rfl
        · by_cases hi : markv marks (line.getD i 0) = true
          · refine ev_some fun k => ?_
            simp only [foundrylaw19_ClassesBack.j2]
            rw [if_neg (by simp), if_pos (by omega), if_pos (by omega), rd_nat, mark_eq]; simp only [Option.bind_some]; rw [if_pos hi]
          · have hb := back_ev line marks (n : Int) hl
            have e2 : backv line marks (n : Int) = (i : Int) := by
              unfold backv
              rw [if_pos (show C.Place line (n : Int) from ⟨by omega, by omega⟩)]
              exact down_spec _ line marks i (by omega) (by simpa using hi) (fun j g1 g2 => (hj j (by omega) (by omega)).2)
            rw [e2] at hb
            refine Ev.step (f := fun k => (classes_Back.f k line marks (n : Int)).bind fun t => some (t == (i : Int))) (fun k => ?_) (Ev.bind (f := fun k t => some (t == (i : Int))) hb (ev_some fun k => by simp))
            simp only [foundrylaw19_ClassesBack.j2]
            rw [if_neg (by simp), if_pos (by omega), if_pos (by omega), rd_nat, mark_eq]; simp only [Option.bind_some]; rw [if_neg hi]
    · refine Ev.congr (fun k => ?_) hno
      simp [h]
      intro h0
      rw [decide_eq_true]
      by_cases h1 : (line.length : Int) ≤ a
      · exact h1
      · exact absurd ⟨by omega, by omega⟩ hp
  · refine Ev.congr (fun k => ?_) hno
    simp [h]
end Go.Proofs.Ytoldahmgjenlaaa.Pure
