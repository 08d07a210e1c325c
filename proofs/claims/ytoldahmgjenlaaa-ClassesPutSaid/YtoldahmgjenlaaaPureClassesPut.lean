/- ClassesPut: glyphs are put into every line of at most 200 glyphs, in the place of any others, as the reference says, and the line that was handed in stays as it was. -/
import Derived.Test.YtoldahmgjenlaaaStClassesPut
import Derived.Test.YtoldahmgjenlaaaC2
namespace Go.Proofs.Ytoldahmgjenlaaa.Pure
open Go.RowKit Go.Proofs.Ytoldahmgjenlaaa.Q Go.Proofs.YtoldahmgjenlaaaW.PrintWords Go.Proofs.YtoldahmgjenlaaaW.PrintLast Go.Proofs.Ytoldahmgjenlaaa.C

theorem raise_l0 (d : Nat) : ∀ (line o : List Int) (i : Nat), line.length ≤ 200 → o.length ≤ 1000000 → i + d = o.length → Ev (fun k => foundrylaw19_ClassesPut.l0 k line line o (i : Int)) true := by
  induction d with
  | zero =>
    intro line o i h1 h2 hi
    refine Ev.step (f := fun k => (foundryref06_SameInts.f k line line).bind fun t => some t) (fun k => ?_) (Ev.bind (f := fun k t => some t) (same_refl (by omega)) (Ev.now true))
    simp only [foundrylaw19_ClassesPut.l0]; rw [if_neg (by omega)]
  | succ d ih =>
    intro line o i h1 h2 hi
    have e1 : wrap64 ((i : Int) + 1) = ((i + 1 : Nat) : Int) := by rw [w64 (by omega) (by omega)]; rfl
    refine Ev.step (fun k => ?_) (ih line (o.set i (wrap64 (rd o (i : Int) + 1))) (i + 1) h1 (by rw [List.length_set]; exact h2) (by rw [List.length_set]; omega))
    simp only [foundrylaw19_ClassesPut.l0]; rw [if_pos (by omega), if_pos (by omega), e1, Int.toNat_natCast]
theorem ClassesPut : foundrylaw19_ClassesPut.Pure := by
  intro line out a b _ _ _ _
  refine Ev.rounds ?_
  refine Ev.bind awake_ev (Ev.congr (fun k => if_pos rfl) ?_)
  have hno : Ev (fun k => foundrylaw19_ClassesPut.j0 k line out true a b) true :=
    Ev.step (f := fun k => (foundrylaw19_awake.f k).bind fun s => some s) (fun k => by simp only [foundrylaw19_ClassesPut.j0]; exact if_pos trivial) (Ev.bind (f := fun k s => some s) awake_ev (Ev.now true))
  by_cases h1 : (line.length : Int) > 200
  · exact Ev.congr (fun k => if_pos h1) hno
  refine Ev.congr (fun k => if_neg h1) ?_
  by_cases h2 : (out.length : Int) > 200
  · rw [decide_eq_true h2]; exact hno
  rw [decide_eq_false h2]
  have l1 : line.length ≤ 200 := by omega
  have l2 : out.length ≤ 200 := by omega
  clear hno h1 h2
  have hl := putv_len line a b out
  refine Ev.step (f := fun k => (foundryref06_SameInts.f k (putv line a b out) (putv line a b out)).bind fun t => if t = true then foundrylaw19_ClassesPut.l0 k line line (putv line a b out) 0 else some false) (fun k => ?_) ?_
  · simp only [foundrylaw19_ClassesPut.j0]
    rw [if_neg (by simp), if_pos (by simp; omega), put_eq a b (by omega) (by omega), rput_eq a b (by omega) (by omega), Option.bind_some, Option.bind_some, List.nil_append]
  · exact Ev.bind (same_refl (by omega)) (Ev.congr (fun k => if_pos rfl) (raise_l0 (putv line a b out).length line _ 0 l1 (by omega) (by omega)))
end Go.Proofs.Ytoldahmgjenlaaa.Pure
