/- CharsBehind: what a text of characters maps to, and a text behind it, is what both together map to. -/
import Derived.Test.YtimiapghmehnaaaStCharsBehind
import Derived.Test.YtimiapghmehnaaaC1
import Derived.Test.YtimiapghmehnaaaU1
namespace Go.Proofs.Ytimiapghmehnaaa.Pure
open Go.RowKit Go.Proofs.Ytimiapghmehnaaa.Q Go.Proofs.YtimiapghmehnaaaW.PrintWords Go.Proofs.YtimiapghmehnaaaW.PrintLast Go.Proofs.Ytimiapghmehnaaa.C Go.Proofs.Ytimiapghmehnaaa.U
set_option linter.unusedVariables false

theorem map_behind (l : List S33) (xs : List Int) (t : ByteArray) : mapv l (runesL (runesBytes xs ++ t) (runesBytes xs ++ t).size 0) = mapv l (runesL (runesBytes xs) (runesBytes xs).size 0) ++ mapv l (runesL t t.size 0) := by
  rw [runes_behind]; unfold mapv; rw [List.map_append]
theorem map_made (l : List S33) (xs : List Int) : (mapv l (runesL (runesBytes xs) (runesBytes xs).size 0)).length = xs.length := by
  rw [runes_made]; unfold mapv; simp
theorem CharsBehind : foundrylaw17_CharsBehind.Pure := by
  intro l xs t hl _ _
  have hm : l.length ≤ 9223372036854775807 := hl.1
  have hno : Ev (fun k => foundrylaw17_CharsBehind.j0 k l xs t true) true :=
    Ev.step (fun k => (foundrylaw17_CharsBehind.j0.eq_2 l xs t true k).trans ((if_pos rfl).trans (by rw [awake, Option.bind_some]))) (Ev.now true)
  refine Ev.rounds ?_
  refine Ev.congr (f := fun k => if (l.length : Int) > 100 then (foundrylaw17_CharsBehind.j0 k l xs t true) else (if (xs.length : Int) > 1000 then (foundrylaw17_CharsBehind.j0 k l xs t true) else (if (t.size : Int) > 1000 then (foundrylaw17_CharsBehind.j0 k l xs t true) else ((foundrylaw17_fair.f k l 0).bind fun t136 => (foundrylaw17_CharsBehind.j0 k l xs t (!t136)))))) (fun k => ?_) ?_
  · unfold foundrylaw17_CharsBehind.f
    rw [awake, Option.bind_some, if_pos rfl]
  by_cases h1 : (l.length : Int) > 100
  · exact Ev.congr (fun k => if_pos h1) hno
  by_cases h2 : (xs.length : Int) > 1000
  · exact Ev.congr (fun k => (if_neg h1).trans (if_pos h2)) hno
  by_cases h3 : (t.size : Int) > 1000
  · exact Ev.congr (fun k => (if_neg h1).trans ((if_neg h2).trans (if_pos h3))) hno
  obtain ⟨b, hb⟩ := fair_ev 0 hm
  refine Ev.congr (fun k => (if_neg h1).trans ((if_neg h2).trans (if_neg h3))) (Ev.bind hb ?_)
  cases b with
  | false => exact hno
  | true =>
    have s1 : (runesBytes xs).size ≤ 4000 := by have := runesBytes_size_le xs; omega
    have s3 : (runesBytes xs ++ t).size ≤ 5000 := by rw [ByteArray.size_append]; omega
    have m1 := map_eq l (s := runesBytes xs) (by omega)
    have m2 := map_eq l (s := t) (by omega)
    have m3 := map_eq l (s := runesBytes xs ++ t) (by omega)
    have e := map_behind l xs t
    have el := map_made l xs
    have l2 := map_len l t
    rw [e] at m3
    generalize mapv l (runesL (runesBytes xs) (runesBytes xs).size 0) = a at *
    generalize mapv l (runesL t t.size 0) = c at *
    have hs := same_refl (a := a ++ c) (by rw [List.length_append]; omega)
    refine Ev.step (fun k => (foundrylaw17_CharsBehind.j0.eq_2 l xs t false k).trans (if_neg Bool.false_ne_true)) ?_
    refine Ev.congr (f := fun k => (foundryref06_SameInts.f k (a ++ c) (a ++ c)).bind fun t153 => (if t153 = true then (some ((a.length : Int) == (xs.length : Int))) else (some false))) (fun k => ?_) ?_
    · rw [m1, Option.bind_some, if_pos (by simp; omega), Option.bind_some, m2, Option.bind_some, List.nil_append, if_pos (by omega), if_pos (by omega), m3, Option.bind_some]
      rfl
    · refine Ev.bind hs (Ev.congr (fun k => if_pos rfl) (Ev.congr (fun k => ?_) (Ev.now true)))
      rw [el, beq_self_eq_true]
end Go.Proofs.Ytimiapghmehnaaa.Pure
