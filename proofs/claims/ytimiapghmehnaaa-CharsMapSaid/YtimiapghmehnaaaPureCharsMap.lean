/- CharsMap: the program's glyph of a character, and its glyphs of a text, are the reference's. -/
import Derived.Test.YtimiapghmehnaaaStCharsMap
import Derived.Test.YtimiapghmehnaaaC1
namespace Go.Proofs.Ytimiapghmehnaaa.Pure
open Go.RowKit Go.Proofs.Ytimiapghmehnaaa.Q Go.Proofs.YtimiapghmehnaaaW.PrintWords Go.Proofs.YtimiapghmehnaaaW.PrintLast Go.Proofs.Ytimiapghmehnaaa.C
set_option linter.unusedVariables false

theorem CharsMap : foundrylaw17_CharsMap.Pure := by
  intro l s c hl hs _
  have hm : l.length ≤ 9223372036854775807 := hl.1
  have hno : Ev (fun k => foundrylaw17_CharsMap.j0 k l s c true) true :=
    Ev.step (fun k => (foundrylaw17_CharsMap.j0.eq_2 l s c true k).trans ((if_pos rfl).trans (by rw [awake, Option.bind_some]))) (Ev.now true)
  refine Ev.rounds ?_
  refine Ev.congr (f := fun k => if (l.length : Int) > 100 then (foundrylaw17_CharsMap.j0 k l s c true) else (if (s.size : Int) > 1000 then (foundrylaw17_CharsMap.j0 k l s c true) else ((foundrylaw17_fair.f k l c).bind fun t124 => (foundrylaw17_CharsMap.j0 k l s c (!t124))))) (fun k => ?_) ?_
  · unfold foundrylaw17_CharsMap.f
    rw [awake, Option.bind_some, if_pos rfl]
  by_cases h1 : (l.length : Int) > 100
  · exact Ev.congr (fun k => if_pos h1) hno
  by_cases h2 : (s.size : Int) > 1000
  · exact Ev.congr (fun k => (if_neg h1).trans (if_pos h2)) hno
  have h3 : s.size ≤ 1000000 := by omega
  obtain ⟨b, hb⟩ := fair_ev c hm
  refine Ev.congr (fun k => (if_neg h1).trans (if_neg h2)) (Ev.bind hb ?_)
  cases b with
  | false => exact hno
  | true =>
    refine Ev.step (fun k => (foundrylaw17_CharsMap.j0.eq_2 l s c false k).trans (if_neg Bool.false_ne_true)) ?_
    refine Ev.congr (f := fun k => (foundryref17_Glyph.f k l c).bind fun t127 => (if glyphv c l = t127 then ((foundryref06_SameInts.f k (mapv l (runesL s s.size 0)) (mapv l (runesL s s.size 0))).bind fun t134 => (some t134)) else (some false))) (fun k => ?_) ?_
    · rw [map_eq l h3, rmap_eq l h3]; rfl
    · refine Ev.bind (rglyph_ev c hm) (Ev.congr (fun k => if_pos rfl) (Ev.bind (same_refl ?_) (Ev.now true)))
      have := map_len l s; omega
end Go.Proofs.Ytimiapghmehnaaa.Pure
