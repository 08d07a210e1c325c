/- NatQuotients: every two lists of at most 12 limbs have, by nat.Div, the quotient and the remainder that the reference reckons. -/
import Derived.Test.YtlhgagmghahbhaaNb
import Derived.Test.YtlhgagmghahbhaaQx1
import Derived.Test.YtlhgagmghahbhaaQx2
import Derived.Test.YtlhgagmghahbhaaQx19
namespace Go.Proofs.Ytlhgagmghahbhaa.Pure
open Go.RowKit Go.Proofs.Ytlhgagmghahbhaa.Q Go.Proofs.YtlhgagmghahbhaaW.PrintWords Go.Proofs.YtlhgagmghahbhaaW.PrintLast Go.Proofs.Ytlhgagmghahbhaa.N FNat

theorem NatQuotients : foundrylaw01_NatQuotients.Pure := by
  intro a b _ _ ha _ _ hb
  replace ha := lim_wf ha
  replace hb := lim_wf hb
  refine Ev.rounds ?_
  refine Ev.bind (f := fun k t => if t = true then (foundrylaw01_few.f a b).bind fun s => foundrylaw01_NatQuotients.j0 k a b (!s) else foundrylaw01_NatQuotients.j0 k a b true) awake_ev ?_
  rw [few_eq]
  by_cases h : a.length ≤ 12 ∧ b.length ≤ 12
  · have ha0 := val_nonneg ha
    have hb0 := val_nonneg hb
    obtain ⟨q, r, ed, gq, gr⟩ := div_good ha hb (by omega) (by omega)
    obtain ⟨p, s, es, gp, gs⟩ := rdiv_good ha hb (by omega) (by omega)
    have hql : q.length ≤ 12 := good_len gq (by have := val_lt ha; have := pw_le (show a.length ≤ 12 from h.1); have := Int.ediv_le_self (b := val b) ha0; omega)
    have hrl : r.length ≤ 12 := good_len gr (by
      have h1 := val_lt ha; have h2 := val_lt hb
      have h3 := pw_le (show a.length ≤ 12 from h.1); have h4 := pw_le (show b.length ≤ 12 from h.2)
      unfold modv
      split
      · exact pw_pos 12
      · next hz => have := Int.emod_lt_of_pos (val a) (show 0 < val b by omega); omega)
    refine Ev.congr (f := fun k => foundrylaw01_NatQuotients.j0 k a b false) (fun k => by simp [h]) (Ev.step (fun k => (foundrylaw01_NatQuotients.j0.eq_2 a b false k).trans (if_neg Bool.false_ne_true)) ?_)
    refine Ev.bind ed (Ev.bind es (Ev.bind (same_good gq gp (show q.length ≤ 1000000000 by omega)) ?_))
    refine Ev.congr (fun k => if_pos rfl) (Ev.bind (same_good gr gs (show r.length ≤ 1000000000 by omega)) (Ev.now true))
  · refine Ev.congr (f := fun k => foundrylaw01_NatQuotients.j0 k a b true) (fun k => by simp [h]) (Ev.step (f := fun k => (foundrylaw01_awake.f k).bind fun s => some s) (fun k => by simp only [foundrylaw01_NatQuotients.j0]; simp) ?_)
    exact Ev.bind (f := fun k s => some s) awake_ev (Ev.now true)
end Go.Proofs.Ytlhgagmghahbhaa.Pure
