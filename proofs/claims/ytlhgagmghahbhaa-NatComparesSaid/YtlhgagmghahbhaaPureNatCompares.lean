/- NatCompares: every two lists of at most 12 limbs are compared by nat.Cmp as by the reference. -/
import Derived.Test.YtlhgagmghahbhaaN4
namespace Go.Proofs.Ytlhgagmghahbhaa.Pure
open Go.RowKit Go.Proofs.Ytlhgagmghahbhaa.Q Go.Proofs.YtlhgagmghahbhaaW.PrintWords Go.Proofs.YtlhgagmghahbhaaW.PrintLast Go.Proofs.Ytlhgagmghahbhaa.N FNat

theorem NatCompares : foundrylaw01_NatCompares.Pure := by
  intro a b _ _ ha _ _ hb
  replace ha := lim_wf ha
  replace hb := lim_wf hb
  refine Ev.rounds ?_
  refine Ev.bind (f := fun k t => if t = true then (foundrylaw01_few.f a b).bind fun s => foundrylaw01_NatCompares.j0 k a b (!s) else foundrylaw01_NatCompares.j0 k a b true) awake_ev ?_
  rw [few_eq]
  by_cases h : a.length ≤ 12 ∧ b.length ≤ 12
  · refine Ev.congr (f := fun k => foundrylaw01_NatCompares.j0 k a b false) (fun k => by simp [h]) (Ev.step (f := fun k => (nat_Cmp.f k a b).bind fun s => (foundryref01_Cmp.f k a b).bind fun t => some (s == t)) (fun k => by simp only [foundrylaw01_NatCompares.j0]; simp) ?_)
    exact Ev.bind (f := fun k s => (foundryref01_Cmp.f k a b).bind fun t => some (s == t)) (cmp_ev ha hb (by omega) (by omega)) (Ev.bind (f := fun k t => some (cmpv (val a) (val b) == t)) (rcmp_ev ha hb (by omega) (by omega)) (ev_some fun k => by simp))
  · refine Ev.congr (f := fun k => foundrylaw01_NatCompares.j0 k a b true) (fun k => by simp [h]) (Ev.step (f := fun k => (foundrylaw01_awake.f k).bind fun s => some s) (fun k => by simp only [foundrylaw01_NatCompares.j0]; simp) ?_)
    exact Ev.bind (f := fun k s => some s) awake_ev (Ev.now true)
end Go.Proofs.Ytlhgagmghahbhaa.Pure
