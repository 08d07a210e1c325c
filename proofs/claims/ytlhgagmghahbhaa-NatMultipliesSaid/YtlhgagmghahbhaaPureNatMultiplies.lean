/- NatMultiplies: every two lists of at most 12 limbs have, by nat.Mul, the product that the reference reckons. -/
import Derived.Test.YtlhgagmghahbhaaN2
import Derived.Test.YtlhgagmghahbhaaN3
import Derived.Test.YtlhgagmghahbhaaN4
namespace Go.Proofs.Ytlhgagmghahbhaa.Pure
open Go.RowKit Go.Proofs.Ytlhgagmghahbhaa.Q Go.Proofs.YtlhgagmghahbhaaW.PrintWords Go.Proofs.YtlhgagmghahbhaaW.PrintLast Go.Proofs.Ytlhgagmghahbhaa.N FNat

theorem NatMultiplies : foundrylaw01_NatMultiplies.Pure := by
  intro a b _ _ ha _ _ hb
  replace ha := lim_wf ha
  replace hb := lim_wf hb
  refine Ev.rounds ?_
  refine Ev.bind (f := fun k t => if t = true then (foundrylaw01_few.f a b).bind fun s => foundrylaw01_NatMultiplies.j0 k a b (!s) else foundrylaw01_NatMultiplies.j0 k a b true) awake_ev ?_
  rw [few_eq]
  by_cases h : a.length ≤ 12 ∧ b.length ≤ 12
  · obtain ⟨x, ex, gx, _⟩ := mul_good ha hb (by omega) (by omega)
    obtain ⟨y, ey, gy⟩ := rmul_good ha hb (by omega) (by omega)
    refine Ev.congr (f := fun k => foundrylaw01_NatMultiplies.j0 k a b false) (fun k => by simp [h]) (Ev.step (f := fun k => (nat_Mul.f k a b).bind fun s => (foundryref01_Mul.f k a b).bind fun t => (foundrylaw01_same.f k s t).bind fun u => some u) (fun k => by simp only [foundrylaw01_NatMultiplies.j0]; simp) ?_)
    exact Ev.bind (f := fun k s => (foundryref01_Mul.f k a b).bind fun t => (foundrylaw01_same.f k s t).bind fun u => some u) ex (Ev.bind (f := fun k t => (foundrylaw01_same.f k x t).bind fun u => some u) ey (Ev.bind (f := fun k u => some u) (same_good gx gy (by omega)) (Ev.now true)))
  · refine Ev.congr (f := fun k => foundrylaw01_NatMultiplies.j0 k a b true) (fun k => by simp [h]) (Ev.step (f := fun k => (foundrylaw01_awake.f k).bind fun s => some s) (fun k => by simp only [foundrylaw01_NatMultiplies.j0]; simp) ?_)
    exact Ev.bind (f := fun k s => some s) awake_ev (Ev.now true)
end Go.Proofs.Ytlhgagmghahbhaa.Pure
