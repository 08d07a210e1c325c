/- NatCommon: every two lists of at most 12 limbs have, by nat.Gcd, the greatest common divisor that the reference reckons. -/
import Derived.Test.YtlhgagmghahbhaaNd
import Derived.Test.YtlhgagmghahbhaaQx1
import Derived.Test.YtlhgagmghahbhaaQx2
import Derived.Test.YtlhgagmghahbhaaQx22
namespace Go.Proofs.Ytlhgagmghahbhaa.Pure
open Go.RowKit Go.Proofs.Ytlhgagmghahbhaa.Q Go.Proofs.YtlhgagmghahbhaaW.PrintWords Go.Proofs.YtlhgagmghahbhaaW.PrintLast Go.Proofs.Ytlhgagmghahbhaa.N FNat

theorem NatCommon : foundrylaw01_NatCommon.Pure := by
  intro a b _ _ ha _ _ hb
  replace ha := lim_wf ha
  replace hb := lim_wf hb
  refine Ev.rounds ?_
  refine Ev.bind (f := fun k t => if t = true then (foundrylaw01_few.f a b).bind fun s => foundrylaw01_NatCommon.j0 k a b (!s) else foundrylaw01_NatCommon.j0 k a b true) awake_ev ?_
  rw [few_eq]
  by_cases h : a.length ≤ 12 ∧ b.length ≤ 12
  · obtain ⟨x, ex, gx⟩ := gcd_good ha hb (by omega) (by omega)
    obtain ⟨y, ey, gy⟩ := rgcd_good ha hb (by omega) (by omega)
    have hl := gcd_len ha hb gx h.1 h.2
    refine Ev.congr (f := fun k => foundrylaw01_NatCommon.j0 k a b false) (fun k => by simp [h]) (Ev.step (fun k => (foundrylaw01_NatCommon.j0.eq_2 a b false k).trans (if_neg Bool.false_ne_true)) ?_)
    exact Ev.bind ex (Ev.bind ey (Ev.bind (same_good gx gy (show x.length ≤ 1000000000 by omega)) (Ev.now true)))
  · refine Ev.congr (f := fun k => foundrylaw01_NatCommon.j0 k a b true) (fun k => by simp [h]) (Ev.step (f := fun k => (foundrylaw01_awake.f k).bind fun s => some s) (fun k => by simp only [foundrylaw01_NatCommon.j0]; simp) ?_)
    exact Ev.bind (f := fun k s => some s) awake_ev (Ev.now true)
end Go.Proofs.Ytlhgagmghahbhaa.Pure
