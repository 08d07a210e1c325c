/- NatValues: every list of at most 12 limbs is trimmed as by the reference and has its small value; every number makes its limbs. -/
import Derived.Test.YtlhgagmghahbhaaN4
import Derived.Test.YtlhgagmghahbhaaQx6
namespace Go.Proofs.Ytlhgagmghahbhaa.Pure
open Go.RowKit Go.Proofs.Ytlhgagmghahbhaa.Q Go.Proofs.YtlhgagmghahbhaaW.PrintWords Go.Proofs.YtlhgagmghahbhaaW.PrintLast Go.Proofs.Ytlhgagmghahbhaa.N FNat

theorem wf_u64 {n : Int} (h : (Lit.int .u64 n).wf = true) : 0 ≤ n ∧ n < 18446744073709551616 := by
  simp [Lit.wf, IntKind.min, IntKind.max, IntKind.signed, IntKind.bits] at h
  omega
theorem NatValues : foundrylaw01_NatValues.Pure := by
  intro a n _ _ ha hn
  replace ha := lim_wf ha
  replace hn := wf_u64 hn
  refine Ev.rounds ?_
  refine Ev.bind (f := fun k t => if t = true then (foundrylaw01_few.f a []).bind fun s => foundrylaw01_NatValues.j0 k a n (!s) else foundrylaw01_NatValues.j0 k a n true) awake_ev ?_
  rw [few_eq]
  by_cases h : a.length ≤ 12
  · obtain ⟨x, ex, gx, lx⟩ := Trim_good ha (by omega)
    obtain ⟨y, ey, gy, ly⟩ := rtrim_good ha (by omega)
    obtain ⟨u, eu, gu, lu⟩ := of_good hn.1 hn.2
    obtain ⟨v, ev, gv, lv⟩ := rof_good hn.1 hn.2
    refine Ev.congr (f := fun k => foundrylaw01_NatValues.j0 k a n false) (fun k => by simp [h]) (Ev.step (f := fun k => (nat_Small.f k a).bind fun bt292 => ((foundryref01_Small.f k a).bind fun bt294 => (if bt292.1 = bt294.1 then (if (bt292.2 == bt294.2) = true then ((nat_Trim.f k a).bind fun t296 => ((foundryref01_Trim.f k a).bind fun t299 => ((foundrylaw01_same.f k t296 t299).bind fun t302 => (if t302 = true then ((nat_Of.f k n).bind fun t303 => ((foundryref01_Of.f k n).bind fun t306 => ((foundrylaw01_same.f k t303 t306).bind fun t309 => (some t309)))) else (some false))))) else (some false)) else (some false)))) (fun k => by simp only [foundrylaw01_NatValues.j0]; simp) ?_)
    refine Ev.bind (f := fun k s => _) (small_ev ha (by omega)) (Ev.bind (f := fun k s => _) (rsmall_ev ha (by omega)) ?_)
    refine Ev.congr (fun k => by rw [if_pos rfl, if_pos (by simp)]) ?_
    refine Ev.bind (f := fun k s => _) ex (Ev.bind (f := fun k s => _) ey (Ev.bind (f := fun k s => _) (same_good gx gy (by omega)) (Ev.congr (fun k => if_pos rfl) ?_)))
    exact Ev.bind (f := fun k s => _) eu (Ev.bind (f := fun k s => _) ev (Ev.bind (f := fun k s => some s) (same_good gu gv (by omega)) (Ev.now true)))
  · refine Ev.congr (f := fun k => foundrylaw01_NatValues.j0 k a n true) (fun k => by simp [h]) (Ev.step (f := fun k => (foundrylaw01_awake.f k).bind fun s => some s) (fun k => by simp only [foundrylaw01_NatValues.j0]; simp) ?_)
    exact Ev.bind (f := fun k s => some s) awake_ev (Ev.now true)
end Go.Proofs.Ytlhgagmghahbhaa.Pure
