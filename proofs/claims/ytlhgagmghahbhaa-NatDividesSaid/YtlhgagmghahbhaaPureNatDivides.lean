/- NatDivides: of every two lists of at most 12 limbs the quotient and the remainder are what a division's are. -/
import Derived.Test.YtlhgagmghahbhaaN2
import Derived.Test.YtlhgagmghahbhaaNa
import Derived.Test.YtlhgagmghahbhaaQx1
import Derived.Test.YtlhgagmghahbhaaQx24
namespace Go.Proofs.Ytlhgagmghahbhaa.Pure
open Go.RowKit Go.Proofs.Ytlhgagmghahbhaa.Q Go.Proofs.YtlhgagmghahbhaaW.PrintWords Go.Proofs.YtlhgagmghahbhaaW.PrintLast Go.Proofs.Ytlhgagmghahbhaa.N FNat

theorem NatDivides : foundrylaw01_NatDivides.Pure := by
  intro a b _ _ ha _ _ hb
  replace ha := lim_wf ha
  replace hb := lim_wf hb
  refine Ev.rounds ?_
  refine Ev.bind (f := fun k t => if t = true then (foundrylaw01_few.f a b).bind fun s => foundrylaw01_NatDivides.j0 k a b (!s) else foundrylaw01_NatDivides.j0 k a b true) awake_ev ?_
  rw [few_eq]
  by_cases h : a.length ≤ 12 ∧ b.length ≤ 12
  · have ha0 := val_nonneg ha
    have hb0 := val_nonneg hb
    obtain ⟨q, r, ed, gq, gr⟩ := div_good ha hb (by omega) (by omega)
    refine Ev.congr (f := fun k => foundrylaw01_NatDivides.j0 k a b false) (fun k => by simp [h]) (Ev.step (fun k => (foundrylaw01_NatDivides.j0.eq_2 a b false k).trans (if_neg Bool.false_ne_true)) ?_)
    refine Ev.bind ed (Ev.bind (cmp_ev hb lim_nil (by omega) (by simp)) ?_)
    by_cases hz : val b = 0
    · have e1 : q = [] := (val_zero gq.lim gq.tr).1 (by rw [gq.val, hz, Int.ediv_zero])
      have e2 : r = [] := (val_zero gr.lim gr.tr).1 (by rw [gr.val]; simp [modv, hz])
      refine Ev.congr (fun k => if_pos (cmpv_zero.2 (by rw [hz]; rfl))) (Ev.congr (fun k => ?_) (Ev.now true))
      rw [e1, e2]; rfl
    · have hbp : 0 < val b := by omega
      have hm : val a % val b = modv (val a) (val b) := by unfold modv; rw [if_neg hz]
      have hm0 : 0 ≤ val a % val b := Int.emod_nonneg _ hz
      have hm1 : val a % val b < val b := Int.emod_lt_of_pos _ hbp
      have hq0 : 0 ≤ val a / val b := Int.ediv_nonneg ha0 hb0
      have hqa : val a / val b ≤ val a := Int.ediv_le_self _ ha0
      have hql : q.length ≤ 12 := good_len gq (by have := val_lt ha; have := pw_le (show a.length ≤ 12 from h.1); omega)
      have hrl : r.length ≤ 12 := good_len gr (by have := val_lt hb; have := pw_le (show b.length ≤ 12 from h.2); rw [← hm]; omega)
      obtain ⟨p, ep, gp, lp⟩ := mul_good ha hb (by omega) (by omega)
      obtain ⟨q2, r2, ed2, gq2, gr2⟩ := div_good gp.lim hb (by omega) (by omega)
      obtain ⟨p2, ep2, gp2, lp2⟩ := mul_good gq.lim hb (by omega) (by omega)
      obtain ⟨s, es, gs, ls⟩ := add_good gp2.lim gr.lim (by omega) (by omega)
      have hq2 : val q2 = val a := by rw [gq2.val, gp.val, Int.mul_ediv_cancel _ hz]
      have hr2 : r2 = [] := (val_zero gr2.lim gr2.tr).1 (by rw [gr2.val, gp.val]; unfold modv; rw [if_neg hz, Int.mul_emod_left])
      have hq2l : q2.length ≤ 12 := len_le gq2.lim gq2.tr (by have := val_lt ha; have := pw_le (show a.length ≤ 12 from h.1); omega)
      have hs : val s = val a := by
        rw [gs.val, gp2.val, gq.val, gr.val, ← hm, Int.mul_comm]; exact Int.mul_ediv_add_emod _ _
      refine Ev.congr (fun k => if_neg (fun h => hz (cmpv_zero.1 h))) ?_
      refine Ev.bind ep (Ev.bind ed2 (Ev.bind ep2 (Ev.bind es (Ev.bind (cmp_ev gs.lim ha (by omega) (by omega)) ?_))))
      refine Ev.congr (fun k => if_pos (cmpv_zero.2 hs)) (Ev.bind (cmp_ev (a := r) gr.lim hb (by omega) (by omega)) ?_)
      refine Ev.congr (fun k => if_pos (cmpv_lt.2 (by rw [gr.val, ← hm]; exact hm1))) (Ev.bind (cmp_ev (a := q2) gq2.lim ha (by omega) (by omega)) ?_)
      refine Ev.congr (fun k => if_pos (cmpv_zero.2 hq2)) (Ev.congr (fun k => ?_) (Ev.now true))
      rw [hr2]; rfl
  · refine Ev.congr (f := fun k => foundrylaw01_NatDivides.j0 k a b true) (fun k => by simp [h]) (Ev.step (f := fun k => (foundrylaw01_awake.f k).bind fun s => some s) (fun k => by simp only [foundrylaw01_NatDivides.j0]; simp) ?_)
    exact Ev.bind (f := fun k s => some s) awake_ev (Ev.now true)
end Go.Proofs.Ytlhgagmghahbhaa.Pure
