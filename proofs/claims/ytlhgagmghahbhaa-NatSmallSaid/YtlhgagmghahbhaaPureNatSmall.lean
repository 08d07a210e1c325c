/- NatSmall: of every two numbers of 32 bits the sum, product, order, quotient and remainder, as small values. -/
import Derived.Test.YtlhgagmghahbhaaN2
import Derived.Test.YtlhgagmghahbhaaNa
import Derived.Test.YtlhgagmghahbhaaQx25
namespace Go.Proofs.Ytlhgagmghahbhaa.Pure
open Go.RowKit Go.Proofs.Ytlhgagmghahbhaa.Q Go.Proofs.YtlhgagmghahbhaaW.PrintWords Go.Proofs.YtlhgagmghahbhaaW.PrintLast Go.Proofs.Ytlhgagmghahbhaa.N FNat

theorem wf_u32 {n : Int} (h : (Lit.int .u32 n).wf = true) : 0 ≤ n ∧ n < 4294967296 := by
  simp [Lit.wf, IntKind.min, IntKind.max, IntKind.signed, IntKind.bits] at h
  omega
theorem NatSmall : foundrylaw01_NatSmall.Pure := by
  intro a b ha hb
  replace ha := wf_u32 ha
  replace hb := wf_u32 hb
  refine Ev.rounds ?_
  have hm := mul_lim ha hb
  obtain ⟨x, ex, gx, lx⟩ := of_good (n := a) ha.1 (by omega)
  obtain ⟨y, ey, gy, ly⟩ := of_good (n := b) hb.1 (by omega)
  obtain ⟨s, es, gs, ls⟩ := add_good gx.lim gy.lim (by omega) (by omega)
  obtain ⟨p, ep, gp, lp⟩ := mul_good gx.lim gy.lim (by omega) (by omega)
  have hs := small_ev gs.lim (by omega)
  have hp := small_ev gp.lim (by omega)
  rw [gs.val, gx.val, gy.val, smallv, if_pos (by omega)] at hs
  rw [gp.val, gx.val, gy.val, smallv, if_pos (by omega)] at hp
  have hc := cmp_ev gx.lim gy.lim (by omega) (by omega)
  rw [gx.val, gy.val] at hc
  refine Ev.bind awake_ev (Ev.congr (fun k => if_pos rfl) ?_)
  rw [u64l ha, u64l hb, u64 (x := a + b) (by omega) (by omega), u64 (x := a * b) hm.1 (by omega)]
  refine Ev.bind ex (Ev.bind ey (Ev.bind es (Ev.bind hs (Ev.bind ep (Ev.bind hp ?_)))))
  refine Ev.congr (fun k => (if_pos rfl).trans ((if_pos rfl).trans (if_pos rfl))) (Ev.bind hc ?_)
  have hd : ((decide (cmpv a b < 0)) != (decide (a < b))) = false := by
    by_cases h : a < b
    · rw [decide_eq_true h, decide_eq_true (cmpv_lt.2 h)]; rfl
    · rw [decide_eq_false h, decide_eq_false (fun e => h (cmpv_lt.1 e))]; rfl
  refine Ev.congr (fun k => by rw [hd]) (Ev.step (fun k => (foundrylaw01_NatSmall.j0.eq_2 a b x y false k).trans (if_neg Bool.false_ne_true)) ?_)
  by_cases hz : b = 0
  · exact Ev.congr (fun k => if_pos hz) (Ev.now true)
  · obtain ⟨q, r, ed, gq, gr⟩ := div_good gx.lim gy.lim (by omega) (by omega)
    rw [gx.val, gy.val] at gq gr
    have hm0 : 0 ≤ a % b := Int.emod_nonneg _ hz
    have hm1 : a % b < b := Int.emod_lt_of_pos _ (by omega)
    have hq0 : 0 ≤ a / b := Int.ediv_nonneg ha.1 hb.1
    have hqa : a / b ≤ a := Int.ediv_le_self _ ha.1
    unfold modv at gr
    rw [if_neg hz] at gr
    have hql : q.length ≤ 2 := good_len gq (by have : pw 2 = 18446744073709551616 := by decide
                                               omega)
    have hrl : r.length ≤ 2 := good_len gr (by have : pw 2 = 18446744073709551616 := by decide
                                               omega)
    have h1 := small_ev gq.lim (by omega)
    have h2 := small_ev gr.lim (by omega)
    rw [gq.val, smallv, if_pos (by omega)] at h1
    rw [gr.val, smallv, if_pos (by omega)] at h2
    refine Ev.congr (fun k => if_neg hz) (Ev.bind ed (Ev.bind h1 (Ev.bind h2 ?_)))
    rw [Int.tdiv_eq_ediv_of_nonneg ha.1, Int.tmod_eq_emod_of_nonneg ha.1, Int.emod_eq_of_lt hq0 (by omega), u64 hm0 (by omega)]
    exact Ev.congr (fun k => (if_pos rfl).trans (by simp)) (Ev.now true)
end Go.Proofs.Ytlhgagmghahbhaa.Pure
