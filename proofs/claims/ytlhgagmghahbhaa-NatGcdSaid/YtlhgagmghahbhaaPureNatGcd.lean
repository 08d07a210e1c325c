/- NatGcd: of every two lists of at most 8 limbs the greatest common divisor divides both, what is left of both by it has none but 1, and the order does not matter. -/
import Derived.Test.YtlhgagmghahbhaaNc
import Derived.Test.YtlhgagmghahbhaaQx1
import Derived.Test.YtlhgagmghahbhaaQx23
namespace Go.Proofs.Ytlhgagmghahbhaa.Pure
open Go.RowKit Go.Proofs.Ytlhgagmghahbhaa.Q Go.Proofs.YtlhgagmghahbhaaW.PrintWords Go.Proofs.YtlhgagmghahbhaaW.PrintLast Go.Proofs.Ytlhgagmghahbhaa.N FNat

theorem gcdv_dvd_left (x y : Int) : x % gcdv x y = 0 := Int.emod_eq_zero_of_dvd (Int.gcd_dvd_left ..)
theorem gcdv_dvd_right (x y : Int) : y % gcdv x y = 0 := Int.emod_eq_zero_of_dvd (Int.gcd_dvd_right ..)
theorem gcdv_pos_of {x y : Int} (h : gcdv x y = 0) : x = 0 ∧ y = 0 := by
  unfold gcdv at h
  have h1 : Int.gcd x y = 0 := by omega
  exact Int.gcd_eq_zero_iff.1 h1
theorem gcdv_rest {x y : Int} (h0 : 0 ≤ x) (h1 : 0 ≤ y) (h : 0 < gcdv x y) : gcdv (x / gcdv x y) (y / gcdv x y) = 1 := by
  obtain ⟨a, rfl⟩ := Int.eq_ofNat_of_zero_le h0
  obtain ⟨b, rfl⟩ := Int.eq_ofNat_of_zero_le h1
  unfold gcdv at h ⊢
  rw [Int.gcd_natCast_natCast] at h ⊢
  rw [← Int.natCast_ediv, ← Int.natCast_ediv, Int.gcd_natCast_natCast]
  have hp : 0 < Nat.gcd a b := by omega
  have e := Nat.gcd_mul_left (Nat.gcd a b) (a / Nat.gcd a b) (b / Nat.gcd a b)
  rw [Nat.mul_div_cancel' (Nat.gcd_dvd_left a b), Nat.mul_div_cancel' (Nat.gcd_dvd_right a b)] at e
  have : Nat.gcd a b * Nat.gcd (a / Nat.gcd a b) (b / Nat.gcd a b) = Nat.gcd a b * 1 := by omega
  have := Nat.eq_of_mul_eq_mul_left hp this
  omega
theorem NatGcd : foundrylaw01_NatGcd.Pure := by
  intro a b _ _ ha _ _ hb
  replace ha := lim_wf ha
  replace hb := lim_wf hb
  refine Ev.rounds ?_
  refine Ev.bind awake_ev ?_
  refine Ev.congr (fun k => if_pos rfl) ?_
  have hno : Ev (fun k => foundrylaw01_NatGcd.j0 k a b true) true :=
    Ev.step (fun k => (foundrylaw01_NatGcd.j0.eq_2 a b true k).trans (if_pos rfl)) (Ev.bind awake_ev (Ev.now true))
  by_cases h1 : (a.length : Int) > 8
  · exact Ev.congr (fun k => if_pos h1) hno
  refine Ev.congr (fun k => if_neg h1) ?_
  by_cases h2 : (b.length : Int) > 8
  · rw [decide_eq_true h2]; exact hno
  rw [decide_eq_false h2]
  have l1 : a.length ≤ 8 := by omega
  have l2 : b.length ≤ 8 := by omega
  clear hno h1 h2
  have ha0 := val_nonneg ha
  have hb0 := val_nonneg hb
  obtain ⟨g, eg, gg⟩ := gcd_good ha hb (by omega) (by omega)
  have hgl := gcd_len ha hb gg l1 l2
  refine Ev.step (fun k => (foundrylaw01_NatGcd.j0.eq_2 a b false k).trans (if_neg Bool.false_ne_true)) (Ev.bind eg ?_)
  by_cases hg : g = []
  · have hz := gcdv_pos_of (gg.val.symm.trans (by rw [hg]; rfl))
    refine Ev.congr (fun k => if_pos (by rw [hg]; rfl)) (Ev.bind (cmp_ev ha lim_nil (by omega) (by simp)) (Ev.congr (fun k => if_pos (cmpv_zero.2 hz.1)) (Ev.bind (cmp_ev hb lim_nil (by omega) (by simp)) (Ev.congr (fun k => ?_) (Ev.now true)))))
    rw [cmpv_zero.2 (show val b = val [] from hz.2)]; rfl
  · have hgp : 0 < gcdv (val a) (val b) := by
      have h3 := gcdv_nonneg (val a) (val b)
      have h4 : gcdv (val a) (val b) ≠ 0 := fun h => hg ((val_zero gg.lim gg.tr).1 (gg.val.trans h))
      omega
    have hgl0 : ¬ ((g.length : Int) = 0) := by have := List.length_pos_iff.2 hg; omega
    obtain ⟨p, r, ep, gp, gr⟩ := div_good ha gg.lim (by omega) (by omega)
    obtain ⟨q, s, eq, gq, gs⟩ := div_good hb gg.lim (by omega) (by omega)
    rw [gg.val] at gp gr gq gs
    have er0 : r = [] := (val_zero gr.lim gr.tr).1 (by rw [gr.val]; unfold modv; rw [if_neg (by omega), gcdv_dvd_left])
    have es0 : s = [] := (val_zero gs.lim gs.tr).1 (by rw [gs.val]; unfold modv; rw [if_neg (by omega), gcdv_dvd_right])
    have hpl : p.length ≤ 8 := good_len gp (by have := val_lt ha; have := pw_le l1; have := Int.ediv_le_self (b := gcdv (val a) (val b)) ha0; omega)
    have hql : q.length ≤ 8 := good_len gq (by have := val_lt hb; have := pw_le l2; have := Int.ediv_le_self (b := gcdv (val a) (val b)) hb0; omega)
    obtain ⟨u, eu, gu⟩ := gcd_good gp.lim gq.lim (by omega) (by omega)
    rw [gp.val, gq.val, gcdv_rest ha0 hb0 hgp] at gu
    obtain ⟨o, eo, go, lo⟩ := of_good (n := 1) (by omega) (by omega)
    have hul : u.length ≤ 1 := good_len gu (by rw [pw_succ, pw_zero]; omega)
    obtain ⟨v, ev, gv⟩ := gcd_good hb ha (by omega) (by omega)
    have hvl := gcd_len hb ha gv l2 l1
    refine Ev.congr (fun k => if_neg hgl0) (Ev.bind ep (Ev.bind eq ?_))
    refine Ev.congr (fun k => (if_pos (by rw [er0]; rfl)).trans (if_pos (by rw [es0]; rfl))) (Ev.bind eu (Ev.bind eo (Ev.bind (cmp_ev gu.lim go.lim (by omega) (by omega)) ?_)))
    refine Ev.congr (fun k => if_pos (cmpv_zero.2 (gu.val.trans go.val.symm))) (Ev.bind ev (Ev.bind (cmp_ev gg.lim gv.lim (by omega) (by omega)) (Ev.congr (fun k => ?_) (Ev.now true))))
    rw [cmpv_zero.2 (show val g = val v by rw [gg.val, gv.val, gcdv_comm])]; rfl
end Go.Proofs.Ytlhgagmghahbhaa.Pure
