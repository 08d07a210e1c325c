/- Contracts: nat.Div. -/
import Derived.Test.YtlhgagmghahbhaaN7
import Derived.Test.YtlhgagmghahbhaaQx10
import Derived.Test.YtlhgagmghahbhaaQx17
namespace Go.Proofs.Ytlhgagmghahbhaa.N
open Go.RowKit Go.Proofs.Ytlhgagmghahbhaa.Q Go.Proofs.YtlhgagmghahbhaaW.PrintWords Go.Proofs.YtlhgagmghahbhaaW.PrintLast Go.Proofs.YtlhgagmghahbhaaW.PrintMore
open FNat
set_option linter.unusedVariables false
set_option linter.unusedSimpArgs false

/-! ### One digit -/
theorem w_jn {j m : Nat} (h : j + m ≤ 100000000) : wrap64 ((j : Int) + ((m + 2 : Nat) : Int)) = ((j + (m + 2) : Nat) : Int) := by rw [w64 (by omega) (by omega)]; omega
theorem w_jp {j m : Nat} (h : j + m ≤ 100000000) : wrap64 (((j + (m + 2) : Nat) : Int) - 1) = ((j + (m + 1) : Nat) : Int) := by rw [w64 (by omega) (by omega)]; omega
theorem w_js {j m : Nat} (h : j + m ≤ 100000000) : wrap64 (((j + (m + 2) : Nat) : Int) + 1) = ((j + (m + 3) : Nat) : Int) := by rw [w64 (by omega) (by omega)]; omega
theorem w_jd {j m : Nat} (h : j + m ≤ 100000000) : wrap64 ((j : Int) - 1) = (j : Int) - 1 := by rw [w64 (by omega) (by omega)]
theorem digit_ev (s : Int) (u v qd : List Int) (j m : Nat) (hu : Lim u) (hv : Lim v) (hl : u.length ≤ 100000000) (hvl : v.length = m + 2) (hj : j + (m + 3) ≤ u.length) (hq : j < qd.length)
    (hv1 : 2147483648 ≤ v.getD (m + 1) 0) (hW : val ((u.take (j + (m + 3))).drop j) < 4294967296 * val v) :
    ∃ w : List Int, Lim w ∧ w.length = m + 3 ∧ val w = val ((u.take (j + (m + 3))).drop j) % val v ∧ (0 ≤ val ((u.take (j + (m + 3))).drop j) / val v ∧ val ((u.take (j + (m + 3))).drop j) / val v < 4294967296) ∧
      ∀ R, Ev (fun k => nat_Div.l0 k s (u.take j ++ (w ++ u.drop (j + (m + 3)))) v ((m + 2 : Nat) : Int) (qd.set j (val ((u.take (j + (m + 3))).drop j) / val v)) (v.getD (m + 1) 0) (v.getD m 0) ((j : Int) - 1)) R →
        Ev (fun k => nat_Div.l0 k s u v ((m + 2 : Nat) : Int) qd (v.getD (m + 1) 0) (v.getD m 0) (j : Int)) R := by
  have hj9 : j + m ≤ 100000000 := by omega
  have hL : Lim ((u.take (j + (m + 3))).drop j) := lim_drop (lim_take hu _) _
  have hlen : ((u.take (j + (m + 3))).drop j).length = m + 3 := by rw [List.length_drop, List.length_take]; omega
  have hWt := win_top _ m hlen
  have hVt := win_top2 v m hvl
  rw [getD_win u (show m < m + 3 by omega), getD_win u (show m + 1 < m + 3 by omega), getD_win u (show m + 2 < m + 3 by omega)] at hWt
  have hR0 := val_nonneg (lim_take hL m)
  have hR1 := val_lt (lim_take hL m)
  rw [List.length_take, hlen, Nat.min_eq_left (by omega)] at hR1
  have hS0 := val_nonneg (lim_take hv m)
  have hS1 := val_lt (lim_take hv m)
  rw [List.length_take, hvl, Nat.min_eq_left (by omega)] at hS1
  have hW0 := val_nonneg hL
  have hun := lim_getD hu (j + (m + 2))
  have hum := lim_getD hu (j + (m + 1))
  have hul := lim_getD hu (j + m)
  have hvv1 := lim_getD hv (m + 1)
  have hvv2 := lim_getD hv m
  have hP := pw_pos m
  obtain ⟨cur, hcur⟩ : ∃ cur, (u.take (j + (m + 3))).drop j = cur := ⟨_, rfl⟩
  rw [hcur] at hWt hL hlen hR0 hR1 hW0 hW ⊢
  have ejn : j + (m + 2) - 2 = j + m := by omega
  have hgu := fun q two => guess_ev s u v qd j (m + 2) (v.getD (m + 1) 0) (v.getD m 0) q two (by omega) (by omega) hl hu ⟨hv1, hvv1.2⟩ hvv2
  rw [ejn] at hgu
  have hrd1 : rd u ((j + (m + 2) : Nat) : Int) = u.getD (j + (m + 2)) 0 := rd_nat _ _
  have hrd2 : rd u ((j + (m + 1) : Nat) : Int) = u.getD (j + (m + 1)) 0 := rd_nat _ _
  have hb1 : (0 : Int) ≤ ((j + (m + 2) : Nat) : Int) := Int.natCast_nonneg _
  have hb2 : ((j + (m + 2) : Nat) : Int) < (u.length : Int) := by omega
  have hb3 : (0 : Int) ≤ ((j + (m + 1) : Nat) : Int) := Int.natCast_nonneg _
  have hb4 : ((j + (m + 1) : Nat) : Int) < (u.length : Int) := by omega
  have hb5 : (j : Int) ≤ ((j + (m + 3) : Nat) : Int) := by omega
  have hb6 : ((j + (m + 3) : Nat) : Int) ≤ (u.length : Int) := by omega
  have hb7 : (j : Int) < (qd.length : Int) := by omega
  obtain ⟨un, hun'⟩ : ∃ x, u.getD (j + (m + 2)) 0 = x := ⟨_, rfl⟩
  obtain ⟨um, hum'⟩ : ∃ x, u.getD (j + (m + 1)) 0 = x := ⟨_, rfl⟩
  obtain ⟨ul, hul'⟩ : ∃ x, u.getD (j + m) 0 = x := ⟨_, rfl⟩
  obtain ⟨v1, hv1'⟩ : ∃ x, v.getD (m + 1) 0 = x := ⟨_, rfl⟩
  obtain ⟨v2, hv2'⟩ : ∃ x, v.getD m 0 = x := ⟨_, rfl⟩
  rw [hun'] at hun hWt hrd1
  rw [hum'] at hum hWt hrd2
  rw [hul'] at hul hWt hgu
  rw [hv1'] at hvv1 hVt hv1 hgu ⊢
  rw [hv2'] at hvv2 hVt hgu ⊢
  have hV2 : 4294967296 ≤ v1 * 4294967296 + v2 := by omega
  have hk := knuth_low hP ⟨hR0, hR1⟩ ⟨hS0, hS1⟩ hWt hVt hV2 hW0 hW
  have hVp : 0 < val v := by
    have : 4294967296 * pw m ≤ (v1 * 4294967296 + v2) * pw m := Int.mul_le_mul_of_nonneg_right hV2 (by omega)
    omega
  -- the leading limb is no more than the divisor's
  have htop : un ≤ v1 := by
    by_cases h : un ≤ v1
    · exact h
    · exfalso
      have h1 : (v1 + 1) * 4294967296 * 4294967296 * pw m ≤ (un * 4294967296 * 4294967296 + um * 4294967296 + ul) * pw m := Int.mul_le_mul_of_nonneg_right (by omega) (by omega)
      have h2 : 4294967296 * ((v1 * 4294967296 + v2) * pw m) + 4294967296 * pw m ≤ (v1 + 1) * 4294967296 * 4294967296 * pw m := by
        have : (v2 + 1) * (4294967296 * pw m) ≤ 4294967296 * (4294967296 * pw m) := Int.mul_le_mul_of_nonneg_right (by omega) (by omega)
        grind
      omega
  have hor := or_limb hun hum
  have htwo : un * 4294967296 + um < v1 * 4294967296 + 4294967296 := by omega
  have ht0 : 0 ≤ un * 4294967296 + um := by omega
  have hdm := Int.mul_ediv_add_emod (un * 4294967296 + um) v1
  have hr0 : 0 ≤ (un * 4294967296 + um) % v1 := Int.emod_nonneg _ (by omega)
  have hr1 : (un * 4294967296 + um) % v1 < v1 := Int.emod_lt_of_pos _ (by omega)
  have hg0 : 0 ≤ (un * 4294967296 + um) / v1 := Int.ediv_nonneg ht0 (by omega)
  have hg1 : (un * 4294967296 + um) / v1 ≤ 4294967297 := by
    have : (un * 4294967296 + um) / v1 < 4294967298 := Int.ediv_lt_of_lt_mul (by omega) (by omega)
    omega
  obtain ⟨q, hqe⟩ : ∃ q, val cur / val v = q := ⟨_, rfl⟩
  rw [hqe] at hk ⊢
  have hg2 : q ≤ (un * 4294967296 + um) / v1 := by
    refine Int.le_ediv_of_mul_le (by omega) ?_
    have h1 : q * (v1 * 4294967296 + v2) = q * v1 * 4294967296 + q * v2 := by grind
    have h2 : 0 ≤ q * v2 := Int.mul_nonneg hk.1 hvv2.1
    omega
  obtain ⟨g, ⟨hgq, hgB, hgW⟩, hgo⟩ := hgu q (un * 4294967296 + um) ⟨hk.1, hk.2.1⟩ (by have := hk.2.2; have e : (un * 4294967296 + um) * 4294967296 = un * 4294967296 * 4294967296 + um * 4294967296 := (by grind); omega) htwo ((un * 4294967296 + um) / v1).toNat ((un * 4294967296 + um) / v1) ((un * 4294967296 + um) % v1) (by omega) hg2 hg1 ⟨hr0, by omega⟩ (by rw [Int.mul_comm]; exact hdm)
  have hg3 : g ≤ q + 1 := by
    rw [← hqe]
    exact knuth hP ⟨hR0, hR1⟩ ⟨hS0, hS1⟩ hWt hVt hV2 ⟨by omega, hgB⟩ (by have e : (un * 4294967296 + um) * 4294967296 = un * 4294967296 * 4294967296 + um * 4294967296 := (by grind); omega)
  have hqm : val cur % val v = val cur - q * val v := by
    have := Int.mul_ediv_add_emod (val cur) (val v)
    rw [hqe, Int.mul_comm] at this; omega
  have hqm0 : 0 ≤ val cur % val v := Int.emod_nonneg _ (by omega)
  have hqm1 : val cur % val v < val v := Int.emod_lt_of_pos _ hVp
  obtain ⟨w1, ew1, gw1, lw1, vw1⟩ := less_at (g := g) hu hv ⟨by omega, hgB⟩ hl hj (by omega)
  rw [hcur] at ew1 vw1
  have start : ∀ R, Ev (fun k => nat_Div.j3 k s u v ((m + 2 : Nat) : Int) qd v1 v2 (j : Int) g) R → Ev (fun k => nat_Div.l0 k s u v ((m + 2 : Nat) : Int) qd v1 v2 (j : Int)) R := fun R hR => by
    refine Ev.step (fun k => ?_) (hgo R hR)
    simp only [nat_Div.l0]
    rw [if_pos (Int.natCast_nonneg j), w_jn hj9, w_jp hj9, if_pos hb1, if_pos hb2, if_pos hb3, if_pos hb4, if_neg (by omega), hrd1, hrd2, u64l hun, u64l hum, u64 (x := un * 4294967296) (by omega) (by omega), hor,
      Int.tdiv_eq_ediv_of_nonneg ht0, Int.tmod_eq_emod_of_nonneg ht0, u64 hg0 (by omega)]
  have hlt : (u.take j ++ (w1 ++ u.drop (j + (m + 3)))).length = u.length := by
    rw [List.length_append, List.length_append, List.length_take, List.length_drop, lw1]; omega
  have hlim : Lim (u.take j ++ (w1 ++ u.drop (j + (m + 3)))) := lim_append.2 ⟨lim_take hu _, lim_append.2 ⟨gw1, lim_drop hu _⟩⟩
  have hwin := cut_win (a := u.take j) (w := w1) (b := u.drop (j + (m + 3))) (j := j) (m := m + 3) (by rw [List.length_take]; omega) lw1
  by_cases hc : val cur < g * val v
  · have hgq1 : g = q + 1 := by
      by_cases h : g = q
      · exfalso; rw [h] at hc; omega
      · omega
    obtain ⟨w2, ew2, gw2, lw2, vw2⟩ := more_at hlim hv (by rw [hlt]; exact hl) (j := j) (m := m + 3) (by rw [hlt]; exact hj) (by omega)
    rw [hwin.1, hwin.2.2] at ew2
    rw [hwin.2.1] at vw2
    rw [if_pos hc] at vw1
    have hgv : g * val v = q * val v + val v := by rw [hgq1]; grind
    have vw3 := vw2 (by omega)
    refine ⟨w2, gw2, lw2, by omega, ⟨hk.1, by omega⟩, fun R hR => start R ?_⟩
    refine Ev.step (fun k => ?_) (Ev.bind (f := fun k (bt442 : Bool × List Int) => if bt442.1 = true then ((nat_moreAt.f k bt442.2 v (j : Int) ((j + (m + 3) : Nat) : Int)).bind fun t448 => (if (j : Int) < (qd.length : Int) then (nat_Div.l0 k s t448 v ((m + 2 : Nat) : Int) (qd.set (j : Int).toNat ((IntKind.u64.wrap (g - 1)) % 4294967296)) v1 v2 (wrap64 ((j : Int) - 1))) else none)) else (if (j : Int) < (qd.length : Int) then (nat_Div.l0 k s bt442.2 v ((m + 2 : Nat) : Int) (qd.set (j : Int).toNat (g % 4294967296)) v1 v2 (wrap64 ((j : Int) - 1))) else none)) ew1 ?_)
    · simp only [nat_Div.j3]
      rw [if_pos (Int.natCast_nonneg j), w_jn hj9, w_js hj9, if_pos hb5, if_pos hb6]
    · rw [decide_eq_true hc]
      refine Ev.congr (fun k => if_pos rfl) (Ev.bind (f := fun k t448 => (if (j : Int) < (qd.length : Int) then (nat_Div.l0 k s t448 v ((m + 2 : Nat) : Int) (qd.set (j : Int).toNat ((IntKind.u64.wrap (g - 1)) % 4294967296)) v1 v2 (wrap64 ((j : Int) - 1))) else none)) ew2 (Ev.congr (fun k => ?_) hR))
      rw [if_pos hb7, w_jd hj9, show g - 1 = q by omega, u64 hk.1 (by omega), Int.emod_eq_of_lt hk.1 (by omega), Int.toNat_natCast]
  · have hgq1 : g = q := by
      by_cases h : g = q
      · exact h
      · exfalso
        have h2 : g = q + 1 := by omega
        have : g * val v = q * val v + val v := by rw [h2]; grind
        omega
    rw [if_neg hc] at vw1
    rw [hgq1] at vw1
    refine ⟨w1, gw1, lw1, by omega, ⟨hk.1, by omega⟩, fun R hR => start R ?_⟩
    refine Ev.step (fun k => ?_) (Ev.bind (f := fun k (bt442 : Bool × List Int) => if bt442.1 = true then ((nat_moreAt.f k bt442.2 v (j : Int) ((j + (m + 3) : Nat) : Int)).bind fun t448 => (if (j : Int) < (qd.length : Int) then (nat_Div.l0 k s t448 v ((m + 2 : Nat) : Int) (qd.set (j : Int).toNat ((IntKind.u64.wrap (g - 1)) % 4294967296)) v1 v2 (wrap64 ((j : Int) - 1))) else none)) else (if (j : Int) < (qd.length : Int) then (nat_Div.l0 k s bt442.2 v ((m + 2 : Nat) : Int) (qd.set (j : Int).toNat (g % 4294967296)) v1 v2 (wrap64 ((j : Int) - 1))) else none)) ew1 ?_)
    · simp only [nat_Div.j3]
      rw [if_pos (Int.natCast_nonneg j), w_jn hj9, w_js hj9, if_pos hb5, if_pos hb6]
    · rw [decide_eq_false hc]
      refine Ev.congr (fun k => ?_) hR
      rw [if_neg (by simp), if_pos hb7, w_jd hj9, hgq1, Int.emod_eq_of_lt hk.1 (by omega), Int.toNat_natCast]
end Go.Proofs.Ytlhgagmghahbhaa.N
