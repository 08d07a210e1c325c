/- Contracts: nat.Div. -/
import Derived.Test.YtlhgagmghahbhaaN9
import Derived.Test.YtlhgagmghahbhaaQx1
import Derived.Test.YtlhgagmghahbhaaQx10
import Derived.Test.YtlhgagmghahbhaaQx17
namespace Go.Proofs.Ytlhgagmghahbhaa.N
open Go.RowKit Go.Proofs.Ytlhgagmghahbhaa.Q Go.Proofs.YtlhgagmghahbhaaW.PrintWords Go.Proofs.YtlhgagmghahbhaaW.PrintLast Go.Proofs.YtlhgagmghahbhaaW.PrintMore
open FNat
set_option linter.unusedVariables false
set_option linter.unusedSimpArgs false

/-! ### One digit -/
/-! ### nat.Div -/
def modv (x y : Int) : Int := if y = 0 then 0 else x % y
theorem mul_two_lt {x : Int} {n s : Nat} (h : x < pw n) (hs : s ≤ 31) (h0 : 0 ≤ x) : x * 2 ^ s < pw n * 2147483648 := by
  have h1 := two_le_pow31 hs
  have h2 := two_pos s
  have h3 : x * 2 ^ s < pw n * 2 ^ s := Int.mul_lt_mul_of_pos_right h h2
  have h4 : pw n * 2 ^ s ≤ pw n * 2147483648 := Int.mul_le_mul_of_nonneg_left h1 (Int.le_of_lt (pw_pos n))
  omega
/-- The divisor, shifted so that its leading limb is great. -/
theorem norm_ev {y : List Int} {m : Nat} (hy : Lim y) (hl : y.length = m + 2) (h : m ≤ 10000000) (ht : y.getD (m + 1) 0 ≠ 0) :
    ∃ (s : Nat) (t v : List Int), s ≤ 31 ∧ bits_LeadingZeros32.f (rd y (wrap64 ((y.length : Int) - 1))) = some (s : Int) ∧ Ev (fun k => nat_shl.f k y (s : Int)) t ∧ t.length = m + 3 ∧
      t.take (m + 2) = v ∧ Lim v ∧ v.length = m + 2 ∧ val v = val y * 2 ^ s ∧ 2147483648 ≤ v.getD (m + 1) 0 := by
  have hw : wrap64 ((y.length : Int) - 1) = ((m + 1 : Nat) : Int) := by rw [hl, w64 (by omega) (by omega)]; omega
  have hr : rd y ((m + 1 : Nat) : Int) = y.getD (m + 1) 0 := rd_nat _ _
  have hx := lim_getD hy (m + 1)
  obtain ⟨s, hs, hlz, h1, h2⟩ := lz_ev (x := y.getD (m + 1) 0) (by omega) hx.2
  obtain ⟨t, et, gt, vt, lt⟩ := shl_good hy hs (by omega)
  have hnx := val_take_next y (m + 1)
  rw [List.take_of_length_le (by omega)] at hnx
  have ha := val_lt (lim_take hy (m + 1))
  have ha0 := val_nonneg (lim_take hy (m + 1))
  rw [List.length_take, hl, Nat.min_eq_left (by omega)] at ha
  have hp := pw_pos (m + 1)
  have hs0 := two_pos s
  have hpow : (4294967296 : Int) = 2 ^ s * 2 ^ (32 - s) := by rw [← Int.pow_add, show s + (32 - s) = 32 by omega]; rfl
  clear hw hr
  obtain ⟨x, hxe⟩ : ∃ x, y.getD (m + 1) 0 = x := ⟨_, rfl⟩
  rw [hxe] at hx h1 h2 hnx hlz
  have htop : (x + 1) * 2 ^ s ≤ 4294967296 := by
    have h3 : x < 2 ^ (32 - s) := by
      by_cases h : x < 2 ^ (32 - s)
      · exact h
      · exfalso
        have : 2 ^ (32 - s) * 2 ^ s ≤ x * 2 ^ s := Int.mul_le_mul_of_nonneg_right (Int.not_lt.1 h) (Int.le_of_lt hs0)
        rw [Int.mul_comm] at this
        rw [hpow] at h2
        exact absurd h2 (Int.not_lt.2 this)
    have h4 : (x + 1) * 2 ^ s ≤ 2 ^ (32 - s) * 2 ^ s := Int.mul_le_mul_of_nonneg_right h3 (Int.le_of_lt hs0)
    rw [hpow, Int.mul_comm ((2 : Int) ^ s)]
    exact h4
  have hlow : 2147483648 * pw (m + 1) ≤ val y * 2 ^ s := by
    have h3 : x * 2 ^ s * pw (m + 1) ≤ val y * 2 ^ s := by
      have : pw (m + 1) * x * 2 ^ s ≤ val y * 2 ^ s := Int.mul_le_mul_of_nonneg_right (by omega) (Int.le_of_lt hs0)
      have e : x * 2 ^ s * pw (m + 1) = pw (m + 1) * x * 2 ^ s := by grind
      rw [e]; exact this
    have h4 : 2147483648 * pw (m + 1) ≤ x * 2 ^ s * pw (m + 1) := Int.mul_le_mul_of_nonneg_right h1 (Int.le_of_lt hp)
    exact Int.le_trans h4 h3
  have hup : val y * 2 ^ s < pw (m + 2) := by
    have h3 : val y * 2 ^ s < pw (m + 1) * (x + 1) * 2 ^ s := Int.mul_lt_mul_of_pos_right (by rw [Int.mul_add]; omega) hs0
    have h4 : pw (m + 1) * ((x + 1) * 2 ^ s) ≤ pw (m + 1) * 4294967296 := Int.mul_le_mul_of_nonneg_left htop (Int.le_of_lt hp)
    rw [pw_succ, Int.mul_comm 4294967296]
    rw [Int.mul_assoc] at h3
    exact Int.lt_of_lt_of_le h3 h4
  have htk : val (t.take (m + 2)) = val t := val_take_small gt (by rw [vt]; exact hup)
  have hvlen : (t.take (m + 2)).length = m + 2 := by rw [List.length_take]; omega
  refine ⟨s, t, t.take (m + 2), hs, ?_, et, by omega, rfl, lim_take gt _, hvlen, by rw [htk, vt], ?_⟩
  · rw [show wrap64 ((y.length : Int) - 1) = ((m + 1 : Nat) : Int) by rw [hl, w64 (by omega) (by omega)]; omega, rd_nat, hxe]; exact hlz
  · have hn2 := val_take_next (t.take (m + 2)) (m + 1)
    rw [List.take_of_length_le (by omega), htk, vt] at hn2
    have hb := val_lt (lim_take (lim_take gt (m + 2)) (m + 1))
    rw [List.length_take, hvlen, Nat.min_eq_left (by omega)] at hb
    by_cases hc : 2147483648 ≤ (t.take (m + 2)).getD (m + 1) 0
    · exact hc
    · exfalso
      have h5 : pw (m + 1) * ((t.take (m + 2)).getD (m + 1) 0 + 1) ≤ pw (m + 1) * 2147483648 := Int.mul_le_mul_of_nonneg_left (by omega) (Int.le_of_lt hp)
      rw [Int.mul_add, Int.mul_one] at h5
      omega
theorem div_good {a b : List Int} (ha : Lim a) (hb : Lim b) (h1 : a.length ≤ 10000000) (h2 : b.length ≤ 10000000) :
    ∃ q r, Ev (fun k => nat_Div.f k a b) (q, r) ∧ Good q (val a / val b) ∧ Good r (modv (val a) (val b)) := by
  obtain ⟨x, ex, gx, lx⟩ := trim_good ha (by omega)
  obtain ⟨y, ey, gy, ly⟩ := trim_good hb (by omega)
  rw [← gx.val, ← gy.val]
  have hc := cmp_ev gx.lim gy.lim (by omega) (by omega)
  have hx0 := val_nonneg gx.lim
  have hy0 := val_nonneg gy.lim
  suffices ∃ q r, Ev (fun k => (if (y.length : Int) = 0 then (some (([] : List Int), ([] : List Int))) else ((nat_Cmp.f k x y).bind fun t406 => (if t406 < 0 then ((nat_Trim.f k x).bind fun t407 => (some (([] : List Int), t407))) else (if (y.length : Int) = 1 then (if 0 < (y.length : Int) then ((nat_limb.f k x (rd y 0)).bind fun bt411 => ((nat_Of.f k (IntKind.u64.wrap (bt411.2))).bind fun t415 => (some (bt411.1, t415)))) else (none)) else (if 0 ≤ (wrap64 ((y.length : Int) - 1)) then (if (wrap64 ((y.length : Int) - 1)) < (y.length : Int) then ((bits_LeadingZeros32.f (rd y (wrap64 ((y.length : Int) - 1)))).bind fun t419 => ((nat_shl.f k x (IntKind.u64.wrap (t419))).bind fun t420 => ((nat_shl.f k y (IntKind.u64.wrap (t419))).bind fun t423 => (if 0 ≤ (y.length : Int) then (if (y.length : Int) ≤ (t423.length : Int) then ((some (t423.take ((y.length : Int) : Int).toNat : List Int)).bind fun y426 => (if 0 ≤ (wrap64 ((t420.length : Int) - (y426.length : Int))) then (if (wrap64 ((t420.length : Int) - (y426.length : Int)) : Int).toNat ≤ 70368744177664 then (if 0 ≤ (wrap64 ((y426.length : Int) - 1)) then (if (wrap64 ((y426.length : Int) - 1)) < (y426.length : Int) then (if 0 ≤ (wrap64 ((y426.length : Int) - 2)) then (if (wrap64 ((y426.length : Int) - 2)) < (y426.length : Int) then (nat_Div.l0 k (IntKind.u64.wrap (t419)) t420 y426 (y426.length : Int) (List.replicate (wrap64 ((t420.length : Int) - (y426.length : Int)) : Int).toNat 0) (IntKind.u64.wrap (rd y426 (wrap64 ((y426.length : Int) - 1)))) (IntKind.u64.wrap (rd y426 (wrap64 ((y426.length : Int) - 2)))) (wrap64 ((wrap64 ((t420.length : Int) - (y426.length : Int))) - 1))) else (none)) else (none)) else (none)) else (none)) else (none)) else (none))) else (none)) else (none))))) else (none)) else (none))))))) (q, r) ∧ Good q (val x / val y) ∧ Good r (modv (val x) (val y)) by
    obtain ⟨q, r, e, g1, g2⟩ := this
    exact ⟨q, r, Ev.bind (f := fun k t400 => (nat_trim.f k b).bind fun t403 => _) ex (Ev.bind ey e), g1, g2⟩
  by_cases hyl : y.length = 0
  · obtain rfl := List.eq_nil_of_length_eq_zero hyl
    refine ⟨[], [], Ev.congr (fun k => if_pos (by simp)) (Ev.now _), ⟨lim_nil, tr_nil, ?_⟩, ⟨lim_nil, tr_nil, ?_⟩⟩
    · rw [val_nil, Int.ediv_zero]
    · simp [modv, val_nil]
  · have hyp : 0 < val y := by
      have : val y ≠ 0 := fun h => hyl (by rw [(val_zero gy.lim gy.tr).1 h]; rfl)
      omega
    by_cases hlt : val x < val y
    · obtain ⟨t, et, gt, lt⟩ := Trim_good gx.lim (by omega)
      refine ⟨[], t, Ev.congr (fun k => if_neg (by omega)) (Ev.bind hc (Ev.congr (fun k => if_pos (cmpv_lt.2 hlt)) (Ev.bind (f := fun _ t407 => some (([] : List Int), t407)) et (Ev.now _)))), ⟨lim_nil, tr_nil, ?_⟩, ⟨gt.lim, gt.tr, ?_⟩⟩
      · rw [val_nil, Int.ediv_eq_zero_of_lt hx0 hlt]
      · rw [gt.val]; unfold modv; rw [if_neg (by omega), Int.emod_eq_of_lt hx0 hlt]
    · by_cases hy1 : y.length = 1
      · obtain ⟨d, rfl⟩ := List.length_eq_one_iff.1 hy1
        have hd := (lim_cons.1 gy.lim).1
        have hvd : val [d] = d := by simp [val]
        rw [hvd] at hyp hlt hc ⊢
        obtain ⟨t, et, gt, lt⟩ := limb_good gx.lim (d := d) ⟨hyp, hd.2⟩ (by omega)
        have hm0 : 0 ≤ val x % d := Int.emod_nonneg _ (by omega)
        have hm1 : val x % d < d := Int.emod_lt_of_pos _ hyp
        obtain ⟨o, eo, go, lo⟩ := of_good (n := val x % d) hm0 (by omega)
        refine ⟨t, o, Ev.congr (fun k => if_neg (by simp)) (Ev.bind hc (Ev.congr (fun k => (if_neg (fun h => hlt (cmpv_lt.1 h))).trans ((if_pos (by simp)).trans (if_pos (by simp)))) (Ev.bind et (Ev.bind (f := fun _ t415 => some (t, t415)) (ev_eq (Ev.congr (fun k => by rw [u64 hm0 (by omega)]) eo) rfl) (Ev.now _))))), gt, ?_⟩
        unfold modv; rw [if_neg (by omega)]; exact go
      · obtain ⟨m, hm⟩ : ∃ m, y.length = m + 2 := ⟨y.length - 2, by omega⟩
        have hytop : y.getD (m + 1) 0 ≠ 0 := by
          have := gy.tr (by intro e; rw [e] at hyl; exact hyl rfl)
          rw [List.getLast_eq_getElem] at this
          rw [getD_lt (by omega)]
          simpa [hm] using this
        obtain ⟨s, t, v, hs, hlz, et, lt, htv, gv, lv, vv, hvtop⟩ := norm_ev gy.lim hm (by omega) hytop
        obtain ⟨u, eu, gu, vu, lu⟩ := shl_good gx.lim hs (by omega)
        have hxy : m + 2 ≤ x.length := by
          by_cases h : m + 2 ≤ x.length
          · exact h
          · exact absurd (cmp_len gx.lim gy.lim gy.tr (by omega)) hlt
        obtain ⟨M, hM⟩ : ∃ M, x.length + 1 = M + (m + 2) := ⟨x.length + 1 - (m + 2), by omega⟩
        have hs0 := two_pos s
        have hs31 := two_le_pow31 hs
        have hvpos : 0 < val v := by rw [vv]; exact Int.mul_pos hyp hs0
        have hvlow : 2147483648 * pw (m + 1) ≤ val v := by
          have hn2 := val_take_next v (m + 1)
          rw [List.take_of_length_le (by omega)] at hn2
          have h0 := val_nonneg (lim_take gv (m + 1))
          have h5 : pw (m + 1) * 2147483648 ≤ pw (m + 1) * v.getD (m + 1) 0 := Int.mul_le_mul_of_nonneg_left hvtop (Int.le_of_lt (pw_pos _))
          omega
        have hstart : val u < pw M * val v := by
          have h5 := mul_two_lt (val_lt gx.lim) hs hx0
          have h6 : pw M * (2147483648 * pw (m + 1)) ≤ pw M * val v := Int.mul_le_mul_of_nonneg_left hvlow (Int.le_of_lt (pw_pos _))
          have h7 : pw M * (2147483648 * pw (m + 1)) = pw x.length * 2147483648 := by
            have : x.length = M + (m + 1) := by omega
            rw [this, pw_add M (m + 1)]; ac_rfl
          rw [vu]; omega
        obtain ⟨u', qd, g1, g2, g3, g4, g5, g6, g7⟩ := div_l0 M (s : Int) v u (List.replicate M 0) m (val u) gu gv (by omega) lv hvtop (lim_replicate _) (by rw [List.length_replicate]; omega) (by rw [List.length_replicate]; omega) (fun i _ => getD_replicate _ _) hstart (by rw [val_replicate]; omega)
        rw [List.length_replicate] at g4
        obtain ⟨tq, etq, gtq, ltq⟩ := trim_good g3 (by omega)
        obtain ⟨r, er, gr⟩ := div_l2 (m + 2) u' qd (List.replicate (m + 2) 0) tq s (m + 2) 0 g1 (lim_replicate _) hs (by simp) (by omega) (by omega) (by omega) etq (by rw [pw_zero]; simp [val_nil])
        -- what was computed
        have hu0 := val_nonneg g1
        have hZ : val u' = (val x - val qd * val y) * 2 ^ s := by
          have : val qd * val v = val qd * val y * 2 ^ s := by rw [vv]; grind
          rw [Int.sub_mul, ← vu]; omega
        have hZ0 : 0 ≤ val x - val qd * val y := by
          by_cases h : 0 ≤ val x - val qd * val y
          · exact h
          · exfalso
            have : (val x - val qd * val y) * 2 ^ s ≤ (-1) * 2 ^ s := Int.mul_le_mul_of_nonneg_right (by omega) (Int.le_of_lt hs0)
            omega
        have hZ1 : val x - val qd * val y < val y := by
          rw [hZ, vv] at g5
          exact Int.lt_of_mul_lt_mul_right g5 (Int.le_of_lt hs0)
        have hq : val x / val y = val qd := by
          rw [show val x = (val x - val qd * val y) + val y * val qd by rw [Int.mul_comm (val y)]; omega, Int.add_mul_ediv_left _ _ (by omega), Int.ediv_eq_zero_of_lt hZ0 hZ1]; omega
        have hr : val x % val y = val x - val qd * val y := by
          have := Int.mul_ediv_add_emod (val x) (val y)
          rw [hq, Int.mul_comm] at this; omega
        have hrr : val u' / 2 ^ s % pw (m + 2) = val x % val y := by
          have hylt := val_lt gy.lim
          rw [hm] at hylt
          rw [hZ, Int.mul_ediv_cancel _ (Int.ne_of_gt hs0), Int.emod_eq_of_lt hZ0 (by omega), hr]
        refine ⟨tq, r, ?_, by rw [hq]; exact gtq, by unfold modv; rw [if_neg (by omega), ← hrr]; exact gr⟩
        have hsu : IntKind.u64.wrap (s : Int) = (s : Int) := u64 (by omega) (by omega)
        have w1 : wrap64 ((y.length : Int) - 1) = ((m + 1 : Nat) : Int) := by rw [hm, w64 (by omega) (by omega)]; omega
        have hvl1 : wrap64 ((v.length : Int) - 1) = ((m + 1 : Nat) : Int) := by rw [lv, w64 (by omega) (by omega)]; omega
        have hvl2 : wrap64 ((v.length : Int) - 2) = ((m : Nat) : Int) := by rw [lv, w64 (by omega) (by omega)]; omega
        have hul : wrap64 ((u.length : Int) - (v.length : Int)) = (M : Int) := by rw [lv, lu, w64 (by omega) (by omega)]; omega
        have hM1 : wrap64 ((M : Int) - 1) = (M : Int) - 1 := by rw [w64 (by omega) (by omega)]
        have hv1 := lim_getD gv (m + 1)
        have hv2 := lim_getD gv m
        have c1 : ¬ ((y.length : Int) = 0) := by omega
        have c2 : ¬ ((y.length : Int) = 1) := by omega
        have c3 : (0 : Int) ≤ ((m + 1 : Nat) : Int) := Int.natCast_nonneg _
        have c4 : ((m + 1 : Nat) : Int) < (y.length : Int) := by omega
        have c5 : (y.length : Int) ≤ (t.length : Int) := by omega
        have c6 : (M : Int).toNat ≤ 70368744177664 := by omega
        have c7 : ((m + 1 : Nat) : Int) < (v.length : Int) := by omega
        have c8 : ((m : Nat) : Int) < (v.length : Int) := by omega
        refine Ev.congr (fun k => if_neg c1) (Ev.bind hc (Ev.congr (fun k => (if_neg (fun h => hlt (cmpv_lt.1 h))).trans (if_neg c2)) ?_))
        rw [w1] at hlz ⊢
        refine Ev.congr (fun k => (if_pos c3).trans ((if_pos c4).trans (by rw [hlz, Option.bind_some, hsu]))) ?_
        refine Ev.bind eu (Ev.bind et ?_)
        refine Ev.congr (fun k => (if_pos (Int.natCast_nonneg _)).trans ((if_pos c5).trans (by
          rw [Option.bind_some, Int.toNat_natCast, hm, htv, hul, hvl1, hvl2, if_pos (Int.natCast_nonneg _), if_pos c6, if_pos c3, if_pos c7, if_pos (Int.natCast_nonneg _), if_pos c8, hM1, lv, Int.toNat_natCast, rd_nat, rd_nat, u64l hv1, u64l hv2]))) (g7 (tq, r) (Ev.step (fun k => ?_) er))
        have d1 : (0 : Int) ≤ ((m + 2 : Nat) : Int) := Int.natCast_nonneg _
        have d2 : ((m + 2 : Nat) : Int).toNat ≤ 70368744177664 := by omega
        simp only [nat_Div.l0]
        rw [if_neg (by decide), if_pos d1, if_pos d2, Option.bind_some, Int.toNat_natCast, List.length_replicate]
        rfl
end Go.Proofs.Ytlhgagmghahbhaa.N
