/- Contracts: nat.Div. -/
import Derived.Test.YtlhgagmghahbhaaN8
import Derived.Test.YtlhgagmghahbhaaQx1
import Derived.Test.YtlhgagmghahbhaaQx17
namespace Go.Proofs.Ytlhgagmghahbhaa.N
open Go.RowKit Go.Proofs.Ytlhgagmghahbhaa.Q Go.Proofs.YtlhgagmghahbhaaW.PrintWords Go.Proofs.YtlhgagmghahbhaaW.PrintLast Go.Proofs.YtlhgagmghahbhaaW.PrintMore
open FNat
set_option linter.unusedVariables false
set_option linter.unusedSimpArgs false

/-! ### One digit -/
/-! ### All the digits -/
theorem div_l0 (c : Nat) : ∀ (s : Int) (v u qd : List Int) (m : Nat) (U : Int), Lim u → Lim v → u.length ≤ 100000000 → v.length = m + 2 → 2147483648 ≤ v.getD (m + 1) 0 → Lim qd → u.length = qd.length + (m + 2) → c ≤ qd.length →
    (∀ i, i < c → qd.getD i 0 = 0) → val u < pw c * val v → val qd * val v + val u = U →
    ∃ u' qd' : List Int, Lim u' ∧ u'.length = u.length ∧ Lim qd' ∧ qd'.length = qd.length ∧ val u' < val v ∧ val qd' * val v + val u' = U ∧
      ∀ R, Ev (fun k => nat_Div.l0 k s u' v ((m + 2 : Nat) : Int) qd' (v.getD (m + 1) 0) (v.getD m 0) (-1)) R →
        Ev (fun k => nat_Div.l0 k s u v ((m + 2 : Nat) : Int) qd (v.getD (m + 1) 0) (v.getD m 0) ((c : Int) - 1)) R := by
  induction c with
  | zero =>
    intro s v u qd m U hu hv hl hvl hv1 hqd hlen hc hz hlt hU
    rw [pw_zero, Int.one_mul] at hlt
    exact ⟨u, qd, hu, rfl, hqd, rfl, hlt, hU, fun R hR => hR⟩
  | succ c ih =>
    intro s v u qd m U hu hv hl hvl hv1 hqd hlen hc hz hlt hU
    have hj : c + (m + 3) ≤ u.length := by omega
    have hwin := val_win u hj
    have hlc : (u.take c).length = c := by rw [List.length_take]; omega
    have htl := val_lt (lim_take hu c)
    have ht0 := val_nonneg (lim_take hu c)
    rw [hlc] at htl
    have hcur0 := val_nonneg (lim_drop (lim_take hu (c + (m + 3))) c)
    have hh0 := val_nonneg (lim_drop hu (c + (m + 3)))
    have hvlt := val_lt hv
    have hv0 := val_nonneg hv
    rw [hvl] at hvlt
    have hpc := pw_pos c
    have hp3 : pw (m + 3) = 4294967296 * pw (m + 2) := pw_succ _
    rw [pw_succ] at hlt
    have hdig := fun h => digit_ev s u v qd c m hu hv hl hvl hj (by omega) hv1 h
    obtain ⟨cur, hcur⟩ : ∃ cur, (u.take (c + (m + 3))).drop c = cur := ⟨_, rfl⟩
    obtain ⟨hi, hhi⟩ : ∃ hi, u.drop (c + (m + 3)) = hi := ⟨_, rfl⟩
    rw [hcur] at hwin hcur0 hdig
    rw [hhi] at hwin hh0 hdig
    have hX : pw c * (val cur + pw (m + 3) * val hi) < pw c * (4294967296 * val v) := by
      have : 4294967296 * pw c * val v = pw c * (4294967296 * val v) := by grind
      omega
    have hX2 := Int.lt_of_mul_lt_mul_left hX (Int.le_of_lt hpc)
    have hpm := pw_pos (m + 2)
    have hhi0 : val hi = 0 := by
      by_cases h : val hi = 0
      · exact h
      · exfalso
        have : pw (m + 3) * 1 ≤ pw (m + 3) * val hi := Int.mul_le_mul_of_nonneg_left (by omega) (by omega)
        omega
    rw [hhi0, Int.mul_zero, Int.add_zero] at hX2 hwin
    obtain ⟨w, gw, lw, vw, hq01, ho⟩ := hdig hX2
    have hVp : 0 < val v := by omega
    have hwm := Int.mul_ediv_add_emod (val cur) (val v)
    have hwl : val cur % val v < val v := Int.emod_lt_of_pos _ hVp
    have hw0 : 0 ≤ val cur % val v := Int.emod_nonneg _ (by omega)
    rw [← vw] at hwm hwl hw0
    obtain ⟨q, hq⟩ : ∃ q, val cur / val v = q := ⟨_, rfl⟩
    rw [hq] at hwm hq01 ho
    have hcq : c < qd.length := by omega
    have hlen2 : (u.take c ++ (w ++ hi)).length = u.length := by
      rw [List.length_append, List.length_append, hlc, lw, ← hhi, List.length_drop]; omega
    have hval2 : val (u.take c ++ (w ++ hi)) = val (u.take c) + pw c * val w := by
      rw [val_append, val_append, hlc, hhi0]; simp
    have hset := val_set qd c q hcq
    rw [hz c (by omega), Int.sub_zero] at hset
    obtain ⟨u', qd', g1, g2, g3, g4, g5, g6, g7⟩ := ih s v (u.take c ++ (w ++ hi)) (qd.set c q) m U (lim_append.2 ⟨lim_take hu _, lim_append.2 ⟨gw, hhi ▸ lim_drop hu _⟩⟩) hv (by rw [hlen2]; exact hl) hvl hv1 (lim_set hqd _ hq01)
      (by rw [hlen2, List.length_set]; exact hlen) (by rw [List.length_set]; omega) (fun i hi => by rw [FNat.getD_set_ne (by omega)]; exact hz i (by omega))
      (by
        rw [hval2]
        have : pw c * (val w + 1) ≤ pw c * val v := Int.mul_le_mul_of_nonneg_left (by omega) (by omega)
        rw [Int.mul_add, Int.mul_one] at this
        omega)
      (by
        rw [hval2, hset, ← hU, hwin, ← hwm]
        grind)
    rw [hlen2] at g2
    rw [List.length_set] at g4
    refine ⟨u', qd', g1, g2, g3, g4, g5, g6, fun R hR => ?_⟩
    have := ho R (g7 R hR)
    rw [show (((c + 1 : Nat) : Int) - 1) = (c : Int) by omega]
    exact this

/-! ### The remainder, shifted back -/
theorem mod_next {Z p : Int} (hp : 0 < p) : Z % (4294967296 * p) = Z % p + p * (Z / p % 4294967296) := by
  have h1 := Int.mul_ediv_add_emod Z p
  have h2 := Int.mul_ediv_add_emod (Z / p) 4294967296
  have h3 : 0 ≤ Z % p := Int.emod_nonneg _ (by omega)
  have h4 : Z % p < p := Int.emod_lt_of_pos _ hp
  have h5 : 0 ≤ Z / p % 4294967296 := Int.emod_nonneg _ (by omega)
  have h6 : Z / p % 4294967296 < 4294967296 := Int.emod_lt_of_pos _ (by omega)
  generalize Z / p % 4294967296 = e at *
  generalize Z % p = f at *
  generalize Z / p / 4294967296 = g at *
  have h7 : Z = (f + p * e) + 4294967296 * p * g := by rw [← h1, ← h2]; grind
  have h8 : p * e ≤ p * 4294967295 := Int.mul_le_mul_of_nonneg_left (by omega) (by omega)
  have h9 : 0 ≤ p * e := Int.mul_nonneg (by omega) h5
  rw [h7, Int.add_mul_emod_self_left, Int.emod_eq_of_lt (by omega) (by omega)]
theorem shr_word {hi lo : Int} {s : Nat} (hs : s ≤ 31) (h1 : 0 ≤ hi ∧ hi < 4294967296) (h2 : 0 ≤ lo ∧ lo < 4294967296) :
    shr .u64 (Go.bits .or .u64 (IntKind.u64.wrap (IntKind.u64.wrap hi * 4294967296)) (IntKind.u64.wrap lo)) (s : Int) = (hi * 4294967296 + lo) / 2 ^ s := by
  rw [u64l h1, u64l h2, u64 (x := hi * 4294967296) (by omega) (by omega), or_limb h1 h2]
  unfold shr
  rw [Int.toNat_natCast, show min s IntKind.u64.bits = s from Nat.min_eq_left (by show s ≤ 64; omega)]
theorem shr_digit {u : List Int} (hu : Lim u) {s : Nat} (hs : s ≤ 31) (i : Nat) : val u / 2 ^ s / pw i % 4294967296 = (u.getD (i + 1) 0 * 4294967296 + u.getD i 0) / 2 ^ s % 4294967296 := by
  have h1 : val u / 2 ^ s / pw i = val (u.drop i) / 2 ^ s := by
    rw [Int.ediv_ediv_of_nonneg (Int.le_of_lt (two_pos s)), Int.mul_comm, ← Int.ediv_ediv_of_nonneg (Int.le_of_lt (pw_pos i)), val_drop_div u hu]
  rw [h1, val_drop_next, val_drop_next]
  generalize u.getD i 0 = lo
  generalize u.getD (i + 1) 0 = hi
  generalize val (u.drop (i + 1 + 1)) = X
  have e : lo + 4294967296 * (hi + 4294967296 * X) = (hi * 4294967296 + lo) + 2 ^ s * (4294967296 * (2 ^ (32 - s) * X)) := by
    have : (4294967296 : Int) = 2 ^ s * 2 ^ (32 - s) := by rw [← Int.pow_add, show s + (32 - s) = 32 by omega]; rfl
    have h2 : 2 ^ s * (4294967296 * (2 ^ (32 - s) * X)) = 4294967296 * (4294967296 * X) := by
      have : (2 : Int) ^ s * (4294967296 * (2 ^ (32 - s) * X)) = 4294967296 * ((2 ^ s * 2 ^ (32 - s)) * X) := by grind
      rw [this]; congr 2; omega
    rw [h2]; omega
  rw [e, Int.add_mul_ediv_left _ _ (Int.ne_of_gt (two_pos s)), Int.add_mul_emod_self_left]
theorem div_l2 (d : Nat) : ∀ (u qd o tq : List Int) (s n i : Nat), Lim u → Lim o → s ≤ 31 → o.length = n → n < u.length → u.length ≤ 100000000 → i + d = n → Ev (fun k => nat_trim.f k qd) tq →
    val (o.take i) = val u / 2 ^ s % pw i →
    ∃ r, Ev (fun k => nat_Div.l2 k (s : Int) u qd o (n : Int) (i : Int)) (tq, r) ∧ Good r (val u / 2 ^ s % pw n) := by
  induction d with
  | zero =>
    intro u qd o tq s n i hu ho hs hol hn hl hi htq hv
    obtain rfl : i = n := by omega
    obtain ⟨r, er, g, l⟩ := trim_good ho (by omega)
    rw [List.take_of_length_le (by omega)] at hv
    refine ⟨r, Ev.step (fun k => ?_) (Ev.bind (f := fun k t457 => (nat_trim.f k o).bind fun t460 => some (t457, t460)) htq (Ev.bind (f := fun _ t460 => some (tq, t460)) er (Ev.now _))), by rw [← hv]; exact g⟩
    simp only [nat_Div.l2]; rw [if_neg (by omega)]
  | succ d ih =>
    intro u qd o tq s n i hu ho hs hol hn hl hi htq hv
    have hid : i + 1 + d = n := by omega
    have hin : (i : Int) < (n : Int) := by omega
    have hi1 : (0 : Int) ≤ ((i + 1 : Nat) : Int) := Int.natCast_nonneg _
    have hi2 : ((i + 1 : Nat) : Int) < (u.length : Int) := by omega
    have hi3 : (i : Int) < (u.length : Int) := by omega
    have hi4 : (i : Int) < (o.length : Int) := by omega
    have hio : i < o.length := by omega
    have hw1 : wrap64 ((i : Int) + 1) = ((i + 1 : Nat) : Int) := by rw [w64 (by omega) (by omega)]; rfl
    have hx := lim_getD hu i
    have hy := lim_getD hu (i + 1)
    have hsw := shr_word hs hy hx
    have hsd := shr_digit hu hs i
    have hr1 : rd u (i : Int) = u.getD i 0 := rd_nat _ _
    have hr2 : rd u ((i + 1 : Nat) : Int) = u.getD (i + 1) 0 := rd_nat _ _
    rw [← hr1, ← hr2] at hsw hsd
    have hd0 : 0 ≤ (rd u ((i + 1 : Nat) : Int) * 4294967296 + rd u (i : Int)) / 2 ^ s % 4294967296 ∧ (rd u ((i + 1 : Nat) : Int) * 4294967296 + rd u (i : Int)) / 2 ^ s % 4294967296 < 4294967296 := ⟨Int.emod_nonneg _ (by decide), Int.emod_lt_of_pos _ (by decide)⟩
    have ht := val_take_succ (o.set i ((rd u ((i + 1 : Nat) : Int) * 4294967296 + rd u (i : Int)) / 2 ^ s % 4294967296)) i (by rw [List.length_set]; exact hio)
    rw [FNat.getD_set_self hio, List.take_set_of_le (Nat.le_refl _), hv, ← hsd] at ht
    obtain ⟨r, er, g⟩ := ih u qd (o.set i ((rd u ((i + 1 : Nat) : Int) * 4294967296 + rd u (i : Int)) / 2 ^ s % 4294967296)) tq s n (i + 1) hu (lim_set ho _ hd0) hs (by rw [List.length_set]; exact hol) hn hl hid htq (by
      rw [← hsd, ht, pw_succ, mod_next (pw_pos i)])
    refine ⟨r, Ev.step (fun k => ?_) er, g⟩
    simp only [nat_Div.l2]
    rw [if_pos hin, hw1, if_pos hi1, if_pos hi2, if_pos (Int.natCast_nonneg i), if_pos hi3, if_pos (Int.natCast_nonneg s), if_pos hi4, hsw, Int.toNat_natCast]
end Go.Proofs.Ytlhgagmghahbhaa.N
