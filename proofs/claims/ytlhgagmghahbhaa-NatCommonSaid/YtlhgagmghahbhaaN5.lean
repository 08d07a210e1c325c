/- Contracts: nat.limb, bits.LeadingZeros32, shl, less, more. -/
import Derived.Test.YtlhgagmghahbhaaN4
import Derived.Test.YtlhgagmghahbhaaQx10
namespace Go.Proofs.Ytlhgagmghahbhaa.N
open Go.RowKit Go.Proofs.Ytlhgagmghahbhaa.Q Go.Proofs.YtlhgagmghahbhaaW.PrintWords Go.Proofs.YtlhgagmghahbhaaW.PrintLast Go.Proofs.YtlhgagmghahbhaaW.PrintMore
open FNat
set_option linter.unusedVariables false
set_option linter.unusedSimpArgs false

/-! ### nat.limb: a division by one limb -/
theorem limb_l0 (n : Nat) : ∀ (a q : List Int) (d r : Int), Lim a → Lim q → 0 < d ∧ d < 4294967296 → n ≤ a.length → a.length ≤ 100000000 → q.length = a.length → 0 ≤ r ∧ r < d →
    (∀ j, j < n → q.getD j 0 = 0) → val q * d + pw n * r = pw n * val (a.drop n) →
    ∃ t, Ev (fun k => nat_limb.l0 k a d q r ((n : Int) - 1)) (t, val a % d) ∧ Good t (val a / d) ∧ t.length ≤ a.length := by
  induction n with
  | zero =>
    intro a q d r ha hq hd hn hl hql hr hz hv
    rw [pw_zero, List.drop_zero] at hv
    obtain ⟨t, et, g, l⟩ := trim_good hq (by omega)
    have hq0 : val a / d = val q := by
      rw [show val a = r + d * val q by rw [Int.mul_comm d]; omega, Int.add_mul_ediv_left _ _ (by omega), Int.ediv_eq_zero_of_lt hr.1 hr.2]; omega
    have hr0 : val a % d = r := by
      rw [show val a = r + d * val q by rw [Int.mul_comm d]; omega, Int.add_mul_emod_self_left, Int.emod_eq_of_lt hr.1 hr.2]
    refine ⟨t, ?_, by rw [hq0]; exact g, by omega⟩
    refine Ev.step (fun k => ?_) (Ev.bind (f := fun _ t => some (t, r % 4294967296)) et (ev_eq (Ev.now _) (by rw [hr0, Int.emod_eq_of_lt hr.1 (by omega)])))
    simp only [nat_limb.l0]; rw [if_neg (by omega)]
  | succ n ih =>
    intro a q d r ha hq hd hn hl hql hr hz hv
    have hx := lim_getD ha n
    have hdr := val_drop_next a n
    obtain ⟨x, hxe⟩ : ∃ x, a.getD n 0 = x := ⟨_, rfl⟩
    rw [hxe] at hx hdr
    have hor := or_limb (n := r) (x := x) ⟨hr.1, by omega⟩ hx
    have ht0 : 0 ≤ r * 4294967296 + x := by omega
    have htd : r * 4294967296 + x < d * 4294967296 := by omega
    have hq1 : 0 ≤ (r * 4294967296 + x) / d := Int.ediv_nonneg ht0 (by omega)
    have hq2 : (r * 4294967296 + x) / d < 4294967296 := Int.ediv_lt_of_lt_mul hd.1 (by rw [Int.mul_comm]; omega)
    have hr1 : 0 ≤ (r * 4294967296 + x) % d := Int.emod_nonneg _ (by omega)
    have hr2 : (r * 4294967296 + x) % d < d := Int.emod_lt_of_pos _ hd.1
    have hdm := Int.mul_ediv_add_emod (r * 4294967296 + x) d
    have hs := val_set q n ((r * 4294967296 + x) / d) (by omega)
    rw [hz n (by omega)] at hs
    have hlen : (q.set n ((r * 4294967296 + x) / d)).length = q.length := List.length_set
    obtain ⟨t, et, g, l⟩ := ih a (q.set n ((r * 4294967296 + x) / d)) d ((r * 4294967296 + x) % d) ha (lim_set hq _ ⟨hq1, hq2⟩) hd (by omega) hl (by omega) ⟨hr1, hr2⟩
      (fun j hj => by rw [FNat.getD_set_ne (by omega)]; exact hz j (by omega)) (by
        rw [hs, hdr]
        rw [pw_succ] at hv
        generalize (r * 4294967296 + x) / d = e at *
        generalize (r * 4294967296 + x) % d = f at *
        clear hq1 hq2 hr1 hr2 ht0 htd hor hs hz hlen
        obtain rfl : x = d * e + f - r * 4294967296 := by omega
        grind)
    refine ⟨t, Ev.step (fun k => ?_) et, g, l⟩
    have e1 : wrap64 (((n + 1 : Nat) : Int) - 1 - 1) = (n : Int) - 1 := by rw [w64 (by omega) (by omega)]; omega
    have e2 : ((n + 1 : Nat) : Int) - 1 = (n : Int) := by omega
    simp only [nat_limb.l0]
    rw [if_pos (by omega), if_pos (by omega), if_pos (by omega), if_neg (by rw [u64 (by omega) (by omega)]; omega), if_pos (by omega), e1, e2, rd_nat, hxe, u64 (x := r * 4294967296) (by omega) (by omega), u64l hx, u64 (x := d) (by omega) (by omega), hor,
      Int.tdiv_eq_ediv_of_nonneg ht0, Int.tmod_eq_emod_of_nonneg ht0, u64 hq1 (by omega), Int.emod_eq_of_lt hq1 hq2]
    rfl
theorem limb_good {a : List Int} {d : Int} (ha : Lim a) (hd : 0 < d ∧ d < 4294967296) (h : a.length ≤ 100000000) :
    ∃ t, Ev (fun k => nat_limb.f k a d) (t, val a % d) ∧ Good t (val a / d) ∧ t.length ≤ a.length := by
  obtain ⟨t, et, g, l⟩ := limb_l0 a.length a (List.replicate a.length 0) d 0 ha (lim_replicate _) hd (Nat.le_refl _) h (by simp) (by omega) (fun j _ => getD_replicate _ _) (by rw [val_replicate, List.drop_length]; simp [val_nil])
  refine ⟨t, Ev.congr (fun k => ?_) et, g, l⟩
  show nat_limb.f k a d = _
  unfold nat_limb.f
  rw [if_pos (by omega), if_pos (by omega), w64 (by omega) (by omega)]
  rfl

/-! ### leading zeros -/
def len8at (T : ByteArray) : Prop := ∀ n : Fin 256, 0 < n.val → ∃ t : Fin 9, 0 < t.val ∧ 2 ^ (t.val - 1) ≤ n.val ∧ n.val < 2 ^ t.val ∧ bt T (n.val : Int) = (t.val : Int)
instance (T : ByteArray) : Decidable (len8at T) := by unfold len8at; infer_instance
set_option maxRecDepth 100000 in
theorem len32_form : ∃ T : ByteArray, len8at T ∧ ∀ a0, bits_Len32.f a0 = if a0 ≥ 65536 then (if (a0 / 65536) ≥ 256 then (if 0 ≤ (((a0 / 65536) / 256) % 256) then (if (((a0 / 65536) / 256) % 256) < 256 then (some (wrap64 ((16 + 8) + (wrap64 (bt T (((a0 / 65536) / 256) % 256)))))) else (none)) else (none)) else (if 0 ≤ ((a0 / 65536) % 256) then (if ((a0 / 65536) % 256) < 256 then (some (wrap64 (16 + (wrap64 (bt T ((a0 / 65536) % 256)))))) else (none)) else (none))) else (if a0 ≥ 256 then (if 0 ≤ ((a0 / 256) % 256) then (if ((a0 / 256) % 256) < 256 then (some (wrap64 ((0 + 8) + (wrap64 (bt T ((a0 / 256) % 256)))))) else (none)) else (none)) else (if 0 ≤ ((a0) % 256) then (if ((a0) % 256) < 256 then (some (wrap64 (0 + (wrap64 (bt T ((a0) % 256)))))) else (none)) else (none))) := by
  refine ⟨?T, ?h, fun a0 => ?e⟩
  case e => exact rfl
  case h => decide +kernel
theorem len8' {T : ByteArray} (hT : len8at T) {n : Int} (h : 0 < n) (h' : n < 256) : ∃ t : Nat, 0 < t ∧ t ≤ 8 ∧ (2 : Int) ^ (t - 1) ≤ n ∧ n < 2 ^ t ∧ bt T n = (t : Int) := by
  obtain ⟨m, rfl⟩ := Int.eq_ofNat_of_zero_le (Int.le_of_lt h)
  obtain ⟨t, h1, h2, h3, h4⟩ := hT ⟨m, by omega⟩ (by show 0 < m; omega)
  refine ⟨t.val, h1, by omega, ?_, ?_, h4⟩
  · exact_mod_cast h2
  · exact_mod_cast h3
theorem len32_ev {x : Int} (h : 0 < x) (h' : x < 4294967296) : ∃ t : Nat, 0 < t ∧ t ≤ 32 ∧ (2 : Int) ^ (t - 1) ≤ x ∧ x < 2 ^ t ∧ bits_Len32.f x = some (t : Int) := by
  have up : ∀ (c y : Int) (t n : Nat), (2 : Int) ^ (t - 1) ≤ y → y < 2 ^ t → 0 < t → c = 2 ^ n → c * y ≤ x → x < c * (y + 1) → (2 : Int) ^ (n + t - 1) ≤ x ∧ x < 2 ^ (n + t) := by
    intro c y t n h1 h2 h3 h4 h5 h6
    rw [show n + t - 1 = n + (t - 1) by omega, Int.pow_add, Int.pow_add, ← h4]
    have hc : 0 < c := by rw [h4]; exact two_pos n
    have h7 : c * 2 ^ (t - 1) ≤ c * y := Int.mul_le_mul_of_nonneg_left h1 (by omega)
    have h8 : c * (y + 1) ≤ c * 2 ^ t := Int.mul_le_mul_of_nonneg_left (by omega) (by omega)
    omega
  obtain ⟨T, hT, hf⟩ := len32_form
  rw [hf]
  by_cases c1 : x ≥ 65536
  · rw [if_pos c1]
    by_cases c2 : (x / 65536) ≥ 256
    · obtain ⟨t, h1, h2, h3, h4, h5⟩ := len8' hT (n := x / 65536 / 256) (by omega) (by omega)
      have := up 16777216 _ t 24 h3 h4 h1 (by decide) (by omega) (by omega)
      refine ⟨24 + t, by omega, by omega, this.1, this.2, ?_⟩
      rw [if_pos c2, if_pos (by omega), if_pos (by omega), Int.emod_eq_of_lt (by omega) (by omega), h5, w64 (x := (t : Int)) (by omega) (by omega), w64 (by omega) (by omega)]
      congr 1
    · obtain ⟨t, h1, h2, h3, h4, h5⟩ := len8' hT (n := x / 65536) (by omega) (by omega)
      have := up 65536 _ t 16 h3 h4 h1 (by decide) (by omega) (by omega)
      refine ⟨16 + t, by omega, by omega, this.1, this.2, ?_⟩
      rw [if_neg c2, if_pos (by omega), if_pos (by omega), Int.emod_eq_of_lt (by omega) (by omega), h5, w64 (x := (t : Int)) (by omega) (by omega), w64 (by omega) (by omega)]
      congr 1
  · rw [if_neg c1]
    by_cases c2 : x ≥ 256
    · obtain ⟨t, h1, h2, h3, h4, h5⟩ := len8' hT (n := x / 256) (by omega) (by omega)
      have := up 256 _ t 8 h3 h4 h1 (by decide) (by omega) (by omega)
      refine ⟨8 + t, by omega, by omega, this.1, this.2, ?_⟩
      rw [if_pos c2, if_pos (by omega), if_pos (by omega), Int.emod_eq_of_lt (by omega) (by omega), h5, w64 (x := (t : Int)) (by omega) (by omega), w64 (by omega) (by omega)]
      congr 1
    · obtain ⟨t, h1, h2, h3, h4, h5⟩ := len8' hT (n := x) (by omega) (by omega)
      refine ⟨t, by omega, by omega, h3, h4, ?_⟩
      rw [if_neg c2, if_pos (by omega), if_pos (by omega), Int.emod_eq_of_lt (by omega) (by omega), h5, w64 (x := (t : Int)) (by omega) (by omega), w64 (by omega) (by omega)]
      congr 1; omega
theorem lz_ev {x : Int} (h : 0 < x) (h' : x < 4294967296) : ∃ s : Nat, s ≤ 31 ∧ bits_LeadingZeros32.f x = some (s : Int) ∧ 2147483648 ≤ x * 2 ^ s ∧ x * 2 ^ s < 4294967296 := by
  obtain ⟨t, h1, h2, h3, h4, h5⟩ := len32_ev h h'
  have hp := two_pos (32 - t)
  refine ⟨32 - t, by omega, ?_, ?_, ?_⟩
  · unfold bits_LeadingZeros32.f
    rw [h5, Option.bind_some, w64 (by omega) (by omega)]
    congr 1; omega
  · have := Int.mul_le_mul_of_nonneg_right h3 (Int.le_of_lt hp)
    rw [← Int.pow_add, show t - 1 + (32 - t) = 31 by omega] at this
    exact this
  · have := Int.mul_lt_mul_of_pos_right h4 hp
    rw [← Int.pow_add, show t + (32 - t) = 32 by omega] at this
    exact this


end Go.Proofs.Ytlhgagmghahbhaa.N
