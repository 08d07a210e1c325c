/- Contracts: shl, less, more. -/
import Derived.Test.YtlhgagmghahbhaaN5
import Derived.Test.YtlhgagmghahbhaaQx10
namespace Go.Proofs.Ytlhgagmghahbhaa.N
open Go.RowKit Go.Proofs.Ytlhgagmghahbhaa.Q Go.Proofs.YtlhgagmghahbhaaW.PrintWords Go.Proofs.YtlhgagmghahbhaaW.PrintLast Go.Proofs.YtlhgagmghahbhaaW.PrintMore
open FNat
set_option linter.unusedVariables false
set_option linter.unusedSimpArgs false

/-! ### words of bits -/
theorem and_mask {x : Int} (h : 0 ≤ x) (h' : x < 18446744073709551616) : Go.bits .and .u64 x 4294967295 = x % 4294967296 := by
  obtain ⟨n, rfl⟩ := Int.eq_ofNat_of_zero_le h
  have := u64_and_nat n 4294967295 (by omega) (by omega)
  rw [show ((4294967295 : Nat) : Int) = 4294967295 from rfl] at this
  rw [this, show (4294967295 : Nat) = 2 ^ 32 - 1 from rfl, Nat.and_two_pow_sub_one_eq_mod]; omega
theorem two_le_pow31 {s : Nat} (h : s ≤ 31) : (2 : Int) ^ s ≤ 2147483648 := by
  have : (2 : Int) ^ 31 = 2 ^ s * 2 ^ (31 - s) := by rw [← Int.pow_add, show s + (31 - s) = 31 by omega]
  have h2 := two_pos (31 - s)
  have h3 := two_pos s
  have h4 : 2 ^ s * 1 ≤ (2 : Int) ^ s * 2 ^ (31 - s) := Int.mul_le_mul_of_nonneg_left (by omega) (by omega)
  have h5 : (2 : Int) ^ 31 = 2147483648 := rfl
  omega
theorem or_shl {c x : Int} {s : Nat} (hs : s ≤ 31) (hc : 0 ≤ c ∧ c < 2 ^ s) (hx : 0 ≤ x ∧ x < 4294967296) : Go.bits .or .u64 c (x * 2 ^ s) = c + x * 2 ^ s := by
  have h31 := two_le_pow31 hs
  have hp := two_pos s
  obtain ⟨c, rfl⟩ := Int.eq_ofNat_of_zero_le hc.1
  obtain ⟨x, rfl⟩ := Int.eq_ofNat_of_zero_le hx.1
  have hpn : (2 : Int) ^ s = ((2 ^ s : Nat) : Int) := by exact_mod_cast rfl
  have hlt : (x : Int) * 2 ^ s < 18446744073709551616 := by
    have : (x : Int) * 2 ^ s ≤ 4294967295 * 2 ^ s := Int.mul_le_mul_of_nonneg_right (by omega) (by omega)
    omega
  have e : (x : Int) * 2 ^ s = ((x * 2 ^ s : Nat) : Int) := by rw [hpn]; exact_mod_cast rfl
  have hc2 : c < 2 ^ s := by have := hc.2; rw [hpn] at this; exact_mod_cast this
  rw [e] at hlt ⊢
  have := u64_or_nat c (x * 2 ^ s) (by omega) (by omega)
  rw [this]
  have h2 := Nat.two_pow_add_eq_or_of_lt (i := s) (b := c) hc2 x
  have h3 : c ||| x * 2 ^ s = c + x * 2 ^ s := by rw [Nat.or_comm, Nat.mul_comm, ← h2]; omega
  rw [h3]; omega

/-! ### nat.shl -/
theorem shl_word {x : Int} {s : Nat} (hs : s ≤ 31) (hx : 0 ≤ x ∧ x < 4294967296) : shl .u64 (IntKind.u64.wrap x) (s : Int) = x * 2 ^ s := by
  have h31 := two_le_pow31 hs
  have hp := two_pos s
  have hlt : x * 2 ^ s ≤ 4294967295 * 2 ^ s := Int.mul_le_mul_of_nonneg_right (by omega) (by omega)
  have h0 : 0 ≤ x * 2 ^ s := Int.mul_nonneg hx.1 (by omega)
  unfold shl
  rw [u64l hx, Int.toNat_natCast, show min s IntKind.u64.bits = s from Nat.min_eq_left (by show s ≤ 64; omega), u64 h0 (by omega)]
theorem shl_l0 (d : Nat) : ∀ (a o : List Int) (s i : Nat) (c : Int), Lim a → Lim o → s ≤ 31 → a.length ≤ 100000000 → o.length = a.length + 1 → i + d = a.length → 0 ≤ c ∧ c < 2 ^ s →
    val (o.take i) + pw i * c = val (a.take i) * 2 ^ s →
    ∃ r, Ev (fun k => nat_shl.l0 k a (s : Int) o c a (a.length : Int) (i : Int)) r ∧ Lim r ∧ val r = val a * 2 ^ s ∧ r.length = a.length + 1 := by
  induction d with
  | zero =>
    intro a o s i c ha ho hs hl hol hi hc hv
    obtain rfl : i = a.length := by omega
    have h31 := two_le_pow31 hs
    rw [List.take_of_length_le (Nat.le_refl _)] at hv
    refine ⟨o.set a.length c, ev_some fun k => ?_, lim_set ho _ ⟨hc.1, by omega⟩, ?_, by rw [List.length_set]; exact hol⟩
    · simp only [nat_shl.l0]
      rw [if_neg (by omega), if_pos (by omega), if_pos (by omega), Int.emod_eq_of_lt hc.1 (by omega)]; rfl
    · have h1 := val_take_succ (o.set a.length c) a.length (by rw [List.length_set]; omega)
      rw [List.take_of_length_le (by rw [List.length_set]; omega), FNat.getD_set_self (by omega), List.take_set_of_le (Nat.le_refl _)] at h1
      rw [h1, hv]
  | succ d ih =>
    intro a o s i c ha ho hs hl hol hi hc hv
    have hid : i + 1 + d = a.length := by omega
    have hil : i < a.length := by omega
    have hiL : (i : Int) < (a.length : Int) := by omega
    have hiO : (i : Int) < (o.length : Int) := by omega
    have hio : i < o.length := by omega
    have e1 : wrap64 ((i : Int) + 1) = ((i + 1 : Nat) : Int) := by rw [w64 (by omega) (by omega)]; rfl
    have h31 := two_le_pow31 hs
    have hp := two_pos s
    have hx := lim_getD ha i
    have hsw := shl_word hs hx
    have hor := or_shl hs hc hx
    have hta := val_take_next a i
    obtain ⟨x, hxe⟩ : ∃ x, a.getD i 0 = x := ⟨_, rfl⟩
    rw [hxe] at hx hsw hor hta
    have hx2 : x * 2 ^ s ≤ 4294967295 * 2 ^ s := Int.mul_le_mul_of_nonneg_right (by omega) (by omega)
    have hx0 : 0 ≤ x * 2 ^ s := Int.mul_nonneg hx.1 (by omega)
    have hcar : (c + x * 2 ^ s) / 4294967296 < 2 ^ s := Int.ediv_lt_of_lt_mul (by omega) (by omega)
    have hcar0 : 0 ≤ (c + x * 2 ^ s) / 4294967296 := Int.ediv_nonneg (by omega) (by omega)
    have hdg := Int.mul_ediv_add_emod (c + x * 2 ^ s) 4294967296
    have hd0 : 0 ≤ (c + x * 2 ^ s) % 4294967296 ∧ (c + x * 2 ^ s) % 4294967296 < 4294967296 := ⟨Int.emod_nonneg _ (by omega), Int.emod_lt_of_pos _ (by omega)⟩
    have ht := val_take_succ (o.set i ((c + x * 2 ^ s) % 4294967296)) i (by rw [List.length_set]; exact hio)
    rw [FNat.getD_set_self hio, List.take_set_of_le (Nat.le_refl _)] at ht
    obtain ⟨r, er, g⟩ := ih a (o.set i ((c + x * 2 ^ s) % 4294967296)) s (i + 1) ((c + x * 2 ^ s) / 4294967296) ha (lim_set ho _ hd0) hs hl (by rw [List.length_set]; exact hol) hid ⟨hcar0, hcar⟩ (by
      rw [ht, hta, pw_succ]
      generalize (c + x * 2 ^ s) / 4294967296 = e at *
      generalize (c + x * 2 ^ s) % 4294967296 = f at *
      clear hsw hor ht hd0 hcar hcar0 hx hxe
      generalize (2 : Int) ^ s = S at *
      obtain rfl : c = 4294967296 * e + f - x * S := by omega
      grind)
    refine ⟨r, Ev.step (fun k => ?_) er, g⟩
    simp only [nat_shl.l0]
    rw [if_pos hiL, if_pos (Int.natCast_nonneg i), if_pos hiL, if_pos (Int.natCast_nonneg s), if_pos hiO, e1, rd_nat, hxe, hsw, hor]
    rfl
theorem shl_good {a : List Int} {s : Nat} (ha : Lim a) (hs : s ≤ 31) (h : a.length ≤ 100000000) :
    ∃ r, Ev (fun k => nat_shl.f k a (s : Int)) r ∧ Lim r ∧ val r = val a * 2 ^ s ∧ r.length = a.length + 1 := by
  obtain ⟨r, er, g⟩ := shl_l0 a.length a (List.replicate (a.length + 1) 0) s 0 0 ha (lim_replicate _) hs h (by simp) (by omega) ⟨by omega, two_pos s⟩ (by simp [val_nil])
  refine ⟨r, Ev.congr (fun k => ?_) er, g⟩
  show nat_shl.f k a _ = _
  unfold nat_shl.f
  rw [w64 (by omega) (by omega), if_pos (by omega), if_pos (by omega), show ((a.length : Int) + 1).toNat = a.length + 1 by omega]
  rfl

/-! ### nat.less -/
/-- One round's words, the carry told as a number below the base. -/
theorem less_step {x g y c b : Int} (hx : 0 ≤ x ∧ x < 4294967296) (hg : 0 ≤ g ∧ g < 4294967296) (hy : 0 ≤ y ∧ y < 4294967296) (hc : 0 ≤ c ∧ c < 4294967296) (hb : 0 ≤ b ∧ b ≤ 1) :
    ∃ dg c' b' : Int, (0 ≤ dg ∧ dg < 4294967296) ∧ (0 ≤ c' ∧ c' < 4294967296) ∧ (0 ≤ b' ∧ b' ≤ 1) ∧
      IntKind.u64.wrap (c + IntKind.u64.wrap (g * y)) / 4294967296 = c' ∧
      IntKind.u64.wrap (IntKind.u64.wrap (x - Go.bits .and .u64 (IntKind.u64.wrap (c + IntKind.u64.wrap (g * y))) 4294967295) - b) % 4294967296 = dg ∧
      IntKind.u64.wrap (IntKind.u64.wrap (x - Go.bits .and .u64 (IntKind.u64.wrap (c + IntKind.u64.wrap (g * y))) 4294967295) - b) / 9223372036854775808 = b' ∧
      dg - 4294967296 * (c' + b') = x - b - (c + g * y) ∧ (y = 0 → c' = 0) := by
  have hm := mul_lim hg hy
  rw [u64 (x := g * y) hm.1 (by omega), u64 (x := c + g * y) (by omega) (by omega), and_mask (by omega) (by omega)]
  have hl : 0 ≤ (c + g * y) % 4294967296 ∧ (c + g * y) % 4294967296 < 4294967296 := ⟨Int.emod_nonneg _ (by omega), Int.emod_lt_of_pos _ (by omega)⟩
  have hs := sub_step hx hl hb
  have hd := sub_digit hx hl hb
  have hdm := Int.mul_ediv_add_emod (c + g * y) 4294967296
  refine ⟨_, _, _, hd.1, ⟨by omega, by omega⟩, hd.2.2, rfl, hs.1, hs.2, ?_, ?_⟩
  · have := hd.2.1
    clear hs hd
    generalize (if x < (c + g * y) % 4294967296 + b then (1 : Int) else 0) = q at *
    generalize (x - (c + g * y) % 4294967296 - b) % 4294967296 = z at *
    omega
  · intro h0
    rw [h0, Int.mul_zero]; omega
theorem less_l0 (d : Nat) : ∀ (o v : List Int) (g c b A : Int) (i : Nat), Lim o → Lim v → (0 ≤ g ∧ g < 4294967296) → o.length ≤ 100000000 → v.length < o.length → i + d = o.length → (0 ≤ c ∧ c < 4294967296) → (0 ≤ b ∧ b ≤ 1) →
    (v.length < i → c = 0) → val o - pw i * (c + b) = A - g * val (v.take i) →
    ∃ (r : List Int) (b' : Int), Ev (fun k => nat_less.l0 k o v g c b (o.length : Int) (i : Int)) (b' == 1, r) ∧ Lim r ∧ r.length = o.length ∧ (0 ≤ b' ∧ b' ≤ 1) ∧ val r - pw o.length * b' = A - g * val v := by
  induction d with
  | zero =>
    intro o v g c b A i ho hv hg hl hvl hi hc hb hz hval
    obtain rfl : i = o.length := by omega
    rw [hz hvl, List.take_of_length_le (by omega), Int.zero_add] at hval
    refine ⟨o, b, ev_some fun k => ?_, ho, rfl, hb, hval⟩
    simp only [nat_less.l0]; rw [if_neg (by omega)]
  | succ d ih =>
    intro o v g c b A i ho hv hg hl hvl hi hc hb hz hval
    have hid : i + 1 + d = o.length := by omega
    have hio : i < o.length := by omega
    have hiO : (i : Int) < (o.length : Int) := by omega
    have e1 : wrap64 ((i : Int) + 1) = ((i + 1 : Nat) : Int) := by rw [w64 (by omega) (by omega)]; rfl
    have hx := lim_getD ho i
    have hy := lim_getD hv i
    obtain ⟨dg, c', b', hdg, hc', hb', h1, h2, h3, h4, h5⟩ := less_step hx hg hy hc hb
    have hs := val_set o i dg hio
    have hta := val_take_next v i
    have hlen : (o.set i dg).length = o.length := List.length_set
    have hz' : v.length < i + 1 → c' = 0 := fun h => h5 (getD_ge (Nat.lt_succ_iff.1 h))
    obtain ⟨r, bb, er, g1, g2, g3, g4⟩ := ih (o.set i dg) v g c' b' A (i + 1) (lim_set ho _ hdg) hv hg (by rw [hlen]; exact hl) (by rw [hlen]; exact hvl) (by rw [hlen]; exact hid) hc' hb' hz' (by
      rw [hs, hta, pw_succ]
      clear h1 h2 h3 hx hy hdg hc' hb' hz hz' hs hta hlen
      generalize o.getD i 0 = x at *
      generalize v.getD i 0 = y at *
      obtain rfl : dg = x - b - (c + g * y) + 4294967296 * (c' + b') := by omega
      have : val o = A - g * val (v.take i) + pw i * (c + b) := by omega
      rw [this]
      grind)
    rw [hlen] at er g2 g4
    refine ⟨r, bb, Ev.step (fun k => ?_) er, g1, g2, g3, g4⟩
    simp only [nat_less.l0]
    rw [if_pos hiO, e1, rd_nat, rd_nat, u64l hx, u64l hy]
    by_cases h6 : (i : Int) < (v.length : Int)
    · rw [if_pos h6, if_pos (Int.natCast_nonneg i), if_pos hiO, h1, h2, h3]; rfl
    · have hy0 : v.getD i 0 = 0 := getD_ge (Int.ofNat_le.1 (Int.not_lt.1 h6))
      have e0 : IntKind.u64.wrap (c + IntKind.u64.wrap (g * v.getD i 0)) = c := by rw [hy0, Int.mul_zero, u64 (x := 0) (by omega) (by omega), Int.add_zero, u64 hc.1 (by omega)]
      rw [e0] at h1 h2 h3
      rw [if_neg h6, if_pos (Int.natCast_nonneg i), if_pos hiO, h1, h2, h3]; rfl
theorem less_good {o v : List Int} {g : Int} (ho : Lim o) (hv : Lim v) (hg : 0 ≤ g ∧ g < 4294967296) (h : o.length ≤ 100000000) (hvl : v.length < o.length) :
    ∃ r, Ev (fun k => nat_less.f k o v g) (decide (val o < g * val v), r) ∧ Lim r ∧ r.length = o.length ∧ val r = val o - g * val v + (if val o < g * val v then pw o.length else 0) := by
  obtain ⟨r, b, er, g1, g2, g3, g4⟩ := less_l0 o.length o v g 0 0 (val o) 0 ho hv hg h hvl (by omega) (by omega) (by omega) (by omega) (by simp [val_nil])
  have hr := val_lt g1
  rw [g2] at hr
  have hr0 := val_nonneg g1
  have hp := pw_pos o.length
  have hon := val_lt ho
  have hon0 := val_nonneg ho
  rcases (show b = 0 ∨ b = 1 by omega) with rfl | rfl
  · have hn : ¬ val o < g * val v := by rw [Int.mul_zero] at g4; omega
    refine ⟨r, ev_eq er ?_, g1, g2, ?_⟩
    · rw [decide_eq_false hn]; rfl
    · rw [if_neg hn]; omega
  · have hn : val o < g * val v := by rw [Int.mul_one] at g4; omega
    refine ⟨r, ev_eq er ?_, g1, g2, ?_⟩
    · rw [decide_eq_true hn]; rfl
    · rw [if_pos hn]; omega

/-! ### nat.more -/
theorem more_step {x y c : Int} (hx : 0 ≤ x ∧ x < 4294967296) (hy : 0 ≤ y ∧ y < 4294967296) (hc : 0 ≤ c ∧ c ≤ 1) :
    ∃ dg c' : Int, (0 ≤ dg ∧ dg < 4294967296) ∧ (0 ≤ c' ∧ c' ≤ 1) ∧ IntKind.u64.wrap (IntKind.u64.wrap (c + x) + y) / 4294967296 = c' ∧ IntKind.u64.wrap (IntKind.u64.wrap (c + x) + y) % 4294967296 = dg ∧ dg + 4294967296 * c' = x + y + c := by
  rw [u64 (x := c + x) (by omega) (by omega), u64 (x := c + x + y) (by omega) (by omega)]
  exact ⟨_, _, by omega, by omega, rfl, rfl, by omega⟩
theorem more_l0 (d : Nat) : ∀ (o v : List Int) (c A : Int) (i : Nat), Lim o → Lim v → o.length ≤ 100000000 → v.length < o.length → i + d = o.length → (0 ≤ c ∧ c ≤ 1) →
    val o + pw i * c = A + val (v.take i) →
    ∃ (r : List Int) (c' : Int), Ev (fun k => nat_more.l0 k o v c (o.length : Int) (i : Int)) r ∧ Lim r ∧ r.length = o.length ∧ (0 ≤ c' ∧ c' ≤ 1) ∧ val r + pw o.length * c' = A + val v := by
  induction d with
  | zero =>
    intro o v c A i ho hv hl hvl hi hc hval
    obtain rfl : i = o.length := by omega
    rw [List.take_of_length_le (by omega)] at hval
    refine ⟨o, c, ev_some fun k => ?_, ho, rfl, hc, hval⟩
    simp only [nat_more.l0]; rw [if_neg (by omega)]
  | succ d ih =>
    intro o v c A i ho hv hl hvl hi hc hval
    have hid : i + 1 + d = o.length := by omega
    have hio : i < o.length := by omega
    have hiO : (i : Int) < (o.length : Int) := by omega
    have e1 : wrap64 ((i : Int) + 1) = ((i + 1 : Nat) : Int) := by rw [w64 (by omega) (by omega)]; rfl
    have hx := lim_getD ho i
    have hy := lim_getD hv i
    obtain ⟨dg, c', hdg, hc', h1, h2, h4⟩ := more_step hx hy hc
    have hs := val_set o i dg hio
    have hta := val_take_next v i
    have hlen : (o.set i dg).length = o.length := List.length_set
    obtain ⟨r, bb, er, g1, g2, g3, g4⟩ := ih (o.set i dg) v c' A (i + 1) (lim_set ho _ hdg) hv (by rw [hlen]; exact hl) (by rw [hlen]; exact hvl) (by rw [hlen]; exact hid) hc' (by
      rw [hs, hta, pw_succ]
      clear h1 h2 hx hy hdg hc' hs hta hlen
      generalize o.getD i 0 = x at *
      generalize v.getD i 0 = y at *
      obtain rfl : dg = x + y + c - 4294967296 * c' := by omega
      have : val o = A + val (v.take i) - pw i * c := by omega
      rw [this]
      grind)
    rw [hlen] at er g2 g4
    refine ⟨r, bb, Ev.step (fun k => ?_) er, g1, g2, g3, g4⟩
    simp only [nat_more.l0]
    rw [if_pos hiO, if_pos (Int.natCast_nonneg i), if_pos hiO, e1, rd_nat, rd_nat, u64l hx, u64l hy]
    by_cases h6 : (i : Int) < (v.length : Int)
    · rw [if_pos h6, h1, h2]; rfl
    · have hy0 : v.getD i 0 = 0 := getD_ge (Int.ofNat_le.1 (Int.not_lt.1 h6))
      have e0 : IntKind.u64.wrap (IntKind.u64.wrap (c + o.getD i 0) + v.getD i 0) = IntKind.u64.wrap (c + o.getD i 0) := by rw [hy0, Int.add_zero, u64 (x := c + o.getD i 0) (by omega) (by omega), u64 (by omega) (by omega)]
      rw [e0] at h1 h2
      rw [if_neg h6, h1, h2]; rfl
theorem more_good {o v : List Int} (ho : Lim o) (hv : Lim v) (h : o.length ≤ 100000000) (hvl : v.length < o.length) :
    ∃ r, Ev (fun k => nat_more.f k o v) r ∧ Lim r ∧ r.length = o.length ∧ (pw o.length ≤ val o + val v → val r = val o + val v - pw o.length) := by
  obtain ⟨r, c, er, g1, g2, g3, g4⟩ := more_l0 o.length o v 0 (val o) 0 ho hv h hvl (by omega) (by omega) (by simp [val_nil])
  refine ⟨r, er, g1, g2, fun hh => ?_⟩
  have hr := val_lt g1
  rw [g2] at hr
  rcases (show c = 0 ∨ c = 1 by omega) with rfl | rfl
  · rw [Int.mul_zero] at g4; omega
  · rw [Int.mul_one] at g4; omega
