/- Contracts: the reference's Div. -/
import Derived.Test.YtlhgagmghahbhaaN4
import Derived.Test.YtlhgagmghahbhaaNa
import Derived.Test.YtlhgagmghahbhaaQx2
import Derived.Test.YtlhgagmghahbhaaQx5
import Derived.Test.YtlhgagmghahbhaaQx12
import Derived.Test.YtlhgagmghahbhaaQx18
namespace Go.Proofs.Ytlhgagmghahbhaa.N
open Go.RowKit Go.Proofs.Ytlhgagmghahbhaa.Q Go.Proofs.YtlhgagmghahbhaaW.PrintWords Go.Proofs.YtlhgagmghahbhaaW.PrintLast Go.Proofs.YtlhgagmghahbhaaW.PrintMore
open FNat
set_option linter.unusedVariables false
set_option linter.unusedSimpArgs false

/-! ### length -/
theorem two_succ (n : Nat) : (2 : Int) ^ (n + 1) = 2 * 2 ^ n := by rw [Int.pow_succ, Int.mul_comm]
theorem rlen_l0 (n : Nat) : ∀ l : List Int, Lim l → l.length ≤ 10000000 → n ≤ 32 * l.length → val l < 2 ^ n →
    ∃ m : Nat, m ≤ n ∧ Ev (fun k => foundryref01_length.l0 k l (n : Int)) (m : Int) ∧ val l < 2 ^ m ∧ (m = 0 ∨ 2 ^ (m - 1) ≤ val l) := by
  induction n with
  | zero =>
    intro l hl h hn hv
    refine ⟨0, Nat.le_refl _, ev_some fun k => ?_, hv, .inl rfl⟩
    simp only [foundryref01_length.l0]; rw [if_neg (by omega)]
  | succ n ih =>
    intro l hl h hn hv
    have h0 := val_nonneg hl
    have hp := two_pos n
    have hbit := rbit_ev hl (by omega) n (by omega)
    have e1 : wrap64 (((n + 1 : Nat) : Int) - 1) = (n : Int) := by rw [w64 (by omega) (by omega)]; omega
    have hd0 : 0 ≤ val l / 2 ^ n := Int.ediv_nonneg h0 (Int.le_of_lt hp)
    have hd1 : val l / 2 ^ n < 2 := Int.ediv_lt_of_lt_mul hp (by rw [two_succ] at hv; omega)
    by_cases hb : val l / 2 ^ n = 0
    · have hlt : val l < 2 ^ n := by
        have h1 := Int.mul_ediv_add_emod (val l) (2 ^ n)
        have h2 := Int.emod_lt_of_pos (val l) hp
        rw [hb] at h1; omega
      obtain ⟨m, hm, em, h1, h2⟩ := ih l hl h (by omega) hlt
      refine ⟨m, by omega, Ev.step (fun k => ?_) em, h1, h2⟩
      simp only [foundryref01_length.l0]
      rw [if_pos (by omega), e1, hbit, Option.bind_some, hb, if_pos (by omega)]
    · have hge : 2 ^ n ≤ val l := by
        have h1 := Int.mul_ediv_add_emod (val l) (2 ^ n)
        have h2 := Int.emod_nonneg (val l) (Int.ne_of_gt hp)
        have h3 : val l / 2 ^ n = 1 := by omega
        rw [h3] at h1; omega
      refine ⟨n + 1, Nat.le_refl _, ev_some fun k => ?_, hv, .inr hge⟩
      simp only [foundryref01_length.l0]
      rw [if_pos (by omega), e1, hbit, Option.bind_some, if_neg (by omega)]
theorem pw_two (n : Nat) : pw n = 2 ^ (32 * n) := by unfold pw; rw [Int.pow_mul]; rfl
theorem rlen_ev {l : List Int} (hl : Lim l) (h : l.length ≤ 10000000) :
    ∃ m : Nat, m ≤ 32 * l.length ∧ Ev (fun k => foundryref01_length.f k l) (m : Int) ∧ val l < 2 ^ m ∧ (m = 0 ∨ 2 ^ (m - 1) ≤ val l) := by
  obtain ⟨m, h1, h2, h3⟩ := rlen_l0 (32 * l.length) l hl h (Nat.le_refl _) (by rw [← pw_two]; exact val_lt hl)
  refine ⟨m, h1, Ev.congr (fun k => ?_) h2, h3⟩
  unfold foundryref01_length.f foundryref01_bits.f
  rw [Option.bind_some, w64 (by omega) (by omega)]; rfl

/-! ### up -/
theorem rup_l0 (d : Nat) : ∀ (l o : List Int) (n i : Nat) (c : Int), Lim l → Lim o → l.length ≤ 10000000 → n ≤ 1000000000 → o.length = n / 32 + i → i + d = l.length → 0 ≤ c ∧ c < 2 ^ (n % 32) →
    val o + pw o.length * c = val (l.take i) * 2 ^ n →
    ∃ r, Ev (fun k => foundryref01_up.l0 k l (n : Int) o c (i : Int)) r ∧ Good r (val l * 2 ^ n) ∧ r.length ≤ l.length + n / 32 + 1 := by
  induction d with
  | zero =>
    intro l o n i c hl ho h hn hol hi hc hv
    have hq0 : o.length ≤ 100000000 := by clear hc hv; omega
    have hq : o.length < 35184372088832 := Nat.lt_of_le_of_lt hq0 (by decide)
    obtain rfl : i = l.length := by omega
    have h31 := two_le_pow31 (s := n % 32) (by omega)
    rw [List.take_of_length_le (Nat.le_refl _)] at hv
    obtain ⟨r, er, gr, lr⟩ := rtrim_good (l := o ++ [c]) (lim_append.2 ⟨ho, lim_one ⟨hc.1, by omega⟩⟩) (by rw [List.length_append]; simp; omega)
    refine ⟨r, Ev.step (f := fun k => (foundryref01_Trim.f k (o ++ [c])).bind fun t => some t) (fun k => ?_) (Ev.bind (f := fun k t => some t) er (Ev.now r)), ⟨gr.lim, gr.tr, ?_⟩, ?_⟩
    · simp only [foundryref01_up.l0]
      rw [if_neg (by omega), if_pos hq, Int.emod_eq_of_lt hc.1 (by omega)]
    · rw [gr.val, val_snoc, hv]
    · rw [List.length_append, hol] at lr; simp at lr; omega
  | succ d ih =>
    intro l o n i c hl ho h hn hol hi hc hv
    have hq0 : o.length ≤ 100000000 := by clear hc hv; omega
    have hq : o.length < 35184372088832 := Nat.lt_of_le_of_lt hq0 (by decide)
    clear hq0
    have hs : n % 32 ≤ 31 := by omega
    have hil : (i : Int) < (l.length : Int) := by omega
    have e1 : wrap64 ((i : Int) + 1) = ((i + 1 : Nat) : Int) := by rw [w64 (by omega) (by omega)]; rfl
    have e2 : IntKind.u64.wrap (Int.tmod (n : Int) 32) = ((n % 32 : Nat) : Int) := by rw [Int.tmod_eq_emod_of_nonneg (by omega), u64 (by omega) (by omega)]; omega
    have h31 := two_le_pow31 hs
    have hp := two_pos (n % 32)
    have hx := lim_getD hl i
    have hsw := shl_word hs hx
    have hta := val_take_next l i
    have hpw := two_pw n
    have hol2 : (o ++ [(c + l.getD i 0 * 2 ^ (n % 32)) % 4294967296]).length = n / 32 + (i + 1) := by rw [List.length_append, hol]; rfl
    have hps : pw o.length = pw (n / 32) * pw i := by rw [hol, pw_add]
    have hid : i + 1 + d = l.length := by omega
    clear hi hol
    generalize hS : (2 : Int) ^ (n % 32) = S at *
    generalize hxe : l.getD i 0 = x at *
    have hx2 : x * S ≤ 4294967295 * S := Int.mul_le_mul_of_nonneg_right (by omega) (by omega)
    have hx0 : 0 ≤ x * S := Int.mul_nonneg hx.1 (by omega)
    generalize hP : x * S = y at *
    have ht0 : 0 ≤ c + y := by omega
    have htb : c + y < 18446744073709551616 := by omega
    obtain ⟨f1, f2⟩ := tmod_lim ht0 htb
    have hcar : (c + y) / 4294967296 < S := Int.ediv_lt_of_lt_mul (by omega) (by omega)
    have hcar0 : 0 ≤ (c + y) / 4294967296 := Int.ediv_nonneg ht0 (by omega)
    have hdg := Int.mul_ediv_add_emod (c + y) 4294967296
    have hd0 : 0 ≤ (c + y) % 4294967296 ∧ (c + y) % 4294967296 < 4294967296 := ⟨Int.emod_nonneg _ (by omega), Int.emod_lt_of_pos _ (by omega)⟩
    obtain ⟨r, er, g, lr⟩ := ih l (o ++ [(c + y) % 4294967296]) n (i + 1) ((c + y) / 4294967296) hl (lim_append.2 ⟨ho, lim_one hd0⟩) h hn hol2 hid ⟨hcar0, by rw [hS]; exact hcar⟩ (by
      rw [val_snoc, hta, List.length_append, pw_add]
      rw [hpw] at hv ⊢
      have hp1 : pw [(c + y) % 4294967296].length = 4294967296 := rfl
      rw [hp1, hps]
      rw [hps] at hv
      clear hsw hd0 hcar hcar0 hx hxe f1 f2 ih
      generalize (c + y) / 4294967296 = e at *
      generalize (c + y) % 4294967296 = f at *
      clear hx2 hx0
      obtain rfl : c = 4294967296 * e + f - y := by omega
      rw [← hP] at hv
      grind)
    refine ⟨r, Ev.step (fun k => ?_) er, g, lr⟩
    simp only [foundryref01_up.l0]
    rw [if_pos hil, if_pos (Int.natCast_nonneg i), e2, if_pos (Int.natCast_nonneg _), if_pos hq, e1, rd_nat, hxe, hsw, f1, f2]
theorem rup_good {l : List Int} {n : Nat} (hl : Lim l) (h : l.length ≤ 10000000) (hn : n ≤ 1000000000) :
    ∃ r, Ev (fun k => foundryref01_up.f k l (n : Int)) r ∧ Good r (val l * 2 ^ n) ∧ r.length ≤ l.length + n / 32 + 1 := by
  obtain ⟨r, er, g⟩ := rup_l0 l.length l (List.replicate (n / 32) 0) n 0 0 hl (lim_replicate _) h hn (by simp) (by omega) ⟨by omega, two_pos _⟩ (by simp [val_nil, val_replicate])
  refine ⟨r, Ev.congr (fun k => ?_) er, g⟩
  have e1 : wrap64 (Int.tdiv (n : Int) 32) = ((n / 32 : Nat) : Int) := by rw [Int.tdiv_eq_ediv_of_nonneg (by omega), w64 (by omega) (by omega)]; omega
  unfold foundryref01_up.f
  rw [e1, if_pos (by omega), if_pos (by omega), Int.toNat_natCast]; rfl

/-! ### Div -/
theorem limb_room {q : List Int} (hq : Lim q) (m : Nat) (h : val q % 2 ^ (m + 1) = 0) : q.getD (m / 32) 0 + 2 ^ (m % 32) < 4294967296 := by
  obtain ⟨K, hK⟩ := Int.dvd_of_emod_eq_zero h
  have hx := lim_getD hq (m / 32)
  have h1 := val_drop_div q hq (m / 32)
  rw [val_drop_next] at h1
  have h2 : (2 : Int) ^ (m + 1) = pw (m / 32) * (2 * 2 ^ (m % 32)) := by rw [two_succ, two_pw]; ac_rfl
  have hp := pw_pos (m / 32)
  rw [hK, h2, Int.mul_assoc, Int.mul_ediv_cancel_left _ (Int.ne_of_gt hp)] at h1
  have hs : m % 32 < 32 := Nat.mod_lt _ (by omega)
  have h3 : (4294967296 : Int) = 2 * 2 ^ (m % 32) * 2 ^ (31 - m % 32) := by
    rw [← two_succ, ← Int.pow_add, show m % 32 + 1 + (31 - m % 32) = 32 by omega]; rfl
  have hS := two_pos (m % 32)
  have hT := two_pos (31 - m % 32)
  generalize q.getD (m / 32) 0 = x at *
  generalize val (q.drop (m / 32 + 1)) = y at *
  generalize (2 : Int) ^ (m % 32) = S at *
  generalize (2 : Int) ^ (31 - m % 32) = T at *
  have hz : x = 2 * S * (K - T * y) := by
    rw [Int.mul_sub, h1, h3]; grind
  have hlt : 2 * S * (K - T * y) < 2 * S * T := by rw [← hz, ← h3]; exact hx.2
  have hz2 : K - T * y < T := Int.lt_of_mul_lt_mul_left hlt (by omega)
  have h5 : 2 * S * (K - T * y) ≤ 2 * S * (T - 1) := Int.mul_le_mul_of_nonneg_left (by omega) (by omega)
  have h6 : 2 * S * (T - 1) = 2 * S * T - 2 * S := by grind
  omega
theorem cmp_get (x y : Int) : (cmpv x y ≥ 0) = (y ≤ x) := propext cmpv_ge
theorem subv_get {x y : Int} (h : y ≤ x) : subv x y = x - y := by unfold subv; split <;> omega
theorem shl_one {s : Nat} (hs : s ≤ 31) : shl .u32 1 (s : Int) = 2 ^ s := by
  have h31 := two_le_pow31 hs
  have hp := two_pos s
  unfold shl
  rw [Int.toNat_natCast, show min s IntKind.u32.bits = s from Nat.min_eq_left (by show s ≤ 32; omega), Int.one_mul]
  show (2 : Int) ^ s % 4294967296 = 2 ^ s
  exact Int.emod_eq_of_lt (by omega) (by omega)
theorem place_div {m : Nat} (h : m ≤ 1000000000) : wrap64 (Int.tdiv (m : Int) 32) = ((m / 32 : Nat) : Int) := by rw [Int.tdiv_eq_ediv_of_nonneg (by omega), w64 (by omega) (by omega)]; omega
theorem place_mod {m : Nat} (h : m ≤ 1000000000) : IntKind.u64.wrap (Int.tmod (m : Int) 32) = ((m % 32 : Nat) : Int) := by rw [Int.tmod_eq_emod_of_nonneg (by omega), u64 (by omega) (by omega)]; omega
theorem place_down {m : Nat} (h : m ≤ 1000000000) : wrap64 ((m : Int) - 1) = (m : Int) - 1 := w64 (by omega) (by omega)
theorem place_in {m n : Nat} (h : m + 1 ≤ 32 * n) : m / 32 < n := by omega
theorem place_small {m : Nat} : m % 32 ≤ 31 := by omega
theorem rdiv_l0 (m : Nat) : ∀ (v r q : List Int) (A : Int), Lim v → Lim r → Tr r → Lim q → v.length ≤ 1000000 → r.length ≤ 10000000 → q.length ≤ 10000000 → m ≤ 32 * q.length → 0 < val v →
    val q * val v + val r = A → val r < 2 ^ m * val v → val q % 2 ^ m = 0 →
    ∃ p t, Ev (fun k => foundryref01_Div.l0 k v r q ((m : Int) - 1)) (p, t) ∧ Good p (A / val v) ∧ Good t (A % val v) := by
  induction m with
  | zero =>
    intro v r q A hv hr tr hq h1 h2 h3 hm hV he hlt _
    have h0 := val_nonneg hr
    rw [show (2 : Int) ^ 0 = 1 from rfl, Int.one_mul] at hlt
    obtain ⟨p, ep, gp, lp⟩ := rtrim_good hq (by omega)
    have hA : A = val r + val v * val q := by rw [← he]; grind
    refine ⟨p, r, Ev.step (f := fun k => (foundryref01_Trim.f k q).bind fun t => some (t, r)) (fun k => ?_) (Ev.bind (f := fun k t => some (t, r)) ep (Ev.now (p, r))), ⟨gp.lim, gp.tr, ?_⟩, ⟨hr, tr, ?_⟩⟩
    · simp only [foundryref01_Div.l0]; rw [if_neg (by omega)]
    · rw [gp.val, hA, Int.add_mul_ediv_left _ _ (by omega), Int.ediv_eq_zero_of_lt h0 hlt, Int.zero_add]
    · rw [hA, Int.add_mul_emod_self_left, Int.emod_eq_of_lt h0 hlt]
  | succ m ih =>
    intro v r q A hv hr tr hq h1 h2 h3 hm hV he hlt hz
    have hmx : m ≤ 1000000000 := by clear hlt hz he; omega
    obtain ⟨x, ex, gx, lx⟩ := rup_good (n := m) hv (by omega) hmx
    have hc := rcmp_ev hr gx.lim (by omega) (by omega)
    have e1 : (((m + 1 : Nat) : Int) - 1) = (m : Int) := by omega
    have e2 := place_down hmx
    have hp := two_pos m
    have hz2 : val q % 2 ^ m = 0 := by
      obtain ⟨K, hK⟩ := Int.dvd_of_emod_eq_zero hz
      rw [hK, two_succ, show (2 : Int) * 2 ^ m * K = 2 ^ m * (2 * K) by grind]; exact Int.mul_emod_right _ _
    rw [e1]
    rw [gx.val] at hc
    by_cases hle : val v * 2 ^ m ≤ val r
    · obtain ⟨t, et, gt, lt⟩ := rsub_good hr gx.lim (by omega) (by omega)
      rw [gx.val, subv_get hle] at gt
      have hjl : m / 32 < q.length := place_in hm
      have hroom := limb_room hq m hz
      have hx := lim_getD hq (m / 32)
      have hps := two_pos (m % 32)
      have hval := val_set q (m / 32) (q.getD (m / 32) 0 + 2 ^ (m % 32)) hjl
      have hval2 : val (q.set (m / 32) (q.getD (m / 32) 0 + 2 ^ (m % 32))) = val q + 2 ^ m := by
        rw [hval, two_pw m]; grind
      obtain ⟨p, s, eps, gp, gs⟩ := ih v t (q.set (m / 32) (q.getD (m / 32) 0 + 2 ^ (m % 32))) A hv gt.lim gt.tr (lim_set hq _ ⟨by omega, hroom⟩) h1 (by omega) (by rw [List.length_set]; exact h3) (by rw [List.length_set]; omega) hV
        (by rw [hval2, gt.val, ← he]; grind)
        (by rw [gt.val]; rw [two_succ] at hlt; grind)
        (by rw [hval2, Int.add_emod_right]; exact hz2)
      refine ⟨p, s, ?_, gp, gs⟩
      have e3 := place_div hmx
      have e4 := place_mod hmx
      have hlq : ((m / 32 : Nat) : Int) < (q.length : Int) := Int.ofNat_lt.2 hjl
      refine Ev.step (f := fun k => (foundryref01_up.f k v (m : Int)).bind fun t489 => (foundryref01_Cmp.f k r t489).bind fun t492 => if t492 ≥ 0 then (foundryref01_Sub.f k r t489).bind fun t493 => foundryref01_Div.l0 k v t493 (q.set (m / 32) (q.getD (m / 32) 0 + 2 ^ (m % 32))) ((m : Int) - 1) else foundryref01_Div.l0 k v r q ((m : Int) - 1)) (fun k => ?_) ?_
      · simp only [foundryref01_Div.l0]
        rw [if_pos (Int.natCast_nonneg m), e3, e4, e2]
        simp only [if_pos (Int.natCast_nonneg (m / 32)), if_pos hlq, if_pos (Int.natCast_nonneg (m % 32)), Int.toNat_natCast, rd_nat, shl_one (place_small (m := m)), Int.emod_eq_of_lt (show 0 ≤ q.getD (m / 32) 0 + 2 ^ (m % 32) by omega) hroom]
      · exact Ev.bind ex (Ev.bind hc (Ev.congr (fun k => if_pos (cmpv_ge.2 hle)) (Ev.bind et eps)))
    · obtain ⟨p, s, eps, gp, gs⟩ := ih v r q A hv hr tr hq h1 h2 h3 (by omega) hV he (by rw [Int.mul_comm]; omega) hz2
      refine ⟨p, s, ?_, gp, gs⟩
      refine Ev.step (f := fun k => (foundryref01_up.f k v (m : Int)).bind fun t489 => (foundryref01_Cmp.f k r t489).bind fun t492 => if t492 ≥ 0 then (foundryref01_Sub.f k r t489).bind fun t493 => if 0 ≤ (wrap64 (Int.tdiv (m : Int) 32)) then (if (wrap64 (Int.tdiv (m : Int) 32)) < (q.length : Int) then (if 0 ≤ (IntKind.u64.wrap (Int.tmod (m : Int) 32)) then (foundryref01_Div.l0 k v t493 (q.set ((wrap64 (Int.tdiv (m : Int) 32)) : Int).toNat (((rd q (wrap64 (Int.tdiv (m : Int) 32))) + (shl .u32 1 (IntKind.u64.wrap (Int.tmod (m : Int) 32)))) % 4294967296)) ((m : Int) - 1)) else (none)) else (none)) else (none) else foundryref01_Div.l0 k v r q ((m : Int) - 1)) (fun k => ?_) ?_
      · simp only [foundryref01_Div.l0]
        rw [if_pos (Int.natCast_nonneg m), e2]
      · exact Ev.bind ex (Ev.bind hc (Ev.congr (fun k => if_neg (fun hh => hle (cmpv_ge.1 hh))) eps))
theorem rdiv_good {a b : List Int} (ha : Lim a) (hb : Lim b) (h1 : a.length ≤ 100000) (h2 : b.length ≤ 100000) :
    ∃ q r, Ev (fun k => foundryref01_Div.f k a b) (q, r) ∧ Good q (val a / val b) ∧ Good r (modv (val a) (val b)) := by
  obtain ⟨x, ex, gx, lx⟩ := rtrim_good ha (by omega)
  obtain ⟨m, hm, em, m1, m2⟩ := rlen_ev ha (by omega)
  obtain ⟨n, hn, en, n1, n2⟩ := rlen_ev hb (by omega)
  have ha0 := val_nonneg ha
  have hb0 := val_nonneg hb
  by_cases hz : n = 0
  · subst hz
    have hb : val b = 0 := by rw [show (2 : Int) ^ 0 = 1 from rfl] at n1; omega
    refine ⟨[], [], Ev.bind ex (Ev.bind en (Ev.congr (fun k => if_pos rfl) (Ev.now ([], [])))), ⟨lim_nil, tr_nil, by rw [hb, Int.ediv_zero]; rfl⟩, ⟨lim_nil, tr_nil, by unfold modv; rw [if_pos hb]; rfl⟩⟩
  · have hV : 2 ^ (n - 1) ≤ val b := n2.resolve_left hz
    have hVp : 0 < val b := by have := two_pos (n - 1); omega
    have e1 : wrap64 ((m : Int) - (n : Int)) = (m : Int) - (n : Int) := w64 (by omega) (by omega)
    have e2 : mx ((m : Int) - (n : Int)) 0 = ((m - n : Nat) : Int) := by unfold mx; omega
    have hd : m - n ≤ 32 * 100000 := by omega
    generalize hD : m - n = D at *
    have e3 : wrap64 (wrap64 ((D : Int) / 32) + 1) = ((D / 32 + 1 : Nat) : Int) := by rw [w64 (x := (D : Int) / 32) (by omega) (by omega), w64 (by omega) (by omega)]; omega
    have hstart : val x < 2 ^ (D + 1) * val b := by
      rw [gx.val]
      have h3 : (2 : Int) ^ m ≤ 2 ^ (D + 1) * 2 ^ (n - 1) := by
        rw [← Int.pow_add]
        have : (2 : Int) ^ (D + 1 + (n - 1)) = 2 ^ m * 2 ^ (D + 1 + (n - 1) - m) := by rw [← Int.pow_add, show m + (D + 1 + (n - 1) - m) = D + 1 + (n - 1) by omega]
        rw [this]
        have h4 := two_pos (D + 1 + (n - 1) - m)
        have h5 := two_pos m
        have h6 : (2 : Int) ^ m * 1 ≤ 2 ^ m * 2 ^ (D + 1 + (n - 1) - m) := Int.mul_le_mul_of_nonneg_left (by omega) (by omega)
        omega
      have h7 : (2 : Int) ^ (D + 1) * 2 ^ (n - 1) ≤ 2 ^ (D + 1) * val b := Int.mul_le_mul_of_nonneg_left hV (Int.le_of_lt (two_pos _))
      omega
    obtain ⟨p, t, e, gp, gt⟩ := rdiv_l0 (D + 1) b x (List.replicate (D / 32 + 1) 0) (val a) hb gx.lim gx.tr (lim_replicate _) (by omega) (by omega) (by rw [List.length_replicate]; omega) (by rw [List.length_replicate]; omega) hVp (by rw [val_replicate, gx.val]; omega) hstart (by rw [val_replicate]; exact Int.zero_emod _)
    have hn0 : ¬ ((n : Int) = 0) := by omega
    refine ⟨p, t, Ev.bind ex (Ev.bind en (Ev.congr (fun k => if_neg hn0) (Ev.bind em (Ev.bind en (Ev.congr (fun k => ?_) e))))), gp, by unfold modv; rw [if_neg (by omega)]; exact gt⟩
    rw [e1, e2, e3, if_pos (by omega), if_pos (by omega), Int.toNat_natCast, show (((D + 1 : Nat) : Int) - 1) = (D : Int) by omega]
end Go.Proofs.Ytlhgagmghahbhaa.N
