/- Contracts: the reference's Trim, Add, Of, Bit, double, Mul. -/
import Derived.Test.YtlhgagmghahbhaaN1
import Derived.Laws.BitsAllLaws
import Derived.Test.YtlhgagmghahbhaaQx2
import Derived.Test.YtlhgagmghahbhaaQx5
import Derived.Test.YtlhgagmghahbhaaQx6
namespace Go.Proofs.Ytlhgagmghahbhaa.N
open Go.RowKit Go.Proofs.Ytlhgagmghahbhaa.Q Go.Proofs.YtlhgagmghahbhaaW.PrintWords Go.Proofs.YtlhgagmghahbhaaW.PrintLast Go.Proofs.YtlhgagmghahbhaaW.PrintMore
open FNat
set_option linter.unusedVariables false
set_option linter.unusedSimpArgs false

/-! ### the reference's Trim -/
theorem rtrim_l0 (n : Nat) : ∀ l : List Int, n ≤ l.length → l.length ≤ 1000000000 → ∃ m, m ≤ n ∧ Ev (fun k => foundryref01_Trim.l0 k l (n : Int)) (l.take m) ∧ Tr (l.take m) ∧ val (l.take m) = val (l.take n) := by
  induction n with
  | zero =>
    intro l _ h
    refine ⟨0, Nat.le_refl _, ev_some fun k => ?_, by simpa using tr_nil, by simp⟩
    simp only [foundryref01_Trim.l0]
    rw [if_neg (by omega), if_pos (by omega), if_pos (by omega), if_pos (by simp)]; simp
  | succ n ih =>
    intro l hn h
    have hw : wrap64 (((n + 1 : Nat) : Int) - 1) = (n : Int) := by rw [w64 (by omega) (by omega)]; omega
    by_cases hz : l.getD n 0 = 0
    · obtain ⟨m, hm, he, ht, hv⟩ := ih l (by omega) h
      refine ⟨m, by omega, Ev.step (fun k => ?_) he, ht, ?_⟩
      · simp only [foundryref01_Trim.l0, hw]
        rw [if_pos (by omega), if_pos (by omega), if_pos (by omega), if_pos (by rw [rd_nat]; exact hz)]
      · rw [hv, val_take_next, hz]; omega
    · refine ⟨n + 1, Nat.le_refl _, ev_some fun k => ?_, ?_, rfl⟩
      · simp only [foundryref01_Trim.l0, hw]
        rw [if_pos (by omega), if_pos (by omega), if_pos (by omega), if_neg (by rw [rd_nat]; exact hz), if_pos (by omega), if_pos (by omega), if_pos (by rw [List.length_take]; simp; omega)]; simp
      · rw [take_snoc l n (by omega)]; exact tr_snoc hz
theorem rtrim_good {l : List Int} (hl : Lim l) (h : l.length ≤ 1000000000) : ∃ r, Ev (fun k => foundryref01_Trim.f k l) r ∧ Good r (val l) ∧ r.length ≤ l.length := by
  obtain ⟨m, hm, he, ht, hv⟩ := rtrim_l0 l.length l (Nat.le_refl _) h
  exact ⟨_, he, ⟨lim_take hl m, ht, by rw [hv, List.take_of_length_le (Nat.le_refl _)]⟩, by rw [List.length_take]; omega⟩

/-! ### the reference's Add -/
theorem tmod_lim {t : Int} (h : 0 ≤ t) (h' : t < 18446744073709551616) : Int.tmod (IntKind.u64.wrap t) 4294967296 % 4294967296 = t % 4294967296 ∧ IntKind.u64.wrap (Int.tdiv (IntKind.u64.wrap t) 4294967296) = t / 4294967296 := by
  rw [u64 h h', Int.tmod_eq_emod_of_nonneg h, Int.tdiv_eq_ediv_of_nonneg h]
  exact ⟨by omega, by rw [u64 (by omega) (by omega)]⟩
theorem lim_one {x : Int} (h : 0 ≤ x ∧ x < 4294967296) : Lim [x] := by intro y hy; simp only [List.mem_cons, List.not_mem_nil, or_false] at hy; subst hy; exact h
/-- One round of the reference's Add, whatever the ways through it. -/
theorem radd_round (a b o : List Int) (i : Nat) (c : Int) (r : List Int) (ha : Lim a) (hb : Lim b) (hi : i ≤ 1000000001) (ho : o.length = i) (hc : 0 ≤ c ∧ c ≤ 1)
    (hgo : i < a.length ∨ i < b.length ∨ c > 0)
    (h : Ev (fun k => foundryref01_Add.l0 k a b (o ++ [(c + a.getD i 0 + b.getD i 0) % 4294967296]) ((c + a.getD i 0 + b.getD i 0) / 4294967296) ((i + 1 : Nat) : Int)) r) :
    Ev (fun k => foundryref01_Add.l0 k a b o c (i : Int)) r := by
  have hx := lim_getD ha i
  have hy := lim_getD hb i
  have e1 : wrap64 ((i : Int) + 1) = ((i + 1 : Nat) : Int) := by rw [w64 (by omega) (by omega)]; rfl
  have hj : Ev (fun k => foundryref01_Add.j1 k a b o c (i : Int) true) r := by
    refine Ev.step (fun k => ?_) h
    simp only [foundryref01_Add.j1, if_true, e1]
    rw [rd_nat, rd_nat, u64 hx.1 (by omega), u64 hy.1 (by omega)]
    by_cases h1 : (i : Int) < (a.length : Int)
    · rw [if_pos h1, if_pos (by omega)]
      by_cases h2 : (i : Int) < (b.length : Int)
      · rw [if_pos h2, if_pos (by omega)]
        have e := tmod_lim (t := c + a.getD i 0 + b.getD i 0) (by omega) (by omega)
        rw [u64 (x := c + a.getD i 0) (by omega) (by omega), e.1, e.2]
      · rw [if_neg h2, if_pos (by omega)]
        have hb0 : b.getD i 0 = 0 := getD_ge (by omega)
        have e := tmod_lim (t := c + a.getD i 0) (by omega) (by omega)
        rw [e.1, e.2, hb0, Int.add_zero]
    · rw [if_neg h1]
      have ha0 : a.getD i 0 = 0 := getD_ge (by omega)
      by_cases h2 : (i : Int) < (b.length : Int)
      · rw [if_pos h2, if_pos (by omega), if_pos (by omega)]
        have e := tmod_lim (t := c + b.getD i 0) (by omega) (by omega)
        rw [e.1, e.2, ha0, Int.add_zero]
      · rw [if_neg h2, if_pos (by omega)]
        have hb0 : b.getD i 0 = 0 := getD_ge (by omega)
        rw [ha0, hb0, Int.add_zero, Int.add_zero]
        have e := tmod_lim (t := c) (by omega) (by omega)
        rw [u64 hc.1 (by omega)] at e
        rw [e.1, e.2]
  refine Ev.step (fun k => ?_) hj
  simp only [foundryref01_Add.l0]
  by_cases h1 : (i : Int) < (a.length : Int)
  · rw [if_pos h1]
  · rw [if_neg h1]
    by_cases h2 : (i : Int) < (b.length : Int)
    · rw [if_pos h2]
    · rw [if_neg h2, decide_eq_true (show c > 0 by omega)]
/-- Its end. -/
theorem radd_end (a b o : List Int) (i : Nat) (ho : Lim o) (h : o.length ≤ 1000000000) (h1 : a.length ≤ i) (h2 : b.length ≤ i) :
    ∃ r, Ev (fun k => foundryref01_Add.l0 k a b o 0 (i : Int)) r ∧ Good r (val o) ∧ r.length ≤ o.length := by
  obtain ⟨r, er, g, l⟩ := rtrim_good ho h
  refine ⟨r, ?_, g, l⟩
  have hj : Ev (fun k => foundryref01_Add.j1 k a b o 0 (i : Int) false) r := by
    refine Ev.step (fun k => ?_) (Ev.bind (f := fun _ t => some t) er (Ev.now r))
    simp only [foundryref01_Add.j1]; rw [if_neg (by simp)]
  refine Ev.step (fun k => ?_) hj
  simp only [foundryref01_Add.l0]
  rw [if_neg (by omega), if_neg (by omega)]; rfl
theorem radd_l0 (d : Nat) : ∀ (a b o : List Int) (i : Nat) (c : Int), Lim a → Lim b → Lim o → a.length ≤ 100000000 → b.length ≤ 100000000 → o.length = i → i + d = max a.length b.length → 0 ≤ c ∧ c ≤ 1 →
    val o + pw i * c = val (a.take i) + val (b.take i) →
    ∃ r, Ev (fun k => foundryref01_Add.l0 k a b o c (i : Int)) r ∧ Good r (val a + val b) ∧ r.length ≤ max a.length b.length + 1 := by
  induction d with
  | zero =>
    intro a b o i c ha hb ho h1 h2 hl hi hc hv
    rw [List.take_of_length_le (by omega), List.take_of_length_le (by omega)] at hv
    have ha0 : a.getD i 0 = 0 := getD_ge (by omega)
    have hb0 : b.getD i 0 = 0 := getD_ge (by omega)
    by_cases h0 : c = 0
    · subst h0
      obtain ⟨r, er, g, l⟩ := radd_end a b o i ho (by omega) (by omega) (by omega)
      exact ⟨r, er, ⟨g.lim, g.tr, by rw [g.val]; omega⟩, by omega⟩
    · obtain rfl : c = 1 := by omega
      obtain ⟨r, er, g, l⟩ := radd_end a b (o ++ [1]) (i + 1) (lim_append.2 ⟨ho, lim_one (by omega)⟩) (by simp; omega) (by omega) (by omega)
      refine ⟨r, radd_round a b o i 1 r ha hb (by omega) hl (by omega) (by omega) ?_, ⟨g.lim, g.tr, ?_⟩, by simp at l; omega⟩
      · rw [ha0, hb0]; exact er
      · rw [g.val, val_snoc, hl]; exact hv
  | succ d ih =>
    intro a b o i c ha hb ho h1 h2 hl hi hc hv
    have hx := lim_getD ha i
    have hy := lim_getD hb i
    have hd : 4294967296 * ((c + a.getD i 0 + b.getD i 0) / 4294967296) + (c + a.getD i 0 + b.getD i 0) % 4294967296 = c + a.getD i 0 + b.getD i 0 := Int.mul_ediv_add_emod _ _
    have hvr : 0 ≤ (c + a.getD i 0 + b.getD i 0) % 4294967296 ∧ (c + a.getD i 0 + b.getD i 0) % 4294967296 < 4294967296 := by omega
    have hcr : 0 ≤ (c + a.getD i 0 + b.getD i 0) / 4294967296 ∧ (c + a.getD i 0 + b.getD i 0) / 4294967296 ≤ 1 := by omega
    obtain ⟨r, er, g, l⟩ := ih a b (o ++ [(c + a.getD i 0 + b.getD i 0) % 4294967296]) (i + 1) ((c + a.getD i 0 + b.getD i 0) / 4294967296) ha hb (lim_append.2 ⟨ho, lim_one hvr⟩) h1 h2 (by simp; omega) (by omega) hcr (by
      rw [val_snoc, hl, val_take_next, val_take_next, pw_succ]
      generalize (c + a.getD i 0 + b.getD i 0) / 4294967296 = q at *
      generalize (c + a.getD i 0 + b.getD i 0) % 4294967296 = m at *
      generalize a.getD i 0 = x at *
      generalize b.getD i 0 = y at *
      have : val o = val (a.take i) + val (b.take i) - pw i * c := by omega
      rw [this]
      have hm : m = c + x + y - 4294967296 * q := by omega
      rw [hm]; grind)
    exact ⟨r, radd_round a b o i c r ha hb (by omega) hl hc (by omega) er, g, l⟩
theorem radd_good {a b : List Int} (ha : Lim a) (hb : Lim b) (h1 : a.length ≤ 100000000) (h2 : b.length ≤ 100000000) :
    ∃ r, Ev (fun n => foundryref01_Add.f n a b) r ∧ Good r (val a + val b) ∧ r.length ≤ max a.length b.length + 1 :=
  radd_l0 (max a.length b.length) a b [] 0 0 ha hb lim_nil h1 h2 rfl (by omega) (by omega) (by simp [val_nil])

/-! ### the reference's Of -/
theorem rof_end (o : List Int) : Ev (fun k => foundryref01_Of.l0 k 0 o) o := ev_some fun k => by simp only [foundryref01_Of.l0]; rw [if_neg (by omega)]
theorem rof_round {n : Int} {o r : List Int} (h : 0 < n) (h' : n < 18446744073709551616) (ho : o.length ≤ 100) (hr : Ev (fun k => foundryref01_Of.l0 k (n / 4294967296) (o ++ [n % 4294967296])) r) :
    Ev (fun k => foundryref01_Of.l0 k n o) r := by
  refine Ev.step (fun k => ?_) hr
  simp only [foundryref01_Of.l0]
  rw [if_pos (by omega), if_pos (by omega), Int.tmod_eq_emod_of_nonneg (by omega), Int.tdiv_eq_ediv_of_nonneg (by omega), u64 (by omega) (by omega), show n % 4294967296 % 4294967296 = n % 4294967296 by omega]
theorem rof_good {n : Int} (h : 0 ≤ n) (h' : n < 18446744073709551616) : ∃ r, Ev (fun k => foundryref01_Of.f k n) r ∧ Good r n ∧ r.length ≤ 2 := by
  by_cases h0 : n = 0
  · subst h0
    exact ⟨[], rof_end [], ⟨lim_nil, tr_nil, rfl⟩, by simp⟩
  · have hm : 0 ≤ n % 4294967296 ∧ n % 4294967296 < 4294967296 := by omega
    by_cases h1 : n < 4294967296
    · refine ⟨[n % 4294967296], rof_round (by omega) h' (by simp) ?_, ⟨lim_one hm, ?_, by simp [val]; omega⟩, by simp⟩
      · rw [show n / 4294967296 = 0 by omega]; exact rof_end _
      · exact tr_snoc (l := []) (by omega)
    · refine ⟨[n % 4294967296, n / 4294967296], rof_round (by omega) h' (by simp) (rof_round (by omega) (by omega) (by simp) ?_), ⟨lim_cons.2 ⟨hm, lim_one (by omega)⟩, ?_, by simp [val]; omega⟩, by simp⟩
      · rw [show n / 4294967296 / 4294967296 = 0 by omega, show n / 4294967296 % 4294967296 = n / 4294967296 by omega]; exact rof_end _
      · exact tr_snoc (l := [n % 4294967296]) (by omega)

/-! ### the reference's Bit, double, Mul -/
theorem val_drop_div (l : List Int) (hl : Lim l) (n : Nat) : val l / pw n = val (l.drop n) := by
  have hp := pw_pos n
  by_cases h : n ≤ l.length
  · have hs := val_split l n h
    have hlt := val_lt (lim_take hl n)
    have h0 := val_nonneg (lim_take hl n)
    rw [List.length_take, Nat.min_eq_left h] at hlt
    rw [hs, Int.add_mul_ediv_left _ _ (by omega), Int.ediv_eq_zero_of_lt h0 hlt]; omega
  · rw [List.drop_of_length_le (by omega), val_nil]
    have hlt := val_lt hl
    have := pw_le (m := l.length) (n := n) (by omega)
    exact Int.ediv_eq_zero_of_lt (val_nonneg hl) (by omega)
theorem val_drop_next (l : List Int) (n : Nat) : val (l.drop n) = l.getD n 0 + 4294967296 * val (l.drop (n + 1)) := by
  by_cases h : n < l.length
  · exact val_drop l n h
  · rw [getD_ge (by omega), List.drop_of_length_le (by omega), List.drop_of_length_le (by omega)]; rfl
theorem two_pos (n : Nat) : (0 : Int) < 2 ^ n := by
  induction n with
  | zero => simp
  | succ n ih => rw [Int.pow_succ]; omega
theorem two_pw (i : Nat) : (2 : Int) ^ i = pw (i / 32) * 2 ^ (i % 32) := by
  have h : pw (i / 32) = 2 ^ (32 * (i / 32)) := by
    unfold pw; rw [Int.pow_mul]; rfl
  rw [h, ← Int.pow_add, Nat.div_add_mod]
/-- A number's bit. -/
theorem bit_val {l : List Int} (hl : Lim l) (i : Nat) : (val l / 2 ^ i) % 2 = (l.getD (i / 32) 0 / 2 ^ (i % 32)) % 2 := by
  rw [two_pw, ← Int.ediv_ediv_of_nonneg (Int.le_of_lt (pw_pos _)), val_drop_div l hl, val_drop_next]
  have hs : i % 32 < 32 := Nat.mod_lt _ (by omega)
  generalize i % 32 = s at *
  generalize l.getD (i / 32) 0 = x
  generalize val (l.drop (i / 32 + 1)) = y
  have e : (4294967296 : Int) * y = 2 ^ s * (2 * (2 ^ (31 - s) * y)) := by
    have : (4294967296 : Int) = 2 ^ s * (2 * 2 ^ (31 - s)) := by
      rw [← Int.pow_succ', ← Int.pow_add, show s + (31 - s + 1) = 32 by omega]; rfl
    rw [this]; simp only [Int.mul_assoc]
  rw [e, Int.add_mul_ediv_left _ _ (Int.ne_of_gt (two_pos s))]
  omega
theorem bits_and_one {x : Int} (h : 0 ≤ x) (h' : x < 4294967296) : Go.bits .and .u32 x 1 = x % 2 := by
  obtain ⟨n, rfl⟩ := Int.eq_ofNat_of_zero_le h
  have := u32_and_nat n 1 (by omega) (by omega)
  rw [show ((1 : Nat) : Int) = 1 from rfl] at this
  rw [this, Nat.and_one_is_mod]; omega
theorem rbit_ev {l : List Int} (hl : Lim l) (h : l.length ≤ 100000000) (i : Nat) (hi : i ≤ 4000000000) : foundryref01_Bit.f l (i : Int) = some ((val l / 2 ^ i) % 2) := by
  have e1 : wrap64 (Int.tdiv (i : Int) 32) = ((i / 32 : Nat) : Int) := by rw [Int.tdiv_eq_ediv_of_nonneg (by omega), w64 (by omega) (by omega)]; omega
  have e2 : IntKind.u64.wrap (Int.tmod (i : Int) 32) = ((i % 32 : Nat) : Int) := by rw [Int.tmod_eq_emod_of_nonneg (by omega), u64 (by omega) (by omega)]; omega
  rw [bit_val hl]
  unfold foundryref01_Bit.f
  rw [e1, e2]
  by_cases c : ((i / 32 : Nat) : Int) ≥ (l.length : Int)
  · rw [if_pos c, getD_ge (by omega)]; simp
  · have hx := lim_getD hl (i / 32)
    have hmin : min (i % 32) 32 = i % 32 := by omega
    have hp := two_pos (i % 32)
    have hq : 0 ≤ l.getD (i / 32) 0 / 2 ^ (i % 32) := Int.ediv_nonneg hx.1 (Int.le_of_lt hp)
    have hq' : l.getD (i / 32) 0 / 2 ^ (i % 32) ≤ l.getD (i / 32) 0 := Int.ediv_le_self _ hx.1
    rw [if_neg c, if_pos (by omega), if_pos (by omega), if_pos (by omega), rd_nat]
    unfold shr
    rw [Int.toNat_natCast, show IntKind.bits .u32 = 32 from rfl, hmin, bits_and_one hq (by omega)]
theorem rdouble_zero {a : List Int} (ha : Lim a) (h1 : a.length ≤ 100000000) :
    ∃ r, Ev (fun n => foundryref01_double.f n a 0) r ∧ Good r (2 * val a) ∧ r.length ≤ a.length + 1 := by
  obtain ⟨r, er, g, l⟩ := radd_good ha ha h1 h1
  refine ⟨r, ?_, ⟨g.lim, g.tr, by rw [g.val]; omega⟩, by omega⟩
  exact Ev.bind (f := fun k t => if (0 : Int) = 1 then _ else some t) er (Ev.congr (fun k => if_neg (by omega)) (Ev.now r))
theorem good_len {r : List Int} {x : Int} (g : Good r x) {n : Nat} (h : x < pw n) : r.length ≤ n := len_le g.lim g.tr (by rw [g.val]; exact h)
theorem rmul_l0 (n : Nat) : ∀ (a b o : List Int), Lim a → Lim b → a.length ≤ 10000000 → b.length ≤ 10000000 → n ≤ 32 * b.length → Good o (val a * (val b / 2 ^ n)) →
    ∃ r, Ev (fun k => foundryref01_Mul.l0 k a b o ((n : Int) - 1)) r ∧ Good r (val a * val b) := by
  induction n with
  | zero =>
    intro a b o ha hb h1 h2 hn g
    refine ⟨o, ev_some fun k => ?_, by simpa using g⟩
    simp only [foundryref01_Mul.l0]; rw [if_neg (by omega)]
  | succ n ih =>
    intro a b o ha hb h1 h2 hn g
    have hva := val_nonneg ha; have hvb := val_nonneg hb
    have hla := val_lt ha; have hlb := val_lt hb
    have hq0 : 0 ≤ val b / 2 ^ (n + 1) := Int.ediv_nonneg hvb (Int.le_of_lt (two_pos _))
    have hqb : val b / 2 ^ (n + 1) ≤ val b := Int.ediv_le_self _ hvb
    have hlo : o.length ≤ a.length + b.length := good_len g (by
      rw [pw_add]
      have h3 : val a * (val b / 2 ^ (n + 1)) ≤ val a * val b := Int.mul_le_mul_of_nonneg_left hqb hva
      have h4 : val a * val b ≤ val a * pw b.length := Int.mul_le_mul_of_nonneg_left (Int.le_of_lt hlb) hva
      have h5 : val a * pw b.length < pw a.length * pw b.length := Int.mul_lt_mul_of_pos_right hla (pw_pos _)
      omega)
    have hdiv : val b / 2 ^ n = 2 * (val b / 2 ^ (n + 1)) + (val b / 2 ^ n) % 2 := by
      have : val b / 2 ^ (n + 1) = val b / 2 ^ n / 2 := by rw [Int.pow_succ, Int.ediv_ediv_of_nonneg (Int.le_of_lt (two_pos _))]
      omega
    have hbit := rbit_ev hb (by omega) n (by omega)
    have e1 : (((n + 1 : Nat) : Int) - 1) = (n : Int) := by omega
    obtain ⟨d, ed, gd, ld⟩ := rdouble_zero g.lim (by omega)
    rw [g.val] at gd
    rw [e1]
    by_cases hb1 : (val b / 2 ^ n) % 2 = 1
    · obtain ⟨s, es, gs, ls⟩ := radd_good gd.lim ha (by omega) (by omega)
      rw [gd.val] at gs
      obtain ⟨r, er, gr⟩ := ih a b s ha hb h1 h2 (by omega) ⟨gs.lim, gs.tr, by rw [gs.val, hdiv, hb1]; grind⟩
      refine ⟨r, ?_, gr⟩
      refine Ev.step (f := fun k => (foundryref01_double.f k o 0).bind fun t => (foundryref01_Add.f k t a).bind fun u => foundryref01_Mul.l0 k a b u ((n : Int) - 1)) (fun k => ?_) ?_
      · simp only [foundryref01_Mul.l0]
        rw [if_pos (by omega), hbit]
        simp only [Option.bind_some]; rw [hb1, w64 (by omega) (by omega)]; simp only [if_true]
      · exact Ev.bind (f := fun k t => (foundryref01_Add.f k t a).bind fun u => foundryref01_Mul.l0 k a b u ((n : Int) - 1)) ed (Ev.bind (f := fun k u => foundryref01_Mul.l0 k a b u ((n : Int) - 1)) es er)
    · obtain ⟨r, er, gr⟩ := ih a b d ha hb h1 h2 (by omega) ⟨gd.lim, gd.tr, by rw [gd.val, hdiv, show (val b / 2 ^ n) % 2 = 0 by omega]; grind⟩
      refine ⟨r, ?_, gr⟩
      refine Ev.step (f := fun k => (foundryref01_double.f k o 0).bind fun t => foundryref01_Mul.l0 k a b t ((n : Int) - 1)) (fun k => ?_) ?_
      · simp only [foundryref01_Mul.l0]
        rw [if_pos (by omega), hbit]
        simp only [Option.bind_some, if_neg hb1]; rw [w64 (by omega) (by omega)]
      · exact Ev.bind (f := fun k t => foundryref01_Mul.l0 k a b t ((n : Int) - 1)) ed er
theorem rmul_good {a b : List Int} (ha : Lim a) (hb : Lim b) (h1 : a.length ≤ 10000000) (h2 : b.length ≤ 10000000) :
    ∃ r, Ev (fun n => foundryref01_Mul.f n a b) r ∧ Good r (val a * val b) := by
  have hlt : val b < 2 ^ (32 * b.length) := by
    have := val_lt hb
    have e : pw b.length = 2 ^ (32 * b.length) := by unfold pw; rw [Int.pow_mul]; rfl
    rwa [e] at this
  obtain ⟨r, er, g⟩ := rmul_l0 (32 * b.length) a b [] ha hb h1 h2 (Nat.le_refl _) ⟨lim_nil, tr_nil, by rw [Int.ediv_eq_zero_of_lt (val_nonneg hb) hlt]; simp [val_nil]⟩
  refine ⟨r, Ev.congr (fun n => ?_) er, g⟩
  unfold foundryref01_Mul.f foundryref01_bits.f
  simp only [Option.bind_some]
  rw [w64 (x := 32 * (b.length : Int)) (by omega) (by omega), w64 (by omega) (by omega)]
  congr 1
end Go.Proofs.Ytlhgagmghahbhaa.N
