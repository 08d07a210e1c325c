/- Contracts: nat.Add, Trim, Sub, Small; the reference's Cmp, Sub, Small. -/
import Derived.Test.YtlhgagmghahbhaaN3
import Derived.Test.YtlhgagmghahbhaaQx2
import Derived.Test.YtlhgagmghahbhaaQx8
import Derived.Test.YtlhgagmghahbhaaQx10
import Derived.Test.YtlhgagmghahbhaaQx11
import Derived.Test.YtlhgagmghahbhaaQx12
import Derived.Test.YtlhgagmghahbhaaQx14
namespace Go.Proofs.Ytlhgagmghahbhaa.N
open Go.RowKit Go.Proofs.Ytlhgagmghahbhaa.Q Go.Proofs.YtlhgagmghahbhaaW.PrintWords Go.Proofs.YtlhgagmghahbhaaW.PrintLast Go.Proofs.YtlhgagmghahbhaaW.PrintMore
open FNat
set_option linter.unusedVariables false
set_option linter.unusedSimpArgs false

/-! ### nat.Add -/
theorem u64l {x : Int} (h : 0 ≤ x ∧ x < 4294967296) : IntKind.u64.wrap x = x := u64 h.1 (by omega)
theorem dig {t : Int} (h : 0 ≤ t) : 4294967296 * (t / 4294967296) + t % 4294967296 = t ∧ 0 ≤ t % 4294967296 ∧ t % 4294967296 < 4294967296 ∧ 0 ≤ t / 4294967296 ∧ ∀ n : Int, t < 4294967296 * n → t / 4294967296 ≤ n - 1 :=
  ⟨Int.mul_ediv_add_emod _ _, by omega, by omega, by omega, fun n hn => by omega⟩
theorem add_l1 (d : Nat) : ∀ (a b o : List Int) (i : Nat) (c : Int), Lim a → Lim b → Lim o → b.length ≤ a.length → a.length ≤ 100000000 → o.length = a.length + 1 → i + d = a.length → 0 ≤ c ∧ c ≤ 1 →
    (∀ j, i ≤ j → o.getD j 0 = 0) → val o + pw i * c = val (a.take i) + val (b.take i) →
    ∃ r, Ev (fun k => nat_Add.l1 k a b o c (a.length : Int) (i : Int)) r ∧ Ev (fun k => nat_Add.l0 k a b o c (a.length : Int) (i : Int)) r ∧ Good r (val a + val b) ∧ r.length ≤ a.length + 1 := by
  induction d with
  | zero =>
    intro a b o i c ha hb ho hba h1 hl hi hc hz hv
    rw [List.take_of_length_le (by omega), List.take_of_length_le (by omega)] at hv
    have hs := val_set o a.length c (by omega)
    rw [hz _ (by omega)] at hs
    obtain ⟨r, er, g, l⟩ := trim_good (l := o.set a.length c) (lim_set ho _ (by omega)) (by simp; omega)
    refine ⟨r, ?_, ?_, ⟨g.lim, g.tr, ?_⟩, by rw [List.length_set] at l; omega⟩
    · refine Ev.step (fun k => ?_) (Ev.bind (f := fun _ t => some t) er (Ev.now r))
      simp only [nat_Add.l1]
      rw [if_neg (by omega), if_pos (by omega), if_pos (by omega), Int.toNat_natCast, show c % 4294967296 = c by omega]
    · refine Ev.step (fun k => ?_) (Ev.bind (f := fun _ t => some t) er (Ev.now r))
      simp only [nat_Add.l0]
      rw [if_neg (by omega), if_pos (by omega), if_pos (by omega), Int.toNat_natCast, show c % 4294967296 = c by omega]
    · obtain rfl : i = a.length := by omega
      rw [g.val, hs, Int.sub_zero]; exact hv
  | succ d ih =>
    intro a b o i c ha hb ho hba h1 hl hi hc hz hv
    have hx := lim_getD ha i
    have hy := lim_getD hb i
    have hs := fun v => val_set o i v (by omega)
    rw [hz _ (Nat.le_refl _)] at hs
    have e1 : wrap64 ((i : Int) + 1) = ((i + 1 : Nat) : Int) := by rw [w64 (by omega) (by omega)]; rfl
    have hdig := dig (t := c + a.getD i 0 + b.getD i 0) (by omega)
    obtain ⟨r, er, er', g, l⟩ := ih a b (o.set i ((c + a.getD i 0 + b.getD i 0) % 4294967296)) (i + 1) ((c + a.getD i 0 + b.getD i 0) / 4294967296) ha hb (lim_set ho _ ⟨hdig.2.1, hdig.2.2.1⟩) hba h1 (by simpa using hl) (by omega) ⟨hdig.2.2.2.1, hdig.2.2.2.2 2 (by omega)⟩
      (fun j hj => by rw [FNat.getD_set_ne (Nat.ne_of_lt (Nat.lt_of_succ_le hj))]; exact hz j (Nat.le_of_succ_le hj)) (by
      rw [hs, val_take_next, val_take_next, pw_succ]
      have hm := hdig.1
      clear hdig
      generalize (c + a.getD i 0 + b.getD i 0) / 4294967296 = q at *
      generalize (c + a.getD i 0 + b.getD i 0) % 4294967296 = m at *
      generalize a.getD i 0 = x at *
      generalize b.getD i 0 = y at *
      have : val o = val (a.take i) + val (b.take i) - pw i * c := by omega
      rw [this]
      obtain rfl : m = c + x + y - 4294967296 * q := by omega
      grind)
    clear hdig hs hz hv
    have hil : (i : Int) < (a.length : Int) := by omega
    refine ⟨r, Ev.step (fun k => ?_) er, Ev.step (fun k => ?_) er', g, l⟩
    · simp only [nat_Add.l1]
      rw [if_pos (by omega), if_pos (by omega), if_pos (by omega), e1, rd_nat, rd_nat, u64 hx.1 (by omega), u64 hy.1 (by omega), u64 (x := c + a.getD i 0) (by omega) (by omega)]
      by_cases h2 : (i : Int) < (b.length : Int)
      · rw [if_pos h2, if_pos (by omega), u64 (by omega) (by omega)]; rfl
      · have hb0 : b.getD i 0 = 0 := getD_ge (Int.ofNat_le.1 (Int.not_lt.1 h2))
        rw [if_neg h2, if_pos (by omega), hb0, Int.add_zero]; rfl
    · simp only [nat_Add.l0]
      rw [if_pos (by omega), if_pos (by omega), if_pos (by omega), e1, rd_nat, rd_nat, u64 hx.1 (by omega), u64 hy.1 (by omega), u64 (x := c + a.getD i 0) (by omega) (by omega)]
      by_cases h2 : (i : Int) < (b.length : Int)
      · rw [if_pos h2, if_pos (by omega), u64 (by omega) (by omega)]; rfl
      · have hb0 : b.getD i 0 = 0 := getD_ge (Int.ofNat_le.1 (Int.not_lt.1 h2))
        rw [if_neg h2, if_pos (by omega), hb0, Int.add_zero]; rfl
theorem add_good {a b : List Int} (ha : Lim a) (hb : Lim b) (h1 : a.length ≤ 100000000) (h2 : b.length ≤ 100000000) :
    ∃ r, Ev (fun n => nat_Add.f n a b) r ∧ Good r (val a + val b) ∧ r.length ≤ max a.length b.length + 1 := by
  have e : ∀ n : Nat, n ≤ 100000000 → wrap64 ((n : Int) + 1) = ((n + 1 : Nat) : Int) := fun n h => by rw [w64 (by omega) (by omega)]; rfl
  by_cases c : (a.length : Int) < (b.length : Int)
  · obtain ⟨r, _, er, g, l⟩ := add_l1 b.length b a (List.replicate (b.length + 1) 0) 0 0 hb ha (lim_replicate _) (by omega) h2 (by simp) (by omega) (by omega) (fun j _ => getD_replicate _ _) (by simp [val_replicate, val_nil])
    refine ⟨r, Ev.congr (fun n => ?_) er, ⟨g.lim, g.tr, by rw [g.val]; omega⟩, by omega⟩
    unfold nat_Add.f
    rw [if_pos c, e _ h2, if_pos (by omega), if_pos (by omega)]; rfl
  · obtain ⟨r, er, _, g, l⟩ := add_l1 a.length a b (List.replicate (a.length + 1) 0) 0 0 ha hb (lim_replicate _) (by omega) h1 (by simp) (by omega) (by omega) (fun j _ => getD_replicate _ _) (by simp [val_replicate, val_nil])
    refine ⟨r, Ev.congr (fun n => ?_) er, g, by omega⟩
    unfold nat_Add.f
    rw [if_neg c, e _ h1, if_pos (by omega), if_pos (by omega)]; rfl

/-! ### nat.Trim -/
theorem Trim_good {l : List Int} (hl : Lim l) (h : l.length ≤ 1000000000) : ∃ r, Ev (fun k => nat_Trim.f k l) r ∧ Good r (val l) ∧ r.length ≤ l.length := by
  obtain ⟨r, er, g, l⟩ := trim_good hl h
  exact ⟨r, Ev.bind (f := fun k (t : List Int) => if ([] : List Int).length + t.length < 35184372088832 then some (([] : List Int) ++ t) else none) er (Ev.congr (fun k => by rw [if_pos (by simp; omega)]; rfl) (Ev.now r)), g, l⟩

/-! ### the reference's Cmp -/
theorem rcmp_l0 (n : Nat) : ∀ a b : List Int, Lim a → Lim b → n ≤ max a.length b.length → a.length ≤ 1000000000 → b.length ≤ 1000000000 →
    val (a.drop n) = val (b.drop n) → Ev (fun k => foundryref01_Cmp.l0 k a b ((n : Int) - 1)) (cmpv (val a) (val b)) := by
  induction n with
  | zero =>
    intro a b ha hb _ _ _ hv
    simp only [List.drop_zero] at hv
    refine ev_some fun k => ?_
    simp only [foundryref01_Cmp.l0]; rw [if_neg (by omega)]; unfold cmpv; rw [if_neg (by omega), if_pos hv]
  | succ n ih =>
    intro a b ha hb hn h1 h2 hv
    have hx := lim_getD ha n
    have hy := lim_getD hb n
    have e1 : ((n + 1 : Nat) : Int) - 1 = (n : Int) := by omega
    have da := val_drop_next a n; have db := val_drop_next b n
    have qa := val_drop_div a ha n; have qb := val_drop_div b hb n
    rw [e1]
    have hp := pw_pos n
    -- the last step, from the two digits
    have step : Ev (fun k => foundryref01_Cmp.j2 k a b (n : Int) (a.getD n 0) (b.getD n 0)) (cmpv (val a) (val b)) := by
      by_cases c1 : a.getD n 0 < b.getD n 0
      · refine ev_some fun k => ?_
        simp only [foundryref01_Cmp.j2]; rw [if_pos c1]
        have : val a < val b := by
          have hlt : val a / pw n < val b / pw n := by rw [qa, qb, da, db, hv]; omega
          by_cases hc : val a < val b
          · exact hc
          · have := Int.ediv_le_ediv hp (show val b ≤ val a by omega); omega
        unfold cmpv; rw [if_pos this]
      · by_cases c2 : a.getD n 0 > b.getD n 0
        · refine ev_some fun k => ?_
          simp only [foundryref01_Cmp.j2]; rw [if_neg c1, if_pos c2]
          have : val b < val a := by
            have hlt : val b / pw n < val a / pw n := by rw [qa, qb, da, db, hv]; omega
            by_cases hc : val b < val a
            · exact hc
            · have := Int.ediv_le_ediv hp (show val a ≤ val b by omega); omega
          unfold cmpv; rw [if_neg (by omega), if_neg (by omega)]
        · refine Ev.step (fun k => ?_) (ih a b ha hb (by omega) h1 h2 (by rw [da, db, hv]; omega))
          simp only [foundryref01_Cmp.j2]; rw [if_neg c1, if_neg c2, w64 (by omega) (by omega)]
    have step1 : Ev (fun k => foundryref01_Cmp.j1 k a b (n : Int) (a.getD n 0) 0) (cmpv (val a) (val b)) := by
      refine Ev.step (fun k => ?_) step
      simp only [foundryref01_Cmp.j1]
      by_cases c : (n : Int) < (b.length : Int)
      · rw [if_pos c, if_pos (by omega), rd_nat]
      · rw [if_neg c, getD_ge (l := b) (by omega)]
    refine Ev.step (fun k => ?_) step1
    simp only [foundryref01_Cmp.l0]
    rw [if_pos (by omega)]
    by_cases c : (n : Int) < (a.length : Int)
    · rw [if_pos c, if_pos (by omega), rd_nat]
    · rw [if_neg c, getD_ge (l := a) (by omega)]
theorem rcmp_ev {a b : List Int} (ha : Lim a) (hb : Lim b) (h1 : a.length ≤ 1000000000) (h2 : b.length ≤ 1000000000) :
    Ev (fun k => foundryref01_Cmp.f k a b) (cmpv (val a) (val b)) := by
  have := rcmp_l0 (max a.length b.length) a b ha hb (Nat.le_refl _) h1 h2 (by rw [List.drop_of_length_le (by omega), List.drop_of_length_le (by omega)])
  refine Ev.congr (fun k => ?_) this
  unfold foundryref01_Cmp.f
  have : mx (a.length : Int) (b.length : Int) = ((max a.length b.length : Nat) : Int) := by unfold mx; omega
  rw [this, w64 (by omega) (by omega)]

/-! ### Sub -/
theorem sub_step {x y c : Int} (hx : 0 ≤ x ∧ x < 4294967296) (hy : 0 ≤ y ∧ y < 4294967296) (hc : 0 ≤ c ∧ c ≤ 1) :
    IntKind.u64.wrap (IntKind.u64.wrap (x - y) - c) % 4294967296 = (x - y - c) % 4294967296 ∧
    IntKind.u64.wrap (IntKind.u64.wrap (x - y) - c) / 9223372036854775808 = (if x < y + c then 1 else 0) := by
  rw [u64_mod, u64_mod]
  refine ⟨by omega, ?_⟩
  split <;> omega
/-- What a subtraction answers. -/
def subv (x y : Int) : Int := if x ≤ y then 0 else x - y
theorem val_take_small {b : List Int} (hb : Lim b) {n : Nat} (h : val b < pw n) : val (b.take n) = val b := by
  by_cases hn : n ≤ b.length
  · have hs := val_split b n hn
    have h0 := val_nonneg (lim_take hb n)
    have h1 := val_nonneg (lim_drop hb n)
    have hp := pw_pos n
    by_cases hz : val (b.drop n) = 0
    · rw [hz] at hs; omega
    · have : pw n * 1 ≤ pw n * val (b.drop n) := Int.mul_le_mul_of_nonneg_left (by omega) (by omega)
      omega
  · rw [List.take_of_length_le (by omega)]
theorem no_borrow {o : List Int} {p c A B : Int} (ho : Lim o) (hp : p = pw o.length) (hc : 0 ≤ c ∧ c ≤ 1) (hB : B ≤ A) (hv : val o - p * c = A - B) : c = 0 ∧ val o = A - B := by
  have := val_lt ho
  by_cases h : c = 0
  · subst h; omega
  · obtain rfl : c = 1 := by omega
    omega
theorem sub_digit {x y c : Int} (hx : 0 ≤ x ∧ x < 4294967296) (hy : 0 ≤ y ∧ y < 4294967296) (hc : 0 ≤ c ∧ c ≤ 1) :
    (0 ≤ (x - y - c) % 4294967296 ∧ (x - y - c) % 4294967296 < 4294967296) ∧ (x - y - c) % 4294967296 - 4294967296 * (if x < y + c then 1 else 0) = x - y - c ∧ (0 ≤ (if x < y + c then (1 : Int) else 0) ∧ (if x < y + c then (1 : Int) else 0) ≤ 1) := by
  refine ⟨by omega, ?_, ?_⟩ <;> split <;> omega
theorem sub_l0 (d : Nat) : ∀ (b o : List Int) (i : Nat) (c : Int) (A : Int), Lim b → Lim o → o.length ≤ 100000000 → i + d = o.length → 0 ≤ c ∧ c ≤ 1 →
    val b ≤ A → A < pw o.length → val o - pw i * c = A - val (b.take i) →
    ∃ r, Ev (fun k => nat_Sub.l0 k b o c (o.length : Int) (i : Int)) r ∧ Good r (A - val b) ∧ r.length ≤ o.length := by
  induction d with
  | zero =>
    intro b o i c A hb ho h1 hi hc hA hA' hv
    obtain rfl : i = o.length := by omega
    rw [val_take_small hb (by omega)] at hv
    have := no_borrow ho rfl hc hA hv
    obtain ⟨r, er, g, l⟩ := trim_good ho (by omega)
    refine ⟨r, ?_, ⟨g.lim, g.tr, by rw [g.val]; exact this.2⟩, l⟩
    refine Ev.step (fun k => ?_) (Ev.bind (f := fun _ t => some t) er (Ev.now r))
    simp only [nat_Sub.l0]; rw [if_neg (by omega)]
  | succ d ih =>
    intro b o i c A hb ho h1 hi hc hA hA' hv
    have hil : (i : Int) < (o.length : Int) := by omega
    have hx := lim_getD ho i
    have hy := lim_getD hb i
    have hsd := sub_digit hx hy hc
    have hss := sub_step hx hy hc
    have hs := val_set o i ((o.getD i 0 - b.getD i 0 - c) % 4294967296) (by omega)
    have e1 : wrap64 ((i : Int) + 1) = ((i + 1 : Nat) : Int) := by rw [w64 (by omega) (by omega)]; rfl
    have hlen : (o.set i ((o.getD i 0 - b.getD i 0 - c) % 4294967296)).length = o.length := List.length_set
    obtain ⟨r, er, g, l⟩ := ih b (o.set i ((o.getD i 0 - b.getD i 0 - c) % 4294967296)) (i + 1) (if o.getD i 0 < b.getD i 0 + c then 1 else 0) A hb (lim_set ho _ hsd.1) (by rw [hlen]; exact h1) (by rw [hlen]; omega) hsd.2.2 hA (by rw [hlen]; exact hA') (by
      rw [hs, val_take_next, pw_succ]
      have hm := hsd.2.1
      clear hsd hss hs hlen
      generalize (if o.getD i 0 < b.getD i 0 + c then (1 : Int) else 0) = q at *
      generalize (o.getD i 0 - b.getD i 0 - c) % 4294967296 = m at *
      generalize o.getD i 0 = x at *
      generalize b.getD i 0 = y at *
      have : val o = A - val (b.take i) + pw i * c := by omega
      rw [this]
      obtain rfl : m = x - y - c + 4294967296 * q := by omega
      grind)
    rw [hlen] at er l
    refine ⟨r, Ev.step (fun k => ?_) er, g, l⟩
    simp only [nat_Sub.l0]
    rw [if_pos hil, e1, rd_nat, rd_nat, u64l hx, u64l hy]
    by_cases h2 : (i : Int) < (b.length : Int)
    · rw [if_pos h2, if_pos (Int.natCast_nonneg i), if_pos hil, hss.1, hss.2]; rfl
    · have hb0 : b.getD i 0 = 0 := getD_ge (Int.ofNat_le.1 (Int.not_lt.1 h2))
      rw [hb0] at hss ⊢
      rw [if_neg h2, if_pos (Int.natCast_nonneg i), if_pos hil, hss.1, hss.2]; rfl
theorem sub_good {a b : List Int} (ha : Lim a) (hb : Lim b) (h1 : a.length ≤ 100000000) (h2 : b.length ≤ 100000000) :
    ∃ r, Ev (fun n => nat_Sub.f n a b) r ∧ Good r (subv (val a) (val b)) ∧ r.length ≤ a.length := by
  have hc := cmp_ev ha hb (by omega) (by omega)
  by_cases h : val a ≤ val b
  · refine ⟨[], Ev.bind (f := fun k t => if t ≤ 0 then some ([] : List Int) else _) hc (Ev.congr (fun k => if_pos (cmpv_le.2 h)) (Ev.now [])), ⟨lim_nil, tr_nil, ?_⟩, by simp⟩
    unfold subv; rw [if_pos h]; rfl
  · obtain ⟨t, et, gt, lt⟩ := Trim_good ha (by omega)
    obtain ⟨r, er, g, l⟩ := sub_l0 t.length b t 0 0 (val a) hb gt.lim (by omega) (by omega) (by omega) (by omega) (by rw [← gt.val]; exact val_lt gt.lim) (by rw [gt.val]; simp [val_nil])
    refine ⟨r, Ev.bind (f := fun k s => if s ≤ 0 then some ([] : List Int) else (nat_Trim.f k a).bind fun t => nat_Sub.l0 k b t 0 (t.length : Int) 0) hc (Ev.congr (fun k => if_neg (fun hh => h (cmpv_le.1 hh))) (Ev.bind (f := fun k t => nat_Sub.l0 k b t 0 (t.length : Int) 0) et er)), ?_, by omega⟩
    unfold subv; rw [if_neg h]; exact g

/-! ### the reference's Sub -/
theorem rsub_step {x y c : Int} (hx : 0 ≤ x ∧ x < 4294967296) (hy : 0 ≤ y ∧ y < 4294967296) (hc : 0 ≤ c ∧ c ≤ 1) :
    Int.tmod (IntKind.u64.wrap (IntKind.u64.wrap (IntKind.u64.wrap (x + 4294967296) - c) - y)) 4294967296 % 4294967296 = (x - y - c) % 4294967296 ∧
    IntKind.u64.wrap (1 - IntKind.u64.wrap (Int.tdiv (IntKind.u64.wrap (IntKind.u64.wrap (IntKind.u64.wrap (x + 4294967296) - c) - y)) 4294967296)) = (if x < y + c then 1 else 0) := by
  rw [u64 (x := x + 4294967296) (by omega) (by omega), u64 (x := x + 4294967296 - c) (by omega) (by omega), u64 (x := x + 4294967296 - c - y) (by omega) (by omega),
    Int.tmod_eq_emod_of_nonneg (by omega), Int.tdiv_eq_ediv_of_nonneg (by omega), u64 (x := (x + 4294967296 - c - y) / 4294967296) (by omega) (by omega), u64 (by omega) (by omega)]
  refine ⟨by omega, ?_⟩
  split <;> omega
theorem rsub_l0 (d : Nat) : ∀ (a b o : List Int) (i : Nat) (c : Int), Lim a → Lim b → Lim o → a.length ≤ 100000000 → o.length = i → i + d = a.length → 0 ≤ c ∧ c ≤ 1 →
    val b ≤ val a → val o - pw i * c = val (a.take i) - val (b.take i) →
    ∃ r, Ev (fun k => foundryref01_Sub.l0 k a b o c (i : Int)) r ∧ Good r (val a - val b) ∧ r.length ≤ a.length := by
  induction d with
  | zero =>
    intro a b o i c ha hb ho h1 hl hi hc hA hv
    obtain rfl : i = a.length := by omega
    have hlt := val_lt ha
    rw [val_take_small hb (by omega), List.take_of_length_le (Nat.le_refl _)] at hv
    have := no_borrow ho (by rw [hl]) hc hA hv
    obtain ⟨r, er, g, l⟩ := rtrim_good ho (by omega)
    refine ⟨r, ?_, ⟨g.lim, g.tr, by rw [g.val]; exact this.2⟩, by omega⟩
    refine Ev.step (fun k => ?_) (Ev.bind (f := fun _ t => some t) er (Ev.now r))
    simp only [foundryref01_Sub.l0]; rw [if_neg (by omega)]
  | succ d ih =>
    intro a b o i c ha hb ho h1 hl hi hc hA hv
    have hil : (i : Int) < (a.length : Int) := by omega
    have hol : o.length < 35184372088832 := by omega
    have hx := lim_getD ha i
    have hy := lim_getD hb i
    have hsd := sub_digit hx hy hc
    have hss := rsub_step hx hy hc
    have e1 : wrap64 ((i : Int) + 1) = ((i + 1 : Nat) : Int) := by rw [w64 (by omega) (by omega)]; rfl
    obtain ⟨r, er, g, l⟩ := ih a b (o ++ [(a.getD i 0 - b.getD i 0 - c) % 4294967296]) (i + 1) (if a.getD i 0 < b.getD i 0 + c then 1 else 0) ha hb (lim_append.2 ⟨ho, lim_one hsd.1⟩) h1 (by simp; omega) (by omega) hsd.2.2 hA (by
      rw [val_snoc, hl, val_take_next, val_take_next, pw_succ]
      have hm := hsd.2.1
      clear hsd hss
      generalize (if a.getD i 0 < b.getD i 0 + c then (1 : Int) else 0) = q at *
      generalize (a.getD i 0 - b.getD i 0 - c) % 4294967296 = m at *
      generalize a.getD i 0 = x at *
      generalize b.getD i 0 = y at *
      have : val o = val (a.take i) - val (b.take i) + pw i * c := by omega
      rw [this]
      obtain rfl : m = x - y - c + 4294967296 * q := by omega
      grind)
    refine ⟨r, Ev.step (fun k => ?_) er, g, l⟩
    simp only [foundryref01_Sub.l0]
    rw [if_pos hil, if_pos (Int.natCast_nonneg i), e1, rd_nat, rd_nat, u64l hx, u64l hy]
    by_cases h2 : (i : Int) < (b.length : Int)
    · rw [if_pos h2, if_pos hol, hss.1, hss.2]
    · have hb0 : b.getD i 0 = 0 := getD_ge (Int.ofNat_le.1 (Int.not_lt.1 h2))
      rw [hb0] at hss ⊢
      rw [if_neg h2, if_pos hol]
      have hz : IntKind.u64.wrap (IntKind.u64.wrap (IntKind.u64.wrap (a.getD i 0 + 4294967296) - c) - 0) = IntKind.u64.wrap (IntKind.u64.wrap (a.getD i 0 + 4294967296) - c) := by rw [Int.sub_zero, u64_mod (IntKind.u64.wrap (a.getD i 0 + 4294967296) - c), u64_mod]; omega
      rw [hz] at hss
      rw [hss.1, hss.2]
theorem rsub_good {a b : List Int} (ha : Lim a) (hb : Lim b) (h1 : a.length ≤ 100000000) (h2 : b.length ≤ 100000000) :
    ∃ r, Ev (fun n => foundryref01_Sub.f n a b) r ∧ Good r (subv (val a) (val b)) ∧ r.length ≤ a.length := by
  have hc := rcmp_ev ha hb (by omega) (by omega)
  by_cases h : val a ≤ val b
  · refine ⟨[], Ev.bind (f := fun k t => if t ≤ 0 then some ([] : List Int) else _) hc (Ev.congr (fun k => if_pos (cmpv_le.2 h)) (Ev.now [])), ⟨lim_nil, tr_nil, ?_⟩, by simp⟩
    unfold subv; rw [if_pos h]; rfl
  · obtain ⟨r, er, g, l⟩ := rsub_l0 a.length a b [] 0 0 ha hb lim_nil (by omega) rfl (by omega) (by omega) (by omega) (by simp [val_nil])
    refine ⟨r, Ev.bind (f := fun k s => if s ≤ 0 then some ([] : List Int) else foundryref01_Sub.l0 k a b [] 0 0) hc (Ev.congr (fun k => if_neg (fun hh => h (cmpv_le.1 hh))) er), ?_, by omega⟩
    unfold subv; rw [if_neg h]; exact g

/-! ### Small -/
theorem or_limb {n x : Int} (hn : 0 ≤ n ∧ n < 4294967296) (hx : 0 ≤ x ∧ x < 4294967296) : Go.bits .or .u64 (n * 4294967296) x = n * 4294967296 + x := by
  obtain ⟨n, rfl⟩ := Int.eq_ofNat_of_zero_le hn.1
  obtain ⟨x, rfl⟩ := Int.eq_ofNat_of_zero_le hx.1
  have := u64_or_nat (n * 4294967296) x (by omega) (by omega)
  have e : ((n * 4294967296 : Nat) : Int) = (n : Int) * 4294967296 := by omega
  rw [e] at this
  rw [this]
  have h2 := Nat.two_pow_add_eq_or_of_lt (i := 32) (b := x) (by omega) n
  have h3 : n * 4294967296 ||| x = n * 4294967296 + x := by
    have : 2 ^ 32 * n = n * 4294967296 := by omega
    rw [this] at h2; exact h2.symm
  rw [h3]; clear this h2 h3 e; omega
/-- What a number is told as, if it is small. -/
def smallv (x : Int) : Int × Bool := if x < 18446744073709551616 then (x, true) else (0, false)
theorem two_limbs {t : List Int} (h : t.length ≤ 2) : t = [] ∨ (∃ x, t = [x]) ∨ ∃ x y, t = [x, y] := by
  match t, h with
  | [], _ => exact .inl rfl
  | [x], _ => exact .inr (.inl ⟨x, rfl⟩)
  | [x, y], _ => exact .inr (.inr ⟨x, y, rfl⟩)
theorem small_big {t : List Int} (hl : Lim t) (ht : Tr t) (h : ¬ t.length ≤ 2) : smallv (val t) = (0, false) := by
  have := tr_low hl ht (by rintro rfl; simp at h)
  have h2 := pw_le (m := 2) (n := t.length - 1) (by omega)
  have h3 : pw 2 = 18446744073709551616 := rfl
  unfold smallv; rw [if_neg (by omega)]
theorem acc_lt {acc v : Int} {n : Nat} (h0 : 0 ≤ acc) (hv : 0 ≤ v) (h : acc * pw (n + 1) + v < 18446744073709551616) : acc < 4294967296 := by
  have hp := pw_pos n
  have h1 : acc * 4294967296 * 1 ≤ acc * 4294967296 * pw n := Int.mul_le_mul_of_nonneg_left (by omega) (by omega)
  have h2 : acc * pw (n + 1) = acc * 4294967296 * pw n := by rw [pw_succ]; grind
  omega
theorem small_l0 (n : Nat) : ∀ (t : List Int) (acc : Int), Lim t → n ≤ t.length → t.length ≤ 1000000000 → 0 ≤ acc → acc * pw n + val (t.take n) < 18446744073709551616 →
    Ev (fun k => nat_Small.l0 k t acc ((n : Int) - 1)) (acc * pw n + val (t.take n), true) := by
  induction n with
  | zero =>
    intro t acc ht hn h1 h0 h
    refine ev_some fun k => ?_
    simp only [nat_Small.l0]; rw [if_neg (by omega)]; simp [pw, val_nil]
  | succ n ih =>
    intro t acc ht hn h1 h0 h
    have hx := lim_getD ht n
    have ha := acc_lt h0 (val_nonneg (lim_take ht (n + 1))) h
    have e1 : ((n + 1 : Nat) : Int) - 1 = (n : Int) := by omega
    have e2 : acc * pw (n + 1) + val (t.take (n + 1)) = (acc * 4294967296 + t.getD n 0) * pw n + val (t.take n) := by rw [val_take_next, pw_succ]; grind
    rw [e2] at h ⊢
    rw [e1]
    refine Ev.step (fun k => ?_) (ih t (acc * 4294967296 + t.getD n 0) ht (by omega) h1 (by omega) h)
    simp only [nat_Small.l0]
    rw [if_pos (by omega), if_pos (by omega), if_pos (by omega), rd_nat, u64l hx, u64 (x := acc * 4294967296) (by omega) (by omega), or_limb ⟨h0, ha⟩ hx, w64 (by omega) (by omega)]
theorem rsmall_l0 (n : Nat) : ∀ (t : List Int) (acc : Int), Lim t → n ≤ t.length → t.length ≤ 1000000000 → 0 ≤ acc → acc * pw n + val (t.take n) < 18446744073709551616 →
    Ev (fun k => foundryref01_Small.l0 k t acc ((n : Int) - 1)) (acc * pw n + val (t.take n), true) := by
  induction n with
  | zero =>
    intro t acc ht hn h1 h0 h
    refine ev_some fun k => ?_
    simp only [foundryref01_Small.l0]; rw [if_neg (by omega)]; simp [pw, val_nil]
  | succ n ih =>
    intro t acc ht hn h1 h0 h
    have hx := lim_getD ht n
    have ha := acc_lt h0 (val_nonneg (lim_take ht (n + 1))) h
    have e1 : ((n + 1 : Nat) : Int) - 1 = (n : Int) := by omega
    have e2 : acc * pw (n + 1) + val (t.take (n + 1)) = (acc * 4294967296 + t.getD n 0) * pw n + val (t.take n) := by rw [val_take_next, pw_succ]; grind
    rw [e2] at h ⊢
    rw [e1]
    refine Ev.step (fun k => ?_) (ih t (acc * 4294967296 + t.getD n 0) ht (by omega) h1 (by omega) h)
    simp only [foundryref01_Small.l0]
    rw [if_pos (by omega), if_pos (by omega), if_pos (by omega), rd_nat, u64l hx, u64 (x := acc * 4294967296) (by omega) (by omega), u64 (x := acc * 4294967296 + t.getD n 0) (by omega) (by omega), w64 (by omega) (by omega)]
theorem small_fits {t : List Int} (hl : Lim t) (h : t.length ≤ 2) : val t < 18446744073709551616 := by
  have h1 := val_lt hl
  have h2 := pw_le (m := t.length) (n := 2) h
  have h3 : pw 2 = 18446744073709551616 := rfl
  omega
theorem small_ev {l : List Int} (hl : Lim l) (h : l.length ≤ 1000000000) : Ev (fun k => nat_Small.f k l) (smallv (val l)) := by
  obtain ⟨t, et, g, _⟩ := trim_good hl h
  rw [← g.val]
  refine Ev.bind (f := fun k t => if (t.length : Int) > 2 then some ((0 : Int), false) else nat_Small.l0 k t 0 (wrap64 ((t.length : Int) - 1))) et ?_
  by_cases hc : t.length ≤ 2
  · have hf := small_fits g.lim hc
    have h1 := small_l0 t.length t 0 g.lim (Nat.le_refl _) (by omega) (by omega) (by rw [List.take_of_length_le (Nat.le_refl _), Int.zero_mul, Int.zero_add]; exact hf)
    rw [List.take_of_length_le (Nat.le_refl _), Int.zero_mul, Int.zero_add] at h1
    unfold smallv
    rw [if_pos hf]
    refine Ev.congr (fun k => ?_) h1
    rw [if_neg (by omega), w64 (by omega) (by omega)]
  · rw [small_big g.lim g.tr hc]
    exact Ev.congr (fun k => if_pos (by omega)) (Ev.now _)
theorem rsmall_ev {l : List Int} (hl : Lim l) (h : l.length ≤ 1000000000) : Ev (fun k => foundryref01_Small.f k l) (smallv (val l)) := by
  obtain ⟨t, et, g, _⟩ := rtrim_good hl h
  rw [← g.val]
  refine Ev.bind (f := fun k t => if (t.length : Int) > 2 then some ((0 : Int), false) else foundryref01_Small.l0 k t 0 (wrap64 ((t.length : Int) - 1))) et ?_
  by_cases hc : t.length ≤ 2
  · have hf := small_fits g.lim hc
    have h1 := rsmall_l0 t.length t 0 g.lim (Nat.le_refl _) (by omega) (by omega) (by rw [List.take_of_length_le (Nat.le_refl _), Int.zero_mul, Int.zero_add]; exact hf)
    rw [List.take_of_length_le (Nat.le_refl _), Int.zero_mul, Int.zero_add] at h1
    unfold smallv
    rw [if_pos hf]
    refine Ev.congr (fun k => ?_) h1
    rw [if_neg (by omega), w64 (by omega) (by omega)]
  · rw [small_big g.lim g.tr hc]
    exact Ev.congr (fun k => if_pos (by omega)) (Ev.now _)
end Go.Proofs.Ytlhgagmghahbhaa.N
