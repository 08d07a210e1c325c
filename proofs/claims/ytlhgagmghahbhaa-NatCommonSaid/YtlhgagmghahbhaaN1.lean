/- Contracts of the functions of layer 1 and of its reference, as printed, over the values of limbs: trim, Cmp, Of, awake, Same. -/
import Derived.Test.YtlhgagmghahbhaaV
import Derived.Test.YtlhgagmghahbhaaQx1
import Derived.Test.YtlhgagmghahbhaaQx2
namespace Go.Proofs.Ytlhgagmghahbhaa.N
open Go.RowKit Go.Proofs.Ytlhgagmghahbhaa.Q Go.Proofs.YtlhgagmghahbhaaW.PrintWords Go.Proofs.YtlhgagmghahbhaaW.PrintLast Go.Proofs.YtlhgagmghahbhaaW.PrintMore
open FNat
set_option linter.unusedVariables false
set_option linter.unusedSimpArgs false

theorem w64 {x : Int} (h : -9223372036854775808 ≤ x) (h' : x < 9223372036854775808) : wrap64 x = x := by unfold wrap64; omega
theorem u64_mod (x : Int) : IntKind.u64.wrap x = x % 18446744073709551616 := by simp [IntKind.wrap, IntKind.bits, IntKind.signed]
theorem u64 {x : Int} (h : 0 ≤ x) (h' : x < 18446744073709551616) : IntKind.u64.wrap x = x := by rw [u64_mod]; omega
theorem rd_nat (l : List Int) (i : Nat) : rd l (i : Int) = l.getD i 0 := rfl
theorem ev_some {α : Type} {g : Nat → Option α} {r : α} (h : ∀ k, g (k + 1) = some r) : Ev g r := Ev.step h (Ev.now r)
theorem ev_eq {α : Type} {g : Nat → Option α} {r s : α} (h : Ev g r) (e : r = s) : Ev g s := e ▸ h
/-- A list of limbs: in range, without zeros at its end, of this value. -/
structure Good (r : List Int) (x : Int) : Prop where
  lim : Lim r
  tr : Tr r
  val : val r = x
theorem Good.eq {r s : List Int} {x : Int} (h : Good r x) (g : Good s x) : r = s := tr_inj h.lim g.lim h.tr g.tr (h.val.trans g.val.symm)

theorem trim_ev (n : Nat) : ∀ l : List Int, l.length = n → n ≤ 1000000000 → ∃ m, Ev (fun k => nat_trim.l0 k l) (l.take m) ∧ Tr (l.take m) ∧ val (l.take m) = val l := by
  induction n with
  | zero =>
    intro l h _
    obtain rfl : l = [] := List.eq_nil_of_length_eq_zero h
    exact ⟨0, ev_some fun k => by simp [nat_trim.l0], by simpa using tr_nil, by simp⟩
  | succ n ih =>
    intro l h hn
    have hw : wrap64 ((l.length : Int) - 1) = (n : Int) := by rw [w64 (by omega) (by omega)]; omega
    have hsplit : l = l.take n ++ [l.getD n 0] := by
      have := take_snoc l n (by omega)
      rwa [List.take_of_length_le (by omega)] at this
    by_cases hz : l.getD n 0 = 0
    · obtain ⟨m, he, ht, hv⟩ := ih (l.take n) (by rw [List.length_take]; omega) (by omega)
      have hv' : val l = val (l.take n) := by
        have := val_take_succ l n (by omega)
        rw [List.take_of_length_le (by omega), hz] at this
        omega
      refine ⟨min m n, ?_, ?_, ?_⟩
      · refine Ev.step (f := fun k => nat_trim.l0 k (l.take n)) (fun k => ?_) (by rw [List.take_take] at he; exact he)
        simp only [nat_trim.l0, hw]
        rw [if_pos (by omega), if_pos (by omega), if_pos (by omega), if_pos (by rw [rd_nat]; exact hz), if_pos (by omega)]; rfl
      · rw [← List.take_take]; exact ht
      · rw [← List.take_take, hv]; exact hv'.symm
    · refine ⟨n + 1, ?_, ?_, ?_⟩
      · rw [List.take_of_length_le (by omega)]
        refine ev_some fun k => ?_
        simp only [nat_trim.l0, hw]
        rw [if_pos (by omega), if_pos (by omega), if_pos (by omega), if_neg (by rw [rd_nat]; exact hz)]
      · rw [take_snoc l n (by omega)]; exact tr_snoc hz
      · rw [List.take_of_length_le (by omega)]
theorem trim_good {l : List Int} (hl : Lim l) (h : l.length ≤ 1000000000) : ∃ r, Ev (fun k => nat_trim.f k l) r ∧ Good r (val l) ∧ r.length ≤ l.length := by
  obtain ⟨m, he, ht, hv⟩ := trim_ev l.length l rfl h
  exact ⟨_, he, ⟨lim_take hl m, ht, hv⟩, by rw [List.length_take]; omega⟩

/-! ### Cmp -/
theorem cmp_l0 (n : Nat) : ∀ a b : List Int, Lim a → Lim b → n ≤ a.length → n ≤ b.length → a.length ≤ 1000000000 →
    Ev (fun k => nat_Cmp.l0 k a b ((n : Int) - 1)) (cmpv (val (a.take n)) (val (b.take n))) := by
  induction n with
  | zero =>
    intro a b _ _ _ _ _
    exact ev_some fun k => by simp [nat_Cmp.l0, cmpv]
  | succ n ih =>
    intro a b ha hb h1 h2 h3
    have hi := ih a b ha hb (by omega) (by omega) h3
    have va := val_take_succ a n (by omega)
    have vb := val_take_succ b n (by omega)
    have e1 : ((n + 1 : Nat) : Int) - 1 = (n : Int) := by omega
    rw [e1]
    have la := val_lt (lim_take ha n); have lb := val_lt (lim_take hb n)
    have na := val_nonneg (lim_take ha n); have nb := val_nonneg (lim_take hb n)
    rw [List.length_take, Nat.min_eq_left (by omega)] at la lb
    by_cases e : a.getD n 0 = b.getD n 0
    · have : cmpv (val (a.take (n + 1))) (val (b.take (n + 1))) = cmpv (val (a.take n)) (val (b.take n)) := by
        rw [va, vb, e]; unfold cmpv
        by_cases c1 : val (a.take n) < val (b.take n)
        · rw [if_pos c1, if_pos (by omega)]
        · rw [if_neg c1, if_neg (by omega)]
          by_cases c2 : val (a.take n) = val (b.take n)
          · rw [if_pos c2, if_pos (by omega)]
          · rw [if_neg c2, if_neg (by omega)]
      rw [this]
      refine Ev.step (fun k => ?_) hi
      simp only [nat_Cmp.l0]
      rw [if_pos (by omega), if_pos (by omega), if_pos (by omega), if_pos (by omega), if_pos (by rw [rd_nat, rd_nat]; exact e), w64 (by omega) (by omega)]
    · by_cases c : a.getD n 0 < b.getD n 0
      · have hm : pw n * (a.getD n 0 + 1) ≤ pw n * b.getD n 0 := Int.mul_le_mul_of_nonneg_left (by omega) (Int.le_of_lt (pw_pos n))
        rw [Int.mul_add] at hm
        refine ev_some fun k => ?_
        simp only [nat_Cmp.l0]
        rw [if_pos (by omega), if_pos (by omega), if_pos (by omega), if_pos (by omega), if_neg (by rw [rd_nat, rd_nat]; exact e), if_pos (by rw [rd_nat, rd_nat]; exact c)]
        rw [va, vb]; unfold cmpv; rw [if_pos (by omega)]
      · have hm : pw n * (b.getD n 0 + 1) ≤ pw n * a.getD n 0 := Int.mul_le_mul_of_nonneg_left (by omega) (Int.le_of_lt (pw_pos n))
        rw [Int.mul_add] at hm
        refine ev_some fun k => ?_
        simp only [nat_Cmp.l0]
        rw [if_pos (by omega), if_pos (by omega), if_pos (by omega), if_pos (by omega), if_neg (by rw [rd_nat, rd_nat]; exact e), if_neg (by rw [rd_nat, rd_nat]; exact c)]
        rw [va, vb]; unfold cmpv; rw [if_neg (by omega), if_neg (by omega)]
theorem cmp_ev {a b : List Int} (ha : Lim a) (hb : Lim b) (h1 : a.length ≤ 1000000000) (h2 : b.length ≤ 1000000000) :
    Ev (fun k => nat_Cmp.f k a b) (cmpv (val a) (val b)) := by
  obtain ⟨x, ex, gx, lx⟩ := trim_good ha h1
  obtain ⟨y, ey, gy, ly⟩ := trim_good hb h2
  refine Ev.bind (f := fun k t => (nat_trim.f k b).bind fun s => _) ex (Ev.bind (f := fun k s => _) ey ?_)
  rw [← gx.val, ← gy.val]
  by_cases e : x.length = y.length
  · have := cmp_l0 x.length x y gx.lim gy.lim (by omega) (by omega) (by omega)
    rw [List.take_of_length_le (by omega), List.take_of_length_le (by omega)] at this
    refine Ev.congr (fun k => ?_) this
    rw [if_pos (by omega), w64 (by omega) (by omega)]
  · by_cases c : x.length < y.length
    · have := cmp_len gx.lim gy.lim gy.tr c
      refine Ev.congr (fun k => ?_) (Ev.now _)
      rw [if_neg (by omega), if_pos (by omega)]; unfold cmpv; rw [if_pos this]
    · have := cmp_len gy.lim gx.lim gx.tr (by omega)
      refine Ev.congr (fun k => ?_) (Ev.now _)
      rw [if_neg (by omega), if_neg (by omega)]; unfold cmpv; rw [if_neg (by omega), if_neg (by omega)]

/-! ### Of, awake -/
theorem of_good {n : Int} (h : 0 ≤ n) (h' : n < 18446744073709551616) : ∃ r, Ev (fun k => nat_Of.f k n) r ∧ Good r n ∧ r.length ≤ 2 := by
  have hl : Lim [n % 4294967296, n / 4294967296 % 4294967296] := by
    intro x hx; simp only [List.mem_cons, List.not_mem_nil, or_false] at hx; rcases hx with rfl | rfl <;> omega
  obtain ⟨r, er, gr, lr⟩ := trim_good hl (by simp)
  refine ⟨r, ?_, ⟨gr.lim, gr.tr, ?_⟩, lr⟩
  · exact Ev.bind (f := fun _ t => some t) er (Ev.now r)
  · rw [gr.val]; simp only [val]; omega
theorem awake_ev : Ev (fun k => foundrylaw01_awake.f k) true := by
  obtain ⟨x, ex, gx, lx⟩ := of_good (n := 2) (by omega) (by omega)
  obtain ⟨y, ey, gy, ly⟩ := of_good (n := 3) (by omega) (by omega)
  have := cmp_ev gx.lim gy.lim (by omega) (by omega)
  rw [gx.val, gy.val] at this
  refine Ev.bind (f := fun k t => (nat_Of.f k 3).bind fun s => _) ex (Ev.bind (f := fun k s => _) ey (Ev.bind (f := fun k s => _) this ?_))
  exact Ev.congr (fun k => by decide) (Ev.now true)

/-! ### Same -/
theorem same_l0 (d : Nat) : ∀ (a b : List Int) (i : Nat), a.length = b.length → a.length ≤ 1000000000 → i + d = a.length → a.take i = b.take i →
    Ev (fun k => foundryref01_Same.l0 k a b (i : Int)) (decide (a = b)) := by
  induction d with
  | zero =>
    intro a b i hl h hi he
    have hab : a = b := by rwa [List.take_of_length_le (by omega), List.take_of_length_le (by omega)] at he
    refine ev_some fun k => ?_
    simp only [foundryref01_Same.l0]; rw [if_neg (by omega), decide_eq_true hab]
  | succ d ih =>
    intro a b i hl h hi he
    by_cases e : a.getD i 0 = b.getD i 0
    · refine Ev.step (fun k => ?_) (ih a b (i + 1) hl h (by omega) (by rw [take_snoc a i (by omega), take_snoc b i (by omega), he, e]))
      simp only [foundryref01_Same.l0]
      rw [if_pos (by omega), if_pos (by omega), if_pos (by omega), if_pos (by rw [rd_nat, rd_nat]; exact e), w64 (by omega) (by omega)]; rfl
    · refine ev_some fun k => ?_
      simp only [foundryref01_Same.l0]
      rw [if_pos (by omega), if_pos (by omega), if_pos (by omega), if_neg (by rw [rd_nat, rd_nat]; exact e), decide_eq_false]
      rintro rfl; exact e rfl
theorem same_ev {a b : List Int} (h : a.length ≤ 1000000000) : Ev (fun k => foundrylaw01_same.f k a b) (decide (a = b)) := by
  refine Ev.bind (f := fun _ t => some t) ?_ (Ev.now _)
  by_cases e : a.length = b.length
  · refine Ev.congr (fun k => ?_) (same_l0 a.length a b 0 e h (by omega) rfl)
    unfold foundryref01_Same.f; rw [if_pos (by omega)]; rfl
  · refine Ev.congr (fun k => ?_) (Ev.now _)
    unfold foundryref01_Same.f; rw [if_neg (by omega), decide_eq_false]; rintro rfl; exact e rfl
theorem same_good {a b : List Int} {x : Int} (ha : Good a x) (hb : Good b x) (h : a.length ≤ 1000000000) : Ev (fun k => foundrylaw01_same.f k a b) true :=
  ev_eq (same_ev h) (decide_eq_true (ha.eq hb))
/-! ### what the statements give, and few -/
theorem lim_wf {l : List Int} (h : ∀ x ∈ l, (Lit.int .u32 x).wf = true) : Lim l := fun x hx => by
  have := h x hx
  simp [Lit.wf, IntKind.min, IntKind.max, IntKind.signed, IntKind.bits] at this
  omega
theorem few_eq (a b : List Int) : foundrylaw01_few.f a b = some (decide (a.length ≤ 12 ∧ b.length ≤ 12)) := by
  unfold foundrylaw01_few.f
  by_cases h : a.length ≤ 12
  · rw [if_pos (by omega)]; congr 1; by_cases h2 : b.length ≤ 12 <;> simp [h, h2] <;> omega
  · rw [if_neg (by omega)]; simp [h]
end Go.Proofs.Ytlhgagmghahbhaa.N
