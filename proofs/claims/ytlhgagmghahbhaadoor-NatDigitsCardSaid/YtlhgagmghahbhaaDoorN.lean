/- Contracts over the values of limbs, as the texts of the other seat have them (ported by a program): trim, Cmp, Of, limb; the reference's Trim, Of, Small, Div. -/
import Derived.Test.YtlhgagmghahbhaaDoorQx0
import Derived.Test.YtlhgagmghahbhaaDoorQx1
import Derived.Test.YtlhgagmghahbhaaDoorQx17
import Derived.Test.YtlhgagmghahbhaaDoorQx18
import Derived.Test.YtlhgagmghahbhaaDoorQx19
import Derived.Test.YtlhgagmghahbhaaDoorQx2
import Derived.Test.YtlhgagmghahbhaaDoorQx20
import Derived.Test.YtlhgagmghahbhaaDoorQx21
namespace FNat
def val : List Int → Int
  | [] => 0
  | x :: l => x + 4294967296 * val l
def Lim (l : List Int) : Prop := ∀ x ∈ l, 0 ≤ x ∧ x < 4294967296
def Tr (l : List Int) : Prop := ∀ h : l ≠ [], l.getLast h ≠ 0
def pw (n : Nat) : Int := 4294967296 ^ n

theorem pw_zero : pw 0 = 1 := by simp [pw]
theorem pw_succ (n : Nat) : pw (n + 1) = 4294967296 * pw n := by simp only [pw, Int.pow_succ]; omega
theorem pw_pos (n : Nat) : 0 < pw n := by
  induction n with
  | zero => simp [pw]
  | succ n ih => rw [pw_succ]; omega
theorem pw_add (m n : Nat) : pw (m + n) = pw m * pw n := by simp only [pw, Int.pow_add]
theorem pw_le {m n : Nat} (h : m ≤ n) : pw m ≤ pw n := by
  induction h with
  | refl => exact Int.le_refl _
  | step _ ih => rw [Nat.succ_eq_add_one, pw_succ]; have := pw_pos m; omega
theorem lim_nil : Lim [] := by intro x hx; cases hx
theorem lim_cons {x : Int} {l : List Int} : Lim (x :: l) ↔ (0 ≤ x ∧ x < 4294967296) ∧ Lim l := by
  simp [Lim]
theorem lim_append {a b : List Int} : Lim (a ++ b) ↔ Lim a ∧ Lim b := by
  simp only [Lim, List.mem_append]
  exact ⟨fun h => ⟨fun x hx => h x (.inl hx), fun x hx => h x (.inr hx)⟩, fun h x hx => hx.elim (h.1 x) (h.2 x)⟩
theorem lim_take {l : List Int} (h : Lim l) (n : Nat) : Lim (l.take n) := fun x hx => h x (List.mem_of_mem_take hx)
theorem lim_drop {l : List Int} (h : Lim l) (n : Nat) : Lim (l.drop n) := fun x hx => h x (List.mem_of_mem_drop hx)
theorem lim_set {l : List Int} (h : Lim l) (i : Nat) {v : Int} (hv : 0 ≤ v ∧ v < 4294967296) : Lim (l.set i v) := fun x hx =>
  (List.mem_or_eq_of_mem_set hx).elim (h x) (fun e => e ▸ hv)
theorem lim_replicate (n : Nat) : Lim (List.replicate n 0) := fun x hx => by
  have := List.eq_of_mem_replicate hx; omega
theorem getD_lt {l : List Int} {i : Nat} (h : i < l.length) : l.getD i 0 = l[i] := by simp [List.getD, h]
theorem getD_ge {l : List Int} {i : Nat} (h : l.length ≤ i) : l.getD i 0 = 0 := by simp [List.getD, h]
theorem lim_getD {l : List Int} (h : Lim l) (i : Nat) : 0 ≤ l.getD i 0 ∧ l.getD i 0 < 4294967296 := by
  by_cases hi : i < l.length
  · rw [getD_lt hi]; exact h _ (List.getElem_mem hi)
  · rw [getD_ge (by omega)]; omega

theorem val_nil : val [] = 0 := rfl
theorem val_append (a b : List Int) : val (a ++ b) = val a + pw a.length * val b := by
  induction a with
  | nil => simp [val, pw]
  | cons x a ih => simp only [List.cons_append, val, List.length_cons, pw_succ, ih]; grind
theorem val_replicate (n : Nat) : val (List.replicate n 0) = 0 := by
  induction n with
  | zero => rfl
  | succ n ih => simp [List.replicate_succ, val, ih]
theorem val_nonneg {l : List Int} (h : Lim l) : 0 ≤ val l := by
  induction l with
  | nil => simp [val]
  | cons x l ih => have := ih (lim_cons.1 h).2; have := (lim_cons.1 h).1; simp only [val]; omega
theorem val_lt {l : List Int} (h : Lim l) : val l < pw l.length := by
  induction l with
  | nil => simp [val, pw]
  | cons x l ih => have := ih (lim_cons.1 h).2; have := (lim_cons.1 h).1; simp only [val, List.length_cons, pw_succ]; omega
theorem val_set (l : List Int) (i : Nat) (v : Int) (hi : i < l.length) : val (l.set i v) = val l + pw i * (v - l.getD i 0) := by
  induction l generalizing i with
  | nil => simp at hi
  | cons x l ih =>
    cases i with
    | zero => simp [val, pw]; omega
    | succ i =>
      have := ih i (by simpa using hi)
      simp only [List.set_cons_succ, val, List.getD_cons_succ, this, pw_succ]; grind
theorem val_split (l : List Int) (n : Nat) (hn : n ≤ l.length) : val l = val (l.take n) + pw n * val (l.drop n) := by
  have := val_append (l.take n) (l.drop n)
  rw [List.take_append_drop, List.length_take, Nat.min_eq_left hn] at this
  exact this
theorem take_snoc (l : List Int) (n : Nat) (hn : n < l.length) : l.take (n + 1) = l.take n ++ [l.getD n 0] := by
  rw [List.take_succ_eq_append_getElem hn, getD_lt hn]
theorem val_take_succ (l : List Int) (n : Nat) (hn : n < l.length) : val (l.take (n + 1)) = val (l.take n) + pw n * l.getD n 0 := by
  rw [take_snoc l n hn, val_append, List.length_take, Nat.min_eq_left (by omega)]; simp [val]
theorem val_drop (l : List Int) (n : Nat) (hn : n < l.length) : val (l.drop n) = l.getD n 0 + 4294967296 * val (l.drop (n + 1)) := by
  rw [List.drop_eq_getElem_cons hn, getD_lt hn]; rfl
theorem val_snoc (l : List Int) (x : Int) : val (l ++ [x]) = val l + pw l.length * x := by rw [val_append]; simp [val]

theorem tr_nil : Tr [] := fun h => absurd rfl h
theorem tr_snoc {l : List Int} {x : Int} (hx : x ≠ 0) : Tr (l ++ [x]) := fun _ => by simpa using hx
theorem tr_snoc_iff {l : List Int} {x : Int} : Tr (l ++ [x]) ↔ x ≠ 0 := ⟨fun h => by simpa using h (by simp), tr_snoc⟩
theorem tr_low {l : List Int} (hl : Lim l) (ht : Tr l) (hne : l ≠ []) : pw (l.length - 1) ≤ val l := by
  obtain ⟨a, x, rfl⟩ : ∃ a x, l = a ++ [x] := ⟨l.dropLast, l.getLast hne, (List.dropLast_concat_getLast hne).symm⟩
  have hx := tr_snoc_iff.1 ht
  have ha := val_nonneg (lim_append.1 hl).1
  have hx' := (lim_cons.1 (lim_append.1 hl).2).1
  rw [val_snoc]; simp only [List.length_append, List.length_singleton, Nat.add_sub_cancel]
  have hp := pw_pos a.length
  have : pw a.length * 1 ≤ pw a.length * x := Int.mul_le_mul_of_nonneg_left (by omega) (by omega)
  omega
/-- What a comparison by values answers. -/
def cmpv (x y : Int) : Int := if x < y then -1 else if x = y then 0 else 1
theorem cmp_len {a b : List Int} (ha : Lim a) (hb : Lim b) (tb : Tr b) (h : a.length < b.length) : val a < val b := by
  have h1 := val_lt ha
  have h2 := tr_low hb tb (by intro e; simp [e] at h)
  have := pw_le (m := a.length) (n := b.length - 1) (by omega)
  omega
theorem val_take_next (l : List Int) (n : Nat) : val (l.take (n + 1)) = val (l.take n) + pw n * l.getD n 0 := by
  by_cases h : n < l.length
  · exact val_take_succ l n h
  · rw [getD_ge (by omega), List.take_of_length_le (by omega), List.take_of_length_le (by omega)]; omega
theorem getD_set_ne {l : List Int} {i j : Nat} {v : Int} (h : i ≠ j) : (l.set i v).getD j 0 = l.getD j 0 := by simp [List.getD, h]
theorem getD_replicate (n i : Nat) : (List.replicate n (0 : Int)).getD i 0 = 0 := by
  by_cases h : i < n <;> simp [List.getD, h]
theorem cmpv_le {x y : Int} : cmpv x y ≤ 0 ↔ x ≤ y := by unfold cmpv; split <;> (try split) <;> omega
theorem cmpv_ge {x y : Int} : cmpv x y ≥ 0 ↔ y ≤ x := by unfold cmpv; split <;> (try split) <;> omega
end FNat

namespace Go.Proofs.YtlhgagmghahbhaaDoor.N
open Go.RowKit Go.Proofs.YtlhgagmghahbhaaDoor.Q Go.Proofs.YtlhgagmghahbhaaDoorW.PrintWords Go.Proofs.YtlhgagmghahbhaaDoorW.PrintLast Go.Proofs.YtlhgagmghahbhaaDoorW.PrintMore
open FNat
set_option linter.unusedVariables false
set_option linter.unusedSimpArgs false

theorem w64 {x : Int} (h : -9223372036854775808 ≤ x) (h' : x < 9223372036854775808) : wrap64 x = x := by unfold wrap64; omega
theorem u64_mod (x : Int) : IntKind.u64.wrap x = x % 18446744073709551616 := by simp [IntKind.wrap, IntKind.bits, IntKind.signed]
theorem u64 {x : Int} (h : 0 ≤ x) (h' : x < 18446744073709551616) : IntKind.u64.wrap x = x := by rw [u64_mod]; omega
theorem rd_nat (l : List Int) (i : Nat) : rd l (i : Int) = l.getD i 0 := rfl
theorem ev_some {α : Type} {g : Nat → Option α} {r : α} (h : ∀ k, g (k + 1) = some r) : Ev g r := Ev.step h (Ev.now r)
theorem ev_eq {α : Type} {g : Nat → Option α} {r s : α} (h : Ev g r) (e : r = s) : Ev g s := e ▸ h
/-- A list of limbs: in range, without zeros at its end, of this value. -/
structure Good (r : List Int) (x : Int) : Prop where
  lim : Lim r
  tr : Tr r
  val : val r = x
theorem trim_ev (n : Nat) : ∀ l : List Int, l.length = n → n ≤ 1000000000 → ∃ m, Ev (fun k => nat_trim.l0 k l) (l.take m) ∧ Tr (l.take m) ∧ val (l.take m) = val l := by
  induction n with
  | zero =>
    intro l h _
    obtain rfl : l = [] := List.eq_nil_of_length_eq_zero h
    exact ⟨0, ev_some fun k => by simp [nat_trim.l0], by simpa using tr_nil, by simp⟩
  | succ n ih =>
    intro l h hn
    have hw : wrap64 ((l.length : Int) - 1) = (n : Int) := by rw [w64 (by omega) (by omega)]; omega
    have hsplit : l = l.take n ++ [l.getD n 0] := by
      have := take_snoc l n (by omega)
      rwa [List.take_of_length_le (by omega)] at this
    by_cases hz : l.getD n 0 = 0
    · obtain ⟨m, he, ht, hv⟩ := ih (l.take n) (by rw [List.length_take]; omega) (by omega)
      have hv' : val l = val (l.take n) := by
        have := val_take_succ l n (by omega)
        rw [List.take_of_length_le (by omega), hz] at this
        omega
      refine ⟨min m n, ?_, ?_, ?_⟩
      · refine Ev.step (f := fun k => nat_trim.l0 k (l.take n)) (fun k => ?_) (by rw [List.take_take] at he; exact he)
        simp only [nat_trim.l0, hw]
        rw [if_pos (by omega), if_pos (by omega), if_pos (by omega), if_pos (by rw [rd_nat]; exact hz), if_pos (by omega)]; rfl
      · rw [← List.take_take]; exact ht
      · rw [← List.take_take, hv]; exact hv'.symm
    · refine ⟨n + 1, ?_, ?_, ?_⟩
      · rw [List.take_of_length_le (by omega)]
        refine ev_some fun k => ?_
        simp only [nat_trim.l0, hw]
        rw [if_pos (by omega), if_pos (by omega), if_pos (by omega), if_neg (by rw [rd_nat]; exact hz)]
      · rw [take_snoc l n (by omega)]; exact tr_snoc hz
      · rw [List.take_of_length_le (by omega)]
theorem trim_good {l : List Int} (hl : Lim l) (h : l.length ≤ 1000000000) : ∃ r, Ev (fun k => nat_trim.f k l) r ∧ Good r (val l) ∧ r.length ≤ l.length := by
  obtain ⟨m, he, ht, hv⟩ := trim_ev l.length l rfl h
  exact ⟨_, he, ⟨lim_take hl m, ht, hv⟩, by rw [List.length_take]; omega⟩

theorem cmp_l0 (n : Nat) : ∀ a b : List Int, Lim a → Lim b → n ≤ a.length → n ≤ b.length → a.length ≤ 1000000000 →
    Ev (fun k => nat_Cmp.l0 k a b ((n : Int) - 1)) (cmpv (val (a.take n)) (val (b.take n))) := by
  induction n with
  | zero =>
    intro a b _ _ _ _ _
    exact ev_some fun k => by simp [nat_Cmp.l0, cmpv]
  | succ n ih =>
    intro a b ha hb h1 h2 h3
    have hi := ih a b ha hb (by omega) (by omega) h3
    have va := val_take_succ a n (by omega)
    have vb := val_take_succ b n (by omega)
    have e1 : ((n + 1 : Nat) : Int) - 1 = (n : Int) := by omega
    rw [e1]
    have la := val_lt (lim_take ha n); have lb := val_lt (lim_take hb n)
    have na := val_nonneg (lim_take ha n); have nb := val_nonneg (lim_take hb n)
    rw [List.length_take, Nat.min_eq_left (by omega)] at la lb
    by_cases e : a.getD n 0 = b.getD n 0
    · have : cmpv (val (a.take (n + 1))) (val (b.take (n + 1))) = cmpv (val (a.take n)) (val (b.take n)) := by
        rw [va, vb, e]; unfold cmpv
        by_cases c1 : val (a.take n) < val (b.take n)
        · rw [if_pos c1, if_pos (by omega)]
        · rw [if_neg c1, if_neg (by omega)]
          by_cases c2 : val (a.take n) = val (b.take n)
          · rw [if_pos c2, if_pos (by omega)]
          · rw [if_neg c2, if_neg (by omega)]
      rw [this]
      refine Ev.step (fun k => ?_) hi
      simp only [nat_Cmp.l0]
      rw [if_pos (by omega), if_pos (by omega), if_pos (by omega), if_pos (by omega), if_pos (by rw [rd_nat, rd_nat]; exact e), w64 (by omega) (by omega)]
    · by_cases c : a.getD n 0 < b.getD n 0
      · have hm : pw n * (a.getD n 0 + 1) ≤ pw n * b.getD n 0 := Int.mul_le_mul_of_nonneg_left (by omega) (Int.le_of_lt (pw_pos n))
        rw [Int.mul_add] at hm
        refine ev_some fun k => ?_
        simp only [nat_Cmp.l0]
        rw [if_pos (by omega), if_pos (by omega), if_pos (by omega), if_pos (by omega), if_neg (by rw [rd_nat, rd_nat]; exact e), if_pos (by rw [rd_nat, rd_nat]; exact c)]
        rw [va, vb]; unfold cmpv; rw [if_pos (by omega)]
      · have hm : pw n * (b.getD n 0 + 1) ≤ pw n * a.getD n 0 := Int.mul_le_mul_of_nonneg_left (by omega) (Int.le_of_lt (pw_pos n))
        rw [Int.mul_add] at hm
        refine ev_some fun k => ?_
        simp only [nat_Cmp.l0]
        rw [if_pos (by omega), if_pos (by omega), if_pos (by omega), if_pos (by omega), if_neg (by rw [rd_nat, rd_nat]; exact e), if_neg (by rw [rd_nat, rd_nat]; exact c)]
        rw [va, vb]; unfold cmpv; rw [if_neg (by omega), if_neg (by omega)]
theorem cmp_ev {a b : List Int} (ha : Lim a) (hb : Lim b) (h1 : a.length ≤ 1000000000) (h2 : b.length ≤ 1000000000) :
    Ev (fun k => nat_Cmp.f k a b) (cmpv (val a) (val b)) := by
  obtain ⟨x, ex, gx, lx⟩ := trim_good ha h1
  obtain ⟨y, ey, gy, ly⟩ := trim_good hb h2
  refine Ev.bind (f := fun k t => (nat_trim.f k b).bind fun s => _) ex (Ev.bind (f := fun k s => _) ey ?_)
  rw [← gx.val, ← gy.val]
  by_cases e : x.length = y.length
  · have := cmp_l0 x.length x y gx.lim gy.lim (by omega) (by omega) (by omega)
    rw [List.take_of_length_le (by omega), List.take_of_length_le (by omega)] at this
    refine Ev.congr (fun k => ?_) this
    rw [if_pos (by omega), w64 (by omega) (by omega)]
  · by_cases c : x.length < y.length
    · have := cmp_len gx.lim gy.lim gy.tr c
      refine Ev.congr (fun k => ?_) (Ev.now _)
      rw [if_neg (by omega), if_pos (by omega)]; unfold cmpv; rw [if_pos this]
    · have := cmp_len gy.lim gx.lim gx.tr (by omega)
      refine Ev.congr (fun k => ?_) (Ev.now _)
      rw [if_neg (by omega), if_neg (by omega)]; unfold cmpv; rw [if_neg (by omega), if_neg (by omega)]

theorem of_good {n : Int} (h : 0 ≤ n) (h' : n < 18446744073709551616) : ∃ r, Ev (fun k => nat_Of.f k n) r ∧ Good r n ∧ r.length ≤ 2 := by
  have hl : Lim [n % 4294967296, n / 4294967296 % 4294967296] := by
    intro x hx; simp only [List.mem_cons, List.not_mem_nil, or_false] at hx; rcases hx with rfl | rfl <;> omega
  obtain ⟨r, er, gr, lr⟩ := trim_good hl (by simp)
  refine ⟨r, ?_, ⟨gr.lim, gr.tr, ?_⟩, lr⟩
  · exact Ev.bind (f := fun _ t => some t) er (Ev.now r)
  · rw [gr.val]; simp only [val]; omega
theorem awake_ev : Ev (fun k => foundrylaw01_awake.f k) true := by
  obtain ⟨x, ex, gx, lx⟩ := of_good (n := 2) (by omega) (by omega)
  obtain ⟨y, ey, gy, ly⟩ := of_good (n := 3) (by omega) (by omega)
  have := cmp_ev gx.lim gy.lim (by omega) (by omega)
  rw [gx.val, gy.val] at this
  refine Ev.bind (f := fun k t => (nat_Of.f k 3).bind fun s => _) ex (Ev.bind (f := fun k s => _) ey (Ev.bind (f := fun k s => _) this ?_))
  exact Ev.congr (fun k => by decide) (Ev.now true)

theorem few_eq (a b : List Int) : foundrylaw01_few.f a b = some (decide (a.length ≤ 12 ∧ b.length ≤ 12)) := by
  unfold foundrylaw01_few.f
  by_cases h : a.length ≤ 12
  · rw [if_pos (by omega)]; congr 1; by_cases h2 : b.length ≤ 12 <;> simp [h, h2] <;> omega
  · rw [if_neg (by omega)]; simp [h]
end Go.Proofs.YtlhgagmghahbhaaDoor.N

namespace Go.Proofs.YtlhgagmghahbhaaDoor.N
open Go.RowKit Go.Proofs.YtlhgagmghahbhaaDoor.Q Go.Proofs.YtlhgagmghahbhaaDoorW.PrintWords Go.Proofs.YtlhgagmghahbhaaDoorW.PrintLast Go.Proofs.YtlhgagmghahbhaaDoorW.PrintMore
open FNat
set_option linter.unusedVariables false
set_option linter.unusedSimpArgs false

theorem rtrim_l0 (n : Nat) : ∀ l : List Int, n ≤ l.length → l.length ≤ 1000000000 → ∃ m, m ≤ n ∧ Ev (fun k => foundryref01_Trim.l0 k l (n : Int)) (l.take m) ∧ Tr (l.take m) ∧ val (l.take m) = val (l.take n) := by
  induction n with
  | zero =>
    intro l _ h
    refine ⟨0, Nat.le_refl _, ev_some fun k => ?_, by simpa using tr_nil, by simp⟩
    simp only [foundryref01_Trim.l0]
    rw [if_neg (by omega), if_pos (by omega), if_pos (by omega), if_pos (by simp)]; simp
  | succ n ih =>
    intro l hn h
    have hw : wrap64 (((n + 1 : Nat) : Int) - 1) = (n : Int) := by rw [w64 (by omega) (by omega)]; omega
    by_cases hz : l.getD n 0 = 0
    · obtain ⟨m, hm, he, ht, hv⟩ := ih l (by omega) h
      refine ⟨m, by omega, Ev.step (fun k => ?_) he, ht, ?_⟩
      · simp only [foundryref01_Trim.l0, hw]
        rw [if_pos (by omega), if_pos (by omega), if_pos (by omega), if_pos (by rw [rd_nat]; exact hz)]
      · rw [hv, val_take_next, hz]; omega
    · refine ⟨n + 1, Nat.le_refl _, ev_some fun k => ?_, ?_, rfl⟩
      · simp only [foundryref01_Trim.l0, hw]
        rw [if_pos (by omega), if_pos (by omega), if_pos (by omega), if_neg (by rw [rd_nat]; exact hz), if_pos (by omega), if_pos (by omega), if_pos (by rw [List.length_take]; simp; omega)]; simp
      · rw [take_snoc l n (by omega)]; exact tr_snoc hz
theorem rtrim_good {l : List Int} (hl : Lim l) (h : l.length ≤ 1000000000) : ∃ r, Ev (fun k => foundryref01_Trim.f k l) r ∧ Good r (val l) ∧ r.length ≤ l.length := by
  obtain ⟨m, hm, he, ht, hv⟩ := rtrim_l0 l.length l (Nat.le_refl _) h
  exact ⟨_, he, ⟨lim_take hl m, ht, by rw [hv, List.take_of_length_le (Nat.le_refl _)]⟩, by rw [List.length_take]; omega⟩

theorem tmod_lim {t : Int} (h : 0 ≤ t) (h' : t < 18446744073709551616) : Int.tmod (IntKind.u64.wrap t) 4294967296 % 4294967296 = t % 4294967296 ∧ IntKind.u64.wrap (Int.tdiv (IntKind.u64.wrap t) 4294967296) = t / 4294967296 := by
  rw [u64 h h', Int.tmod_eq_emod_of_nonneg h, Int.tdiv_eq_ediv_of_nonneg h]
  exact ⟨by omega, by rw [u64 (by omega) (by omega)]⟩
theorem lim_one {x : Int} (h : 0 ≤ x ∧ x < 4294967296) : Lim [x] := by intro y hy; simp only [List.mem_cons, List.not_mem_nil, or_false] at hy; subst hy; exact h
theorem rof_end (o : List Int) : Ev (fun k => foundryref01_Of.l0 k 0 o) o := ev_some fun k => by simp only [foundryref01_Of.l0]; rw [if_neg (by omega)]
theorem rof_round {n : Int} {o r : List Int} (h : 0 < n) (h' : n < 18446744073709551616) (ho : o.length ≤ 100) (hr : Ev (fun k => foundryref01_Of.l0 k (n / 4294967296) (o ++ [n % 4294967296])) r) :
    Ev (fun k => foundryref01_Of.l0 k n o) r := by
  refine Ev.step (fun k => ?_) hr
  simp only [foundryref01_Of.l0]
  rw [if_pos (by omega), if_pos (by omega), Int.tmod_eq_emod_of_nonneg (by omega), Int.tdiv_eq_ediv_of_nonneg (by omega), u64 (by omega) (by omega), show n % 4294967296 % 4294967296 = n % 4294967296 by omega]
theorem rof_good {n : Int} (h : 0 ≤ n) (h' : n < 18446744073709551616) : ∃ r, Ev (fun k => foundryref01_Of.f k n) r ∧ Good r n ∧ r.length ≤ 2 := by
  by_cases h0 : n = 0
  · subst h0
    exact ⟨[], rof_end [], ⟨lim_nil, tr_nil, rfl⟩, by simp⟩
  · have hm : 0 ≤ n % 4294967296 ∧ n % 4294967296 < 4294967296 := by omega
    by_cases h1 : n < 4294967296
    · refine ⟨[n % 4294967296], rof_round (by omega) h' (by simp) ?_, ⟨lim_one hm, ?_, by simp [val]; omega⟩, by simp⟩
      · rw [show n / 4294967296 = 0 by omega]; exact rof_end _
      · exact tr_snoc (l := []) (by omega)
    · refine ⟨[n % 4294967296, n / 4294967296], rof_round (by omega) h' (by simp) (rof_round (by omega) (by omega) (by simp) ?_), ⟨lim_cons.2 ⟨hm, lim_one (by omega)⟩, ?_, by simp [val]; omega⟩, by simp⟩
      · rw [show n / 4294967296 / 4294967296 = 0 by omega, show n / 4294967296 % 4294967296 = n / 4294967296 by omega]; exact rof_end _
      · exact tr_snoc (l := [n % 4294967296]) (by omega)

theorem val_drop_div (l : List Int) (hl : Lim l) (n : Nat) : val l / pw n = val (l.drop n) := by
  have hp := pw_pos n
  by_cases h : n ≤ l.length
  · have hs := val_split l n h
    have hlt := val_lt (lim_take hl n)
    have h0 := val_nonneg (lim_take hl n)
    rw [List.length_take, Nat.min_eq_left h] at hlt
    rw [hs, Int.add_mul_ediv_left _ _ (by omega), Int.ediv_eq_zero_of_lt h0 hlt]; omega
  · rw [List.drop_of_length_le (by omega), val_nil]
    have hlt := val_lt hl
    have := pw_le (m := l.length) (n := n) (by omega)
    exact Int.ediv_eq_zero_of_lt (val_nonneg hl) (by omega)
theorem val_drop_next (l : List Int) (n : Nat) : val (l.drop n) = l.getD n 0 + 4294967296 * val (l.drop (n + 1)) := by
  by_cases h : n < l.length
  · exact val_drop l n h
  · rw [getD_ge (by omega), List.drop_of_length_le (by omega), List.drop_of_length_le (by omega)]; rfl
theorem two_pos (n : Nat) : (0 : Int) < 2 ^ n := by
  induction n with
  | zero => simp
  | succ n ih => rw [Int.pow_succ]; omega
theorem two_pw (i : Nat) : (2 : Int) ^ i = pw (i / 32) * 2 ^ (i % 32) := by
  have h : pw (i / 32) = 2 ^ (32 * (i / 32)) := by
    unfold pw; rw [Int.pow_mul]; rfl
  rw [h, ← Int.pow_add, Nat.div_add_mod]
/-- A number's bit. -/
theorem bit_val {l : List Int} (hl : Lim l) (i : Nat) : (val l / 2 ^ i) % 2 = (l.getD (i / 32) 0 / 2 ^ (i % 32)) % 2 := by
  rw [two_pw, ← Int.ediv_ediv_of_nonneg (Int.le_of_lt (pw_pos _)), val_drop_div l hl, val_drop_next]
  have hs : i % 32 < 32 := Nat.mod_lt _ (by omega)
  generalize i % 32 = s at *
  generalize l.getD (i / 32) 0 = x
  generalize val (l.drop (i / 32 + 1)) = y
  have e : (4294967296 : Int) * y = 2 ^ s * (2 * (2 ^ (31 - s) * y)) := by
    have : (4294967296 : Int) = 2 ^ s * (2 * 2 ^ (31 - s)) := by
      rw [← Int.pow_succ', ← Int.pow_add, show s + (31 - s + 1) = 32 by omega]; rfl
    rw [this]; simp only [Int.mul_assoc]
  rw [e, Int.add_mul_ediv_left _ _ (Int.ne_of_gt (two_pos s))]
  omega
theorem bits_and_one {x : Int} (h : 0 ≤ x) (h' : x < 4294967296) : Go.bits .and .u32 x 1 = x % 2 := by
  obtain ⟨n, rfl⟩ := Int.eq_ofNat_of_zero_le h
  have := u32_and_nat n 1 (by omega) (by omega)
  rw [show ((1 : Nat) : Int) = 1 from rfl] at this
  rw [this, Nat.and_one_is_mod]; omega
theorem rbit_ev {l : List Int} (hl : Lim l) (h : l.length ≤ 100000000) (i : Nat) (hi : i ≤ 4000000000) : foundryref01_Bit.f l (i : Int) = some ((val l / 2 ^ i) % 2) := by
  have e1 : wrap64 (Int.tdiv (i : Int) 32) = ((i / 32 : Nat) : Int) := by rw [Int.tdiv_eq_ediv_of_nonneg (by omega), w64 (by omega) (by omega)]; omega
  have e2 : IntKind.u64.wrap (Int.tmod (i : Int) 32) = ((i % 32 : Nat) : Int) := by rw [Int.tmod_eq_emod_of_nonneg (by omega), u64 (by omega) (by omega)]; omega
  rw [bit_val hl]
  unfold foundryref01_Bit.f
  rw [e1, e2]
  by_cases c : ((i / 32 : Nat) : Int) ≥ (l.length : Int)
  · rw [if_pos c, getD_ge (by omega)]; simp
  · have hx := lim_getD hl (i / 32)
    have hmin : min (i % 32) 32 = i % 32 := by omega
    have hp := two_pos (i % 32)
    have hq : 0 ≤ l.getD (i / 32) 0 / 2 ^ (i % 32) := Int.ediv_nonneg hx.1 (Int.le_of_lt hp)
    have hq' : l.getD (i / 32) 0 / 2 ^ (i % 32) ≤ l.getD (i / 32) 0 := Int.ediv_le_self _ hx.1
    rw [if_neg c, if_pos (by omega), if_pos (by omega), if_pos (by omega), rd_nat]
    unfold shr
    rw [Int.toNat_natCast, show IntKind.bits .u32 = 32 from rfl, hmin, bits_and_one hq (by omega)]
end Go.Proofs.YtlhgagmghahbhaaDoor.N

namespace Go.Proofs.YtlhgagmghahbhaaDoor.N
open Go.RowKit Go.Proofs.YtlhgagmghahbhaaDoor.Q Go.Proofs.YtlhgagmghahbhaaDoorW.PrintWords Go.Proofs.YtlhgagmghahbhaaDoorW.PrintLast Go.Proofs.YtlhgagmghahbhaaDoorW.PrintMore
open FNat
set_option linter.unusedVariables false
set_option linter.unusedSimpArgs false

theorem u64l {x : Int} (h : 0 ≤ x ∧ x < 4294967296) : IntKind.u64.wrap x = x := u64 h.1 (by omega)
theorem rcmp_l0 (n : Nat) : ∀ a b : List Int, Lim a → Lim b → n ≤ max a.length b.length → a.length ≤ 1000000000 → b.length ≤ 1000000000 →
    val (a.drop n) = val (b.drop n) → Ev (fun k => foundryref01_Cmp.l0 k a b ((n : Int) - 1)) (cmpv (val a) (val b)) := by
  induction n with
  | zero =>
    intro a b ha hb _ _ _ hv
    simp only [List.drop_zero] at hv
    refine ev_some fun k => ?_
    simp only [foundryref01_Cmp.l0]; rw [if_neg (by omega)]; unfold cmpv; rw [if_neg (by omega), if_pos hv]
  | succ n ih =>
    intro a b ha hb hn h1 h2 hv
    have hx := lim_getD ha n
    have hy := lim_getD hb n
    have e1 : ((n + 1 : Nat) : Int) - 1 = (n : Int) := by omega
    have da := val_drop_next a n; have db := val_drop_next b n
    have qa := val_drop_div a ha n; have qb := val_drop_div b hb n
    rw [e1]
    have hp := pw_pos n
    -- the last step, from the two digits
    have step : Ev (fun k => foundryref01_Cmp.j2 k a b (n : Int) (a.getD n 0) (b.getD n 0)) (cmpv (val a) (val b)) := by
      by_cases c1 : a.getD n 0 < b.getD n 0
      · refine ev_some fun k => ?_
        simp only [foundryref01_Cmp.j2]; rw [if_pos c1]
        have : val a < val b := by
          have hlt : val a / pw n < val b / pw n := by rw [qa, qb, da, db, hv]; omega
          by_cases hc : val a < val b
          · exact hc
          · have := Int.ediv_le_ediv hp (show val b ≤ val a by omega); omega
        unfold cmpv; rw [if_pos this]
      · by_cases c2 : a.getD n 0 > b.getD n 0
        · refine ev_some fun k => ?_
          simp only [foundryref01_Cmp.j2]; rw [if_neg c1, if_pos c2]
          have : val b < val a := by
            have hlt : val b / pw n < val a / pw n := by rw [qa, qb, da, db, hv]; omega
            by_cases hc : val b < val a
            · exact hc
            · have := Int.ediv_le_ediv hp (show val a ≤ val b by omega); omega
          unfold cmpv; rw [if_neg (by omega), if_neg (by omega)]
        · refine Ev.step (fun k => ?_) (ih a b ha hb (by omega) h1 h2 (by rw [da, db, hv]; omega))
          simp only [foundryref01_Cmp.j2]; rw [if_neg c1, if_neg c2, w64 (by omega) (by omega)]
    have step1 : Ev (fun k => foundryref01_Cmp.j1 k a b (n : Int) (a.getD n 0) 0) (cmpv (val a) (val b)) := by
      refine Ev.step (fun k => ?_) step
      simp only [foundryref01_Cmp.j1]
      by_cases c : (n : Int) < (b.length : Int)
      · rw [if_pos c, if_pos (by omega), rd_nat]
      · rw [if_neg c, getD_ge (l := b) (by omega)]
    refine Ev.step (fun k => ?_) step1
    simp only [foundryref01_Cmp.l0]
    rw [if_pos (by omega)]
    by_cases c : (n : Int) < (a.length : Int)
    · rw [if_pos c, if_pos (by omega), rd_nat]
    · rw [if_neg c, getD_ge (l := a) (by omega)]
theorem rcmp_ev {a b : List Int} (ha : Lim a) (hb : Lim b) (h1 : a.length ≤ 1000000000) (h2 : b.length ≤ 1000000000) :
    Ev (fun k => foundryref01_Cmp.f k a b) (cmpv (val a) (val b)) := by
  have := rcmp_l0 (max a.length b.length) a b ha hb (Nat.le_refl _) h1 h2 (by rw [List.drop_of_length_le (by omega), List.drop_of_length_le (by omega)])
  refine Ev.congr (fun k => ?_) this
  unfold foundryref01_Cmp.f
  have : mx (a.length : Int) (b.length : Int) = ((max a.length b.length : Nat) : Int) := by unfold mx; omega
  rw [this, w64 (by omega) (by omega)]

/-- What a subtraction answers. -/
def subv (x y : Int) : Int := if x ≤ y then 0 else x - y
theorem val_take_small {b : List Int} (hb : Lim b) {n : Nat} (h : val b < pw n) : val (b.take n) = val b := by
  by_cases hn : n ≤ b.length
  · have hs := val_split b n hn
    have h0 := val_nonneg (lim_take hb n)
    have h1 := val_nonneg (lim_drop hb n)
    have hp := pw_pos n
    by_cases hz : val (b.drop n) = 0
    · rw [hz] at hs; omega
    · have : pw n * 1 ≤ pw n * val (b.drop n) := Int.mul_le_mul_of_nonneg_left (by omega) (by omega)
      omega
  · rw [List.take_of_length_le (by omega)]
theorem no_borrow {o : List Int} {p c A B : Int} (ho : Lim o) (hp : p = pw o.length) (hc : 0 ≤ c ∧ c ≤ 1) (hB : B ≤ A) (hv : val o - p * c = A - B) : c = 0 ∧ val o = A - B := by
  have := val_lt ho
  by_cases h : c = 0
  · subst h; omega
  · obtain rfl : c = 1 := by omega
    omega
theorem sub_digit {x y c : Int} (hx : 0 ≤ x ∧ x < 4294967296) (hy : 0 ≤ y ∧ y < 4294967296) (hc : 0 ≤ c ∧ c ≤ 1) :
    (0 ≤ (x - y - c) % 4294967296 ∧ (x - y - c) % 4294967296 < 4294967296) ∧ (x - y - c) % 4294967296 - 4294967296 * (if x < y + c then 1 else 0) = x - y - c ∧ (0 ≤ (if x < y + c then (1 : Int) else 0) ∧ (if x < y + c then (1 : Int) else 0) ≤ 1) := by
  refine ⟨by omega, ?_, ?_⟩ <;> split <;> omega
theorem rsub_step {x y c : Int} (hx : 0 ≤ x ∧ x < 4294967296) (hy : 0 ≤ y ∧ y < 4294967296) (hc : 0 ≤ c ∧ c ≤ 1) :
    Int.tmod (IntKind.u64.wrap (IntKind.u64.wrap (IntKind.u64.wrap (x + 4294967296) - c) - y)) 4294967296 % 4294967296 = (x - y - c) % 4294967296 ∧
    IntKind.u64.wrap (1 - IntKind.u64.wrap (Int.tdiv (IntKind.u64.wrap (IntKind.u64.wrap (IntKind.u64.wrap (x + 4294967296) - c) - y)) 4294967296)) = (if x < y + c then 1 else 0) := by
  rw [u64 (x := x + 4294967296) (by omega) (by omega), u64 (x := x + 4294967296 - c) (by omega) (by omega), u64 (x := x + 4294967296 - c - y) (by omega) (by omega),
    Int.tmod_eq_emod_of_nonneg (by omega), Int.tdiv_eq_ediv_of_nonneg (by omega), u64 (x := (x + 4294967296 - c - y) / 4294967296) (by omega) (by omega), u64 (by omega) (by omega)]
  refine ⟨by omega, ?_⟩
  split <;> omega
theorem rsub_l0 (d : Nat) : ∀ (a b o : List Int) (i : Nat) (c : Int), Lim a → Lim b → Lim o → a.length ≤ 100000000 → o.length = i → i + d = a.length → 0 ≤ c ∧ c ≤ 1 →
    val b ≤ val a → val o - pw i * c = val (a.take i) - val (b.take i) →
    ∃ r, Ev (fun k => foundryref01_Sub.l0 k a b o c (i : Int)) r ∧ Good r (val a - val b) ∧ r.length ≤ a.length := by
  induction d with
  | zero =>
    intro a b o i c ha hb ho h1 hl hi hc hA hv
    obtain rfl : i = a.length := by omega
    have hlt := val_lt ha
    rw [val_take_small hb (by omega), List.take_of_length_le (Nat.le_refl _)] at hv
    have := no_borrow ho (by rw [hl]) hc hA hv
    obtain ⟨r, er, g, l⟩ := rtrim_good ho (by omega)
    refine ⟨r, ?_, ⟨g.lim, g.tr, by rw [g.val]; exact this.2⟩, by omega⟩
    refine Ev.step (fun k => ?_) (Ev.bind (f := fun _ t => some t) er (Ev.now r))
    simp only [foundryref01_Sub.l0]; rw [if_neg (by omega)]
  | succ d ih =>
    intro a b o i c ha hb ho h1 hl hi hc hA hv
    have hil : (i : Int) < (a.length : Int) := by omega
    have hol : o.length < 35184372088832 := by omega
    have hx := lim_getD ha i
    have hy := lim_getD hb i
    have hsd := sub_digit hx hy hc
    have hss := rsub_step hx hy hc
    have e1 : wrap64 ((i : Int) + 1) = ((i + 1 : Nat) : Int) := by rw [w64 (by omega) (by omega)]; rfl
    obtain ⟨r, er, g, l⟩ := ih a b (o ++ [(a.getD i 0 - b.getD i 0 - c) % 4294967296]) (i + 1) (if a.getD i 0 < b.getD i 0 + c then 1 else 0) ha hb (lim_append.2 ⟨ho, lim_one hsd.1⟩) h1 (by simp; omega) (by omega) hsd.2.2 hA (by
      rw [val_snoc, hl, val_take_next, val_take_next, pw_succ]
      have hm := hsd.2.1
      clear hsd hss
      generalize (if a.getD i 0 < b.getD i 0 + c then (1 : Int) else 0) = q at *
      generalize (a.getD i 0 - b.getD i 0 - c) % 4294967296 = m at *
      generalize a.getD i 0 = x at *
      generalize b.getD i 0 = y at *
      have : val o = val (a.take i) - val (b.take i) + pw i * c := by omega
      rw [this]
      obtain rfl : m = x - y - c + 4294967296 * q := by omega
      grind)
    refine ⟨r, Ev.step (fun k => ?_) er, g, l⟩
    simp only [foundryref01_Sub.l0]
    rw [if_pos hil, if_pos (Int.natCast_nonneg i), e1, rd_nat, rd_nat, u64l hx, u64l hy]
    by_cases h2 : (i : Int) < (b.length : Int)
    · rw [if_pos h2, if_pos hol, hss.1, hss.2]
    · have hb0 : b.getD i 0 = 0 := getD_ge (Int.ofNat_le.1 (Int.not_lt.1 h2))
      rw [hb0] at hss ⊢
      rw [if_neg h2, if_pos hol]
      have hz : IntKind.u64.wrap (IntKind.u64.wrap (IntKind.u64.wrap (a.getD i 0 + 4294967296) - c) - 0) = IntKind.u64.wrap (IntKind.u64.wrap (a.getD i 0 + 4294967296) - c) := by rw [Int.sub_zero, u64_mod (IntKind.u64.wrap (a.getD i 0 + 4294967296) - c), u64_mod]; omega
      rw [hz] at hss
      rw [hss.1, hss.2]
theorem rsub_good {a b : List Int} (ha : Lim a) (hb : Lim b) (h1 : a.length ≤ 100000000) (h2 : b.length ≤ 100000000) :
    ∃ r, Ev (fun n => foundryref01_Sub.f n a b) r ∧ Good r (subv (val a) (val b)) ∧ r.length ≤ a.length := by
  have hc := rcmp_ev ha hb (by omega) (by omega)
  by_cases h : val a ≤ val b
  · refine ⟨[], Ev.bind (f := fun k t => if t ≤ 0 then some ([] : List Int) else _) hc (Ev.congr (fun k => if_pos (cmpv_le.2 h)) (Ev.now [])), ⟨lim_nil, tr_nil, ?_⟩, by simp⟩
    unfold subv; rw [if_pos h]; rfl
  · obtain ⟨r, er, g, l⟩ := rsub_l0 a.length a b [] 0 0 ha hb lim_nil (by omega) rfl (by omega) (by omega) (by omega) (by simp [val_nil])
    refine ⟨r, Ev.bind (f := fun k s => if s ≤ 0 then some ([] : List Int) else foundryref01_Sub.l0 k a b [] 0 0) hc (Ev.congr (fun k => if_neg (fun hh => h (cmpv_le.1 hh))) er), ?_, by omega⟩
    unfold subv; rw [if_neg h]; exact g

theorem or_limb {n x : Int} (hn : 0 ≤ n ∧ n < 4294967296) (hx : 0 ≤ x ∧ x < 4294967296) : Go.bits .or .u64 (n * 4294967296) x = n * 4294967296 + x := by
  obtain ⟨n, rfl⟩ := Int.eq_ofNat_of_zero_le hn.1
  obtain ⟨x, rfl⟩ := Int.eq_ofNat_of_zero_le hx.1
  have := u64_or_nat (n * 4294967296) x (by omega) (by omega)
  have e : ((n * 4294967296 : Nat) : Int) = (n : Int) * 4294967296 := by omega
  rw [e] at this
  rw [this]
  have h2 := Nat.two_pow_add_eq_or_of_lt (i := 32) (b := x) (by omega) n
  have h3 : n * 4294967296 ||| x = n * 4294967296 + x := by
    have : 2 ^ 32 * n = n * 4294967296 := by omega
    rw [this] at h2; exact h2.symm
  rw [h3]; clear this h2 h3 e; omega
/-- What a number is told as, if it is small. -/
def smallv (x : Int) : Int × Bool := if x < 18446744073709551616 then (x, true) else (0, false)
theorem small_big {t : List Int} (hl : Lim t) (ht : Tr t) (h : ¬ t.length ≤ 2) : smallv (val t) = (0, false) := by
  have := tr_low hl ht (by rintro rfl; simp at h)
  have h2 := pw_le (m := 2) (n := t.length - 1) (by omega)
  have h3 : pw 2 = 18446744073709551616 := rfl
  unfold smallv; rw [if_neg (by omega)]
theorem acc_lt {acc v : Int} {n : Nat} (h0 : 0 ≤ acc) (hv : 0 ≤ v) (h : acc * pw (n + 1) + v < 18446744073709551616) : acc < 4294967296 := by
  have hp := pw_pos n
  have h1 : acc * 4294967296 * 1 ≤ acc * 4294967296 * pw n := Int.mul_le_mul_of_nonneg_left (by omega) (by omega)
  have h2 : acc * pw (n + 1) = acc * 4294967296 * pw n := by rw [pw_succ]; grind
  omega
theorem rsmall_l0 (n : Nat) : ∀ (t : List Int) (acc : Int), Lim t → n ≤ t.length → t.length ≤ 1000000000 → 0 ≤ acc → acc * pw n + val (t.take n) < 18446744073709551616 →
    Ev (fun k => foundryref01_Small.l0 k t acc ((n : Int) - 1)) (acc * pw n + val (t.take n), true) := by
  induction n with
  | zero =>
    intro t acc ht hn h1 h0 h
    refine ev_some fun k => ?_
    simp only [foundryref01_Small.l0]; rw [if_neg (by omega)]; simp [pw, val_nil]
  | succ n ih =>
    intro t acc ht hn h1 h0 h
    have hx := lim_getD ht n
    have ha := acc_lt h0 (val_nonneg (lim_take ht (n + 1))) h
    have e1 : ((n + 1 : Nat) : Int) - 1 = (n : Int) := by omega
    have e2 : acc * pw (n + 1) + val (t.take (n + 1)) = (acc * 4294967296 + t.getD n 0) * pw n + val (t.take n) := by rw [val_take_next, pw_succ]; grind
    rw [e2] at h ⊢
    rw [e1]
    refine Ev.step (fun k => ?_) (ih t (acc * 4294967296 + t.getD n 0) ht (by omega) h1 (by omega) h)
    simp only [foundryref01_Small.l0]
    rw [if_pos (by omega), if_pos (by omega), if_pos (by omega), rd_nat, u64l hx, u64 (x := acc * 4294967296) (by omega) (by omega), u64 (x := acc * 4294967296 + t.getD n 0) (by omega) (by omega), w64 (by omega) (by omega)]
theorem small_fits {t : List Int} (hl : Lim t) (h : t.length ≤ 2) : val t < 18446744073709551616 := by
  have h1 := val_lt hl
  have h2 := pw_le (m := t.length) (n := 2) h
  have h3 : pw 2 = 18446744073709551616 := rfl
  omega
theorem rsmall_ev {l : List Int} (hl : Lim l) (h : l.length ≤ 1000000000) : Ev (fun k => foundryref01_Small.f k l) (smallv (val l)) := by
  obtain ⟨t, et, g, _⟩ := rtrim_good hl h
  rw [← g.val]
  refine Ev.bind (f := fun k t => if (t.length : Int) > 2 then some ((0 : Int), false) else foundryref01_Small.l0 k t 0 (wrap64 ((t.length : Int) - 1))) et ?_
  by_cases hc : t.length ≤ 2
  · have hf := small_fits g.lim hc
    have h1 := rsmall_l0 t.length t 0 g.lim (Nat.le_refl _) (by omega) (by omega) (by rw [List.take_of_length_le (Nat.le_refl _), Int.zero_mul, Int.zero_add]; exact hf)
    rw [List.take_of_length_le (Nat.le_refl _), Int.zero_mul, Int.zero_add] at h1
    unfold smallv
    rw [if_pos hf]
    refine Ev.congr (fun k => ?_) h1
    rw [if_neg (by omega), w64 (by omega) (by omega)]
  · rw [small_big g.lim g.tr hc]
    exact Ev.congr (fun k => if_pos (by omega)) (Ev.now _)
end Go.Proofs.YtlhgagmghahbhaaDoor.N

namespace Go.Proofs.YtlhgagmghahbhaaDoor.N
open Go.RowKit Go.Proofs.YtlhgagmghahbhaaDoor.Q Go.Proofs.YtlhgagmghahbhaaDoorW.PrintWords Go.Proofs.YtlhgagmghahbhaaDoorW.PrintLast Go.Proofs.YtlhgagmghahbhaaDoorW.PrintMore
open FNat
set_option linter.unusedVariables false
set_option linter.unusedSimpArgs false

theorem limb_l0 (n : Nat) : ∀ (a q : List Int) (d r : Int), Lim a → Lim q → 0 < d ∧ d < 4294967296 → n ≤ a.length → a.length ≤ 100000000 → q.length = a.length → 0 ≤ r ∧ r < d →
    (∀ j, j < n → q.getD j 0 = 0) → val q * d + pw n * r = pw n * val (a.drop n) →
    ∃ t, Ev (fun k => nat_limb.l0 k a d q r ((n : Int) - 1)) (t, val a % d) ∧ Good t (val a / d) ∧ t.length ≤ a.length := by
  induction n with
  | zero =>
    intro a q d r ha hq hd hn hl hql hr hz hv
    rw [pw_zero, List.drop_zero] at hv
    obtain ⟨t, et, g, l⟩ := trim_good hq (by omega)
    have hq0 : val a / d = val q := by
      rw [show val a = r + d * val q by rw [Int.mul_comm d]; omega, Int.add_mul_ediv_left _ _ (by omega), Int.ediv_eq_zero_of_lt hr.1 hr.2]; omega
    have hr0 : val a % d = r := by
      rw [show val a = r + d * val q by rw [Int.mul_comm d]; omega, Int.add_mul_emod_self_left, Int.emod_eq_of_lt hr.1 hr.2]
    refine ⟨t, ?_, by rw [hq0]; exact g, by omega⟩
    refine Ev.step (fun k => ?_) (Ev.bind (f := fun _ t => some (t, r % 4294967296)) et (ev_eq (Ev.now _) (by rw [hr0, Int.emod_eq_of_lt hr.1 (by omega)])))
    simp only [nat_limb.l0]; rw [if_neg (by omega)]
  | succ n ih =>
    intro a q d r ha hq hd hn hl hql hr hz hv
    have hx := lim_getD ha n
    have hdr := val_drop_next a n
    obtain ⟨x, hxe⟩ : ∃ x, a.getD n 0 = x := ⟨_, rfl⟩
    rw [hxe] at hx hdr
    have hor := or_limb (n := r) (x := x) ⟨hr.1, by omega⟩ hx
    have ht0 : 0 ≤ r * 4294967296 + x := by omega
    have htd : r * 4294967296 + x < d * 4294967296 := by omega
    have hq1 : 0 ≤ (r * 4294967296 + x) / d := Int.ediv_nonneg ht0 (by omega)
    have hq2 : (r * 4294967296 + x) / d < 4294967296 := Int.ediv_lt_of_lt_mul hd.1 (by rw [Int.mul_comm]; omega)
    have hr1 : 0 ≤ (r * 4294967296 + x) % d := Int.emod_nonneg _ (by omega)
    have hr2 : (r * 4294967296 + x) % d < d := Int.emod_lt_of_pos _ hd.1
    have hdm := Int.mul_ediv_add_emod (r * 4294967296 + x) d
    have hs := val_set q n ((r * 4294967296 + x) / d) (by omega)
    rw [hz n (by omega)] at hs
    have hlen : (q.set n ((r * 4294967296 + x) / d)).length = q.length := List.length_set
    obtain ⟨t, et, g, l⟩ := ih a (q.set n ((r * 4294967296 + x) / d)) d ((r * 4294967296 + x) % d) ha (lim_set hq _ ⟨hq1, hq2⟩) hd (by omega) hl (by omega) ⟨hr1, hr2⟩
      (fun j hj => by rw [FNat.getD_set_ne (by omega)]; exact hz j (by omega)) (by
        rw [hs, hdr]
        rw [pw_succ] at hv
        generalize (r * 4294967296 + x) / d = e at *
        generalize (r * 4294967296 + x) % d = f at *
        clear hq1 hq2 hr1 hr2 ht0 htd hor hs hz hlen
        obtain rfl : x = d * e + f - r * 4294967296 := by omega
        grind)
    refine ⟨t, Ev.step (fun k => ?_) et, g, l⟩
    have e1 : wrap64 (((n + 1 : Nat) : Int) - 1 - 1) = (n : Int) - 1 := by rw [w64 (by omega) (by omega)]; omega
    have e2 : ((n + 1 : Nat) : Int) - 1 = (n : Int) := by omega
    simp only [nat_limb.l0]
    rw [if_pos (by omega), if_pos (by omega), if_pos (by omega), if_neg (by rw [u64 (by omega) (by omega)]; omega), if_pos (by omega), e1, e2, rd_nat, hxe, u64 (x := r * 4294967296) (by omega) (by omega), u64l hx, u64 (x := d) (by omega) (by omega), hor,
      Int.tdiv_eq_ediv_of_nonneg ht0, Int.tmod_eq_emod_of_nonneg ht0, u64 hq1 (by omega), Int.emod_eq_of_lt hq1 hq2]
    rfl
theorem limb_good {a : List Int} {d : Int} (ha : Lim a) (hd : 0 < d ∧ d < 4294967296) (h : a.length ≤ 100000000) :
    ∃ t, Ev (fun k => nat_limb.f k a d) (t, val a % d) ∧ Good t (val a / d) ∧ t.length ≤ a.length := by
  obtain ⟨t, et, g, l⟩ := limb_l0 a.length a (List.replicate a.length 0) d 0 ha (lim_replicate _) hd (Nat.le_refl _) h (by simp) (by omega) (fun j _ => getD_replicate _ _) (by rw [val_replicate, List.drop_length]; simp [val_nil])
  refine ⟨t, Ev.congr (fun k => ?_) et, g, l⟩
  show nat_limb.f k a d = _
  unfold nat_limb.f
  rw [if_pos (by omega), if_pos (by omega), w64 (by omega) (by omega)]
  rfl

end Go.Proofs.YtlhgagmghahbhaaDoor.N

namespace Go.Proofs.YtlhgagmghahbhaaDoor.N
open Go.RowKit Go.Proofs.YtlhgagmghahbhaaDoor.Q Go.Proofs.YtlhgagmghahbhaaDoorW.PrintWords Go.Proofs.YtlhgagmghahbhaaDoorW.PrintLast Go.Proofs.YtlhgagmghahbhaaDoorW.PrintMore
open FNat
set_option linter.unusedVariables false
set_option linter.unusedSimpArgs false

theorem two_le_pow31 {s : Nat} (h : s ≤ 31) : (2 : Int) ^ s ≤ 2147483648 := by
  have : (2 : Int) ^ 31 = 2 ^ s * 2 ^ (31 - s) := by rw [← Int.pow_add, show s + (31 - s) = 31 by omega]
  have h2 := two_pos (31 - s)
  have h3 := two_pos s
  have h4 : 2 ^ s * 1 ≤ (2 : Int) ^ s * 2 ^ (31 - s) := Int.mul_le_mul_of_nonneg_left (by omega) (by omega)
  have h5 : (2 : Int) ^ 31 = 2147483648 := rfl
  omega
theorem shl_word {x : Int} {s : Nat} (hs : s ≤ 31) (hx : 0 ≤ x ∧ x < 4294967296) : shl .u64 (IntKind.u64.wrap x) (s : Int) = x * 2 ^ s := by
  have h31 := two_le_pow31 hs
  have hp := two_pos s
  have hlt : x * 2 ^ s ≤ 4294967295 * 2 ^ s := Int.mul_le_mul_of_nonneg_right (by omega) (by omega)
  have h0 : 0 ≤ x * 2 ^ s := Int.mul_nonneg hx.1 (by omega)
  unfold shl
  rw [u64l hx, Int.toNat_natCast, show min s IntKind.u64.bits = s from Nat.min_eq_left (by show s ≤ 64; omega), u64 h0 (by omega)]
end Go.Proofs.YtlhgagmghahbhaaDoor.N

namespace Go.Proofs.YtlhgagmghahbhaaDoor.N
open Go.RowKit Go.Proofs.YtlhgagmghahbhaaDoor.Q Go.Proofs.YtlhgagmghahbhaaDoorW.PrintWords Go.Proofs.YtlhgagmghahbhaaDoorW.PrintLast Go.Proofs.YtlhgagmghahbhaaDoorW.PrintMore
open FNat
set_option linter.unusedVariables false
set_option linter.unusedSimpArgs false

def modv (x y : Int) : Int := if y = 0 then 0 else x % y
end Go.Proofs.YtlhgagmghahbhaaDoor.N

namespace Go.Proofs.YtlhgagmghahbhaaDoor.N
open Go.RowKit Go.Proofs.YtlhgagmghahbhaaDoor.Q Go.Proofs.YtlhgagmghahbhaaDoorW.PrintWords Go.Proofs.YtlhgagmghahbhaaDoorW.PrintLast Go.Proofs.YtlhgagmghahbhaaDoorW.PrintMore
open FNat
set_option linter.unusedVariables false
set_option linter.unusedSimpArgs false

theorem two_succ (n : Nat) : (2 : Int) ^ (n + 1) = 2 * 2 ^ n := by rw [Int.pow_succ, Int.mul_comm]
theorem rlen_l0 (n : Nat) : ∀ l : List Int, Lim l → l.length ≤ 10000000 → n ≤ 32 * l.length → val l < 2 ^ n →
    ∃ m : Nat, m ≤ n ∧ Ev (fun k => foundryref01_length.l0 k l (n : Int)) (m : Int) ∧ val l < 2 ^ m ∧ (m = 0 ∨ 2 ^ (m - 1) ≤ val l) := by
  induction n with
  | zero =>
    intro l hl h hn hv
    refine ⟨0, Nat.le_refl _, ev_some fun k => ?_, hv, .inl rfl⟩
    simp only [foundryref01_length.l0]; rw [if_neg (by omega)]
  | succ n ih =>
    intro l hl h hn hv
    have h0 := val_nonneg hl
    have hp := two_pos n
    have hbit := rbit_ev hl (by omega) n (by omega)
    have e1 : wrap64 (((n + 1 : Nat) : Int) - 1) = (n : Int) := by rw [w64 (by omega) (by omega)]; omega
    have hd0 : 0 ≤ val l / 2 ^ n := Int.ediv_nonneg h0 (Int.le_of_lt hp)
    have hd1 : val l / 2 ^ n < 2 := Int.ediv_lt_of_lt_mul hp (by rw [two_succ] at hv; omega)
    by_cases hb : val l / 2 ^ n = 0
    · have hlt : val l < 2 ^ n := by
        have h1 := Int.mul_ediv_add_emod (val l) (2 ^ n)
        have h2 := Int.emod_lt_of_pos (val l) hp
        rw [hb] at h1; omega
      obtain ⟨m, hm, em, h1, h2⟩ := ih l hl h (by omega) hlt
      refine ⟨m, by omega, Ev.step (fun k => ?_) em, h1, h2⟩
      simp only [foundryref01_length.l0]
      rw [if_pos (by omega), e1, hbit, Option.bind_some, hb, if_pos (by omega)]
    · have hge : 2 ^ n ≤ val l := by
        have h1 := Int.mul_ediv_add_emod (val l) (2 ^ n)
        have h2 := Int.emod_nonneg (val l) (Int.ne_of_gt hp)
        have h3 : val l / 2 ^ n = 1 := by omega
        rw [h3] at h1; omega
      refine ⟨n + 1, Nat.le_refl _, ev_some fun k => ?_, hv, .inr hge⟩
      simp only [foundryref01_length.l0]
      rw [if_pos (by omega), e1, hbit, Option.bind_some, if_neg (by omega)]
theorem pw_two (n : Nat) : pw n = 2 ^ (32 * n) := by unfold pw; rw [Int.pow_mul]; rfl
theorem rlen_ev {l : List Int} (hl : Lim l) (h : l.length ≤ 10000000) :
    ∃ m : Nat, m ≤ 32 * l.length ∧ Ev (fun k => foundryref01_length.f k l) (m : Int) ∧ val l < 2 ^ m ∧ (m = 0 ∨ 2 ^ (m - 1) ≤ val l) := by
  obtain ⟨m, h1, h2, h3⟩ := rlen_l0 (32 * l.length) l hl h (Nat.le_refl _) (by rw [← pw_two]; exact val_lt hl)
  refine ⟨m, h1, Ev.congr (fun k => ?_) h2, h3⟩
  unfold foundryref01_length.f foundryref01_bits.f
  rw [Option.bind_some, w64 (by omega) (by omega)]; rfl

theorem rup_l0 (d : Nat) : ∀ (l o : List Int) (n i : Nat) (c : Int), Lim l → Lim o → l.length ≤ 10000000 → n ≤ 1000000000 → o.length = n / 32 + i → i + d = l.length → 0 ≤ c ∧ c < 2 ^ (n % 32) →
    val o + pw o.length * c = val (l.take i) * 2 ^ n →
    ∃ r, Ev (fun k => foundryref01_up.l0 k l (n : Int) o c (i : Int)) r ∧ Good r (val l * 2 ^ n) ∧ r.length ≤ l.length + n / 32 + 1 := by
  induction d with
  | zero =>
    intro l o n i c hl ho h hn hol hi hc hv
    have hq0 : o.length ≤ 100000000 := by clear hc hv; omega
    have hq : o.length < 35184372088832 := Nat.lt_of_le_of_lt hq0 (by decide)
    obtain rfl : i = l.length := by omega
    have h31 := two_le_pow31 (s := n % 32) (by omega)
    rw [List.take_of_length_le (Nat.le_refl _)] at hv
    obtain ⟨r, er, gr, lr⟩ := rtrim_good (l := o ++ [c]) (lim_append.2 ⟨ho, lim_one ⟨hc.1, by omega⟩⟩) (by rw [List.length_append]; simp; omega)
    refine ⟨r, Ev.step (f := fun k => (foundryref01_Trim.f k (o ++ [c])).bind fun t => some t) (fun k => ?_) (Ev.bind (f := fun k t => some t) er (Ev.now r)), ⟨gr.lim, gr.tr, ?_⟩, ?_⟩
    · simp only [foundryref01_up.l0]
      rw [if_neg (by omega), if_pos hq, Int.emod_eq_of_lt hc.1 (by omega)]
    · rw [gr.val, val_snoc, hv]
    · rw [List.length_append, hol] at lr; simp at lr; omega
  | succ d ih =>
    intro l o n i c hl ho h hn hol hi hc hv
    have hq0 : o.length ≤ 100000000 := by clear hc hv; omega
    have hq : o.length < 35184372088832 := Nat.lt_of_le_of_lt hq0 (by decide)
    clear hq0
    have hs : n % 32 ≤ 31 := by omega
    have hil : (i : Int) < (l.length : Int) := by omega
    have e1 : wrap64 ((i : Int) + 1) = ((i + 1 : Nat) : Int) := by rw [w64 (by omega) (by omega)]; rfl
    have e2 : IntKind.u64.wrap (Int.tmod (n : Int) 32) = ((n % 32 : Nat) : Int) := by rw [Int.tmod_eq_emod_of_nonneg (by omega), u64 (by omega) (by omega)]; omega
    have h31 := two_le_pow31 hs
    have hp := two_pos (n % 32)
    have hx := lim_getD hl i
    have hsw := shl_word hs hx
    have hta := val_take_next l i
    have hpw := two_pw n
    have hol2 : (o ++ [(c + l.getD i 0 * 2 ^ (n % 32)) % 4294967296]).length = n / 32 + (i + 1) := by rw [List.length_append, hol]; rfl
    have hps : pw o.length = pw (n / 32) * pw i := by rw [hol, pw_add]
    have hid : i + 1 + d = l.length := by omega
    clear hi hol
    generalize hS : (2 : Int) ^ (n % 32) = S at *
    generalize hxe : l.getD i 0 = x at *
    have hx2 : x * S ≤ 4294967295 * S := Int.mul_le_mul_of_nonneg_right (by omega) (by omega)
    have hx0 : 0 ≤ x * S := Int.mul_nonneg hx.1 (by omega)
    generalize hP : x * S = y at *
    have ht0 : 0 ≤ c + y := by omega
    have htb : c + y < 18446744073709551616 := by omega
    obtain ⟨f1, f2⟩ := tmod_lim ht0 htb
    have hcar : (c + y) / 4294967296 < S := Int.ediv_lt_of_lt_mul (by omega) (by omega)
    have hcar0 : 0 ≤ (c + y) / 4294967296 := Int.ediv_nonneg ht0 (by omega)
    have hdg := Int.mul_ediv_add_emod (c + y) 4294967296
    have hd0 : 0 ≤ (c + y) % 4294967296 ∧ (c + y) % 4294967296 < 4294967296 := ⟨Int.emod_nonneg _ (by omega), Int.emod_lt_of_pos _ (by omega)⟩
    obtain ⟨r, er, g, lr⟩ := ih l (o ++ [(c + y) % 4294967296]) n (i + 1) ((c + y) / 4294967296) hl (lim_append.2 ⟨ho, lim_one hd0⟩) h hn hol2 hid ⟨hcar0, by rw [hS]; exact hcar⟩ (by
      rw [val_snoc, hta, List.length_append, pw_add]
      rw [hpw] at hv ⊢
      have hp1 : pw [(c + y) % 4294967296].length = 4294967296 := rfl
      rw [hp1, hps]
      rw [hps] at hv
      clear hsw hd0 hcar hcar0 hx hxe f1 f2 ih
      generalize (c + y) / 4294967296 = e at *
      generalize (c + y) % 4294967296 = f at *
      clear hx2 hx0
      obtain rfl : c = 4294967296 * e + f - y := by omega
      rw [← hP] at hv
      grind)
    refine ⟨r, Ev.step (fun k => ?_) er, g, lr⟩
    simp only [foundryref01_up.l0]
    rw [if_pos hil, if_pos (Int.natCast_nonneg i), e2, if_pos (Int.natCast_nonneg _), if_pos hq, e1, rd_nat, hxe, hsw, f1, f2]
theorem rup_good {l : List Int} {n : Nat} (hl : Lim l) (h : l.length ≤ 10000000) (hn : n ≤ 1000000000) :
    ∃ r, Ev (fun k => foundryref01_up.f k l (n : Int)) r ∧ Good r (val l * 2 ^ n) ∧ r.length ≤ l.length + n / 32 + 1 := by
  obtain ⟨r, er, g⟩ := rup_l0 l.length l (List.replicate (n / 32) 0) n 0 0 hl (lim_replicate _) h hn (by simp) (by omega) ⟨by omega, two_pos _⟩ (by simp [val_nil, val_replicate])
  refine ⟨r, Ev.congr (fun k => ?_) er, g⟩
  have e1 : wrap64 (Int.tdiv (n : Int) 32) = ((n / 32 : Nat) : Int) := by rw [Int.tdiv_eq_ediv_of_nonneg (by omega), w64 (by omega) (by omega)]; omega
  unfold foundryref01_up.f
  rw [e1, if_pos (by omega), if_pos (by omega), Int.toNat_natCast]; rfl

theorem limb_room {q : List Int} (hq : Lim q) (m : Nat) (h : val q % 2 ^ (m + 1) = 0) : q.getD (m / 32) 0 + 2 ^ (m % 32) < 4294967296 := by
  obtain ⟨K, hK⟩ := Int.dvd_of_emod_eq_zero h
  have hx := lim_getD hq (m / 32)
  have h1 := val_drop_div q hq (m / 32)
  rw [val_drop_next] at h1
  have h2 : (2 : Int) ^ (m + 1) = pw (m / 32) * (2 * 2 ^ (m % 32)) := by rw [two_succ, two_pw]; ac_rfl
  have hp := pw_pos (m / 32)
  rw [hK, h2, Int.mul_assoc, Int.mul_ediv_cancel_left _ (Int.ne_of_gt hp)] at h1
  have hs : m % 32 < 32 := Nat.mod_lt _ (by omega)
  have h3 : (4294967296 : Int) = 2 * 2 ^ (m % 32) * 2 ^ (31 - m % 32) := by
    rw [← two_succ, ← Int.pow_add, show m % 32 + 1 + (31 - m % 32) = 32 by omega]; rfl
  have hS := two_pos (m % 32)
  have hT := two_pos (31 - m % 32)
  generalize q.getD (m / 32) 0 = x at *
  generalize val (q.drop (m / 32 + 1)) = y at *
  generalize (2 : Int) ^ (m % 32) = S at *
  generalize (2 : Int) ^ (31 - m % 32) = T at *
  have hz : x = 2 * S * (K - T * y) := by
    rw [Int.mul_sub, h1, h3]; grind
  have hlt : 2 * S * (K - T * y) < 2 * S * T := by rw [← hz, ← h3]; exact hx.2
  have hz2 : K - T * y < T := Int.lt_of_mul_lt_mul_left hlt (by omega)
  have h5 : 2 * S * (K - T * y) ≤ 2 * S * (T - 1) := Int.mul_le_mul_of_nonneg_left (by omega) (by omega)
  have h6 : 2 * S * (T - 1) = 2 * S * T - 2 * S := by grind
  omega
theorem subv_get {x y : Int} (h : y ≤ x) : subv x y = x - y := by unfold subv; split <;> omega
theorem shl_one {s : Nat} (hs : s ≤ 31) : shl .u32 1 (s : Int) = 2 ^ s := by
  have h31 := two_le_pow31 hs
  have hp := two_pos s
  unfold shl
  rw [Int.toNat_natCast, show min s IntKind.u32.bits = s from Nat.min_eq_left (by show s ≤ 32; omega), Int.one_mul]
  show (2 : Int) ^ s % 4294967296 = 2 ^ s
  exact Int.emod_eq_of_lt (by omega) (by omega)
theorem place_div {m : Nat} (h : m ≤ 1000000000) : wrap64 (Int.tdiv (m : Int) 32) = ((m / 32 : Nat) : Int) := by rw [Int.tdiv_eq_ediv_of_nonneg (by omega), w64 (by omega) (by omega)]; omega
theorem place_mod {m : Nat} (h : m ≤ 1000000000) : IntKind.u64.wrap (Int.tmod (m : Int) 32) = ((m % 32 : Nat) : Int) := by rw [Int.tmod_eq_emod_of_nonneg (by omega), u64 (by omega) (by omega)]; omega
theorem place_down {m : Nat} (h : m ≤ 1000000000) : wrap64 ((m : Int) - 1) = (m : Int) - 1 := w64 (by omega) (by omega)
theorem place_in {m n : Nat} (h : m + 1 ≤ 32 * n) : m / 32 < n := by omega
theorem place_small {m : Nat} : m % 32 ≤ 31 := by omega
theorem rdiv_l0 (m : Nat) : ∀ (v r q : List Int) (A : Int), Lim v → Lim r → Tr r → Lim q → v.length ≤ 1000000 → r.length ≤ 10000000 → q.length ≤ 10000000 → m ≤ 32 * q.length → 0 < val v →
    val q * val v + val r = A → val r < 2 ^ m * val v → val q % 2 ^ m = 0 →
    ∃ p t, Ev (fun k => foundryref01_Div.l0 k v r q ((m : Int) - 1)) (p, t) ∧ Good p (A / val v) ∧ Good t (A % val v) := by
  induction m with
  | zero =>
    intro v r q A hv hr tr hq h1 h2 h3 hm hV he hlt _
    have h0 := val_nonneg hr
    rw [show (2 : Int) ^ 0 = 1 from rfl, Int.one_mul] at hlt
    obtain ⟨p, ep, gp, lp⟩ := rtrim_good hq (by omega)
    have hA : A = val r + val v * val q := by rw [← he]; grind
    refine ⟨p, r, Ev.step (f := fun k => (foundryref01_Trim.f k q).bind fun t => some (t, r)) (fun k => ?_) (Ev.bind (f := fun k t => some (t, r)) ep (Ev.now (p, r))), ⟨gp.lim, gp.tr, ?_⟩, ⟨hr, tr, ?_⟩⟩
    · simp only [foundryref01_Div.l0]; rw [if_neg (by omega)]
    · rw [gp.val, hA, Int.add_mul_ediv_left _ _ (by omega), Int.ediv_eq_zero_of_lt h0 hlt, Int.zero_add]
    · rw [hA, Int.add_mul_emod_self_left, Int.emod_eq_of_lt h0 hlt]
  | succ m ih =>
    intro v r q A hv hr tr hq h1 h2 h3 hm hV he hlt hz
    have hmx : m ≤ 1000000000 := by clear hlt hz he; omega
    obtain ⟨x, ex, gx, lx⟩ := rup_good (n := m) hv (by omega) hmx
    have hc := rcmp_ev hr gx.lim (by omega) (by omega)
    have e1 : (((m + 1 : Nat) : Int) - 1) = (m : Int) := by omega
    have e2 := place_down hmx
    have hp := two_pos m
    have hz2 : val q % 2 ^ m = 0 := by
      obtain ⟨K, hK⟩ := Int.dvd_of_emod_eq_zero hz
      rw [hK, two_succ, show (2 : Int) * 2 ^ m * K = 2 ^ m * (2 * K) by grind]; exact Int.mul_emod_right _ _
    rw [e1]
    rw [gx.val] at hc
    by_cases hle : val v * 2 ^ m ≤ val r
    · obtain ⟨t, et, gt, lt⟩ := rsub_good hr gx.lim (by omega) (by omega)
      rw [gx.val, subv_get hle] at gt
      have hjl : m / 32 < q.length := place_in hm
      have hroom := limb_room hq m hz
      have hx := lim_getD hq (m / 32)
      have hps := two_pos (m % 32)
      have hval := val_set q (m / 32) (q.getD (m / 32) 0 + 2 ^ (m % 32)) hjl
      have hval2 : val (q.set (m / 32) (q.getD (m / 32) 0 + 2 ^ (m % 32))) = val q + 2 ^ m := by
        rw [hval, two_pw m]; grind
      obtain ⟨p, s, eps, gp, gs⟩ := ih v t (q.set (m / 32) (q.getD (m / 32) 0 + 2 ^ (m % 32))) A hv gt.lim gt.tr (lim_set hq _ ⟨by omega, hroom⟩) h1 (by omega) (by rw [List.length_set]; exact h3) (by rw [List.length_set]; omega) hV
        (by rw [hval2, gt.val, ← he]; grind)
        (by rw [gt.val]; rw [two_succ] at hlt; grind)
        (by rw [hval2, Int.add_emod_right]; exact hz2)
      refine ⟨p, s, ?_, gp, gs⟩
      have e3 := place_div hmx
      have e4 := place_mod hmx
      have hlq : ((m / 32 : Nat) : Int) < (q.length : Int) := Int.ofNat_lt.2 hjl
      refine Ev.step (f := fun k => (foundryref01_up.f k v (m : Int)).bind fun t489 => (foundryref01_Cmp.f k r t489).bind fun t492 => if t492 ≥ 0 then (foundryref01_Sub.f k r t489).bind fun t493 => foundryref01_Div.l0 k v t493 (q.set (m / 32) (q.getD (m / 32) 0 + 2 ^ (m % 32))) ((m : Int) - 1) else foundryref01_Div.l0 k v r q ((m : Int) - 1)) (fun k => ?_) ?_
      · simp only [foundryref01_Div.l0]
        rw [if_pos (Int.natCast_nonneg m), e3, e4, e2]
        simp only [if_pos (Int.natCast_nonneg (m / 32)), if_pos hlq, if_pos (Int.natCast_nonneg (m % 32)), Int.toNat_natCast, rd_nat, shl_one (place_small (m := m)), Int.emod_eq_of_lt (show 0 ≤ q.getD (m / 32) 0 + 2 ^ (m % 32) by omega) hroom]
      · exact Ev.bind ex (Ev.bind hc (Ev.congr (fun k => if_pos (cmpv_ge.2 hle)) (Ev.bind et eps)))
    · obtain ⟨p, s, eps, gp, gs⟩ := ih v r q A hv hr tr hq h1 h2 h3 (by omega) hV he (by rw [Int.mul_comm]; omega) hz2
      refine ⟨p, s, ?_, gp, gs⟩
      refine Ev.step (f := fun k => (foundryref01_up.f k v (m : Int)).bind fun t489 => (foundryref01_Cmp.f k r t489).bind fun t492 => if t492 ≥ 0 then (foundryref01_Sub.f k r t489).bind fun t493 => if 0 ≤ (wrap64 (Int.tdiv (m : Int) 32)) then (if (wrap64 (Int.tdiv (m : Int) 32)) < (q.length : Int) then (if 0 ≤ (IntKind.u64.wrap (Int.tmod (m : Int) 32)) then (foundryref01_Div.l0 k v t493 (q.set ((wrap64 (Int.tdiv (m : Int) 32)) : Int).toNat (((rd q (wrap64 (Int.tdiv (m : Int) 32))) + (shl .u32 1 (IntKind.u64.wrap (Int.tmod (m : Int) 32)))) % 4294967296)) ((m : Int) - 1)) else (none)) else (none)) else (none) else foundryref01_Div.l0 k v r q ((m : Int) - 1)) (fun k => ?_) ?_
      · simp only [foundryref01_Div.l0]
        rw [if_pos (Int.natCast_nonneg m), e2]
      · exact Ev.bind ex (Ev.bind hc (Ev.congr (fun k => if_neg (fun hh => hle (cmpv_ge.1 hh))) eps))
theorem rdiv_good {a b : List Int} (ha : Lim a) (hb : Lim b) (h1 : a.length ≤ 100000) (h2 : b.length ≤ 100000) :
    ∃ q r, Ev (fun k => foundryref01_Div.f k a b) (q, r) ∧ Good q (val a / val b) ∧ Good r (modv (val a) (val b)) := by
  obtain ⟨x, ex, gx, lx⟩ := rtrim_good ha (by omega)
  obtain ⟨m, hm, em, m1, m2⟩ := rlen_ev ha (by omega)
  obtain ⟨n, hn, en, n1, n2⟩ := rlen_ev hb (by omega)
  have ha0 := val_nonneg ha
  have hb0 := val_nonneg hb
  by_cases hz : n = 0
  · subst hz
    have hb : val b = 0 := by rw [show (2 : Int) ^ 0 = 1 from rfl] at n1; omega
    refine ⟨[], [], Ev.bind ex (Ev.bind en (Ev.congr (fun k => if_pos rfl) (Ev.now ([], [])))), ⟨lim_nil, tr_nil, by rw [hb, Int.ediv_zero]; rfl⟩, ⟨lim_nil, tr_nil, by unfold modv; rw [if_pos hb]; rfl⟩⟩
  · have hV : 2 ^ (n - 1) ≤ val b := n2.resolve_left hz
    have hVp : 0 < val b := by have := two_pos (n - 1); omega
    have e1 : wrap64 ((m : Int) - (n : Int)) = (m : Int) - (n : Int) := w64 (by omega) (by omega)
    have e2 : mx ((m : Int) - (n : Int)) 0 = ((m - n : Nat) : Int) := by unfold mx; omega
    have hd : m - n ≤ 32 * 100000 := by omega
    generalize hD : m - n = D at *
    have e3 : wrap64 (wrap64 ((D : Int) / 32) + 1) = ((D / 32 + 1 : Nat) : Int) := by rw [w64 (x := (D : Int) / 32) (by omega) (by omega), w64 (by omega) (by omega)]; omega
    have hstart : val x < 2 ^ (D + 1) * val b := by
      rw [gx.val]
      have h3 : (2 : Int) ^ m ≤ 2 ^ (D + 1) * 2 ^ (n - 1) := by
        rw [← Int.pow_add]
        have : (2 : Int) ^ (D + 1 + (n - 1)) = 2 ^ m * 2 ^ (D + 1 + (n - 1) - m) := by rw [← Int.pow_add, show m + (D + 1 + (n - 1) - m) = D + 1 + (n - 1) by omega]
        rw [this]
        have h4 := two_pos (D + 1 + (n - 1) - m)
        have h5 := two_pos m
        have h6 : (2 : Int) ^ m * 1 ≤ 2 ^ m * 2 ^ (D + 1 + (n - 1) - m) := Int.mul_le_mul_of_nonneg_left (by omega) (by omega)
        omega
      have h7 : (2 : Int) ^ (D + 1) * 2 ^ (n - 1) ≤ 2 ^ (D + 1) * val b := Int.mul_le_mul_of_nonneg_left hV (Int.le_of_lt (two_pos _))
      omega
    obtain ⟨p, t, e, gp, gt⟩ := rdiv_l0 (D + 1) b x (List.replicate (D / 32 + 1) 0) (val a) hb gx.lim gx.tr (lim_replicate _) (by omega) (by omega) (by rw [List.length_replicate]; omega) (by rw [List.length_replicate]; omega) hVp (by rw [val_replicate, gx.val]; omega) hstart (by rw [val_replicate]; exact Int.zero_emod _)
    have hn0 : ¬ ((n : Int) = 0) := by omega
    refine ⟨p, t, Ev.bind ex (Ev.bind en (Ev.congr (fun k => if_neg hn0) (Ev.bind em (Ev.bind en (Ev.congr (fun k => ?_) e))))), gp, by unfold modv; rw [if_neg (by omega)]; exact gt⟩
    rw [e1, e2, e3, if_pos (by omega), if_pos (by omega), Int.toNat_natCast, show (((D + 1 : Nat) : Int) - 1) = (D : Int) by omega]
end Go.Proofs.YtlhgagmghahbhaaDoor.N
