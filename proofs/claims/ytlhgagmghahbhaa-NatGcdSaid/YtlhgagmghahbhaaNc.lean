/- Contracts: nat.Gcd. -/
import Derived.Test.YtlhgagmghahbhaaGc
import Derived.Test.YtlhgagmghahbhaaNa
namespace Go.Proofs.Ytlhgagmghahbhaa.N
open Go.RowKit Go.Proofs.Ytlhgagmghahbhaa.Q Go.Proofs.YtlhgagmghahbhaaW.PrintWords Go.Proofs.YtlhgagmghahbhaaW.PrintLast Go.Proofs.YtlhgagmghahbhaaW.PrintMore
open FNat
set_option linter.unusedVariables false
set_option linter.unusedSimpArgs false

def gcdv (x y : Int) : Int := (Int.gcd x y : Int)
theorem gcdv_zero {x : Int} (h : 0 ≤ x) : gcdv x 0 = x := by unfold gcdv; rw [Int.gcd_zero_right]; omega
theorem gcdv_step {x y : Int} (hx : 0 ≤ x) (hy : 0 < y) : gcdv x y = gcdv y (x % y) := by
  obtain ⟨a, rfl⟩ := Int.eq_ofNat_of_zero_le hx
  obtain ⟨b, rfl⟩ := Int.eq_ofNat_of_zero_le (Int.le_of_lt hy)
  unfold gcdv
  rw [← Int.natCast_emod, Int.gcd_natCast_natCast, Int.gcd_natCast_natCast, Nat.gcd_comm a b, Nat.gcd_rec b a, Nat.gcd_comm]
theorem gcdv_le {x y : Int} (hx : 0 < x) (hy : 0 ≤ y) : gcdv x y ≤ x := by
  obtain ⟨a, rfl⟩ := Int.eq_ofNat_of_zero_le (Int.le_of_lt hx)
  obtain ⟨b, rfl⟩ := Int.eq_ofNat_of_zero_le hy
  unfold gcdv
  rw [Int.gcd_natCast_natCast]
  have := Nat.gcd_le_left b (show 0 < a by omega)
  omega
theorem gcdv_comm (x y : Int) : gcdv x y = gcdv y x := by unfold gcdv; rw [Int.gcd_comm]
theorem gcdv_nonneg (x y : Int) : 0 ≤ gcdv x y := Int.natCast_nonneg _
theorem gcd_l0 (N : Nat) : ∀ x y : List Int, Lim x → Tr x → Lim y → Tr y → x.length ≤ 100000 → y.length ≤ 100000 → val y < (N : Int) →
    ∃ r, Ev (fun k => nat_Gcd.l0 k x y) r ∧ Good r (gcdv (val x) (val y)) := by
  induction N with
  | zero => intro x y hx tx hy ty h1 h2 hN; have := val_nonneg hy; omega
  | succ N ih =>
    intro x y hx tx hy ty h1 h2 hN
    have hx0 := val_nonneg hx
    by_cases hy0 : y = []
    · subst hy0
      refine ⟨x, ev_some fun k => ?_, ⟨hx, tx, by rw [val_nil, gcdv_zero hx0]⟩⟩
      simp only [nat_Gcd.l0]; rw [if_neg (by simp)]
    · have hyv : val y ≠ 0 := fun h => hy0 ((val_zero hy ty).1 h)
      have hyp : 0 < val y := by have := val_nonneg hy; omega
      have hyl : 0 < y.length := List.length_pos_iff.2 hy0
      obtain ⟨q, r, er, gq, gr⟩ := div_good hx hy (by omega) (by omega)
      have hm : modv (val x) (val y) = val x % val y := by unfold modv; rw [if_neg hyv]
      rw [hm] at gr
      have hr1 : val x % val y < val y := Int.emod_lt_of_pos _ hyp
      have hrl : r.length ≤ 100000 := Nat.le_trans (good_len gr (Int.lt_trans hr1 (val_lt hy))) h2
      obtain ⟨s, es, gs⟩ := ih y r hy ty gr.lim gr.tr h2 hrl (by rw [gr.val]; omega)
      refine ⟨s, Ev.step (f := fun k => (nat_Div.f k x y).bind fun bt => nat_Gcd.l0 k y bt.2) (fun k => ?_) (Ev.bind er es), ?_⟩
      · simp only [nat_Gcd.l0]; rw [if_pos (by omega)]
      · rw [gcdv_step hx0 hyp, ← gr.val]; exact gs
theorem gcd_good {a b : List Int} (ha : Lim a) (hb : Lim b) (h1 : a.length ≤ 100000) (h2 : b.length ≤ 100000) :
    ∃ r, Ev (fun k => nat_Gcd.f k a b) r ∧ Good r (gcdv (val a) (val b)) := by
  obtain ⟨x, ex, gx, lx⟩ := Trim_good ha (by omega)
  obtain ⟨y, ey, gy, ly⟩ := Trim_good hb (by omega)
  have hy0 := val_nonneg gy.lim
  obtain ⟨r, er, gr⟩ := gcd_l0 ((val y).toNat + 1) x y gx.lim gx.tr gy.lim gy.tr (by omega) (by omega) (by omega)
  rw [gx.val, gy.val] at gr
  exact ⟨r, Ev.bind ex (Ev.bind ey er), gr⟩
theorem gcd_len {a b r : List Int} (ha : Lim a) (hb : Lim b) (g : Good r (gcdv (val a) (val b))) {n : Nat} (h1 : a.length ≤ n) (h2 : b.length ≤ n) : r.length ≤ n := by
  refine good_len g ?_
  have ha0 := val_nonneg ha; have hb0 := val_nonneg hb
  have h3 := val_lt ha; have h4 := val_lt hb
  have h5 := pw_le h1; have h6 := pw_le h2
  by_cases hz : val a = 0
  · rw [hz, gcdv_comm, gcdv_zero hb0]; omega
  · have := gcdv_le (x := val a) (y := val b) (by omega) hb0; omega
end Go.Proofs.Ytlhgagmghahbhaa.N
