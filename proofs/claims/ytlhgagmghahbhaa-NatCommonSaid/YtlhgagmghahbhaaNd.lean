/- Contracts: the reference's Gcd. -/
import Derived.Test.YtlhgagmghahbhaaNb
import Derived.Test.YtlhgagmghahbhaaNc
import Derived.Test.YtlhgagmghahbhaaQx21
namespace Go.Proofs.Ytlhgagmghahbhaa.N
open Go.RowKit Go.Proofs.Ytlhgagmghahbhaa.Q Go.Proofs.YtlhgagmghahbhaaW.PrintWords Go.Proofs.YtlhgagmghahbhaaW.PrintLast Go.Proofs.YtlhgagmghahbhaaW.PrintMore
open FNat
set_option linter.unusedVariables false
set_option linter.unusedSimpArgs false

theorem rgcd_l0 (N : Nat) : ∀ x y : List Int, Lim x → Tr x → Lim y → Tr y → x.length ≤ 100000 → y.length ≤ 100000 → val y < (N : Int) →
    ∃ r, Ev (fun k => foundryref01_Gcd.l0 k x y) r ∧ Good r (gcdv (val x) (val y)) := by
  induction N with
  | zero => intro x y hx tx hy ty h1 h2 hN; have := val_nonneg hy; omega
  | succ N ih =>
    intro x y hx tx hy ty h1 h2 hN
    have hx0 := val_nonneg hx
    by_cases hy0 : y = []
    · subst hy0
      refine ⟨x, ev_some fun k => ?_, ⟨hx, tx, by rw [val_nil, gcdv_zero hx0]⟩⟩
      simp only [foundryref01_Gcd.l0]; rw [if_neg (by simp)]
    · have hyv : val y ≠ 0 := fun h => hy0 ((val_zero hy ty).1 h)
      have hyp : 0 < val y := by have := val_nonneg hy; omega
      have hyl : 0 < y.length := List.length_pos_iff.2 hy0
      obtain ⟨q, r, er, gq, gr⟩ := rdiv_good hx hy (by omega) (by omega)
      have hm : modv (val x) (val y) = val x % val y := by unfold modv; rw [if_neg hyv]
      rw [hm] at gr
      have hr1 : val x % val y < val y := Int.emod_lt_of_pos _ hyp
      have hrl : r.length ≤ 100000 := Nat.le_trans (good_len gr (Int.lt_trans hr1 (val_lt hy))) h2
      obtain ⟨s, es, gs⟩ := ih y r hy ty gr.lim gr.tr h2 hrl (by rw [gr.val]; omega)
      refine ⟨s, Ev.step (f := fun k => (foundryref01_Div.f k x y).bind fun bt => foundryref01_Gcd.l0 k y bt.2) (fun k => ?_) (Ev.bind er es), ?_⟩
      · simp only [foundryref01_Gcd.l0]; rw [if_pos (by omega)]
      · rw [gcdv_step hx0 hyp, ← gr.val]; exact gs
theorem rgcd_good {a b : List Int} (ha : Lim a) (hb : Lim b) (h1 : a.length ≤ 100000) (h2 : b.length ≤ 100000) :
    ∃ r, Ev (fun k => foundryref01_Gcd.f k a b) r ∧ Good r (gcdv (val a) (val b)) := by
  obtain ⟨x, ex, gx, lx⟩ := rtrim_good ha (by omega)
  obtain ⟨y, ey, gy, ly⟩ := rtrim_good hb (by omega)
  have hy0 := val_nonneg gy.lim
  obtain ⟨r, er, gr⟩ := rgcd_l0 ((val y).toNat + 1) x y gx.lim gx.tr gy.lim gy.tr (by omega) (by omega) (by omega)
  rw [gx.val, gy.val] at gr
  exact ⟨r, Ev.bind ex (Ev.bind ey er), gr⟩
end Go.Proofs.Ytlhgagmghahbhaa.N
