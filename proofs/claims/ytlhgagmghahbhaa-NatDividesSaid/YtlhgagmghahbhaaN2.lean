/- Contracts: nat.Mul, and the reference's Trim, Add, Of, Bit, Mul. -/
import Derived.Test.YtlhgagmghahbhaaN1
import Derived.Laws.BitsAllLaws
import Derived.Test.YtlhgagmghahbhaaQx4
namespace Go.Proofs.Ytlhgagmghahbhaa.N
open Go.RowKit Go.Proofs.Ytlhgagmghahbhaa.Q Go.Proofs.YtlhgagmghahbhaaW.PrintWords Go.Proofs.YtlhgagmghahbhaaW.PrintLast Go.Proofs.YtlhgagmghahbhaaW.PrintMore
open FNat
set_option linter.unusedVariables false
set_option linter.unusedSimpArgs false

/-! ### nat.Mul -/
theorem mul_l1 (d : Nat) : ∀ (a b out : List Int) (i k : Nat) (x c : Int), Lim b → Lim out → out.length = a.length + b.length → a.length ≤ 100000000 → b.length ≤ 100000000 →
    i < a.length → k + d = b.length → 0 ≤ x ∧ x < 4294967296 → 0 ≤ c ∧ c < 4294967296 → (∀ j, i + b.length ≤ j → out.getD j 0 = 0) →
    ∃ out' : List Int, Lim out' ∧ out'.length = a.length + b.length ∧ (∀ j, i + 1 + b.length ≤ j → out'.getD j 0 = 0) ∧
      val out' = val out + pw (i + k) * c + pw i * x * (val b - val (b.take k)) ∧
      ∀ r, Ev (fun n => nat_Mul.l0 n b out' a (a.length : Int) ((i : Int) + 1)) r → Ev (fun n => nat_Mul.l1 n b out (i : Int) x c a (a.length : Int) (i : Int) b (b.length : Int) (k : Int)) r := by
  induction d with
  | zero =>
    intro a b out i k x c hb ho hl h1 h2 hi hk hx hc hz
    have e1 : wrap64 ((i : Int) + (b.length : Int)) = ((i + b.length : Nat) : Int) := by rw [w64 (by omega) (by omega)]; omega
    have hset := val_set out (i + b.length) c (by omega)
    rw [hz _ (Nat.le_refl _)] at hset
    refine ⟨out.set (i + b.length) c, lim_set ho _ hc, by simpa using hl, fun j hj => ?_, ?_, fun r hr => ?_⟩
    · rw [FNat.getD_set_ne (by omega)]; exact hz j (by omega)
    · obtain rfl : k = b.length := by omega
      rw [hset, List.take_of_length_le (Nat.le_refl _)]; grind
    · refine Ev.step (fun n => ?_) hr
      simp only [nat_Mul.l1, e1]
      rw [if_neg (by omega), if_pos (by omega), if_pos (by omega), w64 (by omega) (by omega), show c % 4294967296 = c by omega]; rfl
  | succ d ih =>
    intro a b out i k x c hb ho hl h1 h2 hi hk hx hc hz
    have e1 : wrap64 ((i : Int) + (k : Int)) = ((i + k : Nat) : Int) := by rw [w64 (by omega) (by omega)]; omega
    have hy := lim_getD hb k
    have hw := lim_getD ho (i + k)
    have hxy := mul_lim hx hy
    have hset := fun v => val_set out (i + k) v (by omega)
    have hvb := val_take_succ b k (by omega)
    generalize hyd : b.getD k 0 = y at *
    generalize hwd : out.getD (i + k) 0 = o at *
    have e2 : IntKind.u64.wrap (c + IntKind.u64.wrap (IntKind.u64.wrap (IntKind.u64.wrap x * IntKind.u64.wrap (rd b (k : Int))) + IntKind.u64.wrap (rd out ((i + k : Nat) : Int)))) = c + (x * y + o) := by
      rw [rd_nat, rd_nat, hyd, hwd, u64 hx.1 (by omega), u64 hy.1 (by omega), u64 hw.1 (by omega), u64 hxy.1 (by omega), u64 (x := x * y + o) (by omega) (by omega), u64 (by omega) (by omega)]
    generalize hxyd : x * y = p at *
    have hd : 4294967296 * ((c + (p + o)) / 4294967296) + (c + (p + o)) % 4294967296 = c + (p + o) := Int.mul_ediv_add_emod _ _
    have hvr : 0 ≤ (c + (p + o)) % 4294967296 ∧ (c + (p + o)) % 4294967296 < 4294967296 := by omega
    have hcr : 0 ≤ (c + (p + o)) / 4294967296 ∧ (c + (p + o)) / 4294967296 < 4294967296 := by omega
    generalize hq : (c + (p + o)) / 4294967296 = c' at *
    generalize hm : (c + (p + o)) % 4294967296 = v at *
    obtain ⟨out', l1, l2, l3, hv, l5⟩ := ih a b (out.set (i + k) v) i (k + 1) x c' hb (lim_set ho _ hvr) (by simpa using hl) h1 h2 hi (by omega) hx hcr (fun j hj => by rw [FNat.getD_set_ne (by omega)]; exact hz j hj)
    refine ⟨out', l1, l2, l3, ?_, fun r hr => Ev.step (fun n => ?_) (l5 r hr)⟩
    · rw [hv, hset, hvb, show i + (k + 1) = (i + k) + 1 by omega, pw_succ, pw_add i k]
      have h4 : pw i * pw k * (v - o) + 4294967296 * (pw i * pw k) * c' = pw i * pw k * (c + x * y) := by
        rw [hxyd]
        have : v - o + 4294967296 * c' = c + p := by omega
        rw [← this]; grind
      grind
    · simp only [nat_Mul.l1, e1, e2]
      rw [if_pos (by omega), if_pos (by omega), if_pos (by omega), if_pos (by omega), if_pos (by omega), w64 (by omega) (by omega), hq, hm]; rfl
theorem mul_l0 (d : Nat) : ∀ (a b out : List Int) (i : Nat), Lim a → Lim b → Lim out → out.length = a.length + b.length → a.length ≤ 100000000 → b.length ≤ 100000000 →
    i + d = a.length → (∀ j, i + b.length ≤ j → out.getD j 0 = 0) → val out = val (a.take i) * val b →
    ∃ r, Ev (fun n => nat_Mul.l0 n b out a (a.length : Int) (i : Int)) r ∧ Good r (val a * val b) ∧ r.length ≤ a.length + b.length := by
  induction d with
  | zero =>
    intro a b out i ha hb ho hl h1 h2 hi hz hv
    obtain ⟨r, er, gr, lr⟩ := trim_good ho (by omega)
    refine ⟨r, ?_, ⟨gr.lim, gr.tr, ?_⟩, by omega⟩
    · refine Ev.step (fun n => ?_) (Ev.bind (f := fun _ t => some t) er (Ev.now r))
      simp only [nat_Mul.l0]; rw [if_neg (by omega)]
    · rw [gr.val, hv, List.take_of_length_le (by omega)]
  | succ d ih =>
    intro a b out i ha hb ho hl h1 h2 hi hz hv
    have hx := lim_getD ha i
    obtain ⟨out', l1, l2, l3, hv', l5⟩ := mul_l1 b.length a b out i 0 (a.getD i 0) 0 hb ho hl h1 h2 (by omega) (by omega) hx (by omega) hz
    obtain ⟨r, er, g, l⟩ := ih a b out' (i + 1) ha hb l1 l2 h1 h2 (by omega) l3 (by rw [hv', hv, val_take_succ a i (by omega)]; simp only [List.take_zero, val_nil]; grind)
    refine ⟨r, Ev.step (fun n => ?_) (l5 r er), g, l⟩
    simp only [nat_Mul.l0]
    rw [if_pos (by omega), if_pos (by omega), if_pos (by omega), rd_nat]; rfl
theorem mul_good {a b : List Int} (ha : Lim a) (hb : Lim b) (h1 : a.length ≤ 100000000) (h2 : b.length ≤ 100000000) :
    ∃ r, Ev (fun n => nat_Mul.f n a b) r ∧ Good r (val a * val b) ∧ r.length ≤ a.length + b.length := by
  have e1 : wrap64 ((a.length : Int) + (b.length : Int)) = ((a.length + b.length : Nat) : Int) := by rw [w64 (by omega) (by omega)]; omega
  obtain ⟨r, er, g, l⟩ := mul_l0 a.length a b (List.replicate (a.length + b.length) 0) 0 ha hb (lim_replicate _) (by simp) h1 h2 (by omega) (fun j _ => getD_replicate _ _) (by simp [val_replicate, val_nil])
  refine ⟨r, Ev.congr (fun n => ?_) er, g, l⟩
  unfold nat_Mul.f
  rw [e1, if_pos (by omega), if_pos (by omega)]; rfl
end Go.Proofs.Ytlhgagmghahbhaa.N
