/- Contracts: nat.Div. -/
import Derived.Test.YtlhgagmghahbhaaN6
import Derived.Test.YtlhgagmghahbhaaQx10
import Derived.Test.YtlhgagmghahbhaaQx17
namespace Go.Proofs.Ytlhgagmghahbhaa.N
open Go.RowKit Go.Proofs.Ytlhgagmghahbhaa.Q Go.Proofs.YtlhgagmghahbhaaW.PrintWords Go.Proofs.YtlhgagmghahbhaaW.PrintLast Go.Proofs.YtlhgagmghahbhaaW.PrintMore
open FNat
set_option linter.unusedVariables false
set_option linter.unusedSimpArgs false

/-! ### The guess of one digit (Knuth's algorithm D) -/
theorem knuth {W V W3 V2 P R S g : Int} (hP : 0 < P) (hR : 0 ≤ R ∧ R < P) (hS : 0 ≤ S ∧ S < P) (hW : W = W3 * P + R) (hV : V = V2 * P + S) (h2 : 4294967296 ≤ V2) (hg : 0 ≤ g ∧ g < 4294967296) (hgW : g * V2 ≤ W3) : g ≤ W / V + 1 := by
  have hVp : 0 < V := by
    have : 4294967296 * P ≤ V2 * P := Int.mul_le_mul_of_nonneg_right h2 (by omega)
    omega
  by_cases hc : g ≤ W / V + 1
  · exact hc
  · exfalso
    have h1 : W < (W / V + 1) * V := Int.lt_ediv_add_one_mul_self W hVp
    have h3 : (W / V + 1) * V ≤ (g - 1) * V := Int.mul_le_mul_of_nonneg_right (by omega) (by omega)
    have h4 : g * V2 * P ≤ W3 * P := Int.mul_le_mul_of_nonneg_right hgW (by omega)
    have h5 : (g - 1) * V = g * V2 * P - V2 * P + (g - 1) * S := by rw [hV]; grind
    have h6 : (g - 1) * S ≤ 4294967296 * S := Int.mul_le_mul_of_nonneg_right (by omega) hS.1
    have h7 : 4294967296 * P ≤ V2 * P := Int.mul_le_mul_of_nonneg_right h2 (by omega)
    omega
theorem knuth_low {W V W3 V2 P R S : Int} (hP : 0 < P) (hR : 0 ≤ R ∧ R < P) (hS : 0 ≤ S ∧ S < P) (hW : W = W3 * P + R) (hV : V = V2 * P + S) (h2 : 4294967296 ≤ V2) (h0 : 0 ≤ W) (hWV : W < 4294967296 * V) :
    0 ≤ W / V ∧ W / V ≤ 4294967295 ∧ W / V * V2 ≤ W3 := by
  have hVp : 0 < V := by
    have : 4294967296 * P ≤ V2 * P := Int.mul_le_mul_of_nonneg_right h2 (by omega)
    omega
  have hq0 : 0 ≤ W / V := Int.ediv_nonneg h0 (by omega)
  refine ⟨hq0, ?_, ?_⟩
  · have := Int.ediv_lt_of_lt_mul hVp (a := W) (b := 4294967296) hWV
    omega
  · have h1 : W / V * V ≤ W := Int.ediv_mul_le W (by omega)
    have h3 : W / V * V2 * P ≤ W / V * V := by
      rw [Int.mul_assoc]; exact Int.mul_le_mul_of_nonneg_left (by omega) hq0
    by_cases hc : W / V * V2 ≤ W3
    · exact hc
    · have h4 : (W3 + 1) * P ≤ W / V * V2 * P := Int.mul_le_mul_of_nonneg_right (by omega) (by omega)
      have h5 : (W3 + 1) * P = W3 * P + P := by grind
      omega
/-- The loop that lowers the guess. -/
theorem guess_ev (s : Int) (u v qd : List Int) (j n : Nat) (v1 v2 q two : Int) (hn : 2 ≤ n) (hlen : j + n < u.length) (hl : u.length ≤ 100000000) (hu : Lim u)
    (hv1 : 2147483648 ≤ v1 ∧ v1 < 4294967296) (hv2 : 0 ≤ v2 ∧ v2 < 4294967296) (hq : 0 ≤ q ∧ q ≤ 4294967295) (hqW : q * (v1 * 4294967296 + v2) ≤ two * 4294967296 + u.getD (j + n - 2) 0) (htwo : two < v1 * 4294967296 + 4294967296) (m : Nat) :
    ∀ (g rest : Int), g ≤ (m : Int) → q ≤ g → g ≤ 4294967297 → 0 ≤ rest ∧ rest < 4294967296 → g * v1 + rest = two →
    ∃ g', (q ≤ g' ∧ g' < 4294967296 ∧ g' * (v1 * 4294967296 + v2) ≤ two * 4294967296 + u.getD (j + n - 2) 0) ∧
      ∀ R, Ev (fun k => nat_Div.j3 k s u v (n : Int) qd v1 v2 (j : Int) g') R → Ev (fun k => nat_Div.l1 k s u v (n : Int) qd v1 v2 (j : Int) g rest) R := by
  have hx := lim_getD hu (j + n - 2)
  have e1 : wrap64 (wrap64 ((j : Int) + (n : Int)) - 2) = ((j + n - 2 : Nat) : Int) := by rw [w64 (x := (j : Int) + n) (by omega) (by omega), w64 (by omega) (by omega)]; omega
  have hi1 : (0 : Int) ≤ ((j + n - 2 : Nat) : Int) := Int.natCast_nonneg _
  have hi2 : ((j + n - 2 : Nat) : Int) < (u.length : Int) := by omega
  have erd : rd u ((j + n - 2 : Nat) : Int) = u.getD (j + n - 2) 0 := rd_nat _ _
  generalize u.getD (j + n - 2) 0 = x at *
  clear hn hlen hl
  induction m with
  | zero =>
    intro g rest hg1 hg2 hg3 hr he
    obtain rfl : g = 0 := by omega
    have hc : ¬ ((0 : Int) ≥ 4294967296) := by omega
    refine ⟨0, ⟨by omega, by omega, by omega⟩, fun R hR => Ev.step (fun k => ?_) (Ev.step (g := fun k => nat_Div.j2 k s u v (n : Int) qd v1 v2 (j : Int) 0 rest false) (fun k => ?_) hR)⟩
    · simp only [nat_Div.l1]
      rw [if_neg hc, e1, if_pos hi1, if_pos hi2, erd, Int.zero_mul, u64 (x := 0) (by omega) (by omega), u64l hx, u64 (x := rest * 4294967296) (by omega) (by omega), or_limb hr hx, decide_eq_false (by omega)]
    · simp only [nat_Div.j2]; rw [if_neg (by simp)]
  | succ m ih =>
    intro g rest hg1 hg2 hg3 hr he
    have hgv : 0 ≤ g * v2 ∧ g * v2 < 18446744073709551616 := by
      have h1 : 0 ≤ g * v2 := Int.mul_nonneg (by omega) hv2.1
      have h2 : g * v2 ≤ 4294967297 * v2 := Int.mul_le_mul_of_nonneg_right hg3 hv2.1
      omega
    have hW : g * (v1 * 4294967296 + v2) = (two - rest) * 4294967296 + g * v2 := by rw [← he]; grind
    have hqle : g ≤ q → g * (v1 * 4294967296 + v2) ≤ q * (v1 * 4294967296 + v2) := fun h => Int.mul_le_mul_of_nonneg_right h (by omega)
    have down : q + 1 ≤ g → (g - 1) * v1 + (rest + v1) = two := fun _ => by rw [← he]; grind
    have hgg : (g - 1) * v1 = two - rest - v1 := by rw [← he]; grind
    by_cases hcond : g ≥ 4294967296 ∨ g * v2 > rest * 4294967296 + x
    · have hqg : q + 1 ≤ g := by
        rcases hcond with h | h
        · omega
        · have := hqle; omega
      have hd := down hqg
      have ej : ∀ R, Ev (fun k => nat_Div.j2 k s u v (n : Int) qd v1 v2 (j : Int) g rest true) R → Ev (fun k => nat_Div.l1 k s u v (n : Int) qd v1 v2 (j : Int) g rest) R := fun R hR => Ev.step (fun k => by
        simp only [nat_Div.l1]
        by_cases h : g ≥ 4294967296
        · rw [if_pos h]
        · rw [if_neg h, e1, if_pos hi1, if_pos hi2, erd, u64 hgv.1 hgv.2, u64l hx, u64 (x := rest * 4294967296) (by omega) (by omega), or_limb hr hx, decide_eq_true (by omega)]) hR
      by_cases hrest : rest + v1 ≥ 4294967296
      · have hlt : g - 1 < 4294967296 := by
          by_cases h : g - 1 < 4294967296
          · exact h
          · exfalso
            have : 4294967296 * v1 ≤ (g - 1) * v1 := Int.mul_le_mul_of_nonneg_right (by omega) (by omega)
            omega
        refine ⟨g - 1, ⟨by omega, hlt, ?_⟩, fun R hR => ej R (Ev.step (fun k => ?_) hR)⟩
        · have h1 : (g - 1) * v2 ≤ 4294967295 * v2 := Int.mul_le_mul_of_nonneg_right (by omega) hv2.1
          have h2 : (g - 1) * (v1 * 4294967296 + v2) = (two - (rest + v1)) * 4294967296 + (g - 1) * v2 := by rw [← hd]; grind
          omega
        · simp only [nat_Div.j2]
          rw [if_pos trivial, u64 (x := rest + v1) (by omega) (by omega), if_pos hrest, u64 (x := g - 1) (by omega) (by omega)]
      · obtain ⟨g', h1, h2⟩ := ih (g - 1) (rest + v1) (by omega) (by omega) (by omega) ⟨by omega, by omega⟩ hd
        refine ⟨g', h1, fun R hR => ej R (Ev.step (fun k => ?_) (h2 R hR))⟩
        simp only [nat_Div.j2]
        rw [if_pos trivial, u64 (x := rest + v1) (by omega) (by omega), if_neg hrest, u64 (x := g - 1) (by omega) (by omega)]
    · have hn1 : ¬ g ≥ 4294967296 := fun h => hcond (.inl h)
      have hn2 : ¬ g * v2 > rest * 4294967296 + x := fun h => hcond (.inr h)
      refine ⟨g, ⟨hg2, by omega, by omega⟩, fun R hR => Ev.step (fun k => ?_) (Ev.step (g := fun k => nat_Div.j2 k s u v (n : Int) qd v1 v2 (j : Int) g rest false) (fun k => ?_) hR)⟩
      · simp only [nat_Div.l1]
        rw [if_neg hn1, e1, if_pos hi1, if_pos hi2, erd, u64 hgv.1 hgv.2, u64l hx, u64 (x := rest * 4294967296) (by omega) (by omega), or_limb hr hx, decide_eq_false hn2]
      · simp only [nat_Div.j2]; rw [if_neg (by simp)]

/-! ### Cuts -/
theorem Ev.mapv {α β : Type} {f : Nat → Option α} {r : α} (g : α → β) (h : Ev f r) : Ev (fun k => (f k).map g) (g r) :=
  Ev.congr (fun k => Option.map_eq_bind) (Ev.bind (f := fun _ t => some (g t)) h (Ev.now _))
theorem less_at {u v : List Int} {g : Int} {j m : Nat} (hu : Lim u) (hv : Lim v) (hg : 0 ≤ g ∧ g < 4294967296) (h : u.length ≤ 100000000) (hm : j + m ≤ u.length) (hvl : v.length < m) :
    ∃ w, Ev (fun k => nat_lessAt.f k u v g (j : Int) ((j + m : Nat) : Int)) (decide (val ((u.take (j + m)).drop j) < g * val v), u.take j ++ (w ++ u.drop (j + m))) ∧ Lim w ∧ w.length = m ∧
      val w = val ((u.take (j + m)).drop j) - g * val v + (if val ((u.take (j + m)).drop j) < g * val v then pw m else 0) := by
  have hl : ((u.take (j + m)).drop j).length = m := by rw [List.length_drop, List.length_take]; omega
  obtain ⟨w, ew, g1, g2, g3⟩ := less_good (o := (u.take (j + m)).drop j) (v := v) (g := g) (lim_drop (lim_take hu _) _) hv hg (by omega) (by omega)
  rw [hl] at g2 g3
  refine ⟨w, Ev.congr (fun k => ?_) (Ev.mapv (fun p => (p.1, u.take j ++ (p.2 ++ u.drop (j + m)))) ew), g1, g2, g3⟩
  show nat_lessAt.f k u v g _ _ = _
  unfold nat_lessAt.f
  rw [if_pos (by omega), Int.toNat_natCast, Int.toNat_natCast]
theorem more_at {u v : List Int} {j m : Nat} (hu : Lim u) (hv : Lim v) (h : u.length ≤ 100000000) (hm : j + m ≤ u.length) (hvl : v.length < m) :
    ∃ w, Ev (fun k => nat_moreAt.f k u v (j : Int) ((j + m : Nat) : Int)) (u.take j ++ (w ++ u.drop (j + m))) ∧ Lim w ∧ w.length = m ∧
      (pw m ≤ val ((u.take (j + m)).drop j) + val v → val w = val ((u.take (j + m)).drop j) + val v - pw m) := by
  have hl : ((u.take (j + m)).drop j).length = m := by rw [List.length_drop, List.length_take]; omega
  obtain ⟨w, ew, g1, g2, g3⟩ := more_good (o := (u.take (j + m)).drop j) (v := v) (lim_drop (lim_take hu _) _) hv (by omega) (by omega)
  rw [hl] at g2 g3
  refine ⟨w, Ev.congr (fun k => ?_) (Ev.mapv (fun p => u.take j ++ (p ++ u.drop (j + m))) ew), g1, g2, g3⟩
  show nat_moreAt.f k u v _ _ = _
  unfold nat_moreAt.f
  rw [if_pos (by omega), Int.toNat_natCast, Int.toNat_natCast]
theorem cut_win {a w b : List Int} {j m : Nat} (ha : a.length = j) (hw : w.length = m) :
    (a ++ (w ++ b)).take j = a ∧ ((a ++ (w ++ b)).take (j + m)).drop j = w ∧ (a ++ (w ++ b)).drop (j + m) = b := by
  subst ha hw
  refine ⟨by simp, ?_, ?_⟩
  · rw [← List.append_assoc, List.take_left' (by simp), List.drop_left' rfl]
  · rw [← List.append_assoc, List.drop_left' (by simp)]
theorem val_win (u : List Int) {j m : Nat} (h : j + m ≤ u.length) : val u = val (u.take j) + pw j * (val ((u.take (j + m)).drop j) + pw m * val (u.drop (j + m))) := by
  have h1 := val_split u (j + m) h
  have h2 := val_split (u.take (j + m)) j (by rw [List.length_take]; omega)
  rw [List.take_take, Nat.min_eq_left (by omega)] at h2
  rw [h1, h2, pw_add]; grind
theorem getD_win (u : List Int) {j m i : Nat} (h : i < m) : ((u.take (j + m)).drop j).getD i 0 = u.getD (j + i) 0 := by
  simp only [List.getD_eq_getElem?_getD, List.getElem?_drop]
  rw [List.getElem?_take_of_lt (by omega)]
/-- The two numbers a guess is made of. -/
theorem win_top (w : List Int) (m : Nat) (h : w.length = m + 3) : val w = (w.getD (m + 2) 0 * 4294967296 * 4294967296 + w.getD (m + 1) 0 * 4294967296 + w.getD m 0) * pw m + val (w.take m) := by
  have h1 := val_take_next w m
  have h2 := val_take_next w (m + 1)
  have h3 := val_take_next w (m + 2)
  rw [List.take_of_length_le (by omega)] at h3
  rw [pw_succ] at h2 h3
  rw [pw_succ] at h3
  rw [h3, h2, h1]; grind
theorem win_top2 (v : List Int) (m : Nat) (h : v.length = m + 2) : val v = (v.getD (m + 1) 0 * 4294967296 + v.getD m 0) * pw m + val (v.take m) := by
  have h1 := val_take_next v m
  have h2 := val_take_next v (m + 1)
  rw [List.take_of_length_le (by omega)] at h2
  rw [pw_succ] at h2
  rw [h2, h1]; grind


end Go.Proofs.Ytlhgagmghahbhaa.N
