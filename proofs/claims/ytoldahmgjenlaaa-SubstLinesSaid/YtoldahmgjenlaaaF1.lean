/- subst.shape, the literal that tells bad glyphs, slices.IndexFunc and ContainsFunc at []int over it: walked by hand. -/
import Derived.WalkSpells
import Derived.Handy
import Derived.Test.YtoldahmgjenlaaaQx0
namespace Go.Proofs.Ytoldahmgjenlaaa.Q
open Go.RowKit Go.Proofs.YtoldahmgjenlaaaW.PrintWords Go.Proofs.YtoldahmgjenlaaaW.PrintLast Go.Proofs.YtoldahmgjenlaaaW.PrintMore
attribute [local go_sem] max2_int min2_int max_two min_two max_three min_three max_four min_four
set_option linter.unusedVariables false
set_option linter.unusedSimpArgs false

/-- How many glyphs a rule may have. -/
def shapev (kind : Int) : Int × Int × Int × Int := if kind = 1 then (1, 1, 1, 1) else if kind = 2 then (1, 1, 0, 8) else if kind = 3 then (2, 8, 1, 1) else (1, 8, 0, 0)
set_option maxHeartbeats 4000000 in
theorem shape_calls (kind : Int) (w : World) :
    Calls Try.prog 52 #[.int .i64 kind] w fun e w' => e = .returned (.agg #[.int .i64 (shapev kind).1, .int .i64 (shapev kind).2.1, .int .i64 (shapev kind).2.2.1, .int .i64 (shapev kind).2.2.2]) ∧ Below w.heap.size w w' := by
  have hu78 := Try.underlying78
  by_cases h1 : kind = 1
  · subst h1
    go_enter Try.func52, Try.ntmps52
    go_wp2
    go_returns
    exact ⟨rfl, by repeat (first | (with_reducible first | exact Below.refl _ _ | apply below_alloc | apply pw_below_drewN | apply below_drew1))⟩
  by_cases h2 : kind = 2
  · subst h2
    go_enter Try.func52, Try.ntmps52
    go_wp2
    go_returns
    exact ⟨rfl, by repeat (first | (with_reducible first | exact Below.refl _ _ | apply below_alloc | apply pw_below_drewN | apply below_drew1))⟩
  by_cases h3 : kind = 3
  · subst h3
    go_enter Try.func52, Try.ntmps52
    go_wp2
    go_returns
    exact ⟨rfl, by repeat (first | (with_reducible first | exact Below.refl _ _ | apply below_alloc | apply pw_below_drewN | apply below_drew1))⟩
  · have e : shapev kind = (1, 8, 0, 0) := by unfold shapev; rw [if_neg h1, if_neg h2, if_neg h3]
    rw [e]
    have d1 : (kind == 1) = false := by simp [h1]
    have d2 : (kind == 2) = false := by simp [h2]
    have d3 : (kind == 3) = false := by simp [h3]
    clear e h1 h2 h3
    go_enter Try.func52, Try.ntmps52
    go_wp2
    go_returns
    exact ⟨rfl, by repeat (first | (with_reducible first | exact Below.refl _ _ | apply below_alloc | apply pw_below_drewN | apply below_drew1))⟩

/-- The literal: no glyph. -/
def badv (glyphs g : Int) : Bool := decide (g < 0) || decide (g ≥ glyphs)
theorem bad_calls (g glyphs : Int) (B : Nat) (w : World) (hc : w.cell? ⟨B, 0, none⟩ = some (.int .i64 glyphs)) :
    Calls Try.prog 53 #[.int .i64 g, .pointer (some ⟨B, 0, none⟩)] w fun e w' => e = .returned (.bool (badv glyphs g)) ∧ w' = w := by
  unfold badv
  by_cases h : g < 0
  · have d1 : decide (g < 0) = true := decide_eq_true h
    clear h
    go_enter Try.func53, Try.ntmps53
    go_wp2
    go_ret
    exact ⟨by rw [d1]; rfl, rfl⟩
  · have d1 : decide (g < 0) = false := decide_eq_false h
    clear h
    go_enter Try.func53, Try.ntmps53
    go_wp2
    go_ret
    exact ⟨by rw [d1]; rfl, rfl⟩
theorem up_one {k n : Nat} (h : k < n) (hn : n ≤ 9223372036854775807) : wrap64 ((k : Int) + 1) = ((k + 1 : Nat) : Int) := by unfold wrap64; omega
theorem down_one {k n : Nat} (h : k < n) : n - (k + 1) < n - k := by omega
theorem num_of (k : IntKind) (n : Int) : intOf (.int k n) = n := by cases k <;> rfl
theorem meas_one {k n : Nat} (h : k < n) (hn : n ≤ 9223372036854775807) : n - (intOf (Value.int .i64 (wrap64 ((k : Int) + 1)))).toNat < n - (intOf (Value.int .i64 (k : Int))).toNat := by
  rw [num_of, num_of, up_one h hn, Int.toNat_natCast, Int.toNat_natCast]; omega
theorem any_hit {α : Type} (p : α → Bool) (l : List α) (d : α) (k : Nat) (h : k < l.length) (hp : p (l.getD k d) = true) : l.any p = true := by
  rw [List.any_eq_true]
  exact ⟨l[k], List.getElem_mem h, by rwa [show l.getD k d = l[k] by simp [List.getD, h]] at hp⟩
theorem any_miss {α : Type} (p : α → Bool) (l : List α) (d : α) (h : ∀ j, j < l.length → p (l.getD j d) = false) : l.any p = false := by
  rw [List.any_eq_false]
  intro x hx
  obtain ⟨i, hi, rfl⟩ := List.mem_iff_getElem.1 hx
  have := h i hi
  rw [show l.getD i d = l[i] by simp [List.getD, hi]] at this
  simp [this]
set_option maxHeartbeats 4000000 in
theorem indexInt_calls (glyphs : Int) (B : Nat) (A : Option Addr) (c : Nat) (l : List Int) (w : World) (hC : Kd.C (Kd.int .i64) w A l.length l) (hc : w.cell? ⟨B, 0, none⟩ = some (.int .i64 glyphs)) :
    Calls Try.prog 56 #[.slice A l.length c, .func (.func 53) #[] #[.pointer (some ⟨B, 0, none⟩)]] w fun e w' => ∃ i : Int, e = .returned (.int .i64 i) ∧ decide (0 ≤ i) = l.any (badv glyphs) ∧ w' = w := by
  have HC := Aside0.mk hC
  have HL := Aside0.mk hC.2.1
  have HB := Aside0.mk hc
  clear hC hc
  go_enter Try.func56, Try.ntmps56
  go_wp2
  go_loop [5, 8] (fun _ v8 => ∃ k : Nat, k ≤ l.length ∧ v8 = .int .i64 k ∧ Aside0 (∀ j, j < k → badv glyphs (l.getD j 0) = false)) (fun _ v8 => l.length - (intOf v8).toNat)
  case atStart => exact ⟨0, Nat.zero_le _, rfl, ⟨fun j hj => absurd hj (Nat.not_lt_zero _)⟩⟩
  case round =>
    obtain ⟨k, hk, rfl, HA⟩ := hrel
    by_cases hlt : k < l.length
    · have hlt2 : (k : Int) < (l.length : Int) := by omega
      obtain ⟨ad, rfl, hx⟩ := Kd.at_int HC.out (k : Int) (by omega) hlt2
      rw [Int.toNat_natCast] at hx
      have hcall := bad_calls (rd l (k : Int)) glyphs B w HB.out
      have HK := Aside0.mk hlt
      obtain ⟨q, hq⟩ : ∃ q, badv glyphs (rd l (k : Int)) = q := ⟨_, rfl⟩
      rw [hq] at hcall
      have HQ := Aside0.mk hq
      clear hq hlt
      cases q with
      | true =>
        go_wp2_with (go_at_call 53; refine hcall.mono ?_; rintro e w' ⟨rfl, rfl⟩)
        go_ret
        exact ⟨_, rfl, (decide_eq_true (by omega)).trans (any_hit _ _ 0 k HK.out HQ.out).symm, rfl⟩
      | false =>
        go_wp2_with (go_at_call 53; refine hcall.mono ?_; rintro e w' ⟨rfl, rfl⟩)
        go_round
        case rel =>
          refine ⟨k + 1, HK.out, by rw [up_one HK.out HL.out], ⟨fun j hj => ?_⟩⟩
          by_cases e : j = k
          · subst e; exact HQ.out
          · exact HA.out j (by omega)
        case measure => exact meas_one HK.out HL.out
    · obtain rfl : k = l.length := by omega
      go_wp2
      go_ret
      exact ⟨_, rfl, (decide_eq_false (by omega)).trans (any_miss _ _ 0 HA.out).symm, rfl⟩
theorem containsInt_calls (glyphs : Int) (B : Nat) (A : Option Addr) (c : Nat) (l : List Int) (w : World) (hC : Kd.C (Kd.int .i64) w A l.length l) (hc : w.cell? ⟨B, 0, none⟩ = some (.int .i64 glyphs)) :
    Calls Try.prog 54 #[.slice A l.length c, .func (.func 53) #[] #[.pointer (some ⟨B, 0, none⟩)]] w fun e w' => e = .returned (.bool (l.any (badv glyphs))) ∧ w' = w := by
  have hcall := indexInt_calls glyphs B A c l w hC hc
  clear hC hc
  obtain ⟨q, hq⟩ : ∃ q, l.any (badv glyphs) = q := ⟨_, rfl⟩
  rw [hq] at hcall ⊢
  clear hq
  go_enter Try.func54, Try.ntmps54
  go_wp2_with (go_at_call 56; refine hcall.mono ?_; rintro e w' ⟨i, rfl, hi, rfl⟩)
  go_ret
  exact ⟨by rw [← hi]; rfl, rfl⟩
end Go.Proofs.Ytoldahmgjenlaaa.Q
