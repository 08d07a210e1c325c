-- Written by a program of this session, out of the kit's print tool (see NOTES.md: mypr)
import Derived.Test.YtoldahmgjenlaaaQx0
import Derived.Test.YtoldahmgjenlaaaQx1
namespace Go.Proofs.Ytoldahmgjenlaaa.Q
open Go.RowKit Go.Proofs.YtoldahmgjenlaaaW.PrintWords Go.Proofs.YtoldahmgjenlaaaW.PrintLast Go.Proofs.YtoldahmgjenlaaaW.PrintMore
attribute [local go_sem] max2_int min2_int max_two min_two max_three min_three max_four min_four   -- for this text's walks alone
set_option linter.unusedVariables false
set_option linter.unusedSimpArgs false

attribute [local go_sem high] eqA41
/-! ### foundryref20_Puts: function 45 -/
def foundryref20_Puts.f (a0 : Int) : Option (Bool) := if a0 = 1 then (some true) else (if a0 = 2 then (some true) else (if a0 = 3 then (some true) else (some (a0 == 4))))
set_option maxHeartbeats 8000000 in
set_option maxRecDepth 100000 in
theorem foundryref20_Puts.calls (a0 : Int) (r : Bool) (w : World) (h : foundryref20_Puts.f a0 = some r) :
  Calls Try.prog 45 #[.int .i64 a0] w fun e w' => e = .returned (.bool r) ∧ Drawn0 w w' := by
 have H : (if a0 = 1 then (some true) else (if a0 = 2 then (some true) else (if a0 = 3 then (some true) else (some (a0 == 4))))) = some r := h
 clear h
 by_cases c2 : a0 = 1
 ·rw [if_pos c2] at H
  have c2b0 : (a0 == 1) = true := beq_iff_eq.mpr c2
  have c2b1 : (a0 != 1) = false := bne_eq_false_iff_eq.mpr c2
  clear c2
  obtain rfl := Option.some.inj H
  go_enter Try.func45, Try.ntmps45
  go_wp2
  go_ret
  exact ⟨by first | rfl | (simp; done) | (simp [*]; done), by repeat (first | exact Drawn0.refl _ | apply Drawn0.step)⟩
 ·rw [if_neg c2] at H
  have c2b0 : (a0 == 1) = false := beq_eq_false_iff_ne.mpr c2
  have c2b1 : (a0 != 1) = true := bne_iff_ne.mpr c2
  by_cases c3 : a0 = 2
  ·rw [if_pos c3] at H
   have c3b0 : (a0 == 2) = true := beq_iff_eq.mpr c3
   have c3b1 : (a0 != 2) = false := bne_eq_false_iff_eq.mpr c3
   clear c3
   obtain rfl := Option.some.inj H
   go_enter Try.func45, Try.ntmps45
   go_wp2
   go_ret
   exact ⟨by first | rfl | (simp; done) | (simp [*]; done), by repeat (first | exact Drawn0.refl _ | apply Drawn0.step)⟩
  ·rw [if_neg c3] at H
   have c3b0 : (a0 == 2) = false := beq_eq_false_iff_ne.mpr c3
   have c3b1 : (a0 != 2) = true := bne_iff_ne.mpr c3
   by_cases c4 : a0 = 3
   ·rw [if_pos c4] at H
    have c4b0 : (a0 == 3) = true := beq_iff_eq.mpr c4
    have c4b1 : (a0 != 3) = false := bne_eq_false_iff_eq.mpr c4
    clear c4
    obtain rfl := Option.some.inj H
    go_enter Try.func45, Try.ntmps45
    go_wp2
    go_ret
    exact ⟨by first | rfl | (simp; done) | (simp [*]; done), by repeat (first | exact Drawn0.refl _ | apply Drawn0.step)⟩
   ·rw [if_neg c4] at H
    have c4b0 : (a0 == 3) = false := beq_eq_false_iff_ne.mpr c4
    have c4b1 : (a0 != 3) = true := bne_iff_ne.mpr c4
    obtain rfl := Option.some.inj H
    go_enter Try.func45, Try.ntmps45
    go_wp2
    go_ret
    exact ⟨by first | rfl | (simp; done) | (simp [*]; done), by repeat (first | exact Drawn0.refl _ | apply Drawn0.step)⟩

/-! ### foundryref20_all: function 55 -/
def foundryref20_all.l0 : Nat → List Int → Int → Int → Int → Int → Option (Bool)
 | 0, _, _, _, _, _ => none
 | k + 1, x0, x1, x2, x3, x9 => if x9 < (x0.length : Int) then (if 0 ≤ x9 then (if (rd x0 x9) < 0 then (some false) else (if (rd x0 x9) ≥ x1 then (some false) else (foundryref20_all.l0 k x0 x1 x2 x3 (wrap64 (x9 + 1))))) else (none)) else (if (x0.length : Int) ≥ x2 then (some (decide ((x0.length : Int) ≤ x3))) else (some false))
def foundryref20_all.f (k : Nat) (l0 : List Int) (a1 : Int) (a2 : Int) (a3 : Int) : Option (Bool) := foundryref20_all.l0 k l0 a1 a2 a3 0
theorem foundryref20_all.mono_l : ∀ k, (∀ y0 y1 y2 y3 y4, LeO (foundryref20_all.l0 k y0 y1 y2 y3 y4) (foundryref20_all.l0 (k + 1) y0 y1 y2 y3 y4))
 | 0 => fun _ _ _ _ _ r h => by simp [foundryref20_all.l0] at h
 | k + 1 => by
  have ih0 := foundryref20_all.mono_l k
  ·intro y0 y1 y2 y3 y4
   unfold foundryref20_all.l0
   repeat' first
   | (with_reducible exact ih0 _ _ _ _ _)
   | (with_reducible exact LeO.refl _)
   | (with_reducible exact LeO.none _)
   | (with_reducible refine LeO.ite ?_ ?_)
   | (with_reducible refine LeO.bind ?_ (fun _ => ?_))
   | exact ih0 _ _ _ _ _
   | exact LeO.none _
   | refine LeO.ite ?_ ?_
   | refine LeO.bind ?_ (fun _ => ?_)
theorem foundryref20_all.mono : ∀ a0 a1 a2 a3 k, LeO (foundryref20_all.f k a0 a1 a2 a3) (foundryref20_all.f (k + 1) a0 a1 a2 a3) := by
 intro a0 a1 a2 a3 k
 have ih0 := foundryref20_all.mono_l k
 unfold foundryref20_all.f
 repeat' first
   | (with_reducible exact ih0 _ _ _ _ _)
   | (with_reducible exact LeO.refl _)
   | (with_reducible exact LeO.none _)
   | (with_reducible refine LeO.ite ?_ ?_)
   | (with_reducible refine LeO.bind ?_ (fun _ => ?_))
   | exact ih0 _ _ _ _ _
   | exact LeO.none _
   | refine LeO.ite ?_ ?_
   | refine LeO.bind ?_ (fun _ => ?_)
set_option maxHeartbeats 8000000 in
set_option maxRecDepth 100000 in
theorem foundryref20_all.calls (k : Nat) (A0 : Option Addr) (c0 : Nat) (l0 : List Int) (a1 : Int) (a2 : Int) (a3 : Int) (r : Bool) (w : World) (hr0 : Kd.C (Kd.int .i64) w A0 l0.length l0) (hc0 : l0.length ≤ c0) (h : foundryref20_all.f k l0 a1 a2 a3 = some r) :
  Calls Try.prog 55 #[.slice A0 l0.length c0, .int .i64 a1, .int .i64 a2, .int .i64 a3] w fun e w' => e = .returned (.bool r) ∧ Drawn0 w w' := by
 have HR0 := Aside0.mk hr0
 have HC0 := Aside0.mk hc0
 clear hr0 hc0
 have H : (foundryref20_all.l0 k l0 a1 a2 a3 0) = some r := h
 clear h
 have H' := Aside0.mk H
 clear H
 go_enter Try.func55, Try.ntmps55
 go_wp2
 go_loopg [9] k (fun kq v9 w' => ∃ (x9_1 : Int), v9 = .int .i64 x9_1 ∧ Aside0 (foundryref20_all.l0 kq l0 a1 a2 a3 x9_1 = some r) ∧ Aside0 (kq ≤ k) ∧ Drawn0 w w')
 case atStart => exact ⟨(0), (by first | rfl | (simp; done) | (simp [*]; done)), H', ⟨Nat.le_refl _⟩, by repeat (first | exact Drawn0.refl _ | apply Drawn0.step)⟩
 case round =>
  clear H'
  try clear p2
  obtain ⟨x9_1, rfl, HA, HK1, ⟨m1, rfl⟩⟩ := hrel
  cases gk with
  | zero => exact absurd HA.out (by simp [foundryref20_all.l0])
  | succ k1 =>
   have H := HA.out
   clear HA
   simp only [foundryref20_all.l0] at H
   by_cases c5 : x9_1 < (l0.length : Int)
   ·rw [if_pos c5] at H
    have c5b0 : decide (x9_1 < (l0.length : Int)) = true := decide_eq_true c5
    clear c5
    by_cases c6 : 0 ≤ x9_1
    ·rw [if_pos c6] at H
     have c6b0 : decide (0 ≤ x9_1) = true := decide_eq_true c6
     clear c6
     by_cases c7 : (rd l0 x9_1) < 0
     ·rw [if_pos c7] at H
      have c7b0 : decide ((rd l0 x9_1) < 0) = true := decide_eq_true c7
      clear c7
      obtain rfl := Option.some.inj H
      have p466 : 0 ≤ (x9_1 : Int) := of_decide_eq_true (by first | (with_reducible assumption) | assumption)
      have q466 : x9_1 < (l0.length : Int) := of_decide_eq_true (by first | (with_reducible assumption) | assumption)
      obtain ⟨ad466, e466, hx466_0⟩ := Kd.at_int HR0.out x9_1 p466 q466
      cases e466
      replace p466 := eq_true p466
      replace q466 := eq_true q466
      go_wp2
      go_ret
      exact ⟨by first | rfl | (simp; done) | (simp [*]; done), by repeat (first | exact Drawn0.refl _ | apply Drawn0.step)⟩
     ·rw [if_neg c7] at H
      have c7b0 : decide ((rd l0 x9_1) < 0) = false := decide_eq_false c7
      clear c7
      by_cases c8 : (rd l0 x9_1) ≥ a1
      ·rw [if_pos c8] at H
       have c8b0 : decide (a1 ≤ (rd l0 x9_1)) = true := decide_eq_true c8
       clear c8
       obtain rfl := Option.some.inj H
       have p466 : 0 ≤ (x9_1 : Int) := of_decide_eq_true (by first | (with_reducible assumption) | assumption)
       have q466 : x9_1 < (l0.length : Int) := of_decide_eq_true (by first | (with_reducible assumption) | assumption)
       obtain ⟨ad466, e466, hx466_0⟩ := Kd.at_int HR0.out x9_1 p466 q466
       cases e466
       replace p466 := eq_true p466
       replace q466 := eq_true q466
       have p467 : 0 ≤ (x9_1 : Int) := of_decide_eq_true (by first | (with_reducible assumption) | assumption)
       have q467 : x9_1 < (l0.length : Int) := of_decide_eq_true (by first | (with_reducible assumption) | assumption)
       obtain ⟨ad467, e467, hx467_0⟩ := Kd.at_int HR0.out x9_1 p467 q467
       obtain rfl : ad466 = ad467 := (by injection e467)
       replace p467 := eq_true p467
       replace q467 := eq_true q467
       go_wp2
       go_ret
       exact ⟨by first | rfl | (simp; done) | (simp [*]; done), by repeat (first | exact Drawn0.refl _ | apply Drawn0.step)⟩
      ·rw [if_neg c8] at H
       have c8b0 : decide (a1 ≤ (rd l0 x9_1)) = false := decide_eq_false c8
       clear c8
       have H' := Aside0.mk H
       clear H
       have p466 : 0 ≤ (x9_1 : Int) := of_decide_eq_true (by first | (with_reducible assumption) | assumption)
       have q466 : x9_1 < (l0.length : Int) := of_decide_eq_true (by first | (with_reducible assumption) | assumption)
       obtain ⟨ad466, e466, hx466_0⟩ := Kd.at_int HR0.out x9_1 p466 q466
       cases e466
       replace p466 := eq_true p466
       replace q466 := eq_true q466
       have p467 : 0 ≤ (x9_1 : Int) := of_decide_eq_true (by first | (with_reducible assumption) | assumption)
       have q467 : x9_1 < (l0.length : Int) := of_decide_eq_true (by first | (with_reducible assumption) | assumption)
       obtain ⟨ad467, e467, hx467_0⟩ := Kd.at_int HR0.out x9_1 p467 q467
       obtain rfl : ad466 = ad467 := (by injection e467)
       replace p467 := eq_true p467
       replace q467 := eq_true q467
       go_wp2
       go_roundg k1
       case measure => have := HK1.out; omega
       case rel => exact ⟨(wrap64 (x9_1 + 1)), (by first | rfl | (simp; done) | (simp [*]; done)), H', ⟨by have := HK1.out; omega⟩, by repeat (first | exact Drawn0.refl _ | apply Drawn0.step)⟩
    ·rw [if_neg c6] at H
     exact absurd H (by simp)
   ·rw [if_neg c5] at H
    have c5b0 : decide (x9_1 < (l0.length : Int)) = false := decide_eq_false c5
    clear c5
    by_cases c9 : (l0.length : Int) ≥ a2
    ·rw [if_pos c9] at H
     have c9b0 : decide (a2 ≤ (l0.length : Int)) = true := decide_eq_true c9
     clear c9
     obtain rfl := Option.some.inj H
     go_wp2
     go_ret
     exact ⟨by first | rfl | (simp; done) | (simp [*]; done), by repeat (first | exact Drawn0.refl _ | apply Drawn0.step)⟩
    ·rw [if_neg c9] at H
     have c9b0 : decide (a2 ≤ (l0.length : Int)) = false := decide_eq_false c9
     clear c9
     obtain rfl := Option.some.inj H
     go_wp2
     go_ret
     exact ⟨by first | rfl | (simp; done) | (simp [*]; done), by repeat (first | exact Drawn0.refl _ | apply Drawn0.step)⟩

/-! ### foundryref20_rule: function 49 -/
mutual
def foundryref20_rule.j0 : Nat → List (S46) → Int → Int → Bool → List Int → List Int → Int → Int → Int → Int → Int → Int → Int → Int → Option (Bool)
 | 0, _, _, _, _, _, _, _, _, _, _, _, _, _, _ => none
 | k + 1, x0, x1, x3, x24, x469000, x469001, x469002, x469003, x469004, x469005, x469006, x469007, x469008, x469009 => if x24 = true then (some false) else (if x1 = 4 then ((foundryref20_all.f k x469000 x3 1 8).bind fun t469 => (if t469 = true then (if (x469001.length : Int) = 0 then (if x469002 ≥ 0 then (if x469002 < (x469000.length : Int) then (if x469003 ≥ 0 then (if x469003 < (x0.length : Int) then (if 0 ≤ x469003 then ((foundryref20_Puts.f ((rd_T46 x0 x469003).f0)).bind fun t471 => (some t471)) else (none)) else (some false)) else (some false)) else (some false)) else (some false)) else (some false)) else (some false))) else (if x469002 = 0 then (foundryref20_rule.j1 k x1 x3 (x469003 != 0) x469000 x469001 x469002 x469003 x469004 x469005 x469006 x469007 x469008 x469009) else (foundryref20_rule.j1 k x1 x3 true x469000 x469001 x469002 x469003 x469004 x469005 x469006 x469007 x469008 x469009)))
def foundryref20_rule.j1 : Nat → Int → Int → Bool → List Int → List Int → Int → Int → Int → Int → Int → Int → Int → Int → Option (Bool)
 | 0, _, _, _, _, _, _, _, _, _, _, _, _, _ => none
 | k + 1, x1, x3, x78, x469000, x469001, x469002, x469003, x469004, x469005, x469006, x469007, x469008, x469009 => if x78 = true then (some false) else (if x1 = 1 then ((foundryref20_all.f k x469000 x3 1 1).bind fun t472 => (if t472 = true then ((foundryref20_all.f k x469001 x3 1 1).bind fun t473 => (some t473)) else (some false))) else (if x1 = 2 then ((foundryref20_all.f k x469000 x3 1 1).bind fun t474 => (if t474 = true then ((foundryref20_all.f k x469001 x3 0 8).bind fun t475 => (some t475)) else (some false))) else ((foundryref20_all.f k x469000 x3 2 8).bind fun t476 => (if t476 = true then ((foundryref20_all.f k x469001 x3 1 1).bind fun t477 => (some t477)) else (some false)))))
end
def foundryref20_rule.f (k : Nat) (l0 : List (S46)) (a1 : Int) (l2_0 : List Int) (l2_1 : List Int) (a2_2 : Int) (a2_3 : Int) (a2_4 : Int) (a2_5 : Int) (a2_6 : Int) (a2_7 : Int) (a2_8 : Int) (a2_9 : Int) (a3 : Int) : Option (Bool) := if (!(a2_4 == 0) || (!(a2_5 == 0))) = true then (foundryref20_rule.j0 k l0 a1 a3 true l2_0 l2_1 a2_2 a2_3 a2_4 a2_5 a2_6 a2_7 a2_8 a2_9) else (if (!(a2_6 == 0) || (!(a2_7 == 0))) = true then (foundryref20_rule.j0 k l0 a1 a3 true l2_0 l2_1 a2_2 a2_3 a2_4 a2_5 a2_6 a2_7 a2_8 a2_9) else (foundryref20_rule.j0 k l0 a1 a3 (!(a2_8 == 0) || (!(a2_9 == 0))) l2_0 l2_1 a2_2 a2_3 a2_4 a2_5 a2_6 a2_7 a2_8 a2_9))
theorem foundryref20_rule.mono_l : ∀ k, (∀ y0 y1 y2 y3 y4 y5 y6 y7 y8 y9 y10 y11 y12 y13, LeO (foundryref20_rule.j0 k y0 y1 y2 y3 y4 y5 y6 y7 y8 y9 y10 y11 y12 y13) (foundryref20_rule.j0 (k + 1) y0 y1 y2 y3 y4 y5 y6 y7 y8 y9 y10 y11 y12 y13)) ∧ (∀ y0 y1 y2 y3 y4 y5 y6 y7 y8 y9 y10 y11 y12, LeO (foundryref20_rule.j1 k y0 y1 y2 y3 y4 y5 y6 y7 y8 y9 y10 y11 y12) (foundryref20_rule.j1 (k + 1) y0 y1 y2 y3 y4 y5 y6 y7 y8 y9 y10 y11 y12))
 | 0 => ⟨fun _ _ _ _ _ _ _ _ _ _ _ _ _ _ r h => by simp [foundryref20_rule.j0] at h, fun _ _ _ _ _ _ _ _ _ _ _ _ _ r h => by simp [foundryref20_rule.j1] at h⟩
 | k + 1 => by
  obtain ⟨ih0, ih1⟩ := foundryref20_rule.mono_l k
  refine ⟨?_, ?_⟩
  ·intro y0 y1 y2 y3 y4 y5 y6 y7 y8 y9 y10 y11 y12 y13
   unfold foundryref20_rule.j0
   repeat' first
   | (with_reducible exact ih0 _ _ _ _ _ _ _ _ _ _ _ _ _ _)
   | (with_reducible exact ih1 _ _ _ _ _ _ _ _ _ _ _ _ _)
   | (with_reducible exact foundryref20_all.mono _ _ _ _ _)
   | (with_reducible exact LeO.refl _)
   | (with_reducible exact LeO.none _)
   | (with_reducible refine LeO.ite ?_ ?_)
   | (with_reducible refine LeO.bind ?_ (fun _ => ?_))
   | exact ih0 _ _ _ _ _ _ _ _ _ _ _ _ _ _
   | exact ih1 _ _ _ _ _ _ _ _ _ _ _ _ _
   | exact foundryref20_all.mono _ _ _ _ _
   | exact LeO.none _
   | refine LeO.ite ?_ ?_
   | refine LeO.bind ?_ (fun _ => ?_)
  ·intro y0 y1 y2 y3 y4 y5 y6 y7 y8 y9 y10 y11 y12
   unfold foundryref20_rule.j1
   repeat' first
   | (with_reducible exact ih0 _ _ _ _ _ _ _ _ _ _ _ _ _ _)
   | (with_reducible exact ih1 _ _ _ _ _ _ _ _ _ _ _ _ _)
   | (with_reducible exact foundryref20_all.mono _ _ _ _ _)
   | (with_reducible exact LeO.refl _)
   | (with_reducible exact LeO.none _)
   | (with_reducible refine LeO.ite ?_ ?_)
   | (with_reducible refine LeO.bind ?_ (fun _ => ?_))
   | exact ih0 _ _ _ _ _ _ _ _ _ _ _ _ _ _
   | exact ih1 _ _ _ _ _ _ _ _ _ _ _ _ _
   | exact foundryref20_all.mono _ _ _ _ _
   | exact LeO.none _
   | refine LeO.ite ?_ ?_
   | refine LeO.bind ?_ (fun _ => ?_)
theorem foundryref20_rule.mono : ∀ a0 a1 a2 a3 a4 a5 a6 a7 a8 a9 a10 a11 a12 k, LeO (foundryref20_rule.f k a0 a1 a2 a3 a4 a5 a6 a7 a8 a9 a10 a11 a12) (foundryref20_rule.f (k + 1) a0 a1 a2 a3 a4 a5 a6 a7 a8 a9 a10 a11 a12) := by
 intro a0 a1 a2 a3 a4 a5 a6 a7 a8 a9 a10 a11 a12 k
 obtain ⟨ih0, ih1⟩ := foundryref20_rule.mono_l k
 unfold foundryref20_rule.f
 repeat' first
   | (with_reducible exact ih0 _ _ _ _ _ _ _ _ _ _ _ _ _ _)
   | (with_reducible exact ih1 _ _ _ _ _ _ _ _ _ _ _ _ _)
   | (with_reducible exact foundryref20_all.mono _ _ _ _ _)
   | (with_reducible exact LeO.refl _)
   | (with_reducible exact LeO.none _)
   | (with_reducible refine LeO.ite ?_ ?_)
   | (with_reducible refine LeO.bind ?_ (fun _ => ?_))
   | exact ih0 _ _ _ _ _ _ _ _ _ _ _ _ _ _
   | exact ih1 _ _ _ _ _ _ _ _ _ _ _ _ _
   | exact foundryref20_all.mono _ _ _ _ _
   | exact LeO.none _
   | refine LeO.ite ?_ ?_
   | refine LeO.bind ?_ (fun _ => ?_)
set_option maxHeartbeats 8000000 in
set_option maxRecDepth 100000 in
theorem foundryref20_rule.calls (k : Nat) (A0 : Option Addr) (c0 : Nat) (l0 : List (S46)) (a1 : Int) (A2_0 : Option Addr) (c2_0 : Nat) (l2_0 : List Int) (A2_1 : Option Addr) (c2_1 : Nat) (l2_1 : List Int) (a2_2 : Int) (a2_3 : Int) (a2_4 : Int) (a2_5 : Int) (a2_6 : Int) (a2_7 : Int) (a2_8 : Int) (a2_9 : Int) (a3 : Int) (r : Bool) (w : World) (hr0 : Kd.C k46 w A0 l0.length l0) (hc0 : l0.length ≤ c0) (hr2_0 : Kd.C (Kd.int .i64) w A2_0 l2_0.length l2_0) (hc2_0 : l2_0.length ≤ c2_0) (hr2_1 : Kd.C (Kd.int .i64) w A2_1 l2_1.length l2_1) (hc2_1 : l2_1.length ≤ c2_1) (h : foundryref20_rule.f k l0 a1 l2_0 l2_1 a2_2 a2_3 a2_4 a2_5 a2_6 a2_7 a2_8 a2_9 a3 = some r) :
  Calls Try.prog 49 #[.slice A0 l0.length c0, .int .i64 a1, .agg #[.slice A2_0 l2_0.length c2_0, .slice A2_1 l2_1.length c2_1, .int .i64 a2_2, .int .i64 a2_3, .int .i64 a2_4, .int .i64 a2_5, .int .i64 a2_6, .int .i64 a2_7, .int .i64 a2_8, .int .i64 a2_9], .int .i64 a3] w fun e w' => e = .returned (.bool r) ∧ Below w.heap.size w w' := by
 have hu43 := Try.underlying43
 have hu41 := Try.underlying41
 have HR0 := Aside0.mk hr0
 have HC0 := Aside0.mk hc0
 clear hr0 hc0
 have HR2_0 := Aside0.mk hr2_0
 have HC2_0 := Aside0.mk hc2_0
 clear hr2_0 hc2_0
 have HR2_1 := Aside0.mk hr2_1
 have HC2_1 := Aside0.mk hc2_1
 clear hr2_1 hc2_1
 have HB := Aside0.mk (Below.refl w.heap.size w)
 have H : (if (!(a2_4 == 0) || (!(a2_5 == 0))) = true then (foundryref20_rule.j0 k l0 a1 a3 true l2_0 l2_1 a2_2 a2_3 a2_4 a2_5 a2_6 a2_7 a2_8 a2_9) else (if (!(a2_6 == 0) || (!(a2_7 == 0))) = true then (foundryref20_rule.j0 k l0 a1 a3 true l2_0 l2_1 a2_2 a2_3 a2_4 a2_5 a2_6 a2_7 a2_8 a2_9) else (foundryref20_rule.j0 k l0 a1 a3 (!(a2_8 == 0) || (!(a2_9 == 0))) l2_0 l2_1 a2_2 a2_3 a2_4 a2_5 a2_6 a2_7 a2_8 a2_9))) = some r := h
 clear h
 have HC5 := Aside0.mk H
 clear H
 go_enter Try.func49, Try.ntmps49
 go_upto_region 1 with (first | ((with_reducible refine gate_dst (N := 6) rfl ?_); (try (refine gate_guard (by rfl) ?_; dsimp only)); refine box_event ?hg (N := 6) ?hd (cs := #[.slice A2_0 l2_0.length c2_0, .slice A2_1 l2_1.length c2_1, .int .i64 a2_2, .int .i64 a2_3, .int .i64 a2_4, .int .i64 a2_5, .int .i64 a2_6, .int .i64 a2_7, .int .i64 a2_8, .int .i64 a2_9]) (t := 43) ?hr ?_; (case hd => rfl); (case hg => rfl); (case hr => first | (go_simp; done) | (go_simp; rfl)); intro gb468 hg w6 hbox hb; have n0_ := Aside0.mk (below_step (by repeat (first | (with_reducible first | exact HB.out | apply below_alloc | apply pw_below_drewN | apply below_drew1) | exact HB.out)) hb); have n1_ := Aside0.mk (hbox); have n2_ := Aside0.mk ((by rw [hg]; exact (below_size (by repeat (first | (with_reducible first | exact HB.out | apply below_alloc | apply pw_below_drewN | apply below_drew1) | exact HB.out))) : w.heap.size ≤ gb468)); have n3_ := Aside0.mk ((by rw [hg]; exact (below_size (by repeat (first | (with_reducible first | exact HB.out | apply below_alloc | apply pw_below_drewN | apply below_drew1) | exact HB.out))) : w.heap.size ≤ gb468)); clear HB; have HB := n0_; have BK468 := n1_; have GW468 := n2_; have GE468 := n3_; clear n0_ n1_ n2_ n3_; clear hb hbox hg))
 (try simp only [Act.put, List.setIfInBounds_toArray, List.set_cons_zero, List.set_cons_succ])
 go_cut [24] (fun v24 wc => ∃ (kq : Nat) (x24_4 : Bool), v24 = .bool x24_4 ∧ Aside0 (foundryref20_rule.j0 kq l0 a1 a3 x24_4 l2_0 l2_1 a2_2 a2_3 a2_4 a2_5 a2_6 a2_7 a2_8 a2_9 = some r) ∧ Aside0 (kq ≤ k) ∧ Aside0 (wc.heap[gb468]? = some (.cells #[(.slice A2_0 l2_0.length c2_0), (.slice A2_1 l2_1.length c2_1), .int .i64 a2_2, .int .i64 a2_3, .int .i64 a2_4, .int .i64 a2_5, .int .i64 a2_6, .int .i64 a2_7, .int .i64 a2_8, .int .i64 a2_9] 43 (0, 0))) ∧ Aside0 (Below w.heap.size w wc))
 case first =>
  have H := HC5.out
  clear HC5
  by_cases c7 : (!(a2_4 == 0) || (!(a2_5 == 0))) = true
  ·rw [if_pos c7] at H
   have c7b0 : (!(a2_4 == 0) || (!(a2_5 == 0))) = true := c7
   clear c7
   (first | rw [c7b0] | (simp only [i64_w, i32_w]; rw [c7b0]) | skip)
   have H' := Aside0.mk H
   clear H
   have hcz8_0 : w6.cell? ⟨gb468, 0, none⟩ = some (.slice A2_0 l2_0.length c2_0) := (blk_cell BK468.out 0).trans rfl
   have hcz8_1 : w6.cell? ⟨gb468, 1, none⟩ = some (.slice A2_1 l2_1.length c2_1) := (blk_cell BK468.out 1).trans rfl
   have hcz8_2 : w6.cell? ⟨gb468, 2, none⟩ = some (.int .i64 a2_2) := (blk_cell BK468.out 2).trans rfl
   have hcz8_3 : w6.cell? ⟨gb468, 3, none⟩ = some (.int .i64 a2_3) := (blk_cell BK468.out 3).trans rfl
   have hcz8_4 : w6.cell? ⟨gb468, 4, none⟩ = some (.int .i64 a2_4) := (blk_cell BK468.out 4).trans rfl
   have hcz8_5 : w6.cell? ⟨gb468, 5, none⟩ = some (.int .i64 a2_5) := (blk_cell BK468.out 5).trans rfl
   have hcz8_6 : w6.cell? ⟨gb468, 6, none⟩ = some (.int .i64 a2_6) := (blk_cell BK468.out 6).trans rfl
   have hcz8_7 : w6.cell? ⟨gb468, 7, none⟩ = some (.int .i64 a2_7) := (blk_cell BK468.out 7).trans rfl
   have hcz8_8 : w6.cell? ⟨gb468, 8, none⟩ = some (.int .i64 a2_8) := (blk_cell BK468.out 8).trans rfl
   have hcz8_9 : w6.cell? ⟨gb468, 9, none⟩ = some (.int .i64 a2_9) := (blk_cell BK468.out 9).trans rfl
   have hfz8_0 := blk_frozen BK468.out 0
   have hfz8_1 := blk_frozen BK468.out 1
   have hfz8_2 := blk_frozen BK468.out 2
   have hfz8_3 := blk_frozen BK468.out 3
   have hfz8_4 := blk_frozen BK468.out 4
   have hfz8_5 := blk_frozen BK468.out 5
   have hfz8_6 := blk_frozen BK468.out 6
   have hfz8_7 := blk_frozen BK468.out 7
   have hfz8_8 := blk_frozen BK468.out 8
   have hfz8_9 := blk_frozen BK468.out 9
   go_wp2
   go_meet
   case rel => exact ⟨_, (true), (by first | rfl | (simp; done) | (simp [*]; done)), H', ⟨by first | omega | exact Nat.le_refl _⟩, ⟨by (with_reducible repeat (first | refine blk_drewN ?_ _ | refine blk_drew ?_ | refine blk_alloc ?_ _)); exact BK468.out⟩, ⟨by repeat (first | (with_reducible first | exact HB.out | apply below_alloc | apply pw_below_drewN | apply below_drew1 | refine below_set ?_ GE468.out) | exact HB.out)⟩⟩
  ·rw [if_neg c7] at H
   have c7b0 : (!(a2_4 == 0) || (!(a2_5 == 0))) = false := by simpa using c7
   clear c7
   (first | rw [c7b0] | (simp only [i64_w, i32_w]; rw [c7b0]) | skip)
   by_cases c9 : (!(a2_6 == 0) || (!(a2_7 == 0))) = true
   ·rw [if_pos c9] at H
    have c9b0 : (!(a2_6 == 0) || (!(a2_7 == 0))) = true := c9
    clear c9
    have H' := Aside0.mk H
    clear H
    have hcz10_0 : w6.cell? ⟨gb468, 0, none⟩ = some (.slice A2_0 l2_0.length c2_0) := (blk_cell BK468.out 0).trans rfl
    have hcz10_1 : w6.cell? ⟨gb468, 1, none⟩ = some (.slice A2_1 l2_1.length c2_1) := (blk_cell BK468.out 1).trans rfl
    have hcz10_2 : w6.cell? ⟨gb468, 2, none⟩ = some (.int .i64 a2_2) := (blk_cell BK468.out 2).trans rfl
    have hcz10_3 : w6.cell? ⟨gb468, 3, none⟩ = some (.int .i64 a2_3) := (blk_cell BK468.out 3).trans rfl
    have hcz10_4 : w6.cell? ⟨gb468, 4, none⟩ = some (.int .i64 a2_4) := (blk_cell BK468.out 4).trans rfl
    have hcz10_5 : w6.cell? ⟨gb468, 5, none⟩ = some (.int .i64 a2_5) := (blk_cell BK468.out 5).trans rfl
    have hcz10_6 : w6.cell? ⟨gb468, 6, none⟩ = some (.int .i64 a2_6) := (blk_cell BK468.out 6).trans rfl
    have hcz10_7 : w6.cell? ⟨gb468, 7, none⟩ = some (.int .i64 a2_7) := (blk_cell BK468.out 7).trans rfl
    have hcz10_8 : w6.cell? ⟨gb468, 8, none⟩ = some (.int .i64 a2_8) := (blk_cell BK468.out 8).trans rfl
    have hcz10_9 : w6.cell? ⟨gb468, 9, none⟩ = some (.int .i64 a2_9) := (blk_cell BK468.out 9).trans rfl
    have hfz10_0 := blk_frozen BK468.out 0
    have hfz10_1 := blk_frozen BK468.out 1
    have hfz10_2 := blk_frozen BK468.out 2
    have hfz10_3 := blk_frozen BK468.out 3
    have hfz10_4 := blk_frozen BK468.out 4
    have hfz10_5 := blk_frozen BK468.out 5
    have hfz10_6 := blk_frozen BK468.out 6
    have hfz10_7 := blk_frozen BK468.out 7
    have hfz10_8 := blk_frozen BK468.out 8
    have hfz10_9 := blk_frozen BK468.out 9
    go_wp2
    go_meet
    case rel => exact ⟨_, (true), (by first | rfl | (simp; done) | (simp [*]; done)), H', ⟨by first | omega | exact Nat.le_refl _⟩, ⟨by (with_reducible repeat (first | refine blk_drewN ?_ _ | refine blk_drew ?_ | refine blk_alloc ?_ _)); exact BK468.out⟩, ⟨by repeat (first | (with_reducible first | exact HB.out | apply below_alloc | apply pw_below_drewN | apply below_drew1 | refine below_set ?_ GE468.out) | exact HB.out)⟩⟩
   ·rw [if_neg c9] at H
    have c9b0 : (!(a2_6 == 0) || (!(a2_7 == 0))) = false := by simpa using c9
    clear c9
    have H' := Aside0.mk H
    clear H
    have hcz11_0 : w6.cell? ⟨gb468, 0, none⟩ = some (.slice A2_0 l2_0.length c2_0) := (blk_cell BK468.out 0).trans rfl
    have hcz11_1 : w6.cell? ⟨gb468, 1, none⟩ = some (.slice A2_1 l2_1.length c2_1) := (blk_cell BK468.out 1).trans rfl
    have hcz11_2 : w6.cell? ⟨gb468, 2, none⟩ = some (.int .i64 a2_2) := (blk_cell BK468.out 2).trans rfl
    have hcz11_3 : w6.cell? ⟨gb468, 3, none⟩ = some (.int .i64 a2_3) := (blk_cell BK468.out 3).trans rfl
    have hcz11_4 : w6.cell? ⟨gb468, 4, none⟩ = some (.int .i64 a2_4) := (blk_cell BK468.out 4).trans rfl
    have hcz11_5 : w6.cell? ⟨gb468, 5, none⟩ = some (.int .i64 a2_5) := (blk_cell BK468.out 5).trans rfl
    have hcz11_6 : w6.cell? ⟨gb468, 6, none⟩ = some (.int .i64 a2_6) := (blk_cell BK468.out 6).trans rfl
    have hcz11_7 : w6.cell? ⟨gb468, 7, none⟩ = some (.int .i64 a2_7) := (blk_cell BK468.out 7).trans rfl
    have hcz11_8 : w6.cell? ⟨gb468, 8, none⟩ = some (.int .i64 a2_8) := (blk_cell BK468.out 8).trans rfl
    have hcz11_9 : w6.cell? ⟨gb468, 9, none⟩ = some (.int .i64 a2_9) := (blk_cell BK468.out 9).trans rfl
    have hfz11_0 := blk_frozen BK468.out 0
    have hfz11_1 := blk_frozen BK468.out 1
    have hfz11_2 := blk_frozen BK468.out 2
    have hfz11_3 := blk_frozen BK468.out 3
    have hfz11_4 := blk_frozen BK468.out 4
    have hfz11_5 := blk_frozen BK468.out 5
    have hfz11_6 := blk_frozen BK468.out 6
    have hfz11_7 := blk_frozen BK468.out 7
    have hfz11_8 := blk_frozen BK468.out 8
    have hfz11_9 := blk_frozen BK468.out 9
    go_wp2
    go_meet
    case rel => exact ⟨_, ((!(a2_8 == 0) || (!(a2_9 == 0)))), (by first | rfl | (simp; done) | (simp [*]; done)), H', ⟨by first | omega | exact Nat.le_refl _⟩, ⟨by (with_reducible repeat (first | refine blk_drewN ?_ _ | refine blk_drew ?_ | refine blk_alloc ?_ _)); exact BK468.out⟩, ⟨by repeat (first | (with_reducible first | exact HB.out | apply below_alloc | apply pw_below_drewN | apply below_drew1 | refine below_set ?_ GE468.out) | exact HB.out)⟩⟩
 case rest =>
  clear HC5
  try clear c2
  try clear p2
  try clear c4
  try clear c7
  try clear c7b0
  try clear c9
  try clear c9b0
  try clear hcz10_0
  try clear hcz10_1
  try clear hcz10_2
  try clear hcz10_3
  try clear hcz10_4
  try clear hcz10_5
  try clear hcz10_6
  try clear hcz10_7
  try clear hcz10_8
  try clear hcz10_9
  try clear hcz11_0
  try clear hcz11_1
  try clear hcz11_2
  try clear hcz11_3
  try clear hcz11_4
  try clear hcz11_5
  try clear hcz11_6
  try clear hcz11_7
  try clear hcz11_8
  try clear hcz11_9
  try clear hcz8_0
  try clear hcz8_1
  try clear hcz8_2
  try clear hcz8_3
  try clear hcz8_4
  try clear hcz8_5
  try clear hcz8_6
  try clear hcz8_7
  try clear hcz8_8
  try clear hcz8_9
  try clear hfz10_0
  try clear hfz10_1
  try clear hfz10_2
  try clear hfz10_3
  try clear hfz10_4
  try clear hfz10_5
  try clear hfz10_6
  try clear hfz10_7
  try clear hfz10_8
  try clear hfz10_9
  try clear hfz11_0
  try clear hfz11_1
  try clear hfz11_2
  try clear hfz11_3
  try clear hfz11_4
  try clear hfz11_5
  try clear hfz11_6
  try clear hfz11_7
  try clear hfz11_8
  try clear hfz11_9
  try clear hfz8_0
  try clear hfz8_1
  try clear hfz8_2
  try clear hfz8_3
  try clear hfz8_4
  try clear hfz8_5
  try clear hfz8_6
  try clear hfz8_7
  try clear hfz8_8
  try clear hfz8_9
  obtain ⟨kq, x24_4, rfl, HA, HJ4, BK468, HB⟩ := hcut
  cases kq with
  | zero => exact absurd HA.out (by simp [foundryref20_rule.j0])
  | succ kj4 =>
   have H := HA.out
   clear HA
   simp only [foundryref20_rule.j0] at H
   by_cases c12 : x24_4 = true
   ·subst c12
    have H1 : (some false) = some r := by rw [if_pos rfl] at H; exact H
    clear H
    have H := H1
    clear H1
    obtain rfl := Option.some.inj H
    go_wp2
    go_ret
    exact ⟨by first | rfl | (simp [errW_none, errW_some] <;> rfl) | (simp [*, errW_none, errW_some] <;> rfl), by repeat (first | (with_reducible first | exact HB.out | apply below_alloc | apply pw_below_drewN | apply below_drew1 | refine below_set ?_ GE468.out) | exact HB.out)⟩
   ·replace c12 := Bool.eq_false_iff.mpr c12
    subst c12
    have H1 : (if a1 = 4 then ((foundryref20_all.f kj4 l2_0 a3 1 8).bind fun t469 => (if t469 = true then (if (l2_1.length : Int) = 0 then (if a2_2 ≥ 0 then (if a2_2 < (l2_0.length : Int) then (if a2_3 ≥ 0 then (if a2_3 < (l0.length : Int) then (if 0 ≤ a2_3 then ((foundryref20_Puts.f ((rd_T46 l0 a2_3).f0)).bind fun t471 => (some t471)) else (none)) else (some false)) else (some false)) else (some false)) else (some false)) else (some false)) else (some false))) else (if a2_2 = 0 then (foundryref20_rule.j1 kj4 a1 a3 (a2_3 != 0) l2_0 l2_1 a2_2 a2_3 a2_4 a2_5 a2_6 a2_7 a2_8 a2_9) else (foundryref20_rule.j1 kj4 a1 a3 true l2_0 l2_1 a2_2 a2_3 a2_4 a2_5 a2_6 a2_7 a2_8 a2_9))) = some r := by rw [if_neg (show ¬ (false = true) by decide)] at H; exact H
    clear H
    have H := H1
    clear H1
    by_cases c13 : a1 = 4
    ·rw [if_pos c13] at H
     have c13b0 : (a1 == 4) = true := beq_iff_eq.mpr c13
     have c13b1 : (a1 != 4) = false := bne_eq_false_iff_eq.mpr c13
     clear c13
     replace H := Option.bind_eq_some_iff.mp H
     obtain ⟨t469, A140, H⟩ := H
     replace H : (if t469 = true then (if (l2_1.length : Int) = 0 then (if a2_2 ≥ 0 then (if a2_2 < (l2_0.length : Int) then (if a2_3 ≥ 0 then (if a2_3 < (l0.length : Int) then (if 0 ≤ a2_3 then ((foundryref20_Puts.f ((rd_T46 l0 a2_3).f0)).bind fun t471 => (some t471)) else (none)) else (some false)) else (some false)) else (some false)) else (some false)) else (some false)) else (some false)) = some r := H
     have A14 := Aside0.mk A140
     clear A140
     by_cases c15 : t469 = true
     ·subst c15
      have H1 : (if (l2_1.length : Int) = 0 then (if a2_2 ≥ 0 then (if a2_2 < (l2_0.length : Int) then (if a2_3 ≥ 0 then (if a2_3 < (l0.length : Int) then (if 0 ≤ a2_3 then ((foundryref20_Puts.f ((rd_T46 l0 a2_3).f0)).bind fun t471 => (some t471)) else (none)) else (some false)) else (some false)) else (some false)) else (some false)) else (some false)) = some r := by rw [if_pos rfl] at H; exact H
      clear H
      have H := H1
      clear H1
      by_cases c16 : (l2_1.length : Int) = 0
      ·rw [if_pos c16] at H
       have c16b0 : ((l2_1.length : Int) == 0) = true := beq_iff_eq.mpr c16
       have c16b1 : ((l2_1.length : Int) != 0) = false := bne_eq_false_iff_eq.mpr c16
       clear c16
       by_cases c17 : a2_2 ≥ 0
       ·rw [if_pos c17] at H
        have c17b0 : decide (0 ≤ a2_2) = true := decide_eq_true c17
        clear c17
        by_cases c18 : a2_2 < (l2_0.length : Int)
        ·rw [if_pos c18] at H
         have c18b0 : decide (a2_2 < (l2_0.length : Int)) = true := decide_eq_true c18
         clear c18
         by_cases c19 : a2_3 ≥ 0
         ·rw [if_pos c19] at H
          have c19b0 : decide (0 ≤ a2_3) = true := decide_eq_true c19
          clear c19
          by_cases c20 : a2_3 < (l0.length : Int)
          ·rw [if_pos c20] at H
           have c20b0 : decide (a2_3 < (l0.length : Int)) = true := decide_eq_true c20
           clear c20
           by_cases c21 : 0 ≤ a2_3
           ·rw [if_pos c21] at H
            have c21b0 : decide (0 ≤ a2_3) = true := decide_eq_true c21
            clear c21
            replace H := Option.bind_eq_some_iff.mp H
            obtain ⟨t471, A220, H⟩ := H
            replace H : (some t471) = some r := H
            have A22 := Aside0.mk A220
            clear A220
            obtain rfl := Option.some.inj H
            have hcz23_0 : wc.cell? ⟨gb468, 0, none⟩ = some (.slice A2_0 l2_0.length c2_0) := (blk_cell BK468.out 0).trans rfl
            have hcz23_1 : wc.cell? ⟨gb468, 1, none⟩ = some (.slice A2_1 l2_1.length c2_1) := (blk_cell BK468.out 1).trans rfl
            have hcz23_2 : wc.cell? ⟨gb468, 2, none⟩ = some (.int .i64 a2_2) := (blk_cell BK468.out 2).trans rfl
            have hcz23_3 : wc.cell? ⟨gb468, 3, none⟩ = some (.int .i64 a2_3) := (blk_cell BK468.out 3).trans rfl
            have hcz23_4 : wc.cell? ⟨gb468, 4, none⟩ = some (.int .i64 a2_4) := (blk_cell BK468.out 4).trans rfl
            have hcz23_5 : wc.cell? ⟨gb468, 5, none⟩ = some (.int .i64 a2_5) := (blk_cell BK468.out 5).trans rfl
            have hcz23_6 : wc.cell? ⟨gb468, 6, none⟩ = some (.int .i64 a2_6) := (blk_cell BK468.out 6).trans rfl
            have hcz23_7 : wc.cell? ⟨gb468, 7, none⟩ = some (.int .i64 a2_7) := (blk_cell BK468.out 7).trans rfl
            have hcz23_8 : wc.cell? ⟨gb468, 8, none⟩ = some (.int .i64 a2_8) := (blk_cell BK468.out 8).trans rfl
            have hcz23_9 : wc.cell? ⟨gb468, 9, none⟩ = some (.int .i64 a2_9) := (blk_cell BK468.out 9).trans rfl
            have hfz23_0 := blk_frozen BK468.out 0
            have hfz23_1 := blk_frozen BK468.out 1
            have hfz23_2 := blk_frozen BK468.out 2
            have hfz23_3 := blk_frozen BK468.out 3
            have hfz23_4 := blk_frozen BK468.out 4
            have hfz23_5 := blk_frozen BK468.out 5
            have hfz23_6 := blk_frozen BK468.out 6
            have hfz23_7 := blk_frozen BK468.out 7
            have hfz23_8 := blk_frozen BK468.out 8
            have hfz23_9 := blk_frozen BK468.out 9
            go_wp2_with (first | ((with_reducible refine gate_callee (f := 55) rfl ?_); refine goesL_ (some 30) rfl rfl Try.func55 (by kernel_rfl) rfl #[.slice A2_0 l2_0.length c2_0, .int .i64 a3, .int .i64 1, .int .i64 8] rfl (by (try simp only [List.map_toArray, List.map_cons, List.map_nil]); first | done | rfl | (simp only [List.length_drop, List.length_take]; rfl)) ?_; (with_reducible refine (foundryref20_all.calls kj4 _ _ l2_0 a3 1 8 true _ ?side1 ?side2 A14.out).mono ?_); (case side1 => repeat (first | exact (Kd.C_below HR2_0.out HB.out) | (with_reducible refine Kd.C_alloc ?_ _) | (with_reducible refine Kd.C_drewN ?_ _) | (with_reducible refine Kd.C_drew ?_))); (case side2 => exact HC2_0.out); rintro e w' ⟨rfl, ⟨nd, rfl⟩⟩; refine ⟨_, rfl, ?_⟩; have p470 : 0 ≤ (a2_3 : Int) := of_decide_eq_true (by first | (with_reducible assumption) | assumption); have q470 : a2_3 < (l0.length : Int) := of_decide_eq_true (by first | (with_reducible assumption) | assumption); obtain ⟨ad470, A470_2, c470_2, e470, hx470_0, hx470_1, hx470_2, hl470_2, hi470_2⟩ := at_T46 HR0.out a2_3 p470 q470; cases e470; replace hx470_0 := (HB.out.cell (World.block_lt_of_cell? w _ hx470_0)).trans hx470_0; replace hx470_1 := (HB.out.cell (World.block_lt_of_cell? w _ hx470_1)).trans hx470_1; replace hx470_2 := (HB.out.cell (World.block_lt_of_cell? w _ hx470_2)).trans hx470_2; have HR470_2 := Aside0.mk hi470_2; have HC470_2 := Aside0.mk hl470_2; clear hi470_2 hl470_2; replace p470 := eq_true p470; replace q470 := eq_true q470) | (go_at_call 45; (with_reducible refine (foundryref20_Puts.calls ((rd_T46 l0 a2_3).f0) t471 _ A22.out).mono ?_); rintro e w' ⟨rfl, ⟨nd, rfl⟩⟩))
            go_ret
            exact ⟨by first | rfl | (simp [errW_none, errW_some] <;> rfl) | (simp [*, errW_none, errW_some] <;> rfl), by repeat (first | (with_reducible first | exact HB.out | apply below_alloc | apply pw_below_drewN | apply below_drew1 | refine below_set ?_ GE468.out) | exact HB.out)⟩
           ·rw [if_neg c21] at H
            exact absurd H (by simp)
          ·rw [if_neg c20] at H
           have c20b0 : decide (a2_3 < (l0.length : Int)) = false := decide_eq_false c20
           clear c20
           obtain rfl := Option.some.inj H
           have hcz24_0 : wc.cell? ⟨gb468, 0, none⟩ = some (.slice A2_0 l2_0.length c2_0) := (blk_cell BK468.out 0).trans rfl
           have hcz24_1 : wc.cell? ⟨gb468, 1, none⟩ = some (.slice A2_1 l2_1.length c2_1) := (blk_cell BK468.out 1).trans rfl
           have hcz24_2 : wc.cell? ⟨gb468, 2, none⟩ = some (.int .i64 a2_2) := (blk_cell BK468.out 2).trans rfl
           have hcz24_3 : wc.cell? ⟨gb468, 3, none⟩ = some (.int .i64 a2_3) := (blk_cell BK468.out 3).trans rfl
           have hcz24_4 : wc.cell? ⟨gb468, 4, none⟩ = some (.int .i64 a2_4) := (blk_cell BK468.out 4).trans rfl
           have hcz24_5 : wc.cell? ⟨gb468, 5, none⟩ = some (.int .i64 a2_5) := (blk_cell BK468.out 5).trans rfl
           have hcz24_6 : wc.cell? ⟨gb468, 6, none⟩ = some (.int .i64 a2_6) := (blk_cell BK468.out 6).trans rfl
           have hcz24_7 : wc.cell? ⟨gb468, 7, none⟩ = some (.int .i64 a2_7) := (blk_cell BK468.out 7).trans rfl
           have hcz24_8 : wc.cell? ⟨gb468, 8, none⟩ = some (.int .i64 a2_8) := (blk_cell BK468.out 8).trans rfl
           have hcz24_9 : wc.cell? ⟨gb468, 9, none⟩ = some (.int .i64 a2_9) := (blk_cell BK468.out 9).trans rfl
           have hfz24_0 := blk_frozen BK468.out 0
           have hfz24_1 := blk_frozen BK468.out 1
           have hfz24_2 := blk_frozen BK468.out 2
           have hfz24_3 := blk_frozen BK468.out 3
           have hfz24_4 := blk_frozen BK468.out 4
           have hfz24_5 := blk_frozen BK468.out 5
           have hfz24_6 := blk_frozen BK468.out 6
           have hfz24_7 := blk_frozen BK468.out 7
           have hfz24_8 := blk_frozen BK468.out 8
           have hfz24_9 := blk_frozen BK468.out 9
           go_wp2_with (first | ((with_reducible refine gate_callee (f := 55) rfl ?_); refine goesL_ (some 30) rfl rfl Try.func55 (by kernel_rfl) rfl #[.slice A2_0 l2_0.length c2_0, .int .i64 a3, .int .i64 1, .int .i64 8] rfl (by (try simp only [List.map_toArray, List.map_cons, List.map_nil]); first | done | rfl | (simp only [List.length_drop, List.length_take]; rfl)) ?_; (with_reducible refine (foundryref20_all.calls kj4 _ _ l2_0 a3 1 8 true _ ?side1 ?side2 A14.out).mono ?_); (case side1 => repeat (first | exact (Kd.C_below HR2_0.out HB.out) | (with_reducible refine Kd.C_alloc ?_ _) | (with_reducible refine Kd.C_drewN ?_ _) | (with_reducible refine Kd.C_drew ?_))); (case side2 => exact HC2_0.out); rintro e w' ⟨rfl, ⟨nd, rfl⟩⟩; refine ⟨_, rfl, ?_⟩))
           go_ret
           exact ⟨by first | rfl | (simp [errW_none, errW_some] <;> rfl) | (simp [*, errW_none, errW_some] <;> rfl), by repeat (first | (with_reducible first | exact HB.out | apply below_alloc | apply pw_below_drewN | apply below_drew1 | refine below_set ?_ GE468.out) | exact HB.out)⟩
         ·rw [if_neg c19] at H
          have c19b0 : decide (0 ≤ a2_3) = false := decide_eq_false c19
          clear c19
          obtain rfl := Option.some.inj H
          have hcz25_0 : wc.cell? ⟨gb468, 0, none⟩ = some (.slice A2_0 l2_0.length c2_0) := (blk_cell BK468.out 0).trans rfl
          have hcz25_1 : wc.cell? ⟨gb468, 1, none⟩ = some (.slice A2_1 l2_1.length c2_1) := (blk_cell BK468.out 1).trans rfl
          have hcz25_2 : wc.cell? ⟨gb468, 2, none⟩ = some (.int .i64 a2_2) := (blk_cell BK468.out 2).trans rfl
          have hcz25_3 : wc.cell? ⟨gb468, 3, none⟩ = some (.int .i64 a2_3) := (blk_cell BK468.out 3).trans rfl
          have hcz25_4 : wc.cell? ⟨gb468, 4, none⟩ = some (.int .i64 a2_4) := (blk_cell BK468.out 4).trans rfl
          have hcz25_5 : wc.cell? ⟨gb468, 5, none⟩ = some (.int .i64 a2_5) := (blk_cell BK468.out 5).trans rfl
          have hcz25_6 : wc.cell? ⟨gb468, 6, none⟩ = some (.int .i64 a2_6) := (blk_cell BK468.out 6).trans rfl
          have hcz25_7 : wc.cell? ⟨gb468, 7, none⟩ = some (.int .i64 a2_7) := (blk_cell BK468.out 7).trans rfl
          have hcz25_8 : wc.cell? ⟨gb468, 8, none⟩ = some (.int .i64 a2_8) := (blk_cell BK468.out 8).trans rfl
          have hcz25_9 : wc.cell? ⟨gb468, 9, none⟩ = some (.int .i64 a2_9) := (blk_cell BK468.out 9).trans rfl
          have hfz25_0 := blk_frozen BK468.out 0
          have hfz25_1 := blk_frozen BK468.out 1
          have hfz25_2 := blk_frozen BK468.out 2
          have hfz25_3 := blk_frozen BK468.out 3
          have hfz25_4 := blk_frozen BK468.out 4
          have hfz25_5 := blk_frozen BK468.out 5
          have hfz25_6 := blk_frozen BK468.out 6
          have hfz25_7 := blk_frozen BK468.out 7
          have hfz25_8 := blk_frozen BK468.out 8
          have hfz25_9 := blk_frozen BK468.out 9
          go_wp2_with (first | ((with_reducible refine gate_callee (f := 55) rfl ?_); refine goesL_ (some 30) rfl rfl Try.func55 (by kernel_rfl) rfl #[.slice A2_0 l2_0.length c2_0, .int .i64 a3, .int .i64 1, .int .i64 8] rfl (by (try simp only [List.map_toArray, List.map_cons, List.map_nil]); first | done | rfl | (simp only [List.length_drop, List.length_take]; rfl)) ?_; (with_reducible refine (foundryref20_all.calls kj4 _ _ l2_0 a3 1 8 true _ ?side1 ?side2 A14.out).mono ?_); (case side1 => repeat (first | exact (Kd.C_below HR2_0.out HB.out) | (with_reducible refine Kd.C_alloc ?_ _) | (with_reducible refine Kd.C_drewN ?_ _) | (with_reducible refine Kd.C_drew ?_))); (case side2 => exact HC2_0.out); rintro e w' ⟨rfl, ⟨nd, rfl⟩⟩; refine ⟨_, rfl, ?_⟩))
          go_ret
          exact ⟨by first | rfl | (simp [errW_none, errW_some] <;> rfl) | (simp [*, errW_none, errW_some] <;> rfl), by repeat (first | (with_reducible first | exact HB.out | apply below_alloc | apply pw_below_drewN | apply below_drew1 | refine below_set ?_ GE468.out) | exact HB.out)⟩
        ·rw [if_neg c18] at H
         have c18b0 : decide (a2_2 < (l2_0.length : Int)) = false := decide_eq_false c18
         clear c18
         obtain rfl := Option.some.inj H
         have hcz26_0 : wc.cell? ⟨gb468, 0, none⟩ = some (.slice A2_0 l2_0.length c2_0) := (blk_cell BK468.out 0).trans rfl
         have hcz26_1 : wc.cell? ⟨gb468, 1, none⟩ = some (.slice A2_1 l2_1.length c2_1) := (blk_cell BK468.out 1).trans rfl
         have hcz26_2 : wc.cell? ⟨gb468, 2, none⟩ = some (.int .i64 a2_2) := (blk_cell BK468.out 2).trans rfl
         have hcz26_3 : wc.cell? ⟨gb468, 3, none⟩ = some (.int .i64 a2_3) := (blk_cell BK468.out 3).trans rfl
         have hcz26_4 : wc.cell? ⟨gb468, 4, none⟩ = some (.int .i64 a2_4) := (blk_cell BK468.out 4).trans rfl
         have hcz26_5 : wc.cell? ⟨gb468, 5, none⟩ = some (.int .i64 a2_5) := (blk_cell BK468.out 5).trans rfl
         have hcz26_6 : wc.cell? ⟨gb468, 6, none⟩ = some (.int .i64 a2_6) := (blk_cell BK468.out 6).trans rfl
         have hcz26_7 : wc.cell? ⟨gb468, 7, none⟩ = some (.int .i64 a2_7) := (blk_cell BK468.out 7).trans rfl
         have hcz26_8 : wc.cell? ⟨gb468, 8, none⟩ = some (.int .i64 a2_8) := (blk_cell BK468.out 8).trans rfl
         have hcz26_9 : wc.cell? ⟨gb468, 9, none⟩ = some (.int .i64 a2_9) := (blk_cell BK468.out 9).trans rfl
         have hfz26_0 := blk_frozen BK468.out 0
         have hfz26_1 := blk_frozen BK468.out 1
         have hfz26_2 := blk_frozen BK468.out 2
         have hfz26_3 := blk_frozen BK468.out 3
         have hfz26_4 := blk_frozen BK468.out 4
         have hfz26_5 := blk_frozen BK468.out 5
         have hfz26_6 := blk_frozen BK468.out 6
         have hfz26_7 := blk_frozen BK468.out 7
         have hfz26_8 := blk_frozen BK468.out 8
         have hfz26_9 := blk_frozen BK468.out 9
         go_wp2_with (first | ((with_reducible refine gate_callee (f := 55) rfl ?_); refine goesL_ (some 30) rfl rfl Try.func55 (by kernel_rfl) rfl #[.slice A2_0 l2_0.length c2_0, .int .i64 a3, .int .i64 1, .int .i64 8] rfl (by (try simp only [List.map_toArray, List.map_cons, List.map_nil]); first | done | rfl | (simp only [List.length_drop, List.length_take]; rfl)) ?_; (with_reducible refine (foundryref20_all.calls kj4 _ _ l2_0 a3 1 8 true _ ?side1 ?side2 A14.out).mono ?_); (case side1 => repeat (first | exact (Kd.C_below HR2_0.out HB.out) | (with_reducible refine Kd.C_alloc ?_ _) | (with_reducible refine Kd.C_drewN ?_ _) | (with_reducible refine Kd.C_drew ?_))); (case side2 => exact HC2_0.out); rintro e w' ⟨rfl, ⟨nd, rfl⟩⟩; refine ⟨_, rfl, ?_⟩))
         go_ret
         exact ⟨by first | rfl | (simp [errW_none, errW_some] <;> rfl) | (simp [*, errW_none, errW_some] <;> rfl), by repeat (first | (with_reducible first | exact HB.out | apply below_alloc | apply pw_below_drewN | apply below_drew1 | refine below_set ?_ GE468.out) | exact HB.out)⟩
       ·rw [if_neg c17] at H
        have c17b0 : decide (0 ≤ a2_2) = false := decide_eq_false c17
        clear c17
        obtain rfl := Option.some.inj H
        have hcz27_0 : wc.cell? ⟨gb468, 0, none⟩ = some (.slice A2_0 l2_0.length c2_0) := (blk_cell BK468.out 0).trans rfl
        have hcz27_1 : wc.cell? ⟨gb468, 1, none⟩ = some (.slice A2_1 l2_1.length c2_1) := (blk_cell BK468.out 1).trans rfl
        have hcz27_2 : wc.cell? ⟨gb468, 2, none⟩ = some (.int .i64 a2_2) := (blk_cell BK468.out 2).trans rfl
        have hcz27_3 : wc.cell? ⟨gb468, 3, none⟩ = some (.int .i64 a2_3) := (blk_cell BK468.out 3).trans rfl
        have hcz27_4 : wc.cell? ⟨gb468, 4, none⟩ = some (.int .i64 a2_4) := (blk_cell BK468.out 4).trans rfl
        have hcz27_5 : wc.cell? ⟨gb468, 5, none⟩ = some (.int .i64 a2_5) := (blk_cell BK468.out 5).trans rfl
        have hcz27_6 : wc.cell? ⟨gb468, 6, none⟩ = some (.int .i64 a2_6) := (blk_cell BK468.out 6).trans rfl
        have hcz27_7 : wc.cell? ⟨gb468, 7, none⟩ = some (.int .i64 a2_7) := (blk_cell BK468.out 7).trans rfl
        have hcz27_8 : wc.cell? ⟨gb468, 8, none⟩ = some (.int .i64 a2_8) := (blk_cell BK468.out 8).trans rfl
        have hcz27_9 : wc.cell? ⟨gb468, 9, none⟩ = some (.int .i64 a2_9) := (blk_cell BK468.out 9).trans rfl
        have hfz27_0 := blk_frozen BK468.out 0
        have hfz27_1 := blk_frozen BK468.out 1
        have hfz27_2 := blk_frozen BK468.out 2
        have hfz27_3 := blk_frozen BK468.out 3
        have hfz27_4 := blk_frozen BK468.out 4
        have hfz27_5 := blk_frozen BK468.out 5
        have hfz27_6 := blk_frozen BK468.out 6
        have hfz27_7 := blk_frozen BK468.out 7
        have hfz27_8 := blk_frozen BK468.out 8
        have hfz27_9 := blk_frozen BK468.out 9
        go_wp2_with (first | ((with_reducible refine gate_callee (f := 55) rfl ?_); refine goesL_ (some 30) rfl rfl Try.func55 (by kernel_rfl) rfl #[.slice A2_0 l2_0.length c2_0, .int .i64 a3, .int .i64 1, .int .i64 8] rfl (by (try simp only [List.map_toArray, List.map_cons, List.map_nil]); first | done | rfl | (simp only [List.length_drop, List.length_take]; rfl)) ?_; (with_reducible refine (foundryref20_all.calls kj4 _ _ l2_0 a3 1 8 true _ ?side1 ?side2 A14.out).mono ?_); (case side1 => repeat (first | exact (Kd.C_below HR2_0.out HB.out) | (with_reducible refine Kd.C_alloc ?_ _) | (with_reducible refine Kd.C_drewN ?_ _) | (with_reducible refine Kd.C_drew ?_))); (case side2 => exact HC2_0.out); rintro e w' ⟨rfl, ⟨nd, rfl⟩⟩; refine ⟨_, rfl, ?_⟩))
        go_ret
        exact ⟨by first | rfl | (simp [errW_none, errW_some] <;> rfl) | (simp [*, errW_none, errW_some] <;> rfl), by repeat (first | (with_reducible first | exact HB.out | apply below_alloc | apply pw_below_drewN | apply below_drew1 | refine below_set ?_ GE468.out) | exact HB.out)⟩
      ·rw [if_neg c16] at H
       have c16b0 : ((l2_1.length : Int) == 0) = false := beq_eq_false_iff_ne.mpr c16
       have c16b1 : ((l2_1.length : Int) != 0) = true := bne_iff_ne.mpr c16
       have c16b2 : ¬ (l2_1 = []) := fun h_ => c16 (by rw [h_]; rfl)
       obtain rfl := Option.some.inj H
       have hcz28_0 : wc.cell? ⟨gb468, 0, none⟩ = some (.slice A2_0 l2_0.length c2_0) := (blk_cell BK468.out 0).trans rfl
       have hcz28_1 : wc.cell? ⟨gb468, 1, none⟩ = some (.slice A2_1 l2_1.length c2_1) := (blk_cell BK468.out 1).trans rfl
       have hcz28_2 : wc.cell? ⟨gb468, 2, none⟩ = some (.int .i64 a2_2) := (blk_cell BK468.out 2).trans rfl
       have hcz28_3 : wc.cell? ⟨gb468, 3, none⟩ = some (.int .i64 a2_3) := (blk_cell BK468.out 3).trans rfl
       have hcz28_4 : wc.cell? ⟨gb468, 4, none⟩ = some (.int .i64 a2_4) := (blk_cell BK468.out 4).trans rfl
       have hcz28_5 : wc.cell? ⟨gb468, 5, none⟩ = some (.int .i64 a2_5) := (blk_cell BK468.out 5).trans rfl
       have hcz28_6 : wc.cell? ⟨gb468, 6, none⟩ = some (.int .i64 a2_6) := (blk_cell BK468.out 6).trans rfl
       have hcz28_7 : wc.cell? ⟨gb468, 7, none⟩ = some (.int .i64 a2_7) := (blk_cell BK468.out 7).trans rfl
       have hcz28_8 : wc.cell? ⟨gb468, 8, none⟩ = some (.int .i64 a2_8) := (blk_cell BK468.out 8).trans rfl
       have hcz28_9 : wc.cell? ⟨gb468, 9, none⟩ = some (.int .i64 a2_9) := (blk_cell BK468.out 9).trans rfl
       have hfz28_0 := blk_frozen BK468.out 0
       have hfz28_1 := blk_frozen BK468.out 1
       have hfz28_2 := blk_frozen BK468.out 2
       have hfz28_3 := blk_frozen BK468.out 3
       have hfz28_4 := blk_frozen BK468.out 4
       have hfz28_5 := blk_frozen BK468.out 5
       have hfz28_6 := blk_frozen BK468.out 6
       have hfz28_7 := blk_frozen BK468.out 7
       have hfz28_8 := blk_frozen BK468.out 8
       have hfz28_9 := blk_frozen BK468.out 9
       go_wp2_with (first | ((with_reducible refine gate_callee (f := 55) rfl ?_); refine goesL_ (some 30) rfl rfl Try.func55 (by kernel_rfl) rfl #[.slice A2_0 l2_0.length c2_0, .int .i64 a3, .int .i64 1, .int .i64 8] rfl (by (try simp only [List.map_toArray, List.map_cons, List.map_nil]); first | done | rfl | (simp only [List.length_drop, List.length_take]; rfl)) ?_; (with_reducible refine (foundryref20_all.calls kj4 _ _ l2_0 a3 1 8 true _ ?side1 ?side2 A14.out).mono ?_); (case side1 => repeat (first | exact (Kd.C_below HR2_0.out HB.out) | (with_reducible refine Kd.C_alloc ?_ _) | (with_reducible refine Kd.C_drewN ?_ _) | (with_reducible refine Kd.C_drew ?_))); (case side2 => exact HC2_0.out); rintro e w' ⟨rfl, ⟨nd, rfl⟩⟩; refine ⟨_, rfl, ?_⟩))
       go_ret
       exact ⟨by first | rfl | (simp [errW_none, errW_some] <;> rfl) | (simp [*, errW_none, errW_some] <;> rfl), by repeat (first | (with_reducible first | exact HB.out | apply below_alloc | apply pw_below_drewN | apply below_drew1 | refine below_set ?_ GE468.out) | exact HB.out)⟩
     ·replace c15 := Bool.eq_false_iff.mpr c15
      subst c15
      have H1 : (some false) = some r := by rw [if_neg (show ¬ (false = true) by decide)] at H; exact H
      clear H
      have H := H1
      clear H1
      obtain rfl := Option.some.inj H
      have hcz29_0 : wc.cell? ⟨gb468, 0, none⟩ = some (.slice A2_0 l2_0.length c2_0) := (blk_cell BK468.out 0).trans rfl
      have hcz29_1 : wc.cell? ⟨gb468, 1, none⟩ = some (.slice A2_1 l2_1.length c2_1) := (blk_cell BK468.out 1).trans rfl
      have hcz29_2 : wc.cell? ⟨gb468, 2, none⟩ = some (.int .i64 a2_2) := (blk_cell BK468.out 2).trans rfl
      have hcz29_3 : wc.cell? ⟨gb468, 3, none⟩ = some (.int .i64 a2_3) := (blk_cell BK468.out 3).trans rfl
      have hcz29_4 : wc.cell? ⟨gb468, 4, none⟩ = some (.int .i64 a2_4) := (blk_cell BK468.out 4).trans rfl
      have hcz29_5 : wc.cell? ⟨gb468, 5, none⟩ = some (.int .i64 a2_5) := (blk_cell BK468.out 5).trans rfl
      have hcz29_6 : wc.cell? ⟨gb468, 6, none⟩ = some (.int .i64 a2_6) := (blk_cell BK468.out 6).trans rfl
      have hcz29_7 : wc.cell? ⟨gb468, 7, none⟩ = some (.int .i64 a2_7) := (blk_cell BK468.out 7).trans rfl
      have hcz29_8 : wc.cell? ⟨gb468, 8, none⟩ = some (.int .i64 a2_8) := (blk_cell BK468.out 8).trans rfl
      have hcz29_9 : wc.cell? ⟨gb468, 9, none⟩ = some (.int .i64 a2_9) := (blk_cell BK468.out 9).trans rfl
      have hfz29_0 := blk_frozen BK468.out 0
      have hfz29_1 := blk_frozen BK468.out 1
      have hfz29_2 := blk_frozen BK468.out 2
      have hfz29_3 := blk_frozen BK468.out 3
      have hfz29_4 := blk_frozen BK468.out 4
      have hfz29_5 := blk_frozen BK468.out 5
      have hfz29_6 := blk_frozen BK468.out 6
      have hfz29_7 := blk_frozen BK468.out 7
      have hfz29_8 := blk_frozen BK468.out 8
      have hfz29_9 := blk_frozen BK468.out 9
      go_wp2_with (first | ((with_reducible refine gate_callee (f := 55) rfl ?_); refine goesL_ (some 30) rfl rfl Try.func55 (by kernel_rfl) rfl #[.slice A2_0 l2_0.length c2_0, .int .i64 a3, .int .i64 1, .int .i64 8] rfl (by (try simp only [List.map_toArray, List.map_cons, List.map_nil]); first | done | rfl | (simp only [List.length_drop, List.length_take]; rfl)) ?_; (with_reducible refine (foundryref20_all.calls kj4 _ _ l2_0 a3 1 8 false _ ?side1 ?side2 A14.out).mono ?_); (case side1 => repeat (first | exact (Kd.C_below HR2_0.out HB.out) | (with_reducible refine Kd.C_alloc ?_ _) | (with_reducible refine Kd.C_drewN ?_ _) | (with_reducible refine Kd.C_drew ?_))); (case side2 => exact HC2_0.out); rintro e w' ⟨rfl, ⟨nd, rfl⟩⟩; refine ⟨_, rfl, ?_⟩))
      go_ret
      exact ⟨by first | rfl | (simp [errW_none, errW_some] <;> rfl) | (simp [*, errW_none, errW_some] <;> rfl), by repeat (first | (with_reducible first | exact HB.out | apply below_alloc | apply pw_below_drewN | apply below_drew1 | refine below_set ?_ GE468.out) | exact HB.out)⟩
    ·rw [if_neg c13] at H
     have c13b0 : (a1 == 4) = false := beq_eq_false_iff_ne.mpr c13
     have c13b1 : (a1 != 4) = true := bne_iff_ne.mpr c13
     have HC30 := Aside0.mk H
     clear H
     go_upto_region 5 with (fail)
     go_cut [78] (fun v78 wc => ∃ (kq : Nat) (x78_29 : Bool), v78 = .bool x78_29 ∧ Aside0 (foundryref20_rule.j1 kq a1 a3 x78_29 l2_0 l2_1 a2_2 a2_3 a2_4 a2_5 a2_6 a2_7 a2_8 a2_9 = some r) ∧ Aside0 (kq ≤ kj4) ∧ Aside0 (wc.heap[gb468]? = some (.cells #[(.slice A2_0 l2_0.length c2_0), (.slice A2_1 l2_1.length c2_1), .int .i64 a2_2, .int .i64 a2_3, .int .i64 a2_4, .int .i64 a2_5, .int .i64 a2_6, .int .i64 a2_7, .int .i64 a2_8, .int .i64 a2_9] 43 (0, 0))) ∧ Aside0 (Below w.heap.size w wc))
     case first =>
      have H := HC30.out
      clear HC30
      by_cases c31 : a2_2 = 0
      ·rw [if_pos c31] at H
       have c31b0 : (a2_2 == 0) = true := beq_iff_eq.mpr c31
       have c31b1 : (a2_2 != 0) = false := bne_eq_false_iff_eq.mpr c31
       clear c31
       (first | rw [c31b0] | (simp only [i64_w, i32_w]; rw [c31b0]) | skip)
       have H' := Aside0.mk H
       clear H
       have hcz32_0 : wc.cell? ⟨gb468, 0, none⟩ = some (.slice A2_0 l2_0.length c2_0) := (blk_cell BK468.out 0).trans rfl
       have hcz32_1 : wc.cell? ⟨gb468, 1, none⟩ = some (.slice A2_1 l2_1.length c2_1) := (blk_cell BK468.out 1).trans rfl
       have hcz32_2 : wc.cell? ⟨gb468, 2, none⟩ = some (.int .i64 a2_2) := (blk_cell BK468.out 2).trans rfl
       have hcz32_3 : wc.cell? ⟨gb468, 3, none⟩ = some (.int .i64 a2_3) := (blk_cell BK468.out 3).trans rfl
       have hcz32_4 : wc.cell? ⟨gb468, 4, none⟩ = some (.int .i64 a2_4) := (blk_cell BK468.out 4).trans rfl
       have hcz32_5 : wc.cell? ⟨gb468, 5, none⟩ = some (.int .i64 a2_5) := (blk_cell BK468.out 5).trans rfl
       have hcz32_6 : wc.cell? ⟨gb468, 6, none⟩ = some (.int .i64 a2_6) := (blk_cell BK468.out 6).trans rfl
       have hcz32_7 : wc.cell? ⟨gb468, 7, none⟩ = some (.int .i64 a2_7) := (blk_cell BK468.out 7).trans rfl
       have hcz32_8 : wc.cell? ⟨gb468, 8, none⟩ = some (.int .i64 a2_8) := (blk_cell BK468.out 8).trans rfl
       have hcz32_9 : wc.cell? ⟨gb468, 9, none⟩ = some (.int .i64 a2_9) := (blk_cell BK468.out 9).trans rfl
       have hfz32_0 := blk_frozen BK468.out 0
       have hfz32_1 := blk_frozen BK468.out 1
       have hfz32_2 := blk_frozen BK468.out 2
       have hfz32_3 := blk_frozen BK468.out 3
       have hfz32_4 := blk_frozen BK468.out 4
       have hfz32_5 := blk_frozen BK468.out 5
       have hfz32_6 := blk_frozen BK468.out 6
       have hfz32_7 := blk_frozen BK468.out 7
       have hfz32_8 := blk_frozen BK468.out 8
       have hfz32_9 := blk_frozen BK468.out 9
       go_wp2
       go_meet
       case rel => exact ⟨_, ((a2_3 != 0)), (by first | rfl | (simp; done) | (simp [*]; done)), H', ⟨by have := HJ4.out; first | omega | exact Nat.le_refl _⟩, ⟨by (with_reducible repeat (first | refine blk_drewN ?_ _ | refine blk_drew ?_ | refine blk_alloc ?_ _)); exact BK468.out⟩, ⟨by repeat (first | (with_reducible first | exact HB.out | apply below_alloc | apply pw_below_drewN | apply below_drew1 | refine below_set ?_ GE468.out) | exact HB.out)⟩⟩
      ·rw [if_neg c31] at H
       have c31b0 : (a2_2 == 0) = false := beq_eq_false_iff_ne.mpr c31
       have c31b1 : (a2_2 != 0) = true := bne_iff_ne.mpr c31
       (first | rw [c31b0] | (simp only [i64_w, i32_w]; rw [c31b0]) | skip)
       have H' := Aside0.mk H
       clear H
       have hcz33_0 : wc.cell? ⟨gb468, 0, none⟩ = some (.slice A2_0 l2_0.length c2_0) := (blk_cell BK468.out 0).trans rfl
       have hcz33_1 : wc.cell? ⟨gb468, 1, none⟩ = some (.slice A2_1 l2_1.length c2_1) := (blk_cell BK468.out 1).trans rfl
       have hcz33_2 : wc.cell? ⟨gb468, 2, none⟩ = some (.int .i64 a2_2) := (blk_cell BK468.out 2).trans rfl
       have hcz33_3 : wc.cell? ⟨gb468, 3, none⟩ = some (.int .i64 a2_3) := (blk_cell BK468.out 3).trans rfl
       have hcz33_4 : wc.cell? ⟨gb468, 4, none⟩ = some (.int .i64 a2_4) := (blk_cell BK468.out 4).trans rfl
       have hcz33_5 : wc.cell? ⟨gb468, 5, none⟩ = some (.int .i64 a2_5) := (blk_cell BK468.out 5).trans rfl
       have hcz33_6 : wc.cell? ⟨gb468, 6, none⟩ = some (.int .i64 a2_6) := (blk_cell BK468.out 6).trans rfl
       have hcz33_7 : wc.cell? ⟨gb468, 7, none⟩ = some (.int .i64 a2_7) := (blk_cell BK468.out 7).trans rfl
       have hcz33_8 : wc.cell? ⟨gb468, 8, none⟩ = some (.int .i64 a2_8) := (blk_cell BK468.out 8).trans rfl
       have hcz33_9 : wc.cell? ⟨gb468, 9, none⟩ = some (.int .i64 a2_9) := (blk_cell BK468.out 9).trans rfl
       have hfz33_0 := blk_frozen BK468.out 0
       have hfz33_1 := blk_frozen BK468.out 1
       have hfz33_2 := blk_frozen BK468.out 2
       have hfz33_3 := blk_frozen BK468.out 3
       have hfz33_4 := blk_frozen BK468.out 4
       have hfz33_5 := blk_frozen BK468.out 5
       have hfz33_6 := blk_frozen BK468.out 6
       have hfz33_7 := blk_frozen BK468.out 7
       have hfz33_8 := blk_frozen BK468.out 8
       have hfz33_9 := blk_frozen BK468.out 9
       go_wp2
       go_meet
       case rel => exact ⟨_, (true), (by first | rfl | (simp; done) | (simp [*]; done)), H', ⟨by have := HJ4.out; first | omega | exact Nat.le_refl _⟩, ⟨by (with_reducible repeat (first | refine blk_drewN ?_ _ | refine blk_drew ?_ | refine blk_alloc ?_ _)); exact BK468.out⟩, ⟨by repeat (first | (with_reducible first | exact HB.out | apply below_alloc | apply pw_below_drewN | apply below_drew1 | refine below_set ?_ GE468.out) | exact HB.out)⟩⟩
     case rest =>
      clear HC30
      try clear c1
      try clear c2
      try clear p2
      try clear c3
      try clear c4
      try clear p4
      try clear q4
      try clear hx4
      try clear c5
      try clear c7
      try clear c7b0
      try clear c9
      try clear c9b0
      try clear c12
      try clear c13
      try clear c13b0
      try clear c13b1
      try clear c15
      try clear c16
      try clear c16b0
      try clear c16b1
      try clear c16b2
      try clear c17
      try clear c17b0
      try clear c18
      try clear c18b0
      try clear c19
      try clear c19b0
      try clear c20
      try clear c20b0
      try clear c21
      try clear c21b0
      try clear c31
      try clear c31b0
      try clear c31b1
      try clear hcz10_0
      try clear hcz10_1
      try clear hcz10_2
      try clear hcz10_3
      try clear hcz10_4
      try clear hcz10_5
      try clear hcz10_6
      try clear hcz10_7
      try clear hcz10_8
      try clear hcz10_9
      try clear hcz11_0
      try clear hcz11_1
      try clear hcz11_2
      try clear hcz11_3
      try clear hcz11_4
      try clear hcz11_5
      try clear hcz11_6
      try clear hcz11_7
      try clear hcz11_8
      try clear hcz11_9
      try clear hcz23_0
      try clear hcz23_1
      try clear hcz23_2
      try clear hcz23_3
      try clear hcz23_4
      try clear hcz23_5
      try clear hcz23_6
      try clear hcz23_7
      try clear hcz23_8
      try clear hcz23_9
      try clear hcz24_0
      try clear hcz24_1
      try clear hcz24_2
      try clear hcz24_3
      try clear hcz24_4
      try clear hcz24_5
      try clear hcz24_6
      try clear hcz24_7
      try clear hcz24_8
      try clear hcz24_9
      try clear hcz25_0
      try clear hcz25_1
      try clear hcz25_2
      try clear hcz25_3
      try clear hcz25_4
      try clear hcz25_5
      try clear hcz25_6
      try clear hcz25_7
      try clear hcz25_8
      try clear hcz25_9
      try clear hcz26_0
      try clear hcz26_1
      try clear hcz26_2
      try clear hcz26_3
      try clear hcz26_4
      try clear hcz26_5
      try clear hcz26_6
      try clear hcz26_7
      try clear hcz26_8
      try clear hcz26_9
      try clear hcz27_0
      try clear hcz27_1
      try clear hcz27_2
      try clear hcz27_3
      try clear hcz27_4
      try clear hcz27_5
      try clear hcz27_6
      try clear hcz27_7
      try clear hcz27_8
      try clear hcz27_9
      try clear hcz28_0
      try clear hcz28_1
      try clear hcz28_2
      try clear hcz28_3
      try clear hcz28_4
      try clear hcz28_5
      try clear hcz28_6
      try clear hcz28_7
      try clear hcz28_8
      try clear hcz28_9
      try clear hcz29_0
      try clear hcz29_1
      try clear hcz29_2
      try clear hcz29_3
      try clear hcz29_4
      try clear hcz29_5
      try clear hcz29_6
      try clear hcz29_7
      try clear hcz29_8
      try clear hcz29_9
      try clear hcz32_0
      try clear hcz32_1
      try clear hcz32_2
      try clear hcz32_3
      try clear hcz32_4
      try clear hcz32_5
      try clear hcz32_6
      try clear hcz32_7
      try clear hcz32_8
      try clear hcz32_9
      try clear hcz33_0
      try clear hcz33_1
      try clear hcz33_2
      try clear hcz33_3
      try clear hcz33_4
      try clear hcz33_5
      try clear hcz33_6
      try clear hcz33_7
      try clear hcz33_8
      try clear hcz33_9
      try clear hcz8_0
      try clear hcz8_1
      try clear hcz8_2
      try clear hcz8_3
      try clear hcz8_4
      try clear hcz8_5
      try clear hcz8_6
      try clear hcz8_7
      try clear hcz8_8
      try clear hcz8_9
      try clear hfz10_0
      try clear hfz10_1
      try clear hfz10_2
      try clear hfz10_3
      try clear hfz10_4
      try clear hfz10_5
      try clear hfz10_6
      try clear hfz10_7
      try clear hfz10_8
      try clear hfz10_9
      try clear hfz11_0
      try clear hfz11_1
      try clear hfz11_2
      try clear hfz11_3
      try clear hfz11_4
      try clear hfz11_5
      try clear hfz11_6
      try clear hfz11_7
      try clear hfz11_8
      try clear hfz11_9
      try clear hfz23_0
      try clear hfz23_1
      try clear hfz23_2
      try clear hfz23_3
      try clear hfz23_4
      try clear hfz23_5
      try clear hfz23_6
      try clear hfz23_7
      try clear hfz23_8
      try clear hfz23_9
      try clear hfz24_0
      try clear hfz24_1
      try clear hfz24_2
      try clear hfz24_3
      try clear hfz24_4
      try clear hfz24_5
      try clear hfz24_6
      try clear hfz24_7
      try clear hfz24_8
      try clear hfz24_9
      try clear hfz25_0
      try clear hfz25_1
      try clear hfz25_2
      try clear hfz25_3
      try clear hfz25_4
      try clear hfz25_5
      try clear hfz25_6
      try clear hfz25_7
      try clear hfz25_8
      try clear hfz25_9
      try clear hfz26_0
      try clear hfz26_1
      try clear hfz26_2
      try clear hfz26_3
      try clear hfz26_4
      try clear hfz26_5
      try clear hfz26_6
      try clear hfz26_7
      try clear hfz26_8
      try clear hfz26_9
      try clear hfz27_0
      try clear hfz27_1
      try clear hfz27_2
      try clear hfz27_3
      try clear hfz27_4
      try clear hfz27_5
      try clear hfz27_6
      try clear hfz27_7
      try clear hfz27_8
      try clear hfz27_9
      try clear hfz28_0
      try clear hfz28_1
      try clear hfz28_2
      try clear hfz28_3
      try clear hfz28_4
      try clear hfz28_5
      try clear hfz28_6
      try clear hfz28_7
      try clear hfz28_8
      try clear hfz28_9
      try clear hfz29_0
      try clear hfz29_1
      try clear hfz29_2
      try clear hfz29_3
      try clear hfz29_4
      try clear hfz29_5
      try clear hfz29_6
      try clear hfz29_7
      try clear hfz29_8
      try clear hfz29_9
      try clear hfz32_0
      try clear hfz32_1
      try clear hfz32_2
      try clear hfz32_3
      try clear hfz32_4
      try clear hfz32_5
      try clear hfz32_6
      try clear hfz32_7
      try clear hfz32_8
      try clear hfz32_9
      try clear hfz33_0
      try clear hfz33_1
      try clear hfz33_2
      try clear hfz33_3
      try clear hfz33_4
      try clear hfz33_5
      try clear hfz33_6
      try clear hfz33_7
      try clear hfz33_8
      try clear hfz33_9
      try clear hfz8_0
      try clear hfz8_1
      try clear hfz8_2
      try clear hfz8_3
      try clear hfz8_4
      try clear hfz8_5
      try clear hfz8_6
      try clear hfz8_7
      try clear hfz8_8
      try clear hfz8_9
      try clear hx470_0
      try clear hx470_1
      try clear hx470_2
      try clear p2
      try clear p470
      try clear q470
      obtain ⟨kq, x78_29, rfl, HA, HJ29, BK468, HB⟩ := hcut
      cases kq with
      | zero => exact absurd HA.out (by simp [foundryref20_rule.j1])
      | succ kj29 =>
       have H := HA.out
       clear HA
       simp only [foundryref20_rule.j1] at H
       by_cases c34 : x78_29 = true
       ·subst c34
        have H1 : (some false) = some r := by rw [if_pos rfl] at H; exact H
        clear H
        have H := H1
        clear H1
        obtain rfl := Option.some.inj H
        go_wp2
        go_ret
        exact ⟨by first | rfl | (simp [errW_none, errW_some] <;> rfl) | (simp [*, errW_none, errW_some] <;> rfl), by repeat (first | (with_reducible first | exact HB.out | apply below_alloc | apply pw_below_drewN | apply below_drew1 | refine below_set ?_ GE468.out) | exact HB.out)⟩
       ·replace c34 := Bool.eq_false_iff.mpr c34
        subst c34
        have H1 : (if a1 = 1 then ((foundryref20_all.f kj29 l2_0 a3 1 1).bind fun t472 => (if t472 = true then ((foundryref20_all.f kj29 l2_1 a3 1 1).bind fun t473 => (some t473)) else (some false))) else (if a1 = 2 then ((foundryref20_all.f kj29 l2_0 a3 1 1).bind fun t474 => (if t474 = true then ((foundryref20_all.f kj29 l2_1 a3 0 8).bind fun t475 => (some t475)) else (some false))) else ((foundryref20_all.f kj29 l2_0 a3 2 8).bind fun t476 => (if t476 = true then ((foundryref20_all.f kj29 l2_1 a3 1 1).bind fun t477 => (some t477)) else (some false))))) = some r := by rw [if_neg (show ¬ (false = true) by decide)] at H; exact H
        clear H
        have H := H1
        clear H1
        by_cases c35 : a1 = 1
        ·rw [if_pos c35] at H
         have c35b0 : (a1 == 1) = true := beq_iff_eq.mpr c35
         have c35b1 : (a1 != 1) = false := bne_eq_false_iff_eq.mpr c35
         clear c35
         replace H := Option.bind_eq_some_iff.mp H
         obtain ⟨t472, A360, H⟩ := H
         replace H : (if t472 = true then ((foundryref20_all.f kj29 l2_1 a3 1 1).bind fun t473 => (some t473)) else (some false)) = some r := H
         have A36 := Aside0.mk A360
         clear A360
         by_cases c37 : t472 = true
         ·subst c37
          have H1 : ((foundryref20_all.f kj29 l2_1 a3 1 1).bind fun t473 => (some t473)) = some r := by rw [if_pos rfl] at H; exact H
          clear H
          have H := H1
          clear H1
          replace H := Option.bind_eq_some_iff.mp H
          obtain ⟨t473, A380, H⟩ := H
          replace H : (some t473) = some r := H
          have A38 := Aside0.mk A380
          clear A380
          obtain rfl := Option.some.inj H
          have hcz39_0 : wc.cell? ⟨gb468, 0, none⟩ = some (.slice A2_0 l2_0.length c2_0) := (blk_cell BK468.out 0).trans rfl
          have hcz39_1 : wc.cell? ⟨gb468, 1, none⟩ = some (.slice A2_1 l2_1.length c2_1) := (blk_cell BK468.out 1).trans rfl
          have hcz39_2 : wc.cell? ⟨gb468, 2, none⟩ = some (.int .i64 a2_2) := (blk_cell BK468.out 2).trans rfl
          have hcz39_3 : wc.cell? ⟨gb468, 3, none⟩ = some (.int .i64 a2_3) := (blk_cell BK468.out 3).trans rfl
          have hcz39_4 : wc.cell? ⟨gb468, 4, none⟩ = some (.int .i64 a2_4) := (blk_cell BK468.out 4).trans rfl
          have hcz39_5 : wc.cell? ⟨gb468, 5, none⟩ = some (.int .i64 a2_5) := (blk_cell BK468.out 5).trans rfl
          have hcz39_6 : wc.cell? ⟨gb468, 6, none⟩ = some (.int .i64 a2_6) := (blk_cell BK468.out 6).trans rfl
          have hcz39_7 : wc.cell? ⟨gb468, 7, none⟩ = some (.int .i64 a2_7) := (blk_cell BK468.out 7).trans rfl
          have hcz39_8 : wc.cell? ⟨gb468, 8, none⟩ = some (.int .i64 a2_8) := (blk_cell BK468.out 8).trans rfl
          have hcz39_9 : wc.cell? ⟨gb468, 9, none⟩ = some (.int .i64 a2_9) := (blk_cell BK468.out 9).trans rfl
          have hfz39_0 := blk_frozen BK468.out 0
          have hfz39_1 := blk_frozen BK468.out 1
          have hfz39_2 := blk_frozen BK468.out 2
          have hfz39_3 := blk_frozen BK468.out 3
          have hfz39_4 := blk_frozen BK468.out 4
          have hfz39_5 := blk_frozen BK468.out 5
          have hfz39_6 := blk_frozen BK468.out 6
          have hfz39_7 := blk_frozen BK468.out 7
          have hfz39_8 := blk_frozen BK468.out 8
          have hfz39_9 := blk_frozen BK468.out 9
          go_wp2_with (first | ((with_reducible refine gate_callee (f := 55) rfl ?_); refine goesL_ (some 85) rfl rfl Try.func55 (by kernel_rfl) rfl #[.slice A2_0 l2_0.length c2_0, .int .i64 a3, .int .i64 1, .int .i64 1] rfl (by (try simp only [List.map_toArray, List.map_cons, List.map_nil]); first | done | rfl | (simp only [List.length_drop, List.length_take]; rfl)) ?_; (with_reducible refine (foundryref20_all.calls kj29 _ _ l2_0 a3 1 1 true _ ?side1 ?side2 A36.out).mono ?_); (case side1 => repeat (first | exact (Kd.C_below HR2_0.out HB.out) | (with_reducible refine Kd.C_alloc ?_ _) | (with_reducible refine Kd.C_drewN ?_ _) | (with_reducible refine Kd.C_drew ?_))); (case side2 => exact HC2_0.out); rintro e w' ⟨rfl, ⟨nd, rfl⟩⟩; refine ⟨_, rfl, ?_⟩) | (go_at_call 55; (with_reducible refine (foundryref20_all.calls kj29 _ _ l2_1 a3 1 1 t473 _ ?side1 ?side2 A38.out).mono ?_); (case side1 => repeat (first | exact (Kd.C_below HR2_1.out (by repeat (first | (with_reducible first | exact HB.out | apply below_alloc | apply pw_below_drewN | apply below_drew1 | refine below_set ?_ GE468.out) | exact HB.out))) | (with_reducible refine Kd.C_alloc ?_ _) | (with_reducible refine Kd.C_drewN ?_ _) | (with_reducible refine Kd.C_drew ?_))); (case side2 => exact HC2_1.out); rintro e w' ⟨rfl, ⟨nd, rfl⟩⟩))
          go_ret
          exact ⟨by first | rfl | (simp [errW_none, errW_some] <;> rfl) | (simp [*, errW_none, errW_some] <;> rfl), by repeat (first | (with_reducible first | exact HB.out | apply below_alloc | apply pw_below_drewN | apply below_drew1 | refine below_set ?_ GE468.out) | exact HB.out)⟩
         ·replace c37 := Bool.eq_false_iff.mpr c37
          subst c37
          have H1 : (some false) = some r := by rw [if_neg (show ¬ (false = true) by decide)] at H; exact H
          clear H
          have H := H1
          clear H1
          obtain rfl := Option.some.inj H
          have hcz40_0 : wc.cell? ⟨gb468, 0, none⟩ = some (.slice A2_0 l2_0.length c2_0) := (blk_cell BK468.out 0).trans rfl
          have hcz40_1 : wc.cell? ⟨gb468, 1, none⟩ = some (.slice A2_1 l2_1.length c2_1) := (blk_cell BK468.out 1).trans rfl
          have hcz40_2 : wc.cell? ⟨gb468, 2, none⟩ = some (.int .i64 a2_2) := (blk_cell BK468.out 2).trans rfl
          have hcz40_3 : wc.cell? ⟨gb468, 3, none⟩ = some (.int .i64 a2_3) := (blk_cell BK468.out 3).trans rfl
          have hcz40_4 : wc.cell? ⟨gb468, 4, none⟩ = some (.int .i64 a2_4) := (blk_cell BK468.out 4).trans rfl
          have hcz40_5 : wc.cell? ⟨gb468, 5, none⟩ = some (.int .i64 a2_5) := (blk_cell BK468.out 5).trans rfl
          have hcz40_6 : wc.cell? ⟨gb468, 6, none⟩ = some (.int .i64 a2_6) := (blk_cell BK468.out 6).trans rfl
          have hcz40_7 : wc.cell? ⟨gb468, 7, none⟩ = some (.int .i64 a2_7) := (blk_cell BK468.out 7).trans rfl
          have hcz40_8 : wc.cell? ⟨gb468, 8, none⟩ = some (.int .i64 a2_8) := (blk_cell BK468.out 8).trans rfl
          have hcz40_9 : wc.cell? ⟨gb468, 9, none⟩ = some (.int .i64 a2_9) := (blk_cell BK468.out 9).trans rfl
          have hfz40_0 := blk_frozen BK468.out 0
          have hfz40_1 := blk_frozen BK468.out 1
          have hfz40_2 := blk_frozen BK468.out 2
          have hfz40_3 := blk_frozen BK468.out 3
          have hfz40_4 := blk_frozen BK468.out 4
          have hfz40_5 := blk_frozen BK468.out 5
          have hfz40_6 := blk_frozen BK468.out 6
          have hfz40_7 := blk_frozen BK468.out 7
          have hfz40_8 := blk_frozen BK468.out 8
          have hfz40_9 := blk_frozen BK468.out 9
          go_wp2_with (first | ((with_reducible refine gate_callee (f := 55) rfl ?_); refine goesL_ (some 85) rfl rfl Try.func55 (by kernel_rfl) rfl #[.slice A2_0 l2_0.length c2_0, .int .i64 a3, .int .i64 1, .int .i64 1] rfl (by (try simp only [List.map_toArray, List.map_cons, List.map_nil]); first | done | rfl | (simp only [List.length_drop, List.length_take]; rfl)) ?_; (with_reducible refine (foundryref20_all.calls kj29 _ _ l2_0 a3 1 1 false _ ?side1 ?side2 A36.out).mono ?_); (case side1 => repeat (first | exact (Kd.C_below HR2_0.out HB.out) | (with_reducible refine Kd.C_alloc ?_ _) | (with_reducible refine Kd.C_drewN ?_ _) | (with_reducible refine Kd.C_drew ?_))); (case side2 => exact HC2_0.out); rintro e w' ⟨rfl, ⟨nd, rfl⟩⟩; refine ⟨_, rfl, ?_⟩))
          go_ret
          exact ⟨by first | rfl | (simp [errW_none, errW_some] <;> rfl) | (simp [*, errW_none, errW_some] <;> rfl), by repeat (first | (with_reducible first | exact HB.out | apply below_alloc | apply pw_below_drewN | apply below_drew1 | refine below_set ?_ GE468.out) | exact HB.out)⟩
        ·rw [if_neg c35] at H
         have c35b0 : (a1 == 1) = false := beq_eq_false_iff_ne.mpr c35
         have c35b1 : (a1 != 1) = true := bne_iff_ne.mpr c35
         by_cases c41 : a1 = 2
         ·rw [if_pos c41] at H
          have c41b0 : (a1 == 2) = true := beq_iff_eq.mpr c41
          have c41b1 : (a1 != 2) = false := bne_eq_false_iff_eq.mpr c41
          clear c41
          replace H := Option.bind_eq_some_iff.mp H
          obtain ⟨t474, A420, H⟩ := H
          replace H : (if t474 = true then ((foundryref20_all.f kj29 l2_1 a3 0 8).bind fun t475 => (some t475)) else (some false)) = some r := H
          have A42 := Aside0.mk A420
          clear A420
          by_cases c43 : t474 = true
          ·subst c43
           have H1 : ((foundryref20_all.f kj29 l2_1 a3 0 8).bind fun t475 => (some t475)) = some r := by rw [if_pos rfl] at H; exact H
           clear H
           have H := H1
           clear H1
           replace H := Option.bind_eq_some_iff.mp H
           obtain ⟨t475, A440, H⟩ := H
           replace H : (some t475) = some r := H
           have A44 := Aside0.mk A440
           clear A440
           obtain rfl := Option.some.inj H
           have hcz45_0 : wc.cell? ⟨gb468, 0, none⟩ = some (.slice A2_0 l2_0.length c2_0) := (blk_cell BK468.out 0).trans rfl
           have hcz45_1 : wc.cell? ⟨gb468, 1, none⟩ = some (.slice A2_1 l2_1.length c2_1) := (blk_cell BK468.out 1).trans rfl
           have hcz45_2 : wc.cell? ⟨gb468, 2, none⟩ = some (.int .i64 a2_2) := (blk_cell BK468.out 2).trans rfl
           have hcz45_3 : wc.cell? ⟨gb468, 3, none⟩ = some (.int .i64 a2_3) := (blk_cell BK468.out 3).trans rfl
           have hcz45_4 : wc.cell? ⟨gb468, 4, none⟩ = some (.int .i64 a2_4) := (blk_cell BK468.out 4).trans rfl
           have hcz45_5 : wc.cell? ⟨gb468, 5, none⟩ = some (.int .i64 a2_5) := (blk_cell BK468.out 5).trans rfl
           have hcz45_6 : wc.cell? ⟨gb468, 6, none⟩ = some (.int .i64 a2_6) := (blk_cell BK468.out 6).trans rfl
           have hcz45_7 : wc.cell? ⟨gb468, 7, none⟩ = some (.int .i64 a2_7) := (blk_cell BK468.out 7).trans rfl
           have hcz45_8 : wc.cell? ⟨gb468, 8, none⟩ = some (.int .i64 a2_8) := (blk_cell BK468.out 8).trans rfl
           have hcz45_9 : wc.cell? ⟨gb468, 9, none⟩ = some (.int .i64 a2_9) := (blk_cell BK468.out 9).trans rfl
           have hfz45_0 := blk_frozen BK468.out 0
           have hfz45_1 := blk_frozen BK468.out 1
           have hfz45_2 := blk_frozen BK468.out 2
           have hfz45_3 := blk_frozen BK468.out 3
           have hfz45_4 := blk_frozen BK468.out 4
           have hfz45_5 := blk_frozen BK468.out 5
           have hfz45_6 := blk_frozen BK468.out 6
           have hfz45_7 := blk_frozen BK468.out 7
           have hfz45_8 := blk_frozen BK468.out 8
           have hfz45_9 := blk_frozen BK468.out 9
           go_wp2_with (first | ((with_reducible refine gate_callee (f := 55) rfl ?_); refine goesL_ (some 97) rfl rfl Try.func55 (by kernel_rfl) rfl #[.slice A2_0 l2_0.length c2_0, .int .i64 a3, .int .i64 1, .int .i64 1] rfl (by (try simp only [List.map_toArray, List.map_cons, List.map_nil]); first | done | rfl | (simp only [List.length_drop, List.length_take]; rfl)) ?_; (with_reducible refine (foundryref20_all.calls kj29 _ _ l2_0 a3 1 1 true _ ?side1 ?side2 A42.out).mono ?_); (case side1 => repeat (first | exact (Kd.C_below HR2_0.out HB.out) | (with_reducible refine Kd.C_alloc ?_ _) | (with_reducible refine Kd.C_drewN ?_ _) | (with_reducible refine Kd.C_drew ?_))); (case side2 => exact HC2_0.out); rintro e w' ⟨rfl, ⟨nd, rfl⟩⟩; refine ⟨_, rfl, ?_⟩) | (go_at_call 55; (with_reducible refine (foundryref20_all.calls kj29 _ _ l2_1 a3 0 8 t475 _ ?side1 ?side2 A44.out).mono ?_); (case side1 => repeat (first | exact (Kd.C_below HR2_1.out (by repeat (first | (with_reducible first | exact HB.out | apply below_alloc | apply pw_below_drewN | apply below_drew1 | refine below_set ?_ GE468.out) | exact HB.out))) | (with_reducible refine Kd.C_alloc ?_ _) | (with_reducible refine Kd.C_drewN ?_ _) | (with_reducible refine Kd.C_drew ?_))); (case side2 => exact HC2_1.out); rintro e w' ⟨rfl, ⟨nd, rfl⟩⟩))
           go_ret
           exact ⟨by first | rfl | (simp [errW_none, errW_some] <;> rfl) | (simp [*, errW_none, errW_some] <;> rfl), by repeat (first | (with_reducible first | exact HB.out | apply below_alloc | apply pw_below_drewN | apply below_drew1 | refine below_set ?_ GE468.out) | exact HB.out)⟩
          ·replace c43 := Bool.eq_false_iff.mpr c43
           subst c43
           have H1 : (some false) = some r := by rw [if_neg (show ¬ (false = true) by decide)] at H; exact H
           clear H
           have H := H1
           clear H1
           obtain rfl := Option.some.inj H
           have hcz46_0 : wc.cell? ⟨gb468, 0, none⟩ = some (.slice A2_0 l2_0.length c2_0) := (blk_cell BK468.out 0).trans rfl
           have hcz46_1 : wc.cell? ⟨gb468, 1, none⟩ = some (.slice A2_1 l2_1.length c2_1) := (blk_cell BK468.out 1).trans rfl
           have hcz46_2 : wc.cell? ⟨gb468, 2, none⟩ = some (.int .i64 a2_2) := (blk_cell BK468.out 2).trans rfl
           have hcz46_3 : wc.cell? ⟨gb468, 3, none⟩ = some (.int .i64 a2_3) := (blk_cell BK468.out 3).trans rfl
           have hcz46_4 : wc.cell? ⟨gb468, 4, none⟩ = some (.int .i64 a2_4) := (blk_cell BK468.out 4).trans rfl
           have hcz46_5 : wc.cell? ⟨gb468, 5, none⟩ = some (.int .i64 a2_5) := (blk_cell BK468.out 5).trans rfl
           have hcz46_6 : wc.cell? ⟨gb468, 6, none⟩ = some (.int .i64 a2_6) := (blk_cell BK468.out 6).trans rfl
           have hcz46_7 : wc.cell? ⟨gb468, 7, none⟩ = some (.int .i64 a2_7) := (blk_cell BK468.out 7).trans rfl
           have hcz46_8 : wc.cell? ⟨gb468, 8, none⟩ = some (.int .i64 a2_8) := (blk_cell BK468.out 8).trans rfl
           have hcz46_9 : wc.cell? ⟨gb468, 9, none⟩ = some (.int .i64 a2_9) := (blk_cell BK468.out 9).trans rfl
           have hfz46_0 := blk_frozen BK468.out 0
           have hfz46_1 := blk_frozen BK468.out 1
           have hfz46_2 := blk_frozen BK468.out 2
           have hfz46_3 := blk_frozen BK468.out 3
           have hfz46_4 := blk_frozen BK468.out 4
           have hfz46_5 := blk_frozen BK468.out 5
           have hfz46_6 := blk_frozen BK468.out 6
           have hfz46_7 := blk_frozen BK468.out 7
           have hfz46_8 := blk_frozen BK468.out 8
           have hfz46_9 := blk_frozen BK468.out 9
           go_wp2_with (first | ((with_reducible refine gate_callee (f := 55) rfl ?_); refine goesL_ (some 97) rfl rfl Try.func55 (by kernel_rfl) rfl #[.slice A2_0 l2_0.length c2_0, .int .i64 a3, .int .i64 1, .int .i64 1] rfl (by (try simp only [List.map_toArray, List.map_cons, List.map_nil]); first | done | rfl | (simp only [List.length_drop, List.length_take]; rfl)) ?_; (with_reducible refine (foundryref20_all.calls kj29 _ _ l2_0 a3 1 1 false _ ?side1 ?side2 A42.out).mono ?_); (case side1 => repeat (first | exact (Kd.C_below HR2_0.out HB.out) | (with_reducible refine Kd.C_alloc ?_ _) | (with_reducible refine Kd.C_drewN ?_ _) | (with_reducible refine Kd.C_drew ?_))); (case side2 => exact HC2_0.out); rintro e w' ⟨rfl, ⟨nd, rfl⟩⟩; refine ⟨_, rfl, ?_⟩))
           go_ret
           exact ⟨by first | rfl | (simp [errW_none, errW_some] <;> rfl) | (simp [*, errW_none, errW_some] <;> rfl), by repeat (first | (with_reducible first | exact HB.out | apply below_alloc | apply pw_below_drewN | apply below_drew1 | refine below_set ?_ GE468.out) | exact HB.out)⟩
         ·rw [if_neg c41] at H
          have c41b0 : (a1 == 2) = false := beq_eq_false_iff_ne.mpr c41
          have c41b1 : (a1 != 2) = true := bne_iff_ne.mpr c41
          replace H := Option.bind_eq_some_iff.mp H
          obtain ⟨t476, A470, H⟩ := H
          replace H : (if t476 = true then ((foundryref20_all.f kj29 l2_1 a3 1 1).bind fun t477 => (some t477)) else (some false)) = some r := H
          have A47 := Aside0.mk A470
          clear A470
          by_cases c48 : t476 = true
          ·subst c48
           have H1 : ((foundryref20_all.f kj29 l2_1 a3 1 1).bind fun t477 => (some t477)) = some r := by rw [if_pos rfl] at H; exact H
           clear H
           have H := H1
           clear H1
           replace H := Option.bind_eq_some_iff.mp H
           obtain ⟨t477, A490, H⟩ := H
           replace H : (some t477) = some r := H
           have A49 := Aside0.mk A490
           clear A490
           obtain rfl := Option.some.inj H
           have hcz50_0 : wc.cell? ⟨gb468, 0, none⟩ = some (.slice A2_0 l2_0.length c2_0) := (blk_cell BK468.out 0).trans rfl
           have hcz50_1 : wc.cell? ⟨gb468, 1, none⟩ = some (.slice A2_1 l2_1.length c2_1) := (blk_cell BK468.out 1).trans rfl
           have hcz50_2 : wc.cell? ⟨gb468, 2, none⟩ = some (.int .i64 a2_2) := (blk_cell BK468.out 2).trans rfl
           have hcz50_3 : wc.cell? ⟨gb468, 3, none⟩ = some (.int .i64 a2_3) := (blk_cell BK468.out 3).trans rfl
           have hcz50_4 : wc.cell? ⟨gb468, 4, none⟩ = some (.int .i64 a2_4) := (blk_cell BK468.out 4).trans rfl
           have hcz50_5 : wc.cell? ⟨gb468, 5, none⟩ = some (.int .i64 a2_5) := (blk_cell BK468.out 5).trans rfl
           have hcz50_6 : wc.cell? ⟨gb468, 6, none⟩ = some (.int .i64 a2_6) := (blk_cell BK468.out 6).trans rfl
           have hcz50_7 : wc.cell? ⟨gb468, 7, none⟩ = some (.int .i64 a2_7) := (blk_cell BK468.out 7).trans rfl
           have hcz50_8 : wc.cell? ⟨gb468, 8, none⟩ = some (.int .i64 a2_8) := (blk_cell BK468.out 8).trans rfl
           have hcz50_9 : wc.cell? ⟨gb468, 9, none⟩ = some (.int .i64 a2_9) := (blk_cell BK468.out 9).trans rfl
           have hfz50_0 := blk_frozen BK468.out 0
           have hfz50_1 := blk_frozen BK468.out 1
           have hfz50_2 := blk_frozen BK468.out 2
           have hfz50_3 := blk_frozen BK468.out 3
           have hfz50_4 := blk_frozen BK468.out 4
           have hfz50_5 := blk_frozen BK468.out 5
           have hfz50_6 := blk_frozen BK468.out 6
           have hfz50_7 := blk_frozen BK468.out 7
           have hfz50_8 := blk_frozen BK468.out 8
           have hfz50_9 := blk_frozen BK468.out 9
           go_wp2_with (first | ((with_reducible refine gate_callee (f := 55) rfl ?_); refine goesL_ (some 107) rfl rfl Try.func55 (by kernel_rfl) rfl #[.slice A2_0 l2_0.length c2_0, .int .i64 a3, .int .i64 2, .int .i64 8] rfl (by (try simp only [List.map_toArray, List.map_cons, List.map_nil]); first | done | rfl | (simp only [List.length_drop, List.length_take]; rfl)) ?_; (with_reducible refine (foundryref20_all.calls kj29 _ _ l2_0 a3 2 8 true _ ?side1 ?side2 A47.out).mono ?_); (case side1 => repeat (first | exact (Kd.C_below HR2_0.out HB.out) | (with_reducible refine Kd.C_alloc ?_ _) | (with_reducible refine Kd.C_drewN ?_ _) | (with_reducible refine Kd.C_drew ?_))); (case side2 => exact HC2_0.out); rintro e w' ⟨rfl, ⟨nd, rfl⟩⟩; refine ⟨_, rfl, ?_⟩) | (go_at_call 55; (with_reducible refine (foundryref20_all.calls kj29 _ _ l2_1 a3 1 1 t477 _ ?side1 ?side2 A49.out).mono ?_); (case side1 => repeat (first | exact (Kd.C_below HR2_1.out (by repeat (first | (with_reducible first | exact HB.out | apply below_alloc | apply pw_below_drewN | apply below_drew1 | refine below_set ?_ GE468.out) | exact HB.out))) | (with_reducible refine Kd.C_alloc ?_ _) | (with_reducible refine Kd.C_drewN ?_ _) | (with_reducible refine Kd.C_drew ?_))); (case side2 => exact HC2_1.out); rintro e w' ⟨rfl, ⟨nd, rfl⟩⟩))
           go_ret
           exact ⟨by first | rfl | (simp [errW_none, errW_some] <;> rfl) | (simp [*, errW_none, errW_some] <;> rfl), by repeat (first | (with_reducible first | exact HB.out | apply below_alloc | apply pw_below_drewN | apply below_drew1 | refine below_set ?_ GE468.out) | exact HB.out)⟩
          ·replace c48 := Bool.eq_false_iff.mpr c48
           subst c48
           have H1 : (some false) = some r := by rw [if_neg (show ¬ (false = true) by decide)] at H; exact H
           clear H
           have H := H1
           clear H1
           obtain rfl := Option.some.inj H
           have hcz51_0 : wc.cell? ⟨gb468, 0, none⟩ = some (.slice A2_0 l2_0.length c2_0) := (blk_cell BK468.out 0).trans rfl
           have hcz51_1 : wc.cell? ⟨gb468, 1, none⟩ = some (.slice A2_1 l2_1.length c2_1) := (blk_cell BK468.out 1).trans rfl
           have hcz51_2 : wc.cell? ⟨gb468, 2, none⟩ = some (.int .i64 a2_2) := (blk_cell BK468.out 2).trans rfl
           have hcz51_3 : wc.cell? ⟨gb468, 3, none⟩ = some (.int .i64 a2_3) := (blk_cell BK468.out 3).trans rfl
           have hcz51_4 : wc.cell? ⟨gb468, 4, none⟩ = some (.int .i64 a2_4) := (blk_cell BK468.out 4).trans rfl
           have hcz51_5 : wc.cell? ⟨gb468, 5, none⟩ = some (.int .i64 a2_5) := (blk_cell BK468.out 5).trans rfl
           have hcz51_6 : wc.cell? ⟨gb468, 6, none⟩ = some (.int .i64 a2_6) := (blk_cell BK468.out 6).trans rfl
           have hcz51_7 : wc.cell? ⟨gb468, 7, none⟩ = some (.int .i64 a2_7) := (blk_cell BK468.out 7).trans rfl
           have hcz51_8 : wc.cell? ⟨gb468, 8, none⟩ = some (.int .i64 a2_8) := (blk_cell BK468.out 8).trans rfl
           have hcz51_9 : wc.cell? ⟨gb468, 9, none⟩ = some (.int .i64 a2_9) := (blk_cell BK468.out 9).trans rfl
           have hfz51_0 := blk_frozen BK468.out 0
           have hfz51_1 := blk_frozen BK468.out 1
           have hfz51_2 := blk_frozen BK468.out 2
           have hfz51_3 := blk_frozen BK468.out 3
           have hfz51_4 := blk_frozen BK468.out 4
           have hfz51_5 := blk_frozen BK468.out 5
           have hfz51_6 := blk_frozen BK468.out 6
           have hfz51_7 := blk_frozen BK468.out 7
           have hfz51_8 := blk_frozen BK468.out 8
           have hfz51_9 := blk_frozen BK468.out 9
           go_wp2_with (first | ((with_reducible refine gate_callee (f := 55) rfl ?_); refine goesL_ (some 107) rfl rfl Try.func55 (by kernel_rfl) rfl #[.slice A2_0 l2_0.length c2_0, .int .i64 a3, .int .i64 2, .int .i64 8] rfl (by (try simp only [List.map_toArray, List.map_cons, List.map_nil]); first | done | rfl | (simp only [List.length_drop, List.length_take]; rfl)) ?_; (with_reducible refine (foundryref20_all.calls kj29 _ _ l2_0 a3 2 8 false _ ?side1 ?side2 A47.out).mono ?_); (case side1 => repeat (first | exact (Kd.C_below HR2_0.out HB.out) | (with_reducible refine Kd.C_alloc ?_ _) | (with_reducible refine Kd.C_drewN ?_ _) | (with_reducible refine Kd.C_drew ?_))); (case side2 => exact HC2_0.out); rintro e w' ⟨rfl, ⟨nd, rfl⟩⟩; refine ⟨_, rfl, ?_⟩))
           go_ret
           exact ⟨by first | rfl | (simp [errW_none, errW_some] <;> rfl) | (simp [*, errW_none, errW_some] <;> rfl), by repeat (first | (with_reducible first | exact HB.out | apply below_alloc | apply pw_below_drewN | apply below_drew1 | refine below_set ?_ GE468.out) | exact HB.out)⟩

/-! ### foundryref20_Formed: function 35 -/
mutual
def foundryref20_Formed.l0 : Nat → List (S46) → Int → Int → Option (Bool)
 | 0, _, _, _ => none
 | k + 1, x0, x1, x5 => if x5 < (x0.length : Int) then (if 0 ≤ x5 then ((foundryref20_Puts.f ((rd_T46 x0 x5).f0)).bind fun t479 => (if t479 = true then (foundryref20_Formed.j1 k x0 x1 x5 (decide ((((rd_T46 x0 x5).f2).length : Int) > 40))) else (foundryref20_Formed.j1 k x0 x1 x5 false))) else (none)) else (some true)
def foundryref20_Formed.j1 : Nat → List (S46) → Int → Int → Bool → Option (Bool)
 | 0, _, _, _, _ => none
 | k + 1, x0, x1, x5, x30 => if x30 = true then (some false) else (foundryref20_Formed.l1 k x0 x1 x5 0)
def foundryref20_Formed.l1 : Nat → List (S46) → Int → Int → Int → Option (Bool)
 | 0, _, _, _, _ => none
 | k + 1, x0, x1, x5, x6 => if 0 ≤ x5 then (if x5 < (x0.length : Int) then (if x6 < (((rd_T46 x0 x5).f2).length : Int) then ((foundryref20_Puts.f ((rd_T46 x0 x5).f0)).bind fun t483 => (foundryref20_Formed.j3 k x0 x1 x5 x6 t483)) else (foundryref20_Formed.j3 k x0 x1 x5 x6 false)) else (none)) else (none)
def foundryref20_Formed.j3 : Nat → List (S46) → Int → Int → Int → Bool → Option (Bool)
 | 0, _, _, _, _, _ => none
 | k + 1, x0, x1, x5, x6, x46 => if x46 = true then (if 0 ≤ x5 then (if x5 < (x0.length : Int) then (if 0 ≤ x6 then (if x6 < (((rd_T46 x0 x5).f2).length : Int) then ((foundryref20_rule.f k x0 ((rd_T46 x0 x5).f0) ((rd_T43 ((rd_T46 x0 x5).f2) x6).f0) ((rd_T43 ((rd_T46 x0 x5).f2) x6).f1) ((rd_T43 ((rd_T46 x0 x5).f2) x6).f2) ((rd_T43 ((rd_T46 x0 x5).f2) x6).f3) ((rd_T43 ((rd_T46 x0 x5).f2) x6).f4.f0) ((rd_T43 ((rd_T46 x0 x5).f2) x6).f4.f1) ((rd_T43 ((rd_T46 x0 x5).f2) x6).f5.f0) ((rd_T43 ((rd_T46 x0 x5).f2) x6).f5.f1) ((rd_T43 ((rd_T46 x0 x5).f2) x6).f6.f0) ((rd_T43 ((rd_T46 x0 x5).f2) x6).f6.f1) x1).bind fun t487 => (if t487 = true then (foundryref20_Formed.l1 k x0 x1 x5 (wrap64 (x6 + 1))) else (some false))) else (none)) else (none)) else (none)) else (none)) else (foundryref20_Formed.l0 k x0 x1 (wrap64 (x5 + 1)))
end
def foundryref20_Formed.f (k : Nat) (l0 : List (S46)) (a1 : Int) : Option (Bool) := if (l0.length : Int) > 10 then (some false) else (foundryref20_Formed.l0 k l0 a1 0)
theorem foundryref20_Formed.mono_l : ∀ k, (∀ y0 y1 y2, LeO (foundryref20_Formed.l0 k y0 y1 y2) (foundryref20_Formed.l0 (k + 1) y0 y1 y2)) ∧ (∀ y0 y1 y2 y3, LeO (foundryref20_Formed.j1 k y0 y1 y2 y3) (foundryref20_Formed.j1 (k + 1) y0 y1 y2 y3)) ∧ (∀ y0 y1 y2 y3, LeO (foundryref20_Formed.l1 k y0 y1 y2 y3) (foundryref20_Formed.l1 (k + 1) y0 y1 y2 y3)) ∧ (∀ y0 y1 y2 y3 y4, LeO (foundryref20_Formed.j3 k y0 y1 y2 y3 y4) (foundryref20_Formed.j3 (k + 1) y0 y1 y2 y3 y4))
 | 0 => ⟨fun _ _ _ r h => by simp [foundryref20_Formed.l0] at h, fun _ _ _ _ r h => by simp [foundryref20_Formed.j1] at h, fun _ _ _ _ r h => by simp [foundryref20_Formed.l1] at h, fun _ _ _ _ _ r h => by simp [foundryref20_Formed.j3] at h⟩
 | k + 1 => by
  obtain ⟨ih0, ih1, ih2, ih3⟩ := foundryref20_Formed.mono_l k
  refine ⟨?_, ?_, ?_, ?_⟩
  ·intro y0 y1 y2
   unfold foundryref20_Formed.l0
   repeat' first
   | (with_reducible exact ih0 _ _ _)
   | (with_reducible exact ih1 _ _ _ _)
   | (with_reducible exact ih2 _ _ _ _)
   | (with_reducible exact ih3 _ _ _ _ _)
   | (with_reducible exact foundryref20_rule.mono _ _ _ _ _ _ _ _ _ _ _ _ _ _)
   | (with_reducible exact LeO.refl _)
   | (with_reducible exact LeO.none _)
   | (with_reducible refine LeO.ite ?_ ?_)
   | (with_reducible refine LeO.bind ?_ (fun _ => ?_))
   | exact ih0 _ _ _
   | exact ih1 _ _ _ _
   | exact ih2 _ _ _ _
   | exact ih3 _ _ _ _ _
   | exact foundryref20_rule.mono _ _ _ _ _ _ _ _ _ _ _ _ _ _
   | exact LeO.none _
   | refine LeO.ite ?_ ?_
   | refine LeO.bind ?_ (fun _ => ?_)
  ·intro y0 y1 y2 y3
   unfold foundryref20_Formed.j1
   repeat' first
   | (with_reducible exact ih0 _ _ _)
   | (with_reducible exact ih1 _ _ _ _)
   | (with_reducible exact ih2 _ _ _ _)
   | (with_reducible exact ih3 _ _ _ _ _)
   | (with_reducible exact foundryref20_rule.mono _ _ _ _ _ _ _ _ _ _ _ _ _ _)
   | (with_reducible exact LeO.refl _)
   | (with_reducible exact LeO.none _)
   | (with_reducible refine LeO.ite ?_ ?_)
   | (with_reducible refine LeO.bind ?_ (fun _ => ?_))
   | exact ih0 _ _ _
   | exact ih1 _ _ _ _
   | exact ih2 _ _ _ _
   | exact ih3 _ _ _ _ _
   | exact foundryref20_rule.mono _ _ _ _ _ _ _ _ _ _ _ _ _ _
   | exact LeO.none _
   | refine LeO.ite ?_ ?_
   | refine LeO.bind ?_ (fun _ => ?_)
  ·intro y0 y1 y2 y3
   unfold foundryref20_Formed.l1
   repeat' first
   | (with_reducible exact ih0 _ _ _)
   | (with_reducible exact ih1 _ _ _ _)
   | (with_reducible exact ih2 _ _ _ _)
   | (with_reducible exact ih3 _ _ _ _ _)
   | (with_reducible exact foundryref20_rule.mono _ _ _ _ _ _ _ _ _ _ _ _ _ _)
   | (with_reducible exact LeO.refl _)
   | (with_reducible exact LeO.none _)
   | (with_reducible refine LeO.ite ?_ ?_)
   | (with_reducible refine LeO.bind ?_ (fun _ => ?_))
   | exact ih0 _ _ _
   | exact ih1 _ _ _ _
   | exact ih2 _ _ _ _
   | exact ih3 _ _ _ _ _
   | exact foundryref20_rule.mono _ _ _ _ _ _ _ _ _ _ _ _ _ _
   | exact LeO.none _
   | refine LeO.ite ?_ ?_
   | refine LeO.bind ?_ (fun _ => ?_)
  ·intro y0 y1 y2 y3 y4
   unfold foundryref20_Formed.j3
   repeat' first
   | (with_reducible exact ih0 _ _ _)
   | (with_reducible exact ih1 _ _ _ _)
   | (with_reducible exact ih2 _ _ _ _)
   | (with_reducible exact ih3 _ _ _ _ _)
   | (with_reducible exact foundryref20_rule.mono _ _ _ _ _ _ _ _ _ _ _ _ _ _)
   | (with_reducible exact LeO.refl _)
   | (with_reducible exact LeO.none _)
   | (with_reducible refine LeO.ite ?_ ?_)
   | (with_reducible refine LeO.bind ?_ (fun _ => ?_))
   | exact ih0 _ _ _
   | exact ih1 _ _ _ _
   | exact ih2 _ _ _ _
   | exact ih3 _ _ _ _ _
   | exact foundryref20_rule.mono _ _ _ _ _ _ _ _ _ _ _ _ _ _
   | exact LeO.none _
   | refine LeO.ite ?_ ?_
   | refine LeO.bind ?_ (fun _ => ?_)
theorem foundryref20_Formed.mono : ∀ a0 a1 k, LeO (foundryref20_Formed.f k a0 a1) (foundryref20_Formed.f (k + 1) a0 a1) := by
 intro a0 a1 k
 obtain ⟨ih0, ih1, ih2, ih3⟩ := foundryref20_Formed.mono_l k
 unfold foundryref20_Formed.f
 repeat' first
   | (with_reducible exact ih0 _ _ _)
   | (with_reducible exact ih1 _ _ _ _)
   | (with_reducible exact ih2 _ _ _ _)
   | (with_reducible exact ih3 _ _ _ _ _)
   | (with_reducible exact foundryref20_rule.mono _ _ _ _ _ _ _ _ _ _ _ _ _ _)
   | (with_reducible exact LeO.refl _)
   | (with_reducible exact LeO.none _)
   | (with_reducible refine LeO.ite ?_ ?_)
   | (with_reducible refine LeO.bind ?_ (fun _ => ?_))
   | exact ih0 _ _ _
   | exact ih1 _ _ _ _
   | exact ih2 _ _ _ _
   | exact ih3 _ _ _ _ _
   | exact foundryref20_rule.mono _ _ _ _ _ _ _ _ _ _ _ _ _ _
   | exact LeO.none _
   | refine LeO.ite ?_ ?_
   | refine LeO.bind ?_ (fun _ => ?_)
def foundryref20_Formed.T11 : Bool × List (List Nat × List Nat) := (true, [([], []), ([], []), ([], []), ([1, 2], [1, 2]), ([3], [3]), ([4], [4]), ([], []), ([], []), ([6, 7], [6, 7]), ([8], [8]), ([9], [9]), ([], []), ([10, 11], [10, 11]), ([12], [12]), ([], []), ([0, 5, 13, 14], [0, 5, 13, 14]), ([15], [15])])
def foundryref20_Formed.B11 : List Nat := [0, 0, 0, 6, 14, 30, 0, 0, 192, 448, 960, 0, 4032, 8128, 0, 32767, 65535]
theorem foundryref20_Formed.tab11 : rtab .any (opsOf Try.f35 11) = foundryref20_Formed.T11 := by kernel_rfl
theorem foundryref20_Formed.bits11 : waitsOk foundryref20_Formed.T11.2 foundryref20_Formed.B11 = true := by kernel_rfl
set_option maxHeartbeats 8000000 in
set_option maxRecDepth 100000 in
theorem foundryref20_Formed.calls (k : Nat) (A0 : Option Addr) (c0 : Nat) (l0 : List (S46)) (a1 : Int) (r : Bool) (w : World) (hr0 : Kd.C k46 w A0 l0.length l0) (hc0 : l0.length ≤ c0) (h : foundryref20_Formed.f k l0 a1 = some r) :
  Calls Try.prog 35 #[.slice A0 l0.length c0, .int .i64 a1] w fun e w' => e = .returned (.bool r) ∧ Below w.heap.size w w' := by
 have hu43 := Try.underlying43
 have HR0 := Aside0.mk hr0
 have HC0 := Aside0.mk hc0
 clear hr0 hc0
 have HB := Aside0.mk (Below.refl w.heap.size w)
 have H : (if (l0.length : Int) > 10 then (some false) else (foundryref20_Formed.l0 k l0 a1 0)) = some r := h
 clear h
 by_cases c3 : (l0.length : Int) > 10
 ·rw [if_pos c3] at H
  have c3b0 : decide (10 < (l0.length : Int)) = true := decide_eq_true c3
  have c3b1 : decide (10 < l0.length) = true := decide_eq_true (by omega)
  clear c3
  obtain rfl := Option.some.inj H
  go_enter Try.func35, Try.ntmps35
  go_wp2
  go_ret
  exact ⟨by first | rfl | (simp [errW_none, errW_some] <;> rfl) | (simp [*, errW_none, errW_some] <;> rfl), by repeat (first | (with_reducible first | exact HB.out | apply below_alloc | apply pw_below_drewN | apply below_drew1) | exact HB.out)⟩
 ·rw [if_neg c3] at H
  have c3b0 : decide (10 < (l0.length : Int)) = false := decide_eq_false c3
  have c3b1 : decide (10 < l0.length) = false := decide_eq_false (by omega)
  clear c3
  have H' := Aside0.mk H
  clear H
  go_enter Try.func35, Try.ntmps35
  go_wp2
  go_loopg [5] k (fun kq v5 w' => ∃ (x5_1 : Int), v5 = .int .i64 x5_1 ∧ Aside0 (foundryref20_Formed.l0 kq l0 a1 x5_1 = some r) ∧ Aside0 (kq ≤ k) ∧ Aside0 (Below w.heap.size w w'))
  case atStart => exact ⟨(0), (by first | rfl | (simp; done) | (simp [*]; done)), H', ⟨Nat.le_refl _⟩, ⟨by repeat (first | (with_reducible first | exact HB.out | apply below_alloc | apply pw_below_drewN | apply below_drew1) | exact HB.out)⟩⟩
  case round =>
   clear H'
   try clear p2
   try clear c3
   try clear c3b0
   try clear c3b1
   obtain ⟨x5_1, rfl, HA, HK1, HB⟩ := hrel
   cases gk with
   | zero => exact absurd HA.out (by simp [foundryref20_Formed.l0])
   | succ k1 =>
    have H := HA.out
    clear HA
    simp only [foundryref20_Formed.l0] at H
    by_cases c4 : x5_1 < (l0.length : Int)
    ·rw [if_pos c4] at H
     have c4b0 : decide (x5_1 < (l0.length : Int)) = true := decide_eq_true c4
     clear c4
     have HC5 := Aside0.mk H
     clear H
     go_upto_region 6 with (fail)
     go_cut [30] (fun v30 wc => ∃ (kq : Nat) (x30_4 : Bool), v30 = .bool x30_4 ∧ Aside0 (foundryref20_Formed.j1 kq l0 a1 x5_1 x30_4 = some r) ∧ Aside0 (kq ≤ k1) ∧ Aside0 (Below w.heap.size w wc))
     case first =>
      have H := HC5.out
      clear HC5
      by_cases c6 : 0 ≤ x5_1
      ·rw [if_pos c6] at H
       have c6b0 : decide (0 ≤ x5_1) = true := decide_eq_true c6
       clear c6
       (first | rw [c6b0] | (simp only [i64_w, i32_w]; rw [c6b0]) | skip)
       replace H := Option.bind_eq_some_iff.mp H
       obtain ⟨t479, A70, H⟩ := H
       replace H : (if t479 = true then (foundryref20_Formed.j1 k1 l0 a1 x5_1 (decide ((((rd_T46 l0 x5_1).f2).length : Int) > 40))) else (foundryref20_Formed.j1 k1 l0 a1 x5_1 false)) = some r := H
       have A7 := Aside0.mk A70
       clear A70
       by_cases c8 : t479 = true
       ·subst c8
        have H1 : (foundryref20_Formed.j1 k1 l0 a1 x5_1 (decide ((((rd_T46 l0 x5_1).f2).length : Int) > 40))) = some r := by rw [if_pos rfl] at H; exact H
        clear H
        have H := H1
        clear H1
        have H' := Aside0.mk H
        clear H
        have p478 : 0 ≤ (x5_1 : Int) := of_decide_eq_true (by first | (with_reducible assumption) | assumption)
        have q478 : x5_1 < (l0.length : Int) := of_decide_eq_true (by first | (with_reducible assumption) | assumption)
        obtain ⟨ad478, A478_2, c478_2, e478, hx478_0, hx478_1, hx478_2, hl478_2, hi478_2⟩ := at_T46 HR0.out x5_1 p478 q478
        cases e478
        replace hx478_0 := (HB.out.cell (World.block_lt_of_cell? w _ hx478_0)).trans hx478_0
        replace hx478_1 := (HB.out.cell (World.block_lt_of_cell? w _ hx478_1)).trans hx478_1
        replace hx478_2 := (HB.out.cell (World.block_lt_of_cell? w _ hx478_2)).trans hx478_2
        have HR478_2 := Aside0.mk hi478_2
        have HC478_2 := Aside0.mk hl478_2
        clear hi478_2 hl478_2
        replace p478 := eq_true p478
        replace q478 := eq_true q478
        go_wp2_with (first | ((with_reducible refine gate_callee (f := 45) rfl ?_); refine goesL_ (some 21) rfl rfl Try.func45 (by kernel_rfl) rfl #[.int .i64 ((rd_T46 l0 x5_1).f0)] rfl (by (try simp only [List.map_toArray, List.map_cons, List.map_nil]); first | done | rfl | (simp only [List.length_drop, List.length_take]; rfl)) ?_; (with_reducible refine (foundryref20_Puts.calls ((rd_T46 l0 x5_1).f0) true _ A7.out).mono ?_); rintro e w' ⟨rfl, ⟨nd, rfl⟩⟩; refine ⟨_, rfl, ?_⟩; have p480 : 0 ≤ (x5_1 : Int) := of_decide_eq_true (by first | (with_reducible assumption) | assumption); have q480 : x5_1 < (l0.length : Int) := of_decide_eq_true (by first | (with_reducible assumption) | assumption); obtain ⟨ad480, A480_2, c480_2, e480, hx480_0, hx480_1, hx480_2, hl480_2, hi480_2⟩ := at_T46 HR0.out x5_1 p480 q480; obtain rfl : ad478 = ad480 := (by injection e480); replace hx480_0 := (HB.out.cell (World.block_lt_of_cell? w _ hx480_0)).trans hx480_0; replace hx480_1 := (HB.out.cell (World.block_lt_of_cell? w _ hx480_1)).trans hx480_1; replace hx480_2 := (HB.out.cell (World.block_lt_of_cell? w _ hx480_2)).trans hx480_2; have HR480_2 := Aside0.mk hi480_2; have HC480_2 := Aside0.mk hl480_2; clear hi480_2 hl480_2; replace p480 := eq_true p480; replace q480 := eq_true q480; have ea_ := Option.some.inj (hx478_2.symm.trans hx480_2); injection ea_ with ea_ en_ ec_; subst ea_; subst ec_; clear en_))
        go_meet
        case rel => exact ⟨_, (decide ((((rd_T46 l0 x5_1).f2).length : Int) > 40)), (by first | rfl | (simp; done) | (simp [*]; done)), H', ⟨by have := HK1.out; first | omega | exact Nat.le_refl _⟩, ⟨by repeat (first | (with_reducible first | exact HB.out | apply below_alloc | apply pw_below_drewN | apply below_drew1) | exact HB.out)⟩⟩
       ·replace c8 := Bool.eq_false_iff.mpr c8
        subst c8
        have H1 : (foundryref20_Formed.j1 k1 l0 a1 x5_1 false) = some r := by rw [if_neg (show ¬ (false = true) by decide)] at H; exact H
        clear H
        have H := H1
        clear H1
        have H' := Aside0.mk H
        clear H
        have p478 : 0 ≤ (x5_1 : Int) := of_decide_eq_true (by first | (with_reducible assumption) | assumption)
        have q478 : x5_1 < (l0.length : Int) := of_decide_eq_true (by first | (with_reducible assumption) | assumption)
        obtain ⟨ad478, A478_2, c478_2, e478, hx478_0, hx478_1, hx478_2, hl478_2, hi478_2⟩ := at_T46 HR0.out x5_1 p478 q478
        cases e478
        replace hx478_0 := (HB.out.cell (World.block_lt_of_cell? w _ hx478_0)).trans hx478_0
        replace hx478_1 := (HB.out.cell (World.block_lt_of_cell? w _ hx478_1)).trans hx478_1
        replace hx478_2 := (HB.out.cell (World.block_lt_of_cell? w _ hx478_2)).trans hx478_2
        have HR478_2 := Aside0.mk hi478_2
        have HC478_2 := Aside0.mk hl478_2
        clear hi478_2 hl478_2
        replace p478 := eq_true p478
        replace q478 := eq_true q478
        go_wp2_with (first | ((with_reducible refine gate_callee (f := 45) rfl ?_); refine goesL_ (some 21) rfl rfl Try.func45 (by kernel_rfl) rfl #[.int .i64 ((rd_T46 l0 x5_1).f0)] rfl (by (try simp only [List.map_toArray, List.map_cons, List.map_nil]); first | done | rfl | (simp only [List.length_drop, List.length_take]; rfl)) ?_; (with_reducible refine (foundryref20_Puts.calls ((rd_T46 l0 x5_1).f0) false _ A7.out).mono ?_); rintro e w' ⟨rfl, ⟨nd, rfl⟩⟩; refine ⟨_, rfl, ?_⟩))
        go_meet
        case rel => exact ⟨_, (false), (by first | rfl | (simp; done) | (simp [*]; done)), H', ⟨by have := HK1.out; first | omega | exact Nat.le_refl _⟩, ⟨by repeat (first | (with_reducible first | exact HB.out | apply below_alloc | apply pw_below_drewN | apply below_drew1) | exact HB.out)⟩⟩
      ·rw [if_neg c6] at H
       exact absurd H (by simp)
     case rest =>
      clear HC5
      try clear p2
      try clear c3
      try clear c3b0
      try clear c3b1
      try clear c4
      try clear c4b0
      try clear p4
      try clear q4
      try clear hx4
      try clear c6
      try clear c6b0
      try clear c8
      try clear hx478_0
      try clear hx478_1
      try clear hx478_2
      try clear hx480_0
      try clear hx480_1
      try clear hx480_2
      try clear p2
      try clear p478
      try clear p480
      try clear q478
      try clear q480
      obtain ⟨kq, x30_4, rfl, HA, HJ4, HB⟩ := hcut
      cases kq with
      | zero => exact absurd HA.out (by simp [foundryref20_Formed.j1])
      | succ kj4 =>
       have H := HA.out
       clear HA
       simp only [foundryref20_Formed.j1] at H
       by_cases c9 : x30_4 = true
       ·subst c9
        have H1 : (some false) = some r := by rw [if_pos rfl] at H; exact H
        clear H
        have H := H1
        clear H1
        obtain rfl := Option.some.inj H
        go_wp2
        go_ret
        exact ⟨by first | rfl | (simp [errW_none, errW_some] <;> rfl) | (simp [*, errW_none, errW_some] <;> rfl), by repeat (first | (with_reducible first | exact HB.out | apply below_alloc | apply pw_below_drewN | apply below_drew1) | exact HB.out)⟩
       ·replace c9 := Bool.eq_false_iff.mpr c9
        subst c9
        have H1 : (foundryref20_Formed.l1 kj4 l0 a1 x5_1 0) = some r := by rw [if_neg (show ¬ (false = true) by decide)] at H; exact H
        clear H
        have H := H1
        clear H1
        have H' := Aside0.mk H
        clear H
        go_wp2
        go_loopg [6] kj4 (fun kq v6 w' => ∃ (x6_3 : Int), v6 = .int .i64 x6_3 ∧ Aside0 (foundryref20_Formed.l1 kq l0 a1 x5_1 x6_3 = some r) ∧ Aside0 (kq ≤ kj4) ∧ Aside0 (Below w.heap.size w w'))
        case atStart => exact ⟨(0), (by first | rfl | (simp; done) | (simp [*]; done)), H', ⟨Nat.le_refl _⟩, ⟨by repeat (first | (with_reducible first | exact HB.out | apply below_alloc | apply pw_below_drewN | apply below_drew1) | exact HB.out)⟩⟩
        case round =>
         clear H'
         try clear p2
         try clear c3
         try clear c3b0
         try clear c3b1
         try clear c4
         try clear c4b0
         try clear p4
         try clear q4
         try clear hx4
         try clear c6
         try clear c6b0
         try clear c8
         try clear c9
         try clear hx478_0
         try clear hx478_1
         try clear hx478_2
         try clear hx480_0
         try clear hx480_1
         try clear hx480_2
         try clear p2
         try clear p4
         try clear p478
         try clear p480
         try clear q4
         try clear q478
         try clear q480
         obtain ⟨x6_3, rfl, HA, HK3, HB⟩ := hrel
         cases gk with
         | zero => exact absurd HA.out (by simp [foundryref20_Formed.l1])
         | succ k3 =>
          have H := HA.out
          clear HA
          simp only [foundryref20_Formed.l1] at H
          have HC10 := Aside0.mk H
          clear H
          go_upto_region 9 with (fail)
          go_cut [46] (fun v46 wc => ∃ (kq : Nat) (x46_9 : Bool), v46 = .bool x46_9 ∧ Aside0 (foundryref20_Formed.j3 kq l0 a1 x5_1 x6_3 x46_9 = some r) ∧ Aside0 (kq ≤ k3) ∧ Aside0 (Below w.heap.size w wc))
          case first =>
           have H := HC10.out
           clear HC10
           by_cases c11 : 0 ≤ x5_1
           ·rw [if_pos c11] at H
            have c11b0 : decide (0 ≤ x5_1) = true := decide_eq_true c11
            clear c11
            (first | rw [c11b0] | (simp only [i64_w, i32_w]; rw [c11b0]) | skip)
            by_cases c12 : x5_1 < (l0.length : Int)
            ·rw [if_pos c12] at H
             have c12b0 : decide (x5_1 < (l0.length : Int)) = true := decide_eq_true c12
             clear c12
             by_cases c13 : x6_3 < (((rd_T46 l0 x5_1).f2).length : Int)
             ·rw [if_pos c13] at H
              have c13b0 : decide (x6_3 < (((rd_T46 l0 x5_1).f2).length : Int)) = true := decide_eq_true c13
              clear c13
              replace H := Option.bind_eq_some_iff.mp H
              obtain ⟨t483, A140, H⟩ := H
              replace H : (foundryref20_Formed.j3 k3 l0 a1 x5_1 x6_3 t483) = some r := H
              have A14 := Aside0.mk A140
              clear A140
              have H' := Aside0.mk H
              clear H
              have p481 : 0 ≤ (x5_1 : Int) := of_decide_eq_true (by first | (with_reducible assumption) | assumption)
              have q481 : x5_1 < (l0.length : Int) := of_decide_eq_true (by first | (with_reducible assumption) | assumption)
              obtain ⟨ad481, A481_2, c481_2, e481, hx481_0, hx481_1, hx481_2, hl481_2, hi481_2⟩ := at_T46 HR0.out x5_1 p481 q481
              cases e481
              replace hx481_0 := (HB.out.cell (World.block_lt_of_cell? w _ hx481_0)).trans hx481_0
              replace hx481_1 := (HB.out.cell (World.block_lt_of_cell? w _ hx481_1)).trans hx481_1
              replace hx481_2 := (HB.out.cell (World.block_lt_of_cell? w _ hx481_2)).trans hx481_2
              have HR481_2 := Aside0.mk hi481_2
              have HC481_2 := Aside0.mk hl481_2
              clear hi481_2 hl481_2
              replace p481 := eq_true p481
              replace q481 := eq_true q481
              have p482 : 0 ≤ (x5_1 : Int) := of_decide_eq_true (by first | (with_reducible assumption) | assumption)
              have q482 : x5_1 < (l0.length : Int) := of_decide_eq_true (by first | (with_reducible assumption) | assumption)
              obtain ⟨ad482, A482_2, c482_2, e482, hx482_0, hx482_1, hx482_2, hl482_2, hi482_2⟩ := at_T46 HR0.out x5_1 p482 q482
              obtain rfl : ad481 = ad482 := (by injection e482)
              replace hx482_0 := (HB.out.cell (World.block_lt_of_cell? w _ hx482_0)).trans hx482_0
              replace hx482_1 := (HB.out.cell (World.block_lt_of_cell? w _ hx482_1)).trans hx482_1
              replace hx482_2 := (HB.out.cell (World.block_lt_of_cell? w _ hx482_2)).trans hx482_2
              have HR482_2 := Aside0.mk hi482_2
              have HC482_2 := Aside0.mk hl482_2
              clear hi482_2 hl482_2
              replace p482 := eq_true p482
              replace q482 := eq_true q482
              have ea_ := Option.some.inj (hx481_2.symm.trans hx482_2)
              injection ea_ with ea_ en_ ec_
              subst ea_
              subst ec_
              clear en_
              go_wp2_with (first | (go_at_call 45; (with_reducible refine (foundryref20_Puts.calls ((rd_T46 l0 x5_1).f0) t483 _ A14.out).mono ?_); rintro e w' ⟨rfl, ⟨nd, rfl⟩⟩))
              go_meet
              case rel => exact ⟨_, (t483), (by first | rfl | (simp; done) | (simp [*]; done)), H', ⟨by have := HK1.out; have := HJ4.out; have := HK3.out; first | omega | exact Nat.le_refl _⟩, ⟨by repeat (first | (with_reducible first | exact HB.out | apply below_alloc | apply pw_below_drewN | apply below_drew1) | exact HB.out)⟩⟩
             ·rw [if_neg c13] at H
              have c13b0 : decide (x6_3 < (((rd_T46 l0 x5_1).f2).length : Int)) = false := decide_eq_false c13
              clear c13
              have H' := Aside0.mk H
              clear H
              have p481 : 0 ≤ (x5_1 : Int) := of_decide_eq_true (by first | (with_reducible assumption) | assumption)
              have q481 : x5_1 < (l0.length : Int) := of_decide_eq_true (by first | (with_reducible assumption) | assumption)
              obtain ⟨ad481, A481_2, c481_2, e481, hx481_0, hx481_1, hx481_2, hl481_2, hi481_2⟩ := at_T46 HR0.out x5_1 p481 q481
              cases e481
              replace hx481_0 := (HB.out.cell (World.block_lt_of_cell? w _ hx481_0)).trans hx481_0
              replace hx481_1 := (HB.out.cell (World.block_lt_of_cell? w _ hx481_1)).trans hx481_1
              replace hx481_2 := (HB.out.cell (World.block_lt_of_cell? w _ hx481_2)).trans hx481_2
              have HR481_2 := Aside0.mk hi481_2
              have HC481_2 := Aside0.mk hl481_2
              clear hi481_2 hl481_2
              replace p481 := eq_true p481
              replace q481 := eq_true q481
              go_wp2
              go_meet
              case rel => exact ⟨_, (false), (by first | rfl | (simp; done) | (simp [*]; done)), H', ⟨by have := HK1.out; have := HJ4.out; have := HK3.out; first | omega | exact Nat.le_refl _⟩, ⟨by repeat (first | (with_reducible first | exact HB.out | apply below_alloc | apply pw_below_drewN | apply below_drew1) | exact HB.out)⟩⟩
            ·rw [if_neg c12] at H
             exact absurd H (by simp)
           ·rw [if_neg c11] at H
            exact absurd H (by simp)
          case rest =>
           clear HC10
           try clear c1
           try clear p2
           try clear c3
           try clear c3b0
           try clear c3b1
           try clear c4
           try clear c4b0
           try clear p4
           try clear q4
           try clear hx4
           try clear c6
           try clear c6b0
           try clear c8
           try clear c9
           try clear c11
           try clear c11b0
           try clear c12
           try clear c12b0
           try clear c13
           try clear c13b0
           try clear hx478_0
           try clear hx478_1
           try clear hx478_2
           try clear hx480_0
           try clear hx480_1
           try clear hx480_2
           try clear hx481_0
           try clear hx481_1
           try clear hx481_2
           try clear hx482_0
           try clear hx482_1
           try clear hx482_2
           try clear p2
           try clear p4
           try clear p478
           try clear p480
           try clear p481
           try clear p482
           try clear q4
           try clear q478
           try clear q480
           try clear q481
           try clear q482
           obtain ⟨kq, x46_9, rfl, HA, HJ9, HB⟩ := hcut
           cases kq with
           | zero => exact absurd HA.out (by simp [foundryref20_Formed.j3])
           | succ kj9 =>
            have H := HA.out
            clear HA
            simp only [foundryref20_Formed.j3] at H
            by_cases c15 : x46_9 = true
            ·subst c15
             have H1 : (if 0 ≤ x5_1 then (if x5_1 < (l0.length : Int) then (if 0 ≤ x6_3 then (if x6_3 < (((rd_T46 l0 x5_1).f2).length : Int) then ((foundryref20_rule.f kj9 l0 ((rd_T46 l0 x5_1).f0) ((rd_T43 ((rd_T46 l0 x5_1).f2) x6_3).f0) ((rd_T43 ((rd_T46 l0 x5_1).f2) x6_3).f1) ((rd_T43 ((rd_T46 l0 x5_1).f2) x6_3).f2) ((rd_T43 ((rd_T46 l0 x5_1).f2) x6_3).f3) ((rd_T43 ((rd_T46 l0 x5_1).f2) x6_3).f4.f0) ((rd_T43 ((rd_T46 l0 x5_1).f2) x6_3).f4.f1) ((rd_T43 ((rd_T46 l0 x5_1).f2) x6_3).f5.f0) ((rd_T43 ((rd_T46 l0 x5_1).f2) x6_3).f5.f1) ((rd_T43 ((rd_T46 l0 x5_1).f2) x6_3).f6.f0) ((rd_T43 ((rd_T46 l0 x5_1).f2) x6_3).f6.f1) a1).bind fun t487 => (if t487 = true then (foundryref20_Formed.l1 kj9 l0 a1 x5_1 (wrap64 (x6_3 + 1))) else (some false))) else (none)) else (none)) else (none)) else (none)) = some r := by rw [if_pos rfl] at H; exact H
             clear H
             have H := H1
             clear H1
             by_cases c16 : 0 ≤ x5_1
             ·rw [if_pos c16] at H
              have c16b0 : decide (0 ≤ x5_1) = true := decide_eq_true c16
              clear c16
              by_cases c17 : x5_1 < (l0.length : Int)
              ·rw [if_pos c17] at H
               have c17b0 : decide (x5_1 < (l0.length : Int)) = true := decide_eq_true c17
               clear c17
               by_cases c18 : 0 ≤ x6_3
               ·rw [if_pos c18] at H
                have c18b0 : decide (0 ≤ x6_3) = true := decide_eq_true c18
                clear c18
                by_cases c19 : x6_3 < (((rd_T46 l0 x5_1).f2).length : Int)
                ·rw [if_pos c19] at H
                 have c19b0 : decide (x6_3 < (((rd_T46 l0 x5_1).f2).length : Int)) = true := decide_eq_true c19
                 clear c19
                 replace H := Option.bind_eq_some_iff.mp H
                 obtain ⟨t487, A200, H⟩ := H
                 replace H : (if t487 = true then (foundryref20_Formed.l1 kj9 l0 a1 x5_1 (wrap64 (x6_3 + 1))) else (some false)) = some r := H
                 have A20 := Aside0.mk A200
                 clear A200
                 by_cases c21 : t487 = true
                 ·subst c21
                  have H1 : (foundryref20_Formed.l1 kj9 l0 a1 x5_1 (wrap64 (x6_3 + 1))) = some r := by rw [if_pos rfl] at H; exact H
                  clear H
                  have H := H1
                  clear H1
                  have H' := Aside0.mk H
                  clear H
                  try go_wp2
                  have n0_ := Aside0.mk (below_drew1 HB.out)
                  clear HB
                  have HB := n0_
                  clear n0_
                  have p484 : 0 ≤ (x5_1 : Int) := of_decide_eq_true (by first | (with_reducible assumption) | assumption)
                  have q484 : x5_1 < (l0.length : Int) := of_decide_eq_true (by first | (with_reducible assumption) | assumption)
                  obtain ⟨ad484, A484_2, c484_2, e484, hx484_0, hx484_1, hx484_2, hl484_2, hi484_2⟩ := at_T46 HR0.out x5_1 p484 q484
                  have hw484_2 := hx484_2
                  have hw484_1 := hx484_1
                  have hw484_0 := hx484_0
                  cases e484
                  replace hx484_0 := (HB.out.cell (World.block_lt_of_cell? w _ hx484_0)).trans hx484_0
                  replace hx484_1 := (HB.out.cell (World.block_lt_of_cell? w _ hx484_1)).trans hx484_1
                  replace hx484_2 := (HB.out.cell (World.block_lt_of_cell? w _ hx484_2)).trans hx484_2
                  have HR484_2 := Aside0.mk hi484_2
                  have HC484_2 := Aside0.mk hl484_2
                  clear hi484_2 hl484_2
                  replace p484 := eq_true p484
                  replace q484 := eq_true q484
                  have p485 : 0 ≤ (x5_1 : Int) := of_decide_eq_true (by first | (with_reducible assumption) | assumption)
                  have q485 : x5_1 < (l0.length : Int) := of_decide_eq_true (by first | (with_reducible assumption) | assumption)
                  obtain ⟨ad485, A485_2, c485_2, e485, hx485_0, hx485_1, hx485_2, hl485_2, hi485_2⟩ := at_T46 HR0.out x5_1 p485 q485
                  have hw485_2 := hx485_2
                  have hw485_1 := hx485_1
                  have hw485_0 := hx485_0
                  obtain rfl : ad484 = ad485 := (by injection e485)
                  replace hx485_0 := (HB.out.cell (World.block_lt_of_cell? w _ hx485_0)).trans hx485_0
                  replace hx485_1 := (HB.out.cell (World.block_lt_of_cell? w _ hx485_1)).trans hx485_1
                  replace hx485_2 := (HB.out.cell (World.block_lt_of_cell? w _ hx485_2)).trans hx485_2
                  have HR485_2 := Aside0.mk hi485_2
                  have HC485_2 := Aside0.mk hl485_2
                  clear hi485_2 hl485_2
                  replace p485 := eq_true p485
                  replace q485 := eq_true q485
                  have ea_ := Option.some.inj (hx484_2.symm.trans hx485_2)
                  injection ea_ with ea_ en_ ec_
                  subst ea_
                  subst ec_
                  clear en_
                  have p486 : 0 ≤ (x6_3 : Int) := of_decide_eq_true (by first | (with_reducible assumption) | assumption)
                  have q486 : x6_3 < (((rd_T46 l0 x5_1).f2).length : Int) := of_decide_eq_true (by first | (with_reducible assumption) | assumption)
                  obtain ⟨ad486, A486_0, c486_0, A486_1, c486_1, e486, hx486_0, hx486_1, hx486_2, hx486_3, hx486_4, hx486_5, hx486_6, hx486_7, hx486_8, hx486_9, hl486_0, hi486_0, hl486_1, hi486_1⟩ := at_T43 HR485_2.out x6_3 p486 q486
                  have hw486_9 := hx486_9
                  have hw486_8 := hx486_8
                  have hw486_7 := hx486_7
                  have hw486_6 := hx486_6
                  have hw486_5 := hx486_5
                  have hw486_4 := hx486_4
                  have hw486_3 := hx486_3
                  have hw486_2 := hx486_2
                  have hw486_1 := hx486_1
                  have hw486_0 := hx486_0
                  cases e486
                  replace hx486_0 := (HB.out.cell (World.block_lt_of_cell? w _ hx486_0)).trans hx486_0
                  replace hx486_1 := (HB.out.cell (World.block_lt_of_cell? w _ hx486_1)).trans hx486_1
                  replace hx486_2 := (HB.out.cell (World.block_lt_of_cell? w _ hx486_2)).trans hx486_2
                  replace hx486_3 := (HB.out.cell (World.block_lt_of_cell? w _ hx486_3)).trans hx486_3
                  replace hx486_4 := (HB.out.cell (World.block_lt_of_cell? w _ hx486_4)).trans hx486_4
                  replace hx486_5 := (HB.out.cell (World.block_lt_of_cell? w _ hx486_5)).trans hx486_5
                  replace hx486_6 := (HB.out.cell (World.block_lt_of_cell? w _ hx486_6)).trans hx486_6
                  replace hx486_7 := (HB.out.cell (World.block_lt_of_cell? w _ hx486_7)).trans hx486_7
                  replace hx486_8 := (HB.out.cell (World.block_lt_of_cell? w _ hx486_8)).trans hx486_8
                  replace hx486_9 := (HB.out.cell (World.block_lt_of_cell? w _ hx486_9)).trans hx486_9
                  have HR486_0 := Aside0.mk hi486_0
                  have HC486_0 := Aside0.mk hl486_0
                  clear hi486_0 hl486_0
                  have HR486_1 := Aside0.mk hi486_1
                  have HC486_1 := Aside0.mk hl486_1
                  clear hi486_1 hl486_1
                  replace p486 := eq_true p486
                  replace q486 := eq_true q486
                  refine start_ (n := 17) (S := fun w' => w'.cell? (ad484.add ((x5_1).toNat * 3)) = some (.int .i64 ((rd_T46 l0 x5_1).f0)) ∧ w'.cell? ⟨(ad484.add ((x5_1).toNat * 3)).block, (ad484.add ((x5_1).toNat * 3)).off + 1, none⟩ = some (.bool ((rd_T46 l0 x5_1).f1)) ∧ w'.cell? ⟨(ad484.add ((x5_1).toNat * 3)).block, (ad484.add ((x5_1).toNat * 3)).off + 2, none⟩ = some (.slice (some ad486) ((rd_T46 l0 x5_1).f2).length c484_2) ∧ w'.cell? (ad484.add ((x5_1).toNat * 3)) = some (.int .i64 ((rd_T46 l0 x5_1).f0)) ∧ w'.cell? ⟨(ad484.add ((x5_1).toNat * 3)).block, (ad484.add ((x5_1).toNat * 3)).off + 1, none⟩ = some (.bool ((rd_T46 l0 x5_1).f1)) ∧ w'.cell? ⟨(ad484.add ((x5_1).toNat * 3)).block, (ad484.add ((x5_1).toNat * 3)).off + 2, none⟩ = some (.slice (some ad486) ((rd_T46 l0 x5_1).f2).length c484_2) ∧ w'.cell? (ad486.add ((x6_3).toNat * 10)) = some (.slice A486_0 ((rd_T43 ((rd_T46 l0 x5_1).f2) x6_3).f0).length c486_0) ∧ w'.cell? ⟨(ad486.add ((x6_3).toNat * 10)).block, (ad486.add ((x6_3).toNat * 10)).off + 1, none⟩ = some (.slice A486_1 ((rd_T43 ((rd_T46 l0 x5_1).f2) x6_3).f1).length c486_1) ∧ w'.cell? ⟨(ad486.add ((x6_3).toNat * 10)).block, (ad486.add ((x6_3).toNat * 10)).off + 2, none⟩ = some (.int .i64 ((rd_T43 ((rd_T46 l0 x5_1).f2) x6_3).f2)) ∧ w'.cell? ⟨(ad486.add ((x6_3).toNat * 10)).block, (ad486.add ((x6_3).toNat * 10)).off + 3, none⟩ = some (.int .i64 ((rd_T43 ((rd_T46 l0 x5_1).f2) x6_3).f3)) ∧ w'.cell? ⟨(ad486.add ((x6_3).toNat * 10)).block, (ad486.add ((x6_3).toNat * 10)).off + 4, none⟩ = some (.int .i64 ((rd_T43 ((rd_T46 l0 x5_1).f2) x6_3).f4.f0)) ∧ w'.cell? ⟨(ad486.add ((x6_3).toNat * 10)).block, (ad486.add ((x6_3).toNat * 10)).off + 5, none⟩ = some (.int .i64 ((rd_T43 ((rd_T46 l0 x5_1).f2) x6_3).f4.f1)) ∧ w'.cell? ⟨(ad486.add ((x6_3).toNat * 10)).block, (ad486.add ((x6_3).toNat * 10)).off + 6, none⟩ = some (.int .i64 ((rd_T43 ((rd_T46 l0 x5_1).f2) x6_3).f5.f0)) ∧ w'.cell? ⟨(ad486.add ((x6_3).toNat * 10)).block, (ad486.add ((x6_3).toNat * 10)).off + 7, none⟩ = some (.int .i64 ((rd_T43 ((rd_T46 l0 x5_1).f2) x6_3).f5.f1)) ∧ w'.cell? ⟨(ad486.add ((x6_3).toNat * 10)).block, (ad486.add ((x6_3).toNat * 10)).off + 8, none⟩ = some (.int .i64 ((rd_T43 ((rd_T46 l0 x5_1).f2) x6_3).f6.f0)) ∧ w'.cell? ⟨(ad486.add ((x6_3).toNat * 10)).block, (ad486.add ((x6_3).toNat * 10)).off + 9, none⟩ = some (.int .i64 ((rd_T43 ((rd_T46 l0 x5_1).f2) x6_3).f6.f1))) (ds := []) #[false, false, false, false, false, false, false, false, false, false, false, false, false, false, false, false, false] (by kernel_rfl) rfl rfl ⟨((HB.out.cell (World.block_lt_of_cell? w _ hw484_0)).trans hw484_0), ((HB.out.cell (World.block_lt_of_cell? w _ hw484_1)).trans hw484_1), ((HB.out.cell (World.block_lt_of_cell? w _ hw484_2)).trans hw484_2), ((HB.out.cell (World.block_lt_of_cell? w _ hw485_0)).trans hw485_0), ((HB.out.cell (World.block_lt_of_cell? w _ hw485_1)).trans hw485_1), ((HB.out.cell (World.block_lt_of_cell? w _ hw485_2)).trans hw485_2), ((HB.out.cell (World.block_lt_of_cell? w _ hw486_0)).trans hw486_0), ((HB.out.cell (World.block_lt_of_cell? w _ hw486_1)).trans hw486_1), ((HB.out.cell (World.block_lt_of_cell? w _ hw486_2)).trans hw486_2), ((HB.out.cell (World.block_lt_of_cell? w _ hw486_3)).trans hw486_3), ((HB.out.cell (World.block_lt_of_cell? w _ hw486_4)).trans hw486_4), ((HB.out.cell (World.block_lt_of_cell? w _ hw486_5)).trans hw486_5), ((HB.out.cell (World.block_lt_of_cell? w _ hw486_6)).trans hw486_6), ((HB.out.cell (World.block_lt_of_cell? w _ hw486_7)).trans hw486_7), ((HB.out.cell (World.block_lt_of_cell? w _ hw486_8)).trans hw486_8), ((HB.out.cell (World.block_lt_of_cell? w _ hw486_9)).trans hw486_9)⟩ (fun hHeld => ?_); refine with_tabW foundryref20_Formed.tab11 foundryref20_Formed.bits11 (fun HT_ HW_ => ?_)
                  generalize wc.drew = w22 at HB HR484_2 HR485_2 HR486_0 HR486_1 hx484_0 hx484_1 hx484_2 hx485_0 hx485_1 hx485_2 hx486_0 hx486_1 hx486_2 hx486_3 hx486_4 hx486_5 hx486_6 hx486_7 hx486_8 hx486_9 hHeld ⊢
                  refine pure_ (i := 0) (N := some 49) (v := ?_) (a' := ?_) #[true, false, false, false, false, false, false, false, false, false, false, false, false, false, false, false, false] rfl rfl (any_of HT_.out (by kernel_rfl)) (fun _ _ _ h => h) (Or.inl ⟨by rfl, ?_⟩) ?_ ?_
                  rotate_left
                  ·intro w'
                   go_simp
                   with_reducible rfl
                  rotate_left
                  ·simp only [Act.put, List.setIfInBounds_toArray, List.set_cons_zero, List.set_cons_succ, i64_w, i32_w]
                   rfl
                  refine pure_ (i := 1) (N := some 50) (v := ?_) (a' := ?_) #[true, true, false, false, false, false, false, false, false, false, false, false, false, false, false, false, false] rfl rfl (any_of HT_.out (by kernel_rfl)) (fun _ _ _ h => h) (Or.inl ⟨by rfl, ?_⟩) ?_ ?_
                  rotate_left
                  ·intro w'
                   go_simp
                   with_reducible rfl
                  rotate_left
                  ·simp only [Act.put, List.setIfInBounds_toArray, List.set_cons_zero, List.set_cons_succ, i64_w, i32_w]
                   rfl
                  refine pure_ (i := 2) (N := some 51) (v := ?_) (a' := ?_) #[true, true, true, false, false, false, false, false, false, false, false, false, false, false, false, false, false] rfl rfl (any_of HT_.out (by kernel_rfl)) (fun _ _ _ h => h) (Or.inl ⟨by rfl, ?_⟩) ?_ ?_
                  rotate_left
                  ·intro w'
                   go_simp
                   with_reducible rfl
                  rotate_left
                  ·simp only [Act.put, List.setIfInBounds_toArray, List.set_cons_zero, List.set_cons_succ, i64_w, i32_w]
                   rfl
                  refine pure_ (i := 3) (N := some 52) (v := ?_) (a' := ?_) #[true, true, true, true, false, false, false, false, false, false, false, false, false, false, false, false, false] rfl rfl (any_of HT_.out (by kernel_rfl)) (fun _ _ _ h => h) (Or.inl ⟨by rfl, ?_⟩) ?_ ?_
                  rotate_left
                  ·intro w'
                   go_simp
                   with_reducible rfl
                  rotate_left
                  ·simp only [Act.put, List.setIfInBounds_toArray, List.set_cons_zero, List.set_cons_succ, i64_w, i32_w]
                   rfl
                  refine pure_ (i := 4) (N := some 53) (v := ?_) (a' := ?_) #[true, true, true, true, true, false, false, false, false, false, false, false, false, false, false, false, false] rfl rfl (any_of HT_.out (by kernel_rfl)) (fun _ _ _ h => h) (Or.inl ⟨by rfl, ?_⟩) ?_ ?_
                  rotate_left
                  ·intro w'
                   go_simp
                   with_reducible rfl
                  rotate_left
                  ·simp only [Act.put, List.setIfInBounds_toArray, List.set_cons_zero, List.set_cons_succ, i64_w, i32_w]
                   rfl
                  refine pure_ (i := 6) (N := some 55) (v := ?_) (a' := ?_) #[true, true, true, true, true, false, true, false, false, false, false, false, false, false, false, false, false] rfl rfl (any_of HT_.out (by kernel_rfl)) (fun _ _ _ h => h) (Or.inl ⟨by rfl, ?_⟩) ?_ ?_
                  rotate_left
                  ·intro w'
                   go_simp
                   with_reducible rfl
                  rotate_left
                  ·simp only [Act.put, List.setIfInBounds_toArray, List.set_cons_zero, List.set_cons_succ, i64_w, i32_w]
                   rfl
                  refine pure_ (i := 7) (N := some 56) (v := ?_) (a' := ?_) #[true, true, true, true, true, false, true, true, false, false, false, false, false, false, false, false, false] rfl rfl (any_of HT_.out (by kernel_rfl)) (fun _ _ _ h => h) (Or.inl ⟨by rfl, ?_⟩) ?_ ?_
                  rotate_left
                  ·intro w'
                   go_simp
                   with_reducible rfl
                  rotate_left
                  ·simp only [Act.put, List.setIfInBounds_toArray, List.set_cons_zero, List.set_cons_succ, i64_w, i32_w]
                   rfl
                  refine pure_ (i := 8) (N := some 57) (v := ?_) (a' := ?_) #[true, true, true, true, true, false, true, true, true, false, false, false, false, false, false, false, false] rfl rfl (any_of HT_.out (by kernel_rfl)) (fun _ _ _ h => h) (Or.inl ⟨by rfl, ?_⟩) ?_ ?_
                  rotate_left
                  ·intro w'
                   go_simp
                   with_reducible rfl
                  rotate_left
                  ·simp only [Act.put, List.setIfInBounds_toArray, List.set_cons_zero, List.set_cons_succ, i64_w, i32_w]
                   rfl
                  refine pure_ (i := 9) (N := some 58) (v := ?_) (a' := ?_) #[true, true, true, true, true, false, true, true, true, true, false, false, false, false, false, false, false] rfl rfl (any_of HT_.out (by kernel_rfl)) (fun _ _ _ h => h) (Or.inl ⟨by rfl, ?_⟩) ?_ ?_
                  rotate_left
                  ·intro w'
                   go_simp
                   with_reducible rfl
                  rotate_left
                  ·simp only [Act.put, List.setIfInBounds_toArray, List.set_cons_zero, List.set_cons_succ, i64_w, i32_w]
                   rfl
                  refine pure_ (i := 11) (N := some 60) (v := ?_) (a' := ?_) #[true, true, true, true, true, false, true, true, true, true, false, true, false, false, false, false, false] rfl rfl (any_of HT_.out (by kernel_rfl)) (fun _ _ _ h => h) (Or.inl ⟨by rfl, ?_⟩) ?_ ?_
                  rotate_left
                  ·intro w'
                   go_simp
                   with_reducible rfl
                  rotate_left
                  ·simp only [Act.put, List.setIfInBounds_toArray, List.set_cons_zero, List.set_cons_succ, i64_w, i32_w]
                   rfl
                  refine pure_ (i := 14) (N := some 63) (v := ?_) (a' := ?_) #[true, true, true, true, true, false, true, true, true, true, false, true, false, false, true, false, false] rfl rfl (any_of HT_.out (by kernel_rfl)) (fun _ _ _ h => h) (Or.inl ⟨by rfl, ?_⟩) ?_ ?_
                  rotate_left
                  ·intro w'
                   go_simp
                   with_reducible rfl
                  rotate_left
                  ·simp only [Act.put, List.setIfInBounds_toArray, List.set_cons_zero, List.set_cons_succ, i64_w, i32_w]
                   rfl
                  refine take_ (i := 5) (N := some 54) (v := ?_) (a' := ?_) #[true, true, true, true, true, true, true, true, true, true, false, true, false, false, true, false, false] rfl rfl (take_ofW HT_.out HW_.out (by kernel_rfl)) (fun _ _ _ h => h) (Or.inl ⟨by rfl, ?_⟩) hHeld ?_ ?_
                  rotate_left
                  ·rintro w' ⟨s0, s1, s2, s3, s4, s5, s6, s7, s8, s9, s10, s11, s12, s13, s14, s15⟩
                   go_simp
                   with_reducible rfl
                  rotate_left
                  ·simp only [Act.put, List.setIfInBounds_toArray, List.set_cons_zero, List.set_cons_succ, i64_w, i32_w]
                   rfl
                  refine take_ (i := 10) (N := some 59) (v := ?_) (a' := ?_) #[true, true, true, true, true, true, true, true, true, true, true, true, false, false, true, false, false] rfl rfl (take_ofW HT_.out HW_.out (by kernel_rfl)) (fun _ _ _ h => h) (Or.inl ⟨by rfl, ?_⟩) hHeld ?_ ?_
                  rotate_left
                  ·rintro w' ⟨s0, s1, s2, s3, s4, s5, s6, s7, s8, s9, s10, s11, s12, s13, s14, s15⟩
                   go_simp
                   with_reducible rfl
                  rotate_left
                  ·simp only [Act.put, List.setIfInBounds_toArray, List.set_cons_zero, List.set_cons_succ, i64_w, i32_w]
                   rfl
                  refine pure_ (i := 12) (N := some 61) (v := ?_) (a' := ?_) #[true, true, true, true, true, true, true, true, true, true, true, true, true, false, true, false, false] rfl rfl (any_of HT_.out (by kernel_rfl)) (fun _ _ _ h => h) (Or.inl ⟨by rfl, ?_⟩) ?_ ?_
                  rotate_left
                  ·intro w'
                   go_simp
                   with_reducible rfl
                  rotate_left
                  ·simp only [Act.put, List.setIfInBounds_toArray, List.set_cons_zero, List.set_cons_succ, i64_w, i32_w]
                   rfl
                  refine take_ (i := 13) (N := some 62) (v := ?_) (a' := ?_) #[true, true, true, true, true, true, true, true, true, true, true, true, true, true, true, false, false] rfl rfl (take_ofW HT_.out HW_.out (by kernel_rfl)) (fun _ _ _ h => h) (Or.inl ⟨by rfl, ?_⟩) hHeld ?_ ?_
                  rotate_left
                  ·rintro w' ⟨s0, s1, s2, s3, s4, s5, s6, s7, s8, s9, s10, s11, s12, s13, s14, s15⟩
                   go_simp
                   with_reducible rfl
                  rotate_left
                  ·simp only [Act.put, List.setIfInBounds_toArray, List.set_cons_zero, List.set_cons_succ, i64_w, i32_w]
                   rfl
                  refine one_ (i := 15) (N := some 64) #[true, true, true, true, true, true, true, true, true, true, true, true, true, true, true, true, false] rfl rfl (one_of HT_.out (by kernel_rfl)) (by decide) (fun K hK => ?_)
                  refine goes_ Try.func49 (by kernel_rfl) rfl #[.slice (some ad484) l0.length c0, .int .i64 ((rd_T46 l0 x5_1).f0), .agg #[.slice A486_0 ((rd_T43 ((rd_T46 l0 x5_1).f2) x6_3).f0).length c486_0, .slice A486_1 ((rd_T43 ((rd_T46 l0 x5_1).f2) x6_3).f1).length c486_1, .int .i64 ((rd_T43 ((rd_T46 l0 x5_1).f2) x6_3).f2), .int .i64 ((rd_T43 ((rd_T46 l0 x5_1).f2) x6_3).f3), .int .i64 ((rd_T43 ((rd_T46 l0 x5_1).f2) x6_3).f4.f0), .int .i64 ((rd_T43 ((rd_T46 l0 x5_1).f2) x6_3).f4.f1), .int .i64 ((rd_T43 ((rd_T46 l0 x5_1).f2) x6_3).f5.f0), .int .i64 ((rd_T43 ((rd_T46 l0 x5_1).f2) x6_3).f5.f1), .int .i64 ((rd_T43 ((rd_T46 l0 x5_1).f2) x6_3).f6.f0), .int .i64 ((rd_T43 ((rd_T46 l0 x5_1).f2) x6_3).f6.f1)], .int .i64 a1] (by rfl) rfl rfl (by (try simp only [List.map_toArray, List.map_cons, List.map_nil]); first | done | rfl | (simp only [List.length_drop, List.length_take]; rfl)) ?_
                  with_reducible refine (foundryref20_rule.calls kj9 _ _ l0 ((rd_T46 l0 x5_1).f0) _ _ ((rd_T43 ((rd_T46 l0 x5_1).f2) x6_3).f0) _ _ ((rd_T43 ((rd_T46 l0 x5_1).f2) x6_3).f1) ((rd_T43 ((rd_T46 l0 x5_1).f2) x6_3).f2) ((rd_T43 ((rd_T46 l0 x5_1).f2) x6_3).f3) ((rd_T43 ((rd_T46 l0 x5_1).f2) x6_3).f4.f0) ((rd_T43 ((rd_T46 l0 x5_1).f2) x6_3).f4.f1) ((rd_T43 ((rd_T46 l0 x5_1).f2) x6_3).f5.f0) ((rd_T43 ((rd_T46 l0 x5_1).f2) x6_3).f5.f1) ((rd_T43 ((rd_T46 l0 x5_1).f2) x6_3).f6.f0) ((rd_T43 ((rd_T46 l0 x5_1).f2) x6_3).f6.f1) a1 true _ ?side1 ?side2 ?side3 ?side4 ?side5 ?side6 A20.out).mono ?_
                  (case side1 => repeat (first | exact (Kd.C_below HR0.out HB.out) | (with_reducible refine Kd.C_alloc ?_ _) | (with_reducible refine Kd.C_drewN ?_ _) | (with_reducible refine Kd.C_drew ?_)))
                  (case side2 => exact HC0.out)
                  (case side3 => repeat (first | exact (Kd.C_below HR486_0.out HB.out) | (with_reducible refine Kd.C_alloc ?_ _) | (with_reducible refine Kd.C_drewN ?_ _) | (with_reducible refine Kd.C_drew ?_)))
                  (case side4 => exact HC486_0.out)
                  (case side5 => repeat (first | exact (Kd.C_below HR486_1.out HB.out) | (with_reducible refine Kd.C_alloc ?_ _) | (with_reducible refine Kd.C_drewN ?_ _) | (with_reducible refine Kd.C_drew ?_)))
                  (case side6 => exact HC486_1.out)
                  rintro e w23 ⟨rfl, hb⟩
                  refine ⟨_, rfl, ?_⟩
                  have n0_ := Aside0.mk (below_step (by repeat (first | (with_reducible first | exact HB.out | apply below_alloc | apply pw_below_drewN | apply below_drew1) | exact HB.out)) hb)
                  clear HB
                  have HB := n0_
                  clear n0_
                  (try clear hb)
                  (try clear hb2)
                  (try clear hk)
                  (try clear hi)
                  refine hK.out _ _ ⟨((HB.out.cell (World.block_lt_of_cell? w _ hw484_0)).trans hw484_0), ((HB.out.cell (World.block_lt_of_cell? w _ hw484_1)).trans hw484_1), ((HB.out.cell (World.block_lt_of_cell? w _ hw484_2)).trans hw484_2), ((HB.out.cell (World.block_lt_of_cell? w _ hw485_0)).trans hw485_0), ((HB.out.cell (World.block_lt_of_cell? w _ hw485_1)).trans hw485_1), ((HB.out.cell (World.block_lt_of_cell? w _ hw485_2)).trans hw485_2), ((HB.out.cell (World.block_lt_of_cell? w _ hw486_0)).trans hw486_0), ((HB.out.cell (World.block_lt_of_cell? w _ hw486_1)).trans hw486_1), ((HB.out.cell (World.block_lt_of_cell? w _ hw486_2)).trans hw486_2), ((HB.out.cell (World.block_lt_of_cell? w _ hw486_3)).trans hw486_3), ((HB.out.cell (World.block_lt_of_cell? w _ hw486_4)).trans hw486_4), ((HB.out.cell (World.block_lt_of_cell? w _ hw486_5)).trans hw486_5), ((HB.out.cell (World.block_lt_of_cell? w _ hw486_6)).trans hw486_6), ((HB.out.cell (World.block_lt_of_cell? w _ hw486_7)).trans hw486_7), ((HB.out.cell (World.block_lt_of_cell? w _ hw486_8)).trans hw486_8), ((HB.out.cell (World.block_lt_of_cell? w _ hw486_9)).trans hw486_9)⟩ (fun hHeld => ?_)
                  clear hK K
                  refine norm_ (a' := ?_) ?_ ?_
                  rotate_left
                  ·show Act.put _ (some 64) _ = _
                   simp only [Act.put, List.setIfInBounds_toArray, List.set_cons_zero, List.set_cons_succ, i64_w, i32_w]
                   rfl
                  refine pure_ (i := 16) (N := some 65) (v := ?_) (a' := ?_) #[true, true, true, true, true, true, true, true, true, true, true, true, true, true, true, true, true] rfl rfl (any_of HT_.out (by kernel_rfl)) (fun _ _ _ h => h) (Or.inl ⟨by rfl, ?_⟩) ?_ ?_
                  rotate_left
                  ·intro w'
                   go_simp
                   with_reducible rfl
                  rotate_left
                  ·simp only [Act.put, List.setIfInBounds_toArray, List.set_cons_zero, List.set_cons_succ, i64_w, i32_w]
                   rfl
                  refine done_ (done_of HT_.out (by kernel_rfl)) ?_
                  try go_wp2
                  go_roundg kj9
                  case measure => have := HK1.out; have := HJ4.out; have := HK3.out; have := HJ9.out; omega
                  case rel => exact ⟨(wrap64 (x6_3 + 1)), (by first | rfl | (simp; done) | (simp [*]; done)), H', ⟨by have := HK1.out; have := HJ4.out; have := HK3.out; have := HJ9.out; omega⟩, ⟨by repeat (first | (with_reducible first | exact HB.out | apply below_alloc | apply pw_below_drewN | apply below_drew1) | exact HB.out)⟩⟩
                 ·replace c21 := Bool.eq_false_iff.mpr c21
                  subst c21
                  have H1 : (some false) = some r := by rw [if_neg (show ¬ (false = true) by decide)] at H; exact H
                  clear H
                  have H := H1
                  clear H1
                  obtain rfl := Option.some.inj H
                  try go_wp2
                  have n0_ := Aside0.mk (below_drew1 HB.out)
                  clear HB
                  have HB := n0_
                  clear n0_
                  have p484 : 0 ≤ (x5_1 : Int) := of_decide_eq_true (by first | (with_reducible assumption) | assumption)
                  have q484 : x5_1 < (l0.length : Int) := of_decide_eq_true (by first | (with_reducible assumption) | assumption)
                  obtain ⟨ad484, A484_2, c484_2, e484, hx484_0, hx484_1, hx484_2, hl484_2, hi484_2⟩ := at_T46 HR0.out x5_1 p484 q484
                  have hw484_2 := hx484_2
                  have hw484_1 := hx484_1
                  have hw484_0 := hx484_0
                  cases e484
                  replace hx484_0 := (HB.out.cell (World.block_lt_of_cell? w _ hx484_0)).trans hx484_0
                  replace hx484_1 := (HB.out.cell (World.block_lt_of_cell? w _ hx484_1)).trans hx484_1
                  replace hx484_2 := (HB.out.cell (World.block_lt_of_cell? w _ hx484_2)).trans hx484_2
                  have HR484_2 := Aside0.mk hi484_2
                  have HC484_2 := Aside0.mk hl484_2
                  clear hi484_2 hl484_2
                  replace p484 := eq_true p484
                  replace q484 := eq_true q484
                  have p485 : 0 ≤ (x5_1 : Int) := of_decide_eq_true (by first | (with_reducible assumption) | assumption)
                  have q485 : x5_1 < (l0.length : Int) := of_decide_eq_true (by first | (with_reducible assumption) | assumption)
                  obtain ⟨ad485, A485_2, c485_2, e485, hx485_0, hx485_1, hx485_2, hl485_2, hi485_2⟩ := at_T46 HR0.out x5_1 p485 q485
                  have hw485_2 := hx485_2
                  have hw485_1 := hx485_1
                  have hw485_0 := hx485_0
                  obtain rfl : ad484 = ad485 := (by injection e485)
                  replace hx485_0 := (HB.out.cell (World.block_lt_of_cell? w _ hx485_0)).trans hx485_0
                  replace hx485_1 := (HB.out.cell (World.block_lt_of_cell? w _ hx485_1)).trans hx485_1
                  replace hx485_2 := (HB.out.cell (World.block_lt_of_cell? w _ hx485_2)).trans hx485_2
                  have HR485_2 := Aside0.mk hi485_2
                  have HC485_2 := Aside0.mk hl485_2
                  clear hi485_2 hl485_2
                  replace p485 := eq_true p485
                  replace q485 := eq_true q485
                  have ea_ := Option.some.inj (hx484_2.symm.trans hx485_2)
                  injection ea_ with ea_ en_ ec_
                  subst ea_
                  subst ec_
                  clear en_
                  have p486 : 0 ≤ (x6_3 : Int) := of_decide_eq_true (by first | (with_reducible assumption) | assumption)
                  have q486 : x6_3 < (((rd_T46 l0 x5_1).f2).length : Int) := of_decide_eq_true (by first | (with_reducible assumption) | assumption)
                  obtain ⟨ad486, A486_0, c486_0, A486_1, c486_1, e486, hx486_0, hx486_1, hx486_2, hx486_3, hx486_4, hx486_5, hx486_6, hx486_7, hx486_8, hx486_9, hl486_0, hi486_0, hl486_1, hi486_1⟩ := at_T43 HR485_2.out x6_3 p486 q486
                  have hw486_9 := hx486_9
                  have hw486_8 := hx486_8
                  have hw486_7 := hx486_7
                  have hw486_6 := hx486_6
                  have hw486_5 := hx486_5
                  have hw486_4 := hx486_4
                  have hw486_3 := hx486_3
                  have hw486_2 := hx486_2
                  have hw486_1 := hx486_1
                  have hw486_0 := hx486_0
                  cases e486
                  replace hx486_0 := (HB.out.cell (World.block_lt_of_cell? w _ hx486_0)).trans hx486_0
                  replace hx486_1 := (HB.out.cell (World.block_lt_of_cell? w _ hx486_1)).trans hx486_1
                  replace hx486_2 := (HB.out.cell (World.block_lt_of_cell? w _ hx486_2)).trans hx486_2
                  replace hx486_3 := (HB.out.cell (World.block_lt_of_cell? w _ hx486_3)).trans hx486_3
                  replace hx486_4 := (HB.out.cell (World.block_lt_of_cell? w _ hx486_4)).trans hx486_4
                  replace hx486_5 := (HB.out.cell (World.block_lt_of_cell? w _ hx486_5)).trans hx486_5
                  replace hx486_6 := (HB.out.cell (World.block_lt_of_cell? w _ hx486_6)).trans hx486_6
                  replace hx486_7 := (HB.out.cell (World.block_lt_of_cell? w _ hx486_7)).trans hx486_7
                  replace hx486_8 := (HB.out.cell (World.block_lt_of_cell? w _ hx486_8)).trans hx486_8
                  replace hx486_9 := (HB.out.cell (World.block_lt_of_cell? w _ hx486_9)).trans hx486_9
                  have HR486_0 := Aside0.mk hi486_0
                  have HC486_0 := Aside0.mk hl486_0
                  clear hi486_0 hl486_0
                  have HR486_1 := Aside0.mk hi486_1
                  have HC486_1 := Aside0.mk hl486_1
                  clear hi486_1 hl486_1
                  replace p486 := eq_true p486
                  replace q486 := eq_true q486
                  refine start_ (n := 17) (S := fun w' => w'.cell? (ad484.add ((x5_1).toNat * 3)) = some (.int .i64 ((rd_T46 l0 x5_1).f0)) ∧ w'.cell? ⟨(ad484.add ((x5_1).toNat * 3)).block, (ad484.add ((x5_1).toNat * 3)).off + 1, none⟩ = some (.bool ((rd_T46 l0 x5_1).f1)) ∧ w'.cell? ⟨(ad484.add ((x5_1).toNat * 3)).block, (ad484.add ((x5_1).toNat * 3)).off + 2, none⟩ = some (.slice (some ad486) ((rd_T46 l0 x5_1).f2).length c484_2) ∧ w'.cell? (ad484.add ((x5_1).toNat * 3)) = some (.int .i64 ((rd_T46 l0 x5_1).f0)) ∧ w'.cell? ⟨(ad484.add ((x5_1).toNat * 3)).block, (ad484.add ((x5_1).toNat * 3)).off + 1, none⟩ = some (.bool ((rd_T46 l0 x5_1).f1)) ∧ w'.cell? ⟨(ad484.add ((x5_1).toNat * 3)).block, (ad484.add ((x5_1).toNat * 3)).off + 2, none⟩ = some (.slice (some ad486) ((rd_T46 l0 x5_1).f2).length c484_2) ∧ w'.cell? (ad486.add ((x6_3).toNat * 10)) = some (.slice A486_0 ((rd_T43 ((rd_T46 l0 x5_1).f2) x6_3).f0).length c486_0) ∧ w'.cell? ⟨(ad486.add ((x6_3).toNat * 10)).block, (ad486.add ((x6_3).toNat * 10)).off + 1, none⟩ = some (.slice A486_1 ((rd_T43 ((rd_T46 l0 x5_1).f2) x6_3).f1).length c486_1) ∧ w'.cell? ⟨(ad486.add ((x6_3).toNat * 10)).block, (ad486.add ((x6_3).toNat * 10)).off + 2, none⟩ = some (.int .i64 ((rd_T43 ((rd_T46 l0 x5_1).f2) x6_3).f2)) ∧ w'.cell? ⟨(ad486.add ((x6_3).toNat * 10)).block, (ad486.add ((x6_3).toNat * 10)).off + 3, none⟩ = some (.int .i64 ((rd_T43 ((rd_T46 l0 x5_1).f2) x6_3).f3)) ∧ w'.cell? ⟨(ad486.add ((x6_3).toNat * 10)).block, (ad486.add ((x6_3).toNat * 10)).off + 4, none⟩ = some (.int .i64 ((rd_T43 ((rd_T46 l0 x5_1).f2) x6_3).f4.f0)) ∧ w'.cell? ⟨(ad486.add ((x6_3).toNat * 10)).block, (ad486.add ((x6_3).toNat * 10)).off + 5, none⟩ = some (.int .i64 ((rd_T43 ((rd_T46 l0 x5_1).f2) x6_3).f4.f1)) ∧ w'.cell? ⟨(ad486.add ((x6_3).toNat * 10)).block, (ad486.add ((x6_3).toNat * 10)).off + 6, none⟩ = some (.int .i64 ((rd_T43 ((rd_T46 l0 x5_1).f2) x6_3).f5.f0)) ∧ w'.cell? ⟨(ad486.add ((x6_3).toNat * 10)).block, (ad486.add ((x6_3).toNat * 10)).off + 7, none⟩ = some (.int .i64 ((rd_T43 ((rd_T46 l0 x5_1).f2) x6_3).f5.f1)) ∧ w'.cell? ⟨(ad486.add ((x6_3).toNat * 10)).block, (ad486.add ((x6_3).toNat * 10)).off + 8, none⟩ = some (.int .i64 ((rd_T43 ((rd_T46 l0 x5_1).f2) x6_3).f6.f0)) ∧ w'.cell? ⟨(ad486.add ((x6_3).toNat * 10)).block, (ad486.add ((x6_3).toNat * 10)).off + 9, none⟩ = some (.int .i64 ((rd_T43 ((rd_T46 l0 x5_1).f2) x6_3).f6.f1))) (ds := []) #[false, false, false, false, false, false, false, false, false, false, false, false, false, false, false, false, false] (by kernel_rfl) rfl rfl ⟨((HB.out.cell (World.block_lt_of_cell? w _ hw484_0)).trans hw484_0), ((HB.out.cell (World.block_lt_of_cell? w _ hw484_1)).trans hw484_1), ((HB.out.cell (World.block_lt_of_cell? w _ hw484_2)).trans hw484_2), ((HB.out.cell (World.block_lt_of_cell? w _ hw485_0)).trans hw485_0), ((HB.out.cell (World.block_lt_of_cell? w _ hw485_1)).trans hw485_1), ((HB.out.cell (World.block_lt_of_cell? w _ hw485_2)).trans hw485_2), ((HB.out.cell (World.block_lt_of_cell? w _ hw486_0)).trans hw486_0), ((HB.out.cell (World.block_lt_of_cell? w _ hw486_1)).trans hw486_1), ((HB.out.cell (World.block_lt_of_cell? w _ hw486_2)).trans hw486_2), ((HB.out.cell (World.block_lt_of_cell? w _ hw486_3)).trans hw486_3), ((HB.out.cell (World.block_lt_of_cell? w _ hw486_4)).trans hw486_4), ((HB.out.cell (World.block_lt_of_cell? w _ hw486_5)).trans hw486_5), ((HB.out.cell (World.block_lt_of_cell? w _ hw486_6)).trans hw486_6), ((HB.out.cell (World.block_lt_of_cell? w _ hw486_7)).trans hw486_7), ((HB.out.cell (World.block_lt_of_cell? w _ hw486_8)).trans hw486_8), ((HB.out.cell (World.block_lt_of_cell? w _ hw486_9)).trans hw486_9)⟩ (fun hHeld => ?_); refine with_tabW foundryref20_Formed.tab11 foundryref20_Formed.bits11 (fun HT_ HW_ => ?_)
                  generalize wc.drew = w24 at HB HR484_2 HR485_2 HR486_0 HR486_1 hx484_0 hx484_1 hx484_2 hx485_0 hx485_1 hx485_2 hx486_0 hx486_1 hx486_2 hx486_3 hx486_4 hx486_5 hx486_6 hx486_7 hx486_8 hx486_9 hHeld ⊢
                  refine pure_ (i := 0) (N := some 49) (v := ?_) (a' := ?_) #[true, false, false, false, false, false, false, false, false, false, false, false, false, false, false, false, false] rfl rfl (any_of HT_.out (by kernel_rfl)) (fun _ _ _ h => h) (Or.inl ⟨by rfl, ?_⟩) ?_ ?_
                  rotate_left
                  ·intro w'
                   go_simp
                   with_reducible rfl
                  rotate_left
                  ·simp only [Act.put, List.setIfInBounds_toArray, List.set_cons_zero, List.set_cons_succ, i64_w, i32_w]
                   rfl
                  refine pure_ (i := 1) (N := some 50) (v := ?_) (a' := ?_) #[true, true, false, false, false, false, false, false, false, false, false, false, false, false, false, false, false] rfl rfl (any_of HT_.out (by kernel_rfl)) (fun _ _ _ h => h) (Or.inl ⟨by rfl, ?_⟩) ?_ ?_
                  rotate_left
                  ·intro w'
                   go_simp
                   with_reducible rfl
                  rotate_left
                  ·simp only [Act.put, List.setIfInBounds_toArray, List.set_cons_zero, List.set_cons_succ, i64_w, i32_w]
                   rfl
                  refine pure_ (i := 2) (N := some 51) (v := ?_) (a' := ?_) #[true, true, true, false, false, false, false, false, false, false, false, false, false, false, false, false, false] rfl rfl (any_of HT_.out (by kernel_rfl)) (fun _ _ _ h => h) (Or.inl ⟨by rfl, ?_⟩) ?_ ?_
                  rotate_left
                  ·intro w'
                   go_simp
                   with_reducible rfl
                  rotate_left
                  ·simp only [Act.put, List.setIfInBounds_toArray, List.set_cons_zero, List.set_cons_succ, i64_w, i32_w]
                   rfl
                  refine pure_ (i := 3) (N := some 52) (v := ?_) (a' := ?_) #[true, true, true, true, false, false, false, false, false, false, false, false, false, false, false, false, false] rfl rfl (any_of HT_.out (by kernel_rfl)) (fun _ _ _ h => h) (Or.inl ⟨by rfl, ?_⟩) ?_ ?_
                  rotate_left
                  ·intro w'
                   go_simp
                   with_reducible rfl
                  rotate_left
                  ·simp only [Act.put, List.setIfInBounds_toArray, List.set_cons_zero, List.set_cons_succ, i64_w, i32_w]
                   rfl
                  refine pure_ (i := 4) (N := some 53) (v := ?_) (a' := ?_) #[true, true, true, true, true, false, false, false, false, false, false, false, false, false, false, false, false] rfl rfl (any_of HT_.out (by kernel_rfl)) (fun _ _ _ h => h) (Or.inl ⟨by rfl, ?_⟩) ?_ ?_
                  rotate_left
                  ·intro w'
                   go_simp
                   with_reducible rfl
                  rotate_left
                  ·simp only [Act.put, List.setIfInBounds_toArray, List.set_cons_zero, List.set_cons_succ, i64_w, i32_w]
                   rfl
                  refine pure_ (i := 6) (N := some 55) (v := ?_) (a' := ?_) #[true, true, true, true, true, false, true, false, false, false, false, false, false, false, false, false, false] rfl rfl (any_of HT_.out (by kernel_rfl)) (fun _ _ _ h => h) (Or.inl ⟨by rfl, ?_⟩) ?_ ?_
                  rotate_left
                  ·intro w'
                   go_simp
                   with_reducible rfl
                  rotate_left
                  ·simp only [Act.put, List.setIfInBounds_toArray, List.set_cons_zero, List.set_cons_succ, i64_w, i32_w]
                   rfl
                  refine pure_ (i := 7) (N := some 56) (v := ?_) (a' := ?_) #[true, true, true, true, true, false, true, true, false, false, false, false, false, false, false, false, false] rfl rfl (any_of HT_.out (by kernel_rfl)) (fun _ _ _ h => h) (Or.inl ⟨by rfl, ?_⟩) ?_ ?_
                  rotate_left
                  ·intro w'
                   go_simp
                   with_reducible rfl
                  rotate_left
                  ·simp only [Act.put, List.setIfInBounds_toArray, List.set_cons_zero, List.set_cons_succ, i64_w, i32_w]
                   rfl
                  refine pure_ (i := 8) (N := some 57) (v := ?_) (a' := ?_) #[true, true, true, true, true, false, true, true, true, false, false, false, false, false, false, false, false] rfl rfl (any_of HT_.out (by kernel_rfl)) (fun _ _ _ h => h) (Or.inl ⟨by rfl, ?_⟩) ?_ ?_
                  rotate_left
                  ·intro w'
                   go_simp
                   with_reducible rfl
                  rotate_left
                  ·simp only [Act.put, List.setIfInBounds_toArray, List.set_cons_zero, List.set_cons_succ, i64_w, i32_w]
                   rfl
                  refine pure_ (i := 9) (N := some 58) (v := ?_) (a' := ?_) #[true, true, true, true, true, false, true, true, true, true, false, false, false, false, false, false, false] rfl rfl (any_of HT_.out (by kernel_rfl)) (fun _ _ _ h => h) (Or.inl ⟨by rfl, ?_⟩) ?_ ?_
                  rotate_left
                  ·intro w'
                   go_simp
                   with_reducible rfl
                  rotate_left
                  ·simp only [Act.put, List.setIfInBounds_toArray, List.set_cons_zero, List.set_cons_succ, i64_w, i32_w]
                   rfl
                  refine pure_ (i := 11) (N := some 60) (v := ?_) (a' := ?_) #[true, true, true, true, true, false, true, true, true, true, false, true, false, false, false, false, false] rfl rfl (any_of HT_.out (by kernel_rfl)) (fun _ _ _ h => h) (Or.inl ⟨by rfl, ?_⟩) ?_ ?_
                  rotate_left
                  ·intro w'
                   go_simp
                   with_reducible rfl
                  rotate_left
                  ·simp only [Act.put, List.setIfInBounds_toArray, List.set_cons_zero, List.set_cons_succ, i64_w, i32_w]
                   rfl
                  refine pure_ (i := 14) (N := some 63) (v := ?_) (a' := ?_) #[true, true, true, true, true, false, true, true, true, true, false, true, false, false, true, false, false] rfl rfl (any_of HT_.out (by kernel_rfl)) (fun _ _ _ h => h) (Or.inl ⟨by rfl, ?_⟩) ?_ ?_
                  rotate_left
                  ·intro w'
                   go_simp
                   with_reducible rfl
                  rotate_left
                  ·simp only [Act.put, List.setIfInBounds_toArray, List.set_cons_zero, List.set_cons_succ, i64_w, i32_w]
                   rfl
                  refine take_ (i := 5) (N := some 54) (v := ?_) (a' := ?_) #[true, true, true, true, true, true, true, true, true, true, false, true, false, false, true, false, false] rfl rfl (take_ofW HT_.out HW_.out (by kernel_rfl)) (fun _ _ _ h => h) (Or.inl ⟨by rfl, ?_⟩) hHeld ?_ ?_
                  rotate_left
                  ·rintro w' ⟨s0, s1, s2, s3, s4, s5, s6, s7, s8, s9, s10, s11, s12, s13, s14, s15⟩
                   go_simp
                   with_reducible rfl
                  rotate_left
                  ·simp only [Act.put, List.setIfInBounds_toArray, List.set_cons_zero, List.set_cons_succ, i64_w, i32_w]
                   rfl
                  refine take_ (i := 10) (N := some 59) (v := ?_) (a' := ?_) #[true, true, true, true, true, true, true, true, true, true, true, true, false, false, true, false, false] rfl rfl (take_ofW HT_.out HW_.out (by kernel_rfl)) (fun _ _ _ h => h) (Or.inl ⟨by rfl, ?_⟩) hHeld ?_ ?_
                  rotate_left
                  ·rintro w' ⟨s0, s1, s2, s3, s4, s5, s6, s7, s8, s9, s10, s11, s12, s13, s14, s15⟩
                   go_simp
                   with_reducible rfl
                  rotate_left
                  ·simp only [Act.put, List.setIfInBounds_toArray, List.set_cons_zero, List.set_cons_succ, i64_w, i32_w]
                   rfl
                  refine pure_ (i := 12) (N := some 61) (v := ?_) (a' := ?_) #[true, true, true, true, true, true, true, true, true, true, true, true, true, false, true, false, false] rfl rfl (any_of HT_.out (by kernel_rfl)) (fun _ _ _ h => h) (Or.inl ⟨by rfl, ?_⟩) ?_ ?_
                  rotate_left
                  ·intro w'
                   go_simp
                   with_reducible rfl
                  rotate_left
                  ·simp only [Act.put, List.setIfInBounds_toArray, List.set_cons_zero, List.set_cons_succ, i64_w, i32_w]
                   rfl
                  refine take_ (i := 13) (N := some 62) (v := ?_) (a' := ?_) #[true, true, true, true, true, true, true, true, true, true, true, true, true, true, true, false, false] rfl rfl (take_ofW HT_.out HW_.out (by kernel_rfl)) (fun _ _ _ h => h) (Or.inl ⟨by rfl, ?_⟩) hHeld ?_ ?_
                  rotate_left
                  ·rintro w' ⟨s0, s1, s2, s3, s4, s5, s6, s7, s8, s9, s10, s11, s12, s13, s14, s15⟩
                   go_simp
                   with_reducible rfl
                  rotate_left
                  ·simp only [Act.put, List.setIfInBounds_toArray, List.set_cons_zero, List.set_cons_succ, i64_w, i32_w]
                   rfl
                  refine one_ (i := 15) (N := some 64) #[true, true, true, true, true, true, true, true, true, true, true, true, true, true, true, true, false] rfl rfl (one_of HT_.out (by kernel_rfl)) (by decide) (fun K hK => ?_)
                  refine goes_ Try.func49 (by kernel_rfl) rfl #[.slice (some ad484) l0.length c0, .int .i64 ((rd_T46 l0 x5_1).f0), .agg #[.slice A486_0 ((rd_T43 ((rd_T46 l0 x5_1).f2) x6_3).f0).length c486_0, .slice A486_1 ((rd_T43 ((rd_T46 l0 x5_1).f2) x6_3).f1).length c486_1, .int .i64 ((rd_T43 ((rd_T46 l0 x5_1).f2) x6_3).f2), .int .i64 ((rd_T43 ((rd_T46 l0 x5_1).f2) x6_3).f3), .int .i64 ((rd_T43 ((rd_T46 l0 x5_1).f2) x6_3).f4.f0), .int .i64 ((rd_T43 ((rd_T46 l0 x5_1).f2) x6_3).f4.f1), .int .i64 ((rd_T43 ((rd_T46 l0 x5_1).f2) x6_3).f5.f0), .int .i64 ((rd_T43 ((rd_T46 l0 x5_1).f2) x6_3).f5.f1), .int .i64 ((rd_T43 ((rd_T46 l0 x5_1).f2) x6_3).f6.f0), .int .i64 ((rd_T43 ((rd_T46 l0 x5_1).f2) x6_3).f6.f1)], .int .i64 a1] (by rfl) rfl rfl (by (try simp only [List.map_toArray, List.map_cons, List.map_nil]); first | done | rfl | (simp only [List.length_drop, List.length_take]; rfl)) ?_
                  with_reducible refine (foundryref20_rule.calls kj9 _ _ l0 ((rd_T46 l0 x5_1).f0) _ _ ((rd_T43 ((rd_T46 l0 x5_1).f2) x6_3).f0) _ _ ((rd_T43 ((rd_T46 l0 x5_1).f2) x6_3).f1) ((rd_T43 ((rd_T46 l0 x5_1).f2) x6_3).f2) ((rd_T43 ((rd_T46 l0 x5_1).f2) x6_3).f3) ((rd_T43 ((rd_T46 l0 x5_1).f2) x6_3).f4.f0) ((rd_T43 ((rd_T46 l0 x5_1).f2) x6_3).f4.f1) ((rd_T43 ((rd_T46 l0 x5_1).f2) x6_3).f5.f0) ((rd_T43 ((rd_T46 l0 x5_1).f2) x6_3).f5.f1) ((rd_T43 ((rd_T46 l0 x5_1).f2) x6_3).f6.f0) ((rd_T43 ((rd_T46 l0 x5_1).f2) x6_3).f6.f1) a1 false _ ?side1 ?side2 ?side3 ?side4 ?side5 ?side6 A20.out).mono ?_
                  (case side1 => repeat (first | exact (Kd.C_below HR0.out HB.out) | (with_reducible refine Kd.C_alloc ?_ _) | (with_reducible refine Kd.C_drewN ?_ _) | (with_reducible refine Kd.C_drew ?_)))
                  (case side2 => exact HC0.out)
                  (case side3 => repeat (first | exact (Kd.C_below HR486_0.out HB.out) | (with_reducible refine Kd.C_alloc ?_ _) | (with_reducible refine Kd.C_drewN ?_ _) | (with_reducible refine Kd.C_drew ?_)))
                  (case side4 => exact HC486_0.out)
                  (case side5 => repeat (first | exact (Kd.C_below HR486_1.out HB.out) | (with_reducible refine Kd.C_alloc ?_ _) | (with_reducible refine Kd.C_drewN ?_ _) | (with_reducible refine Kd.C_drew ?_)))
                  (case side6 => exact HC486_1.out)
                  rintro e w25 ⟨rfl, hb⟩
                  refine ⟨_, rfl, ?_⟩
                  have n0_ := Aside0.mk (below_step (by repeat (first | (with_reducible first | exact HB.out | apply below_alloc | apply pw_below_drewN | apply below_drew1) | exact HB.out)) hb)
                  clear HB
                  have HB := n0_
                  clear n0_
                  (try clear hb)
                  (try clear hb2)
                  (try clear hk)
                  (try clear hi)
                  refine hK.out _ _ ⟨((HB.out.cell (World.block_lt_of_cell? w _ hw484_0)).trans hw484_0), ((HB.out.cell (World.block_lt_of_cell? w _ hw484_1)).trans hw484_1), ((HB.out.cell (World.block_lt_of_cell? w _ hw484_2)).trans hw484_2), ((HB.out.cell (World.block_lt_of_cell? w _ hw485_0)).trans hw485_0), ((HB.out.cell (World.block_lt_of_cell? w _ hw485_1)).trans hw485_1), ((HB.out.cell (World.block_lt_of_cell? w _ hw485_2)).trans hw485_2), ((HB.out.cell (World.block_lt_of_cell? w _ hw486_0)).trans hw486_0), ((HB.out.cell (World.block_lt_of_cell? w _ hw486_1)).trans hw486_1), ((HB.out.cell (World.block_lt_of_cell? w _ hw486_2)).trans hw486_2), ((HB.out.cell (World.block_lt_of_cell? w _ hw486_3)).trans hw486_3), ((HB.out.cell (World.block_lt_of_cell? w _ hw486_4)).trans hw486_4), ((HB.out.cell (World.block_lt_of_cell? w _ hw486_5)).trans hw486_5), ((HB.out.cell (World.block_lt_of_cell? w _ hw486_6)).trans hw486_6), ((HB.out.cell (World.block_lt_of_cell? w _ hw486_7)).trans hw486_7), ((HB.out.cell (World.block_lt_of_cell? w _ hw486_8)).trans hw486_8), ((HB.out.cell (World.block_lt_of_cell? w _ hw486_9)).trans hw486_9)⟩ (fun hHeld => ?_)
                  clear hK K
                  refine norm_ (a' := ?_) ?_ ?_
                  rotate_left
                  ·show Act.put _ (some 64) _ = _
                   simp only [Act.put, List.setIfInBounds_toArray, List.set_cons_zero, List.set_cons_succ, i64_w, i32_w]
                   rfl
                  refine pure_ (i := 16) (N := some 65) (v := ?_) (a' := ?_) #[true, true, true, true, true, true, true, true, true, true, true, true, true, true, true, true, true] rfl rfl (any_of HT_.out (by kernel_rfl)) (fun _ _ _ h => h) (Or.inl ⟨by rfl, ?_⟩) ?_ ?_
                  rotate_left
                  ·intro w'
                   go_simp
                   with_reducible rfl
                  rotate_left
                  ·simp only [Act.put, List.setIfInBounds_toArray, List.set_cons_zero, List.set_cons_succ, i64_w, i32_w]
                   rfl
                  refine done_ (done_of HT_.out (by kernel_rfl)) ?_
                  try go_wp2
                  go_ret
                  exact ⟨by first | rfl | (simp [errW_none, errW_some] <;> rfl) | (simp [*, errW_none, errW_some] <;> rfl), by repeat (first | (with_reducible first | exact HB.out | apply below_alloc | apply pw_below_drewN | apply below_drew1) | exact HB.out)⟩
                ·rw [if_neg c19] at H
                 exact absurd H (by simp)
               ·rw [if_neg c18] at H
                exact absurd H (by simp)
              ·rw [if_neg c17] at H
               exact absurd H (by simp)
             ·rw [if_neg c16] at H
              exact absurd H (by simp)
            ·replace c15 := Bool.eq_false_iff.mpr c15
             subst c15
             have H1 : (foundryref20_Formed.l0 kj9 l0 a1 (wrap64 (x5_1 + 1))) = some r := by rw [if_neg (show ¬ (false = true) by decide)] at H; exact H
             clear H
             have H := H1
             clear H1
             have H' := Aside0.mk H
             clear H
             go_wp2
             go_roundg kj9
             case measure => have := HK1.out; have := HJ4.out; have := HK3.out; have := HJ9.out; omega
             case rel => exact ⟨(wrap64 (x5_1 + 1)), (by first | rfl | (simp; done) | (simp [*]; done)), H', ⟨by have := HK1.out; have := HJ4.out; have := HK3.out; have := HJ9.out; omega⟩, ⟨by repeat (first | (with_reducible first | exact HB.out | apply below_alloc | apply pw_below_drewN | apply below_drew1) | exact HB.out)⟩⟩
    ·rw [if_neg c4] at H
     have c4b0 : decide (x5_1 < (l0.length : Int)) = false := decide_eq_false c4
     clear c4
     obtain rfl := Option.some.inj H
     go_wp2
     go_ret
     exact ⟨by first | rfl | (simp [errW_none, errW_some] <;> rfl) | (simp [*, errW_none, errW_some] <;> rfl), by repeat (first | (with_reducible first | exact HB.out | apply below_alloc | apply pw_below_drewN | apply below_drew1) | exact HB.out)⟩

end Go.Proofs.Ytoldahmgjenlaaa.Q
