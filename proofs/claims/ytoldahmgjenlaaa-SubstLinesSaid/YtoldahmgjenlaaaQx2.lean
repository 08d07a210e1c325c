-- Written by a program of this session, out of the kit's print tool (see NOTES.md: mypr)
import Derived.Test.YtoldahmgjenlaaaQx0
namespace Go.Proofs.Ytoldahmgjenlaaa.Q
open Go.RowKit Go.Proofs.YtoldahmgjenlaaaW.PrintWords Go.Proofs.YtoldahmgjenlaaaW.PrintLast Go.Proofs.YtoldahmgjenlaaaW.PrintMore
attribute [local go_sem] max2_int min2_int max_two min_two max_three min_three max_four min_four   -- for this text's walks alone
set_option linter.unusedVariables false
set_option linter.unusedSimpArgs false

/-! ### classes_Mark: function 20 -/
def classes_Mark.f (l0 : List Bool) (a1 : Int) : Option (Bool) := if a1 ≥ 0 then (if a1 < (l0.length : Int) then (if 0 ≤ a1 then (some (rdOf false l0 a1)) else (none)) else (some false)) else (some false)
set_option maxHeartbeats 8000000 in
set_option maxRecDepth 100000 in
theorem classes_Mark.calls (A0 : Option Addr) (c0 : Nat) (l0 : List Bool) (a1 : Int) (r : Bool) (w : World) (hr0 : Kd.C Kd.bool w A0 l0.length l0) (hc0 : l0.length ≤ c0) (h : classes_Mark.f l0 a1 = some r) :
  Calls Try.prog 20 #[.slice A0 l0.length c0, .int .i64 a1] w fun e w' => e = .returned (.bool r) ∧ Drawn0 w w' := by
 have HR0 := Aside0.mk hr0
 have HC0 := Aside0.mk hc0
 clear hr0 hc0
 have H : (if a1 ≥ 0 then (if a1 < (l0.length : Int) then (if 0 ≤ a1 then (some (rdOf false l0 a1)) else (none)) else (some false)) else (some false)) = some r := h
 clear h
 by_cases c3 : a1 ≥ 0
 ·rw [if_pos c3] at H
  have c3b0 : decide (0 ≤ a1) = true := decide_eq_true c3
  clear c3
  by_cases c4 : a1 < (l0.length : Int)
  ·rw [if_pos c4] at H
   have c4b0 : decide (a1 < (l0.length : Int)) = true := decide_eq_true c4
   clear c4
   by_cases c5 : 0 ≤ a1
   ·rw [if_pos c5] at H
    have c5b0 : decide (0 ≤ a1) = true := decide_eq_true c5
    clear c5
    obtain rfl := Option.some.inj H
    have p101 : 0 ≤ (a1 : Int) := of_decide_eq_true (by first | (with_reducible assumption) | assumption)
    have q101 : a1 < (l0.length : Int) := of_decide_eq_true (by first | (with_reducible assumption) | assumption)
    obtain ⟨ad101, e101, hx101_0⟩ := Kd.at_bool HR0.out a1 p101 q101
    cases e101
    replace p101 := eq_true p101
    replace q101 := eq_true q101
    go_enter Try.func20, Try.ntmps20
    go_wp2
    go_ret
    exact ⟨by first | rfl | (simp; done) | (simp [*]; done), by repeat (first | exact Drawn0.refl _ | apply Drawn0.step)⟩
   ·rw [if_neg c5] at H
    exact absurd H (by simp)
  ·rw [if_neg c4] at H
   have c4b0 : decide (a1 < (l0.length : Int)) = false := decide_eq_false c4
   clear c4
   obtain rfl := Option.some.inj H
   go_enter Try.func20, Try.ntmps20
   go_wp2
   go_ret
   exact ⟨by first | rfl | (simp; done) | (simp [*]; done), by repeat (first | exact Drawn0.refl _ | apply Drawn0.step)⟩
 ·rw [if_neg c3] at H
  have c3b0 : decide (0 ≤ a1) = false := decide_eq_false c3
  clear c3
  obtain rfl := Option.some.inj H
  go_enter Try.func20, Try.ntmps20
  go_wp2
  go_ret
  exact ⟨by first | rfl | (simp; done) | (simp [*]; done), by repeat (first | exact Drawn0.refl _ | apply Drawn0.step)⟩

/-! ### classes_Next: function 16 -/
mutual
def classes_Next.j0 : Nat → List Int → List Bool → Int → Bool → Bool → Option (Int)
 | 0, _, _, _, _, _ => none
 | k + 1, x0, x1, x2, x3, x17 => if x17 = true then (some (-1)) else (classes_Next.l0 k x0 x1 x3 (wrap64 (x2 + 1)))
def classes_Next.l0 : Nat → List Int → List Bool → Bool → Int → Option (Int)
 | 0, _, _, _, _ => none
 | k + 1, x0, x1, x3, x9 => if x9 < (x0.length : Int) then (if x3 = true then (if 0 ≤ x9 then ((classes_Mark.f x1 (rd x0 x9)).bind fun t103 => (if t103 = true then (classes_Next.l0 k x0 x1 x3 (wrap64 (x9 + 1))) else (some x9))) else (none)) else (some x9)) else (some (-1))
end
def classes_Next.f (k : Nat) (l0 : List Int) (l1 : List Bool) (a2 : Int) (a3 : Bool) : Option (Int) := if a2 < 0 then (classes_Next.j0 k l0 l1 a2 a3 true) else (classes_Next.j0 k l0 l1 a2 a3 (decide (a2 ≥ (l0.length : Int))))
theorem classes_Next.mono_l : ∀ k, (∀ y0 y1 y2 y3 y4, LeO (classes_Next.j0 k y0 y1 y2 y3 y4) (classes_Next.j0 (k + 1) y0 y1 y2 y3 y4)) ∧ (∀ y0 y1 y2 y3, LeO (classes_Next.l0 k y0 y1 y2 y3) (classes_Next.l0 (k + 1) y0 y1 y2 y3))
 | 0 => ⟨fun _ _ _ _ _ r h => by simp [classes_Next.j0] at h, fun _ _ _ _ r h => by simp [classes_Next.l0] at h⟩
 | k + 1 => by
  obtain ⟨ih0, ih1⟩ := classes_Next.mono_l k
  refine ⟨?_, ?_⟩
  ·intro y0 y1 y2 y3 y4
   unfold classes_Next.j0
   repeat' first
   | (with_reducible exact ih0 _ _ _ _ _)
   | (with_reducible exact ih1 _ _ _ _)
   | (with_reducible exact LeO.refl _)
   | (with_reducible exact LeO.none _)
   | (with_reducible refine LeO.ite ?_ ?_)
   | (with_reducible refine LeO.bind ?_ (fun _ => ?_))
   | exact ih0 _ _ _ _ _
   | exact ih1 _ _ _ _
   | exact LeO.none _
   | refine LeO.ite ?_ ?_
   | refine LeO.bind ?_ (fun _ => ?_)
  ·intro y0 y1 y2 y3
   unfold classes_Next.l0
   repeat' first
   | (with_reducible exact ih0 _ _ _ _ _)
   | (with_reducible exact ih1 _ _ _ _)
   | (with_reducible exact LeO.refl _)
   | (with_reducible exact LeO.none _)
   | (with_reducible refine LeO.ite ?_ ?_)
   | (with_reducible refine LeO.bind ?_ (fun _ => ?_))
   | exact ih0 _ _ _ _ _
   | exact ih1 _ _ _ _
   | exact LeO.none _
   | refine LeO.ite ?_ ?_
   | refine LeO.bind ?_ (fun _ => ?_)
theorem classes_Next.mono : ∀ a0 a1 a2 a3 k, LeO (classes_Next.f k a0 a1 a2 a3) (classes_Next.f (k + 1) a0 a1 a2 a3) := by
 intro a0 a1 a2 a3 k
 obtain ⟨ih0, ih1⟩ := classes_Next.mono_l k
 unfold classes_Next.f
 repeat' first
   | (with_reducible exact ih0 _ _ _ _ _)
   | (with_reducible exact ih1 _ _ _ _)
   | (with_reducible exact LeO.refl _)
   | (with_reducible exact LeO.none _)
   | (with_reducible refine LeO.ite ?_ ?_)
   | (with_reducible refine LeO.bind ?_ (fun _ => ?_))
   | exact ih0 _ _ _ _ _
   | exact ih1 _ _ _ _
   | exact LeO.none _
   | refine LeO.ite ?_ ?_
   | refine LeO.bind ?_ (fun _ => ?_)
set_option maxHeartbeats 8000000 in
set_option maxRecDepth 100000 in
theorem classes_Next.calls (k : Nat) (A0 : Option Addr) (c0 : Nat) (l0 : List Int) (A1 : Option Addr) (c1 : Nat) (l1 : List Bool) (a2 : Int) (a3 : Bool) (r : Int) (w : World) (hr0 : Kd.C (Kd.int .i64) w A0 l0.length l0) (hc0 : l0.length ≤ c0) (hr1 : Kd.C Kd.bool w A1 l1.length l1) (hc1 : l1.length ≤ c1) (h : classes_Next.f k l0 l1 a2 a3 = some r) :
  Calls Try.prog 16 #[.slice A0 l0.length c0, .slice A1 l1.length c1, .int .i64 a2, .bool a3] w fun e w' => e = .returned (.int .i64 r) ∧ Drawn0 w w' := by
 have HR0 := Aside0.mk hr0
 have HC0 := Aside0.mk hc0
 clear hr0 hc0
 have HR1 := Aside0.mk hr1
 have HC1 := Aside0.mk hc1
 clear hr1 hc1
 have H : (if a2 < 0 then (classes_Next.j0 k l0 l1 a2 a3 true) else (classes_Next.j0 k l0 l1 a2 a3 (decide (a2 ≥ (l0.length : Int))))) = some r := h
 clear h
 have HC5 := Aside0.mk H
 clear H
 go_enter Try.func16, Try.ntmps16
 go_upto_region 1 with (fail)
 go_cut [17] (fun v17 wc => ∃ (kq : Nat) (x17_4 : Bool), v17 = .bool x17_4 ∧ Aside0 (classes_Next.j0 kq l0 l1 a2 a3 x17_4 = some r) ∧ Aside0 (kq ≤ k) ∧ Drawn0 w wc)
 case first =>
  have H := HC5.out
  clear HC5
  by_cases c6 : a2 < 0
  ·rw [if_pos c6] at H
   have c6b0 : decide (a2 < 0) = true := decide_eq_true c6
   clear c6
   (first | rw [c6b0] | (simp only [i64_w, i32_w]; rw [c6b0]) | skip)
   have H' := Aside0.mk H
   clear H
   go_wp2
   go_meet
   case rel => exact ⟨_, (true), (by first | rfl | (simp; done) | (simp [*]; done)), H', ⟨by first | omega | exact Nat.le_refl _⟩, by repeat (first | exact Drawn0.refl _ | apply Drawn0.step)⟩
  ·rw [if_neg c6] at H
   have c6b0 : decide (a2 < 0) = false := decide_eq_false c6
   clear c6
   (first | rw [c6b0] | (simp only [i64_w, i32_w]; rw [c6b0]) | skip)
   have H' := Aside0.mk H
   clear H
   go_wp2
   go_meet
   case rel => exact ⟨_, (decide (a2 ≥ (l0.length : Int))), (by first | rfl | (simp; done) | (simp [*]; done)), H', ⟨by first | omega | exact Nat.le_refl _⟩, by repeat (first | exact Drawn0.refl _ | apply Drawn0.step)⟩
 case rest =>
  clear HC5
  try clear c1
  try clear p2
  try clear c6
  try clear c6b0
  obtain ⟨kq, x17_4, rfl, HA, HJ4, ⟨mc4, rfl⟩⟩ := hcut
  cases kq with
  | zero => exact absurd HA.out (by simp [classes_Next.j0])
  | succ kj4 =>
   have H := HA.out
   clear HA
   simp only [classes_Next.j0] at H
   by_cases c7 : x17_4 = true
   ·subst c7
    have H1 : (some (-1)) = some r := by rw [if_pos rfl] at H; exact H
    clear H
    have H := H1
    clear H1
    obtain rfl := Option.some.inj H
    go_wp2
    go_ret
    exact ⟨by first | rfl | (simp; done) | (simp [*]; done), by repeat (first | exact Drawn0.refl _ | apply Drawn0.step)⟩
   ·replace c7 := Bool.eq_false_iff.mpr c7
    subst c7
    have H1 : (classes_Next.l0 kj4 l0 l1 a3 (wrap64 (a2 + 1))) = some r := by rw [if_neg (show ¬ (false = true) by decide)] at H; exact H
    clear H
    have H := H1
    clear H1
    have H' := Aside0.mk H
    clear H
    go_wp2
    go_loopg [9] kj4 (fun kq v9 w' => ∃ (x9_2 : Int), v9 = .int .i64 x9_2 ∧ Aside0 (classes_Next.l0 kq l0 l1 a3 x9_2 = some r) ∧ Aside0 (kq ≤ kj4) ∧ Drawn0 w w')
    case atStart => exact ⟨(wrap64 (a2 + 1)), (by first | rfl | (simp; done) | (simp [*]; done)), H', ⟨Nat.le_refl _⟩, by repeat (first | exact Drawn0.refl _ | apply Drawn0.step)⟩
    case round =>
     clear H'
     try clear c1
     try clear p2
     try clear c4
     try clear c6
     try clear c6b0
     try clear p6
     try clear c7
     try clear p2
     obtain ⟨x9_2, rfl, HA, HK2, ⟨m2, rfl⟩⟩ := hrel
     cases gk with
     | zero => exact absurd HA.out (by simp [classes_Next.l0])
     | succ k2 =>
      have H := HA.out
      clear HA
      simp only [classes_Next.l0] at H
      by_cases c8 : x9_2 < (l0.length : Int)
      ·rw [if_pos c8] at H
       have c8b0 : decide (x9_2 < (l0.length : Int)) = true := decide_eq_true c8
       clear c8
       by_cases c9 : a3 = true
       ·subst c9
        have H1 : (if 0 ≤ x9_2 then ((classes_Mark.f l1 (rd l0 x9_2)).bind fun t103 => (if t103 = true then (classes_Next.l0 k2 l0 l1 true (wrap64 (x9_2 + 1))) else (some x9_2))) else (none)) = some r := by rw [if_pos rfl] at H; exact H
        clear H
        have H := H1
        clear H1
        by_cases c10 : 0 ≤ x9_2
        ·rw [if_pos c10] at H
         have c10b0 : decide (0 ≤ x9_2) = true := decide_eq_true c10
         clear c10
         replace H := Option.bind_eq_some_iff.mp H
         obtain ⟨t103, A110, H⟩ := H
         replace H : (if t103 = true then (classes_Next.l0 k2 l0 l1 true (wrap64 (x9_2 + 1))) else (some x9_2)) = some r := H
         have A11 := Aside0.mk A110
         clear A110
         by_cases c12 : t103 = true
         ·subst c12
          have H1 : (classes_Next.l0 k2 l0 l1 true (wrap64 (x9_2 + 1))) = some r := by rw [if_pos rfl] at H; exact H
          clear H
          have H := H1
          clear H1
          have H' := Aside0.mk H
          clear H
          have p102 : 0 ≤ (x9_2 : Int) := of_decide_eq_true (by first | (with_reducible assumption) | assumption)
          have q102 : x9_2 < (l0.length : Int) := of_decide_eq_true (by first | (with_reducible assumption) | assumption)
          obtain ⟨ad102, e102, hx102_0⟩ := Kd.at_int HR0.out x9_2 p102 q102
          cases e102
          replace p102 := eq_true p102
          replace q102 := eq_true q102
          go_wp2_with (first | (go_at_call 20; (with_reducible refine (classes_Mark.calls _ _ l1 (rd l0 x9_2) true _ ?side1 ?side2 A11.out).mono ?_); (case side1 => repeat (first | exact HR1.out | (with_reducible refine Kd.C_alloc ?_ _) | (with_reducible refine Kd.C_drewN ?_ _) | (with_reducible refine Kd.C_drew ?_))); (case side2 => exact HC1.out); rintro e w' ⟨rfl, ⟨nd, rfl⟩⟩))
          go_roundg k2
          case measure => have := HJ4.out; have := HK2.out; omega
          case rel => exact ⟨(wrap64 (x9_2 + 1)), (by first | rfl | (simp; done) | (simp [*]; done)), H', ⟨by have := HJ4.out; have := HK2.out; omega⟩, by repeat (first | exact Drawn0.refl _ | apply Drawn0.step)⟩
         ·replace c12 := Bool.eq_false_iff.mpr c12
          subst c12
          have H1 : (some x9_2) = some r := by rw [if_neg (show ¬ (false = true) by decide)] at H; exact H
          clear H
          have H := H1
          clear H1
          obtain rfl := Option.some.inj H
          have p102 : 0 ≤ (x9_2 : Int) := of_decide_eq_true (by first | (with_reducible assumption) | assumption)
          have q102 : x9_2 < (l0.length : Int) := of_decide_eq_true (by first | (with_reducible assumption) | assumption)
          obtain ⟨ad102, e102, hx102_0⟩ := Kd.at_int HR0.out x9_2 p102 q102
          cases e102
          replace p102 := eq_true p102
          replace q102 := eq_true q102
          go_wp2_with (first | (go_at_call 20; (with_reducible refine (classes_Mark.calls _ _ l1 (rd l0 x9_2) false _ ?side1 ?side2 A11.out).mono ?_); (case side1 => repeat (first | exact HR1.out | (with_reducible refine Kd.C_alloc ?_ _) | (with_reducible refine Kd.C_drewN ?_ _) | (with_reducible refine Kd.C_drew ?_))); (case side2 => exact HC1.out); rintro e w' ⟨rfl, ⟨nd, rfl⟩⟩))
          go_ret
          exact ⟨by first | rfl | (simp; done) | (simp [*]; done), by repeat (first | exact Drawn0.refl _ | apply Drawn0.step)⟩
        ·rw [if_neg c10] at H
         exact absurd H (by simp)
       ·replace c9 := Bool.eq_false_iff.mpr c9
        subst c9
        have H1 : (some x9_2) = some r := by rw [if_neg (show ¬ (false = true) by decide)] at H; exact H
        clear H
        have H := H1
        clear H1
        obtain rfl := Option.some.inj H
        go_wp2
        go_ret
        exact ⟨by first | rfl | (simp; done) | (simp [*]; done), by repeat (first | exact Drawn0.refl _ | apply Drawn0.step)⟩
      ·rw [if_neg c8] at H
       have c8b0 : decide (x9_2 < (l0.length : Int)) = false := decide_eq_false c8
       clear c8
       obtain rfl := Option.some.inj H
       go_wp2
       go_ret
       exact ⟨by first | rfl | (simp; done) | (simp [*]; done), by repeat (first | exact Drawn0.refl _ | apply Drawn0.step)⟩

/-! ### classes_Meet: function 22 -/
def classes_Meet.l0 : Nat → List Int → List Bool → Int → Bool → List Int → List Int → Int → Int → Option (List Int × Bool)
 | 0, _, _, _, _, _, _, _, _ => none
 | k + 1, x0, x1, x2, x4, x12, x15, x16, x17 => if x17 < x16 then (if 0 ≤ x17 then (if x17 < (x15.length : Int) then (if x17 > 0 then ((classes_Next.f k x0 x1 x2 x4).bind fun t148 => (if t148 < 0 then (some (([] : List Int), false)) else (if t148 ≥ (x0.length : Int) then (some (([] : List Int), false)) else (if 0 ≤ t148 then (if t148 < (x0.length : Int) then (if (rd x0 t148) = (rd x15 x17) then (if x12.length < 17592186044416 then (classes_Meet.l0 k x0 x1 t148 x4 (x12 ++ [t148]) x15 x16 (wrap64 (x17 + 1))) else (none)) else (some (([] : List Int), false))) else (none)) else (none))))) else (if x2 < 0 then (some (([] : List Int), false)) else (if x2 ≥ (x0.length : Int) then (some (([] : List Int), false)) else (if 0 ≤ x2 then (if x2 < (x0.length : Int) then (if (rd x0 x2) = (rd x15 x17) then (if x12.length < 17592186044416 then (classes_Meet.l0 k x0 x1 x2 x4 (x12 ++ [x2]) x15 x16 (wrap64 (x17 + 1))) else (none)) else (some (([] : List Int), false))) else (none)) else (none))))) else (none)) else (none)) else (some (x12, decide ((x12.length : Int) > 0)))
def classes_Meet.f (k : Nat) (l0 : List Int) (l1 : List Bool) (a2 : Int) (l3 : List Int) (a4 : Bool) : Option (List Int × Bool) := classes_Meet.l0 k l0 l1 a2 a4 ([] : List Int) l3 (l3.length : Int) 0
theorem classes_Meet.mono_l : ∀ k, (∀ y0 y1 y2 y3 y4 y5 y6 y7, LeO (classes_Meet.l0 k y0 y1 y2 y3 y4 y5 y6 y7) (classes_Meet.l0 (k + 1) y0 y1 y2 y3 y4 y5 y6 y7))
 | 0 => fun _ _ _ _ _ _ _ _ r h => by simp [classes_Meet.l0] at h
 | k + 1 => by
  have ih0 := classes_Meet.mono_l k
  ·intro y0 y1 y2 y3 y4 y5 y6 y7
   unfold classes_Meet.l0
   repeat' first
   | (with_reducible exact ih0 _ _ _ _ _ _ _ _)
   | (with_reducible exact classes_Next.mono _ _ _ _ _)
   | (with_reducible exact LeO.refl _)
   | (with_reducible exact LeO.none _)
   | (with_reducible refine LeO.ite ?_ ?_)
   | (with_reducible refine LeO.bind ?_ (fun _ => ?_))
   | exact ih0 _ _ _ _ _ _ _ _
   | exact classes_Next.mono _ _ _ _ _
   | exact LeO.none _
   | refine LeO.ite ?_ ?_
   | refine LeO.bind ?_ (fun _ => ?_)
theorem classes_Meet.mono : ∀ a0 a1 a2 a3 a4 k, LeO (classes_Meet.f k a0 a1 a2 a3 a4) (classes_Meet.f (k + 1) a0 a1 a2 a3 a4) := by
 intro a0 a1 a2 a3 a4 k
 have ih0 := classes_Meet.mono_l k
 unfold classes_Meet.f
 repeat' first
   | (with_reducible exact ih0 _ _ _ _ _ _ _ _)
   | (with_reducible exact classes_Next.mono _ _ _ _ _)
   | (with_reducible exact LeO.refl _)
   | (with_reducible exact LeO.none _)
   | (with_reducible refine LeO.ite ?_ ?_)
   | (with_reducible refine LeO.bind ?_ (fun _ => ?_))
   | exact ih0 _ _ _ _ _ _ _ _
   | exact classes_Next.mono _ _ _ _ _
   | exact LeO.none _
   | refine LeO.ite ?_ ?_
   | refine LeO.bind ?_ (fun _ => ?_)
set_option maxHeartbeats 8000000 in
set_option maxRecDepth 100000 in
theorem classes_Meet.calls (k : Nat) (A0 : Option Addr) (c0 : Nat) (l0 : List Int) (A1 : Option Addr) (c1 : Nat) (l1 : List Bool) (a2 : Int) (A3 : Option Addr) (c3 : Nat) (l3 : List Int) (a4 : Bool) (r1 : List Int) (r2 : Bool) (w : World) (hr0 : Kd.C (Kd.int .i64) w A0 l0.length l0) (hc0 : l0.length ≤ c0) (hr1 : Kd.C Kd.bool w A1 l1.length l1) (hc1 : l1.length ≤ c1) (hr3 : Kd.C (Kd.int .i64) w A3 l3.length l3) (hc3 : l3.length ≤ c3) (h : classes_Meet.f k l0 l1 a2 l3 a4 = some (r1, r2)) :
  Calls Try.prog 22 #[.slice A0 l0.length c0, .slice A1 l1.length c1, .int .i64 a2, .slice A3 l3.length c3, .bool a4] w fun e w' => ∃ v0_ : Value, e = .returned (.tuple #[v0_, .bool r2]) ∧ Kd.R (Kd.int .i64) 3 w' w.heap.size (fun _ => True) v0_ r1 ∧ Below w.heap.size w w' := by
 have HR0 := Aside0.mk hr0
 have HC0 := Aside0.mk hc0
 clear hr0 hc0
 have HR1 := Aside0.mk hr1
 have HC1 := Aside0.mk hc1
 clear hr1 hc1
 have HR3 := Aside0.mk hr3
 have HC3 := Aside0.mk hc3
 clear hr3 hc3
 have HB := Aside0.mk (Below.refl w.heap.size w)
 have H : (classes_Meet.l0 k l0 l1 a2 a4 ([] : List Int) l3 (l3.length : Int) 0) = some (r1, r2) := h
 clear h
 have H' := Aside0.mk H
 clear H
 go_enter Try.func22, Try.ntmps22
 go_wp2
 go_loopg [2, 12, 17] k (fun kq v2 v12 v17 w' => ∃ (x2_1 : Int) (x12_1 : List Int) (x17_1 : Int), v2 = .int .i64 x2_1 ∧ v17 = .int .i64 x17_1 ∧ Aside0 (classes_Meet.l0 kq l0 l1 x2_1 a4 x12_1 l3 (l3.length : Int) x17_1 = some (r1, r2)) ∧ Aside0 (kq ≤ k) ∧ Aside0 (Kd.R (Kd.int .i64) 3 w' w.heap.size (fun _ => True) v12 x12_1) ∧ Aside0 (Below w.heap.size w w'))
 case atStart => exact ⟨(a2), (([] : List Int)), (0), (by first | rfl | (simp; done) | (simp [*]; done)), (by first | rfl | (simp; done) | (simp [*]; done)), H', ⟨Nat.le_refl _⟩, ⟨by first | exact Kd.R_nil _ _ _ _ _ | exact Kd.N_nil _ _ _ _ _ | exact Kd.V_nil _ _ _ _ _ | exact Kd.Q_nil _ _ _ _ _ | exact Kd.S_nil _ _ _ _ _⟩, ⟨by repeat (first | (with_reducible first | exact HB.out | apply below_alloc | apply pw_below_drewN | apply below_drew1) | exact HB.out)⟩⟩
 case round =>
  clear H'
  try clear c1
  try clear c2
  try clear p2
  try clear c3
  obtain ⟨x2_1, x12_1, x17_1, rfl, rfl, HA, HK1, HO_12, HB⟩ := hrel
  cases gk with
  | zero => exact absurd HA.out (by simp [classes_Meet.l0])
  | succ k1 =>
   have H := HA.out
   clear HA
   simp only [classes_Meet.l0] at H
   by_cases c6 : x17_1 < (l3.length : Int)
   ·rw [if_pos c6] at H
    have c6b0 : decide (x17_1 < (l3.length : Int)) = true := decide_eq_true c6
    clear c6
    by_cases c7 : 0 ≤ x17_1
    ·rw [if_pos c7] at H
     have c7b0 : decide (0 ≤ x17_1) = true := decide_eq_true c7
     clear c7
     by_cases c8 : x17_1 < (l3.length : Int)
     ·rw [if_pos c8] at H
      have c8b0 : decide (x17_1 < (l3.length : Int)) = true := decide_eq_true c8
      clear c8
      by_cases c9 : x17_1 > 0
      ·rw [if_pos c9] at H
       have c9b0 : decide (0 < x17_1) = true := decide_eq_true c9
       clear c9
       replace H := Option.bind_eq_some_iff.mp H
       obtain ⟨t148, A100, H⟩ := H
       replace H : (if t148 < 0 then (some (([] : List Int), false)) else (if t148 ≥ (l0.length : Int) then (some (([] : List Int), false)) else (if 0 ≤ t148 then (if t148 < (l0.length : Int) then (if (rd l0 t148) = (rd l3 x17_1) then (if x12_1.length < 17592186044416 then (classes_Meet.l0 k1 l0 l1 t148 a4 (x12_1 ++ [t148]) l3 (l3.length : Int) (wrap64 (x17_1 + 1))) else (none)) else (some (([] : List Int), false))) else (none)) else (none)))) = some (r1, r2) := H
       have A10 := Aside0.mk A100
       clear A100
       by_cases c11 : t148 < 0
       ·rw [if_pos c11] at H
        have c11b0 : decide (t148 < 0) = true := decide_eq_true c11
        clear c11
        simp only [Option.some.injEq, Prod.mk.injEq] at H
        obtain ⟨rfl, rfl⟩ := H
        have p147 : 0 ≤ (x17_1 : Int) := of_decide_eq_true (by first | (with_reducible assumption) | assumption)
        have q147 : x17_1 < (l3.length : Int) := of_decide_eq_true (by first | (with_reducible assumption) | assumption)
        obtain ⟨ad147, e147, hx147_0⟩ := Kd.at_int HR3.out x17_1 p147 q147
        cases e147
        replace hx147_0 := (HB.out.cell (World.block_lt_of_cell? w _ hx147_0)).trans hx147_0
        replace p147 := eq_true p147
        replace q147 := eq_true q147
        go_wp2_with (first | ((with_reducible refine gate_callee (f := 16) rfl ?_); refine goesL_ (some 28) rfl rfl Try.func16 (by kernel_rfl) rfl #[.slice A0 l0.length c0, .slice A1 l1.length c1, .int .i64 x2_1, .bool a4] rfl (by (try simp only [List.map_toArray, List.map_cons, List.map_nil]); first | done | rfl | (simp only [List.length_drop, List.length_take]; rfl)) ?_; (with_reducible refine (classes_Next.calls k1 _ _ l0 _ _ l1 x2_1 a4 t148 _ ?side1 ?side2 ?side3 ?side4 A10.out).mono ?_); (case side1 => repeat (first | exact (Kd.C_below HR0.out HB.out) | (with_reducible refine Kd.C_alloc ?_ _) | (with_reducible refine Kd.C_drewN ?_ _) | (with_reducible refine Kd.C_drew ?_))); (case side2 => exact HC0.out); (case side3 => repeat (first | exact (Kd.C_below HR1.out HB.out) | (with_reducible refine Kd.C_alloc ?_ _) | (with_reducible refine Kd.C_drewN ?_ _) | (with_reducible refine Kd.C_drew ?_))); (case side4 => exact HC1.out); rintro e w' ⟨rfl, ⟨nd, rfl⟩⟩; refine ⟨_, rfl, ?_⟩))
        go_ret2
        exact ⟨_, by first | rfl | (simp [errW_none, errW_some] <;> rfl) | (simp [*, errW_none, errW_some] <;> rfl), by first | exact Kd.R_nil _ _ _ _ _ | exact Kd.N_nil _ _ _ _ _ | exact Kd.V_nil _ _ _ _ _ | exact Kd.Q_nil _ _ _ _ _ | exact Kd.S_nil _ _ _ _ _, by repeat (first | (with_reducible first | exact HB.out | apply below_alloc | apply pw_below_drewN | apply below_drew1) | exact HB.out)⟩
       ·rw [if_neg c11] at H
        have c11b0 : decide (t148 < 0) = false := decide_eq_false c11
        clear c11
        by_cases c12 : t148 ≥ (l0.length : Int)
        ·rw [if_pos c12] at H
         have c12b0 : decide ((l0.length : Int) ≤ t148) = true := decide_eq_true c12
         clear c12
         simp only [Option.some.injEq, Prod.mk.injEq] at H
         obtain ⟨rfl, rfl⟩ := H
         have p147 : 0 ≤ (x17_1 : Int) := of_decide_eq_true (by first | (with_reducible assumption) | assumption)
         have q147 : x17_1 < (l3.length : Int) := of_decide_eq_true (by first | (with_reducible assumption) | assumption)
         obtain ⟨ad147, e147, hx147_0⟩ := Kd.at_int HR3.out x17_1 p147 q147
         cases e147
         replace hx147_0 := (HB.out.cell (World.block_lt_of_cell? w _ hx147_0)).trans hx147_0
         replace p147 := eq_true p147
         replace q147 := eq_true q147
         go_wp2_with (first | ((with_reducible refine gate_callee (f := 16) rfl ?_); refine goesL_ (some 28) rfl rfl Try.func16 (by kernel_rfl) rfl #[.slice A0 l0.length c0, .slice A1 l1.length c1, .int .i64 x2_1, .bool a4] rfl (by (try simp only [List.map_toArray, List.map_cons, List.map_nil]); first | done | rfl | (simp only [List.length_drop, List.length_take]; rfl)) ?_; (with_reducible refine (classes_Next.calls k1 _ _ l0 _ _ l1 x2_1 a4 t148 _ ?side1 ?side2 ?side3 ?side4 A10.out).mono ?_); (case side1 => repeat (first | exact (Kd.C_below HR0.out HB.out) | (with_reducible refine Kd.C_alloc ?_ _) | (with_reducible refine Kd.C_drewN ?_ _) | (with_reducible refine Kd.C_drew ?_))); (case side2 => exact HC0.out); (case side3 => repeat (first | exact (Kd.C_below HR1.out HB.out) | (with_reducible refine Kd.C_alloc ?_ _) | (with_reducible refine Kd.C_drewN ?_ _) | (with_reducible refine Kd.C_drew ?_))); (case side4 => exact HC1.out); rintro e w' ⟨rfl, ⟨nd, rfl⟩⟩; refine ⟨_, rfl, ?_⟩))
         go_ret2
         exact ⟨_, by first | rfl | (simp [errW_none, errW_some] <;> rfl) | (simp [*, errW_none, errW_some] <;> rfl), by first | exact Kd.R_nil _ _ _ _ _ | exact Kd.N_nil _ _ _ _ _ | exact Kd.V_nil _ _ _ _ _ | exact Kd.Q_nil _ _ _ _ _ | exact Kd.S_nil _ _ _ _ _, by repeat (first | (with_reducible first | exact HB.out | apply below_alloc | apply pw_below_drewN | apply below_drew1) | exact HB.out)⟩
        ·rw [if_neg c12] at H
         have c12b0 : decide ((l0.length : Int) ≤ t148) = false := decide_eq_false c12
         clear c12
         by_cases c13 : 0 ≤ t148
         ·rw [if_pos c13] at H
          have c13b0 : decide (0 ≤ t148) = true := decide_eq_true c13
          clear c13
          by_cases c14 : t148 < (l0.length : Int)
          ·rw [if_pos c14] at H
           have c14b0 : decide (t148 < (l0.length : Int)) = true := decide_eq_true c14
           clear c14
           by_cases c15 : (rd l0 t148) = (rd l3 x17_1)
           ·rw [if_pos c15] at H
            have c15b0 : ((rd l0 t148) == (rd l3 x17_1)) = true := beq_iff_eq.mpr c15
            have c15b1 : ((rd l0 t148) != (rd l3 x17_1)) = false := bne_eq_false_iff_eq.mpr c15
            clear c15
            by_cases c16 : x12_1.length < 17592186044416
            ·rw [if_pos c16] at H
             have LMc16 := Aside0.mk c16
             clear c16
             obtain ⟨y150, hy150⟩ : ∃ y_ : List Int, y_ = (x12_1 ++ [t148]) := ⟨_, rfl⟩
             replace H : (classes_Meet.l0 k1 l0 l1 t148 a4 y150 l3 (l3.length : Int) (wrap64 (x17_1 + 1))) = some (r1, r2) := by first | (rw [hy150]; with_reducible exact H) | (have H2_ := (Option.bind_some _ _).symm.trans H; rw [hy150]; with_reducible exact H2_) | (have H2_ := (Option.bind_some _ _).symm.trans H; with_reducible exact H2_) | with_reducible exact H | (rw [hy150]; exact H) | exact H
             have Ny150 := Aside0.mk hy150
             clear hy150
             have H' := Aside0.mk H
             clear H
             have p147 : 0 ≤ (x17_1 : Int) := of_decide_eq_true (by first | (with_reducible assumption) | assumption)
             have q147 : x17_1 < (l3.length : Int) := of_decide_eq_true (by first | (with_reducible assumption) | assumption)
             obtain ⟨ad147, e147, hx147_0⟩ := Kd.at_int HR3.out x17_1 p147 q147
             cases e147
             replace hx147_0 := (HB.out.cell (World.block_lt_of_cell? w _ hx147_0)).trans hx147_0
             replace p147 := eq_true p147
             replace q147 := eq_true q147
             go_wp2_with (first | ((with_reducible refine gate_callee (f := 16) rfl ?_); refine goesL_ (some 28) rfl rfl Try.func16 (by kernel_rfl) rfl #[.slice A0 l0.length c0, .slice A1 l1.length c1, .int .i64 x2_1, .bool a4] rfl (by (try simp only [List.map_toArray, List.map_cons, List.map_nil]); first | done | rfl | (simp only [List.length_drop, List.length_take]; rfl)) ?_; (with_reducible refine (classes_Next.calls k1 _ _ l0 _ _ l1 x2_1 a4 t148 _ ?side1 ?side2 ?side3 ?side4 A10.out).mono ?_); (case side1 => repeat (first | exact (Kd.C_below HR0.out HB.out) | (with_reducible refine Kd.C_alloc ?_ _) | (with_reducible refine Kd.C_drewN ?_ _) | (with_reducible refine Kd.C_drew ?_))); (case side2 => exact HC0.out); (case side3 => repeat (first | exact (Kd.C_below HR1.out HB.out) | (with_reducible refine Kd.C_alloc ?_ _) | (with_reducible refine Kd.C_drewN ?_ _) | (with_reducible refine Kd.C_drew ?_))); (case side4 => exact HC1.out); rintro e w' ⟨rfl, ⟨nd, rfl⟩⟩; refine ⟨_, rfl, ?_⟩; have p149 : 0 ≤ (t148 : Int) := of_decide_eq_true (by first | (with_reducible assumption) | assumption); have q149 : t148 < (l0.length : Int) := of_decide_eq_true (by first | (with_reducible assumption) | assumption); obtain ⟨ad149, e149, hx149_0⟩ := Kd.at_int HR0.out t148 p149 q149; cases e149; replace hx149_0 := (HB.out.cell (World.block_lt_of_cell? w _ hx149_0)).trans hx149_0; replace p149 := eq_true p149; replace q149 := eq_true q149) | ((with_reducible refine gate_builtin (b := .append) (xs := #[.tmp 45, .tmp 47]) rfl ?_); (try (refine gate_guard (by rfl) ?_; dsimp only)); at_builtin; refine Kd.R_append (Kd.int .i64) (w0 := w) w.heap.size rfl (.tmp 45) (.tmp 47) 22 3 (.int .i64 0) 8 rfl Try.underlying22 info3 rfl (by decide) (by omega) u12 x12_1 t148 [.int .i64 t148] (fun _ => True) (fun _ => False) rfl rfl ?aP (fun _ hk => hk.elim) ?aF ?aO ?aB ?aS ?aL ?_; (case aP => exact rfl); (case aB => exact (by repeat (first | (with_reducible first | exact HB.out | apply below_alloc | apply pw_below_drewN | apply below_drew1) | exact HB.out))); (case aF => exact (fun _ _ => trivial)); (case aO => exact (by (with_reducible repeat (first | apply Kd.R_alloc | apply Kd.R_drewN | apply Kd.R_drew)); exact HO_12.out)); (case aS => exact (below_size (by repeat (first | (with_reducible first | exact HB.out | apply below_alloc | apply pw_below_drewN | apply below_drew1) | exact HB.out)))); (case aL => have := LMc16.out; omega); intro v151 w17 ho hb hg hat; rw [← Ny150.out] at ho; have n0_ := Aside0.mk (hb); have n1_ := Aside0.mk (ho); clear HB; clear HO_12; have HB := n0_; have HO152 := n1_; clear n0_ n1_; clear ho hb hg hat))
             go_roundg k1
             case measure => have := HK1.out; omega
             case rel => exact ⟨(t148), (y150), (wrap64 (x17_1 + 1)), (by first | rfl | (simp; done) | (simp [*]; done)), (by first | rfl | (simp; done) | (simp [*]; done)), H', ⟨by have := HK1.out; omega⟩, ⟨by (with_reducible repeat (first | apply Kd.R_alloc | apply Kd.R_drewN | apply Kd.R_drew)); exact HO152.out⟩, ⟨by repeat (first | (with_reducible first | exact HB.out | apply below_alloc | apply pw_below_drewN | apply below_drew1) | exact HB.out)⟩⟩
            ·rw [if_neg c16] at H
             exact absurd H (by simp)
           ·rw [if_neg c15] at H
            have c15b0 : ((rd l0 t148) == (rd l3 x17_1)) = false := beq_eq_false_iff_ne.mpr c15
            have c15b1 : ((rd l0 t148) != (rd l3 x17_1)) = true := bne_iff_ne.mpr c15
            simp only [Option.some.injEq, Prod.mk.injEq] at H
            obtain ⟨rfl, rfl⟩ := H
            have p147 : 0 ≤ (x17_1 : Int) := of_decide_eq_true (by first | (with_reducible assumption) | assumption)
            have q147 : x17_1 < (l3.length : Int) := of_decide_eq_true (by first | (with_reducible assumption) | assumption)
            obtain ⟨ad147, e147, hx147_0⟩ := Kd.at_int HR3.out x17_1 p147 q147
            cases e147
            replace hx147_0 := (HB.out.cell (World.block_lt_of_cell? w _ hx147_0)).trans hx147_0
            replace p147 := eq_true p147
            replace q147 := eq_true q147
            go_wp2_with (first | ((with_reducible refine gate_callee (f := 16) rfl ?_); refine goesL_ (some 28) rfl rfl Try.func16 (by kernel_rfl) rfl #[.slice A0 l0.length c0, .slice A1 l1.length c1, .int .i64 x2_1, .bool a4] rfl (by (try simp only [List.map_toArray, List.map_cons, List.map_nil]); first | done | rfl | (simp only [List.length_drop, List.length_take]; rfl)) ?_; (with_reducible refine (classes_Next.calls k1 _ _ l0 _ _ l1 x2_1 a4 t148 _ ?side1 ?side2 ?side3 ?side4 A10.out).mono ?_); (case side1 => repeat (first | exact (Kd.C_below HR0.out HB.out) | (with_reducible refine Kd.C_alloc ?_ _) | (with_reducible refine Kd.C_drewN ?_ _) | (with_reducible refine Kd.C_drew ?_))); (case side2 => exact HC0.out); (case side3 => repeat (first | exact (Kd.C_below HR1.out HB.out) | (with_reducible refine Kd.C_alloc ?_ _) | (with_reducible refine Kd.C_drewN ?_ _) | (with_reducible refine Kd.C_drew ?_))); (case side4 => exact HC1.out); rintro e w' ⟨rfl, ⟨nd, rfl⟩⟩; refine ⟨_, rfl, ?_⟩; have p149 : 0 ≤ (t148 : Int) := of_decide_eq_true (by first | (with_reducible assumption) | assumption); have q149 : t148 < (l0.length : Int) := of_decide_eq_true (by first | (with_reducible assumption) | assumption); obtain ⟨ad149, e149, hx149_0⟩ := Kd.at_int HR0.out t148 p149 q149; cases e149; replace hx149_0 := (HB.out.cell (World.block_lt_of_cell? w _ hx149_0)).trans hx149_0; replace p149 := eq_true p149; replace q149 := eq_true q149))
            go_ret2
            exact ⟨_, by first | rfl | (simp [errW_none, errW_some] <;> rfl) | (simp [*, errW_none, errW_some] <;> rfl), by first | exact Kd.R_nil _ _ _ _ _ | exact Kd.N_nil _ _ _ _ _ | exact Kd.V_nil _ _ _ _ _ | exact Kd.Q_nil _ _ _ _ _ | exact Kd.S_nil _ _ _ _ _, by repeat (first | (with_reducible first | exact HB.out | apply below_alloc | apply pw_below_drewN | apply below_drew1) | exact HB.out)⟩
          ·rw [if_neg c14] at H
           exact absurd H (by simp)
         ·rw [if_neg c13] at H
          exact absurd H (by simp)
      ·rw [if_neg c9] at H
       have c9b0 : decide (0 < x17_1) = false := decide_eq_false c9
       clear c9
       by_cases c18 : x2_1 < 0
       ·rw [if_pos c18] at H
        have c18b0 : decide (x2_1 < 0) = true := decide_eq_true c18
        clear c18
        simp only [Option.some.injEq, Prod.mk.injEq] at H
        obtain ⟨rfl, rfl⟩ := H
        have p147 : 0 ≤ (x17_1 : Int) := of_decide_eq_true (by first | (with_reducible assumption) | assumption)
        have q147 : x17_1 < (l3.length : Int) := of_decide_eq_true (by first | (with_reducible assumption) | assumption)
        obtain ⟨ad147, e147, hx147_0⟩ := Kd.at_int HR3.out x17_1 p147 q147
        cases e147
        replace hx147_0 := (HB.out.cell (World.block_lt_of_cell? w _ hx147_0)).trans hx147_0
        replace p147 := eq_true p147
        replace q147 := eq_true q147
        go_wp2
        go_ret2
        exact ⟨_, by first | rfl | (simp [errW_none, errW_some] <;> rfl) | (simp [*, errW_none, errW_some] <;> rfl), by first | exact Kd.R_nil _ _ _ _ _ | exact Kd.N_nil _ _ _ _ _ | exact Kd.V_nil _ _ _ _ _ | exact Kd.Q_nil _ _ _ _ _ | exact Kd.S_nil _ _ _ _ _, by repeat (first | (with_reducible first | exact HB.out | apply below_alloc | apply pw_below_drewN | apply below_drew1) | exact HB.out)⟩
       ·rw [if_neg c18] at H
        have c18b0 : decide (x2_1 < 0) = false := decide_eq_false c18
        clear c18
        by_cases c19 : x2_1 ≥ (l0.length : Int)
        ·rw [if_pos c19] at H
         have c19b0 : decide ((l0.length : Int) ≤ x2_1) = true := decide_eq_true c19
         clear c19
         simp only [Option.some.injEq, Prod.mk.injEq] at H
         obtain ⟨rfl, rfl⟩ := H
         have p147 : 0 ≤ (x17_1 : Int) := of_decide_eq_true (by first | (with_reducible assumption) | assumption)
         have q147 : x17_1 < (l3.length : Int) := of_decide_eq_true (by first | (with_reducible assumption) | assumption)
         obtain ⟨ad147, e147, hx147_0⟩ := Kd.at_int HR3.out x17_1 p147 q147
         cases e147
         replace hx147_0 := (HB.out.cell (World.block_lt_of_cell? w _ hx147_0)).trans hx147_0
         replace p147 := eq_true p147
         replace q147 := eq_true q147
         go_wp2
         go_ret2
         exact ⟨_, by first | rfl | (simp [errW_none, errW_some] <;> rfl) | (simp [*, errW_none, errW_some] <;> rfl), by first | exact Kd.R_nil _ _ _ _ _ | exact Kd.N_nil _ _ _ _ _ | exact Kd.V_nil _ _ _ _ _ | exact Kd.Q_nil _ _ _ _ _ | exact Kd.S_nil _ _ _ _ _, by repeat (first | (with_reducible first | exact HB.out | apply below_alloc | apply pw_below_drewN | apply below_drew1) | exact HB.out)⟩
        ·rw [if_neg c19] at H
         have c19b0 : decide ((l0.length : Int) ≤ x2_1) = false := decide_eq_false c19
         clear c19
         by_cases c20 : 0 ≤ x2_1
         ·rw [if_pos c20] at H
          have c20b0 : decide (0 ≤ x2_1) = true := decide_eq_true c20
          clear c20
          by_cases c21 : x2_1 < (l0.length : Int)
          ·rw [if_pos c21] at H
           have c21b0 : decide (x2_1 < (l0.length : Int)) = true := decide_eq_true c21
           clear c21
           by_cases c22 : (rd l0 x2_1) = (rd l3 x17_1)
           ·rw [if_pos c22] at H
            have c22b0 : ((rd l0 x2_1) == (rd l3 x17_1)) = true := beq_iff_eq.mpr c22
            have c22b1 : ((rd l0 x2_1) != (rd l3 x17_1)) = false := bne_eq_false_iff_eq.mpr c22
            clear c22
            by_cases c23 : x12_1.length < 17592186044416
            ·rw [if_pos c23] at H
             have LMc23 := Aside0.mk c23
             clear c23
             obtain ⟨y154, hy154⟩ : ∃ y_ : List Int, y_ = (x12_1 ++ [x2_1]) := ⟨_, rfl⟩
             replace H : (classes_Meet.l0 k1 l0 l1 x2_1 a4 y154 l3 (l3.length : Int) (wrap64 (x17_1 + 1))) = some (r1, r2) := by first | (rw [hy154]; with_reducible exact H) | (have H2_ := (Option.bind_some _ _).symm.trans H; rw [hy154]; with_reducible exact H2_) | (have H2_ := (Option.bind_some _ _).symm.trans H; with_reducible exact H2_) | with_reducible exact H | (rw [hy154]; exact H) | exact H
             have Ny154 := Aside0.mk hy154
             clear hy154
             have H' := Aside0.mk H
             clear H
             have p147 : 0 ≤ (x17_1 : Int) := of_decide_eq_true (by first | (with_reducible assumption) | assumption)
             have q147 : x17_1 < (l3.length : Int) := of_decide_eq_true (by first | (with_reducible assumption) | assumption)
             obtain ⟨ad147, e147, hx147_0⟩ := Kd.at_int HR3.out x17_1 p147 q147
             cases e147
             replace hx147_0 := (HB.out.cell (World.block_lt_of_cell? w _ hx147_0)).trans hx147_0
             replace p147 := eq_true p147
             replace q147 := eq_true q147
             have p153 : 0 ≤ (x2_1 : Int) := of_decide_eq_true (by first | (with_reducible assumption) | assumption)
             have q153 : x2_1 < (l0.length : Int) := of_decide_eq_true (by first | (with_reducible assumption) | assumption)
             obtain ⟨ad153, e153, hx153_0⟩ := Kd.at_int HR0.out x2_1 p153 q153
             cases e153
             replace hx153_0 := (HB.out.cell (World.block_lt_of_cell? w _ hx153_0)).trans hx153_0
             replace p153 := eq_true p153
             replace q153 := eq_true q153
             go_wp2_with (first | ((with_reducible refine gate_builtin (b := .append) (xs := #[.tmp 45, .tmp 47]) rfl ?_); (try (refine gate_guard (by rfl) ?_; dsimp only)); at_builtin; refine Kd.R_append (Kd.int .i64) (w0 := w) w.heap.size rfl (.tmp 45) (.tmp 47) 22 3 (.int .i64 0) 8 rfl Try.underlying22 info3 rfl (by decide) (by omega) u12 x12_1 x2_1 [.int .i64 x2_1] (fun _ => True) (fun _ => False) rfl rfl ?aP (fun _ hk => hk.elim) ?aF ?aO ?aB ?aS ?aL ?_; (case aP => exact rfl); (case aB => exact (by repeat (first | (with_reducible first | exact HB.out | apply below_alloc | apply pw_below_drewN | apply below_drew1) | exact HB.out))); (case aF => exact (fun _ _ => trivial)); (case aO => exact (by (with_reducible repeat (first | apply Kd.R_alloc | apply Kd.R_drewN | apply Kd.R_drew)); exact HO_12.out)); (case aS => exact (below_size (by repeat (first | (with_reducible first | exact HB.out | apply below_alloc | apply pw_below_drewN | apply below_drew1) | exact HB.out)))); (case aL => have := LMc23.out; omega); intro v155 w24 ho hb hg hat; rw [← Ny154.out] at ho; have n0_ := Aside0.mk (hb); have n1_ := Aside0.mk (ho); clear HB; clear HO_12; have HB := n0_; have HO156 := n1_; clear n0_ n1_; clear ho hb hg hat))
             go_roundg k1
             case measure => have := HK1.out; omega
             case rel => exact ⟨(x2_1), (y154), (wrap64 (x17_1 + 1)), (by first | rfl | (simp; done) | (simp [*]; done)), (by first | rfl | (simp; done) | (simp [*]; done)), H', ⟨by have := HK1.out; omega⟩, ⟨by (with_reducible repeat (first | apply Kd.R_alloc | apply Kd.R_drewN | apply Kd.R_drew)); exact HO156.out⟩, ⟨by repeat (first | (with_reducible first | exact HB.out | apply below_alloc | apply pw_below_drewN | apply below_drew1) | exact HB.out)⟩⟩
            ·rw [if_neg c23] at H
             exact absurd H (by simp)
           ·rw [if_neg c22] at H
            have c22b0 : ((rd l0 x2_1) == (rd l3 x17_1)) = false := beq_eq_false_iff_ne.mpr c22
            have c22b1 : ((rd l0 x2_1) != (rd l3 x17_1)) = true := bne_iff_ne.mpr c22
            simp only [Option.some.injEq, Prod.mk.injEq] at H
            obtain ⟨rfl, rfl⟩ := H
            have p147 : 0 ≤ (x17_1 : Int) := of_decide_eq_true (by first | (with_reducible assumption) | assumption)
            have q147 : x17_1 < (l3.length : Int) := of_decide_eq_true (by first | (with_reducible assumption) | assumption)
            obtain ⟨ad147, e147, hx147_0⟩ := Kd.at_int HR3.out x17_1 p147 q147
            cases e147
            replace hx147_0 := (HB.out.cell (World.block_lt_of_cell? w _ hx147_0)).trans hx147_0
            replace p147 := eq_true p147
            replace q147 := eq_true q147
            have p153 : 0 ≤ (x2_1 : Int) := of_decide_eq_true (by first | (with_reducible assumption) | assumption)
            have q153 : x2_1 < (l0.length : Int) := of_decide_eq_true (by first | (with_reducible assumption) | assumption)
            obtain ⟨ad153, e153, hx153_0⟩ := Kd.at_int HR0.out x2_1 p153 q153
            cases e153
            replace hx153_0 := (HB.out.cell (World.block_lt_of_cell? w _ hx153_0)).trans hx153_0
            replace p153 := eq_true p153
            replace q153 := eq_true q153
            go_wp2
            go_ret2
            exact ⟨_, by first | rfl | (simp [errW_none, errW_some] <;> rfl) | (simp [*, errW_none, errW_some] <;> rfl), by first | exact Kd.R_nil _ _ _ _ _ | exact Kd.N_nil _ _ _ _ _ | exact Kd.V_nil _ _ _ _ _ | exact Kd.Q_nil _ _ _ _ _ | exact Kd.S_nil _ _ _ _ _, by repeat (first | (with_reducible first | exact HB.out | apply below_alloc | apply pw_below_drewN | apply below_drew1) | exact HB.out)⟩
          ·rw [if_neg c21] at H
           exact absurd H (by simp)
         ·rw [if_neg c20] at H
          exact absurd H (by simp)
     ·rw [if_neg c8] at H
      exact absurd H (by simp)
    ·rw [if_neg c7] at H
     exact absurd H (by simp)
   ·rw [if_neg c6] at H
    have c6b0 : decide (x17_1 < (l3.length : Int)) = false := decide_eq_false c6
    clear c6
    simp only [Option.some.injEq, Prod.mk.injEq] at H
    obtain ⟨rfl, rfl⟩ := H
    obtain ⟨Ao25, co25, eo25⟩ := Kd.R_slice HO_12.out
    subst eo25
    go_wp2
    go_ret2
    exact ⟨_, by first | rfl | (simp [errW_none, errW_some] <;> rfl) | (simp [*, errW_none, errW_some] <;> rfl), by (with_reducible repeat (first | apply Kd.R_alloc | apply Kd.R_drewN | apply Kd.R_drew)); exact HO_12.out, by repeat (first | (with_reducible first | exact HB.out | apply below_alloc | apply pw_below_drewN | apply below_drew1) | exact HB.out)⟩

/-! ### foundryref06_SameInts: function 24 -/
def foundryref06_SameInts.l0 : Nat → List Int → List Int → Int → Option (Bool)
 | 0, _, _, _ => none
 | k + 1, x0, x1, x5 => if x5 < (x0.length : Int) then (if 0 ≤ x5 then (if x5 < (x1.length : Int) then (if (rd x0 x5) = (rd x1 x5) then (foundryref06_SameInts.l0 k x0 x1 (wrap64 (x5 + 1))) else (some false)) else (none)) else (none)) else (some true)
def foundryref06_SameInts.f (k : Nat) (l0 : List Int) (l1 : List Int) : Option (Bool) := if (l0.length : Int) = (l1.length : Int) then (foundryref06_SameInts.l0 k l0 l1 0) else (some false)
theorem foundryref06_SameInts.mono_l : ∀ k, (∀ y0 y1 y2, LeO (foundryref06_SameInts.l0 k y0 y1 y2) (foundryref06_SameInts.l0 (k + 1) y0 y1 y2))
 | 0 => fun _ _ _ r h => by simp [foundryref06_SameInts.l0] at h
 | k + 1 => by
  have ih0 := foundryref06_SameInts.mono_l k
  ·intro y0 y1 y2
   unfold foundryref06_SameInts.l0
   repeat' first
   | (with_reducible exact ih0 _ _ _)
   | (with_reducible exact LeO.refl _)
   | (with_reducible exact LeO.none _)
   | (with_reducible refine LeO.ite ?_ ?_)
   | (with_reducible refine LeO.bind ?_ (fun _ => ?_))
   | exact ih0 _ _ _
   | exact LeO.none _
   | refine LeO.ite ?_ ?_
   | refine LeO.bind ?_ (fun _ => ?_)
theorem foundryref06_SameInts.mono : ∀ a0 a1 k, LeO (foundryref06_SameInts.f k a0 a1) (foundryref06_SameInts.f (k + 1) a0 a1) := by
 intro a0 a1 k
 have ih0 := foundryref06_SameInts.mono_l k
 unfold foundryref06_SameInts.f
 repeat' first
   | (with_reducible exact ih0 _ _ _)
   | (with_reducible exact LeO.refl _)
   | (with_reducible exact LeO.none _)
   | (with_reducible refine LeO.ite ?_ ?_)
   | (with_reducible refine LeO.bind ?_ (fun _ => ?_))
   | exact ih0 _ _ _
   | exact LeO.none _
   | refine LeO.ite ?_ ?_
   | refine LeO.bind ?_ (fun _ => ?_)
set_option maxHeartbeats 8000000 in
set_option maxRecDepth 100000 in
theorem foundryref06_SameInts.calls (k : Nat) (A0 : Option Addr) (c0 : Nat) (l0 : List Int) (A1 : Option Addr) (c1 : Nat) (l1 : List Int) (r : Bool) (w : World) (hr0 : Kd.C (Kd.int .i64) w A0 l0.length l0) (hc0 : l0.length ≤ c0) (hr1 : Kd.C (Kd.int .i64) w A1 l1.length l1) (hc1 : l1.length ≤ c1) (h : foundryref06_SameInts.f k l0 l1 = some r) :
  Calls Try.prog 24 #[.slice A0 l0.length c0, .slice A1 l1.length c1] w fun e w' => e = .returned (.bool r) ∧ Drawn0 w w' := by
 have HR0 := Aside0.mk hr0
 have HC0 := Aside0.mk hc0
 clear hr0 hc0
 have HR1 := Aside0.mk hr1
 have HC1 := Aside0.mk hc1
 clear hr1 hc1
 have H : (if (l0.length : Int) = (l1.length : Int) then (foundryref06_SameInts.l0 k l0 l1 0) else (some false)) = some r := h
 clear h
 by_cases c3 : (l0.length : Int) = (l1.length : Int)
 ·rw [if_pos c3] at H
  have c3b0 : ((l0.length : Int) == (l1.length : Int)) = true := beq_iff_eq.mpr c3
  have c3b1 : ((l0.length : Int) != (l1.length : Int)) = false := bne_eq_false_iff_eq.mpr c3
  have c3b2 : (l0.length == l1.length) = true := by first | simpa using c3 | (simp at c3 ⊢; omega)
  clear c3
  have H' := Aside0.mk H
  clear H
  go_enter Try.func24, Try.ntmps24
  go_wp2
  repeat (go_quiet (fail); try go_wp2)
  go_loopg [5] k (fun kq v5 w' => ∃ (x5_1 : Int), v5 = .int .i64 x5_1 ∧ Aside0 (foundryref06_SameInts.l0 kq l0 l1 x5_1 = some r) ∧ Aside0 (kq ≤ k) ∧ Drawn0 w w')
  case atStart => exact ⟨(0), (by first | rfl | (simp; done) | (simp [*]; done)), H', ⟨Nat.le_refl _⟩, by repeat (first | exact Drawn0.refl _ | apply Drawn0.step)⟩
  case round =>
   clear H'
   try clear c1
   try clear c2
   try clear p2
   try clear c3
   try clear c3b0
   try clear c3b1
   try clear c3b2
   obtain ⟨x5_1, rfl, HA, HK1, ⟨m1, rfl⟩⟩ := hrel
   cases gk with
   | zero => exact absurd HA.out (by simp [foundryref06_SameInts.l0])
   | succ k1 =>
    have H := HA.out
    clear HA
    simp only [foundryref06_SameInts.l0] at H
    by_cases c4 : x5_1 < (l0.length : Int)
    ·rw [if_pos c4] at H
     have c4b0 : decide (x5_1 < (l0.length : Int)) = true := decide_eq_true c4
     clear c4
     by_cases c5 : 0 ≤ x5_1
     ·rw [if_pos c5] at H
      have c5b0 : decide (0 ≤ x5_1) = true := decide_eq_true c5
      clear c5
      by_cases c6 : x5_1 < (l1.length : Int)
      ·rw [if_pos c6] at H
       have c6b0 : decide (x5_1 < (l1.length : Int)) = true := decide_eq_true c6
       clear c6
       by_cases c7 : (rd l0 x5_1) = (rd l1 x5_1)
       ·rw [if_pos c7] at H
        have c7b0 : ((rd l0 x5_1) == (rd l1 x5_1)) = true := beq_iff_eq.mpr c7
        have c7b1 : ((rd l0 x5_1) != (rd l1 x5_1)) = false := bne_eq_false_iff_eq.mpr c7
        clear c7
        have H' := Aside0.mk H
        clear H
        have p169 : 0 ≤ (x5_1 : Int) := of_decide_eq_true (by first | (with_reducible assumption) | assumption)
        have q169 : x5_1 < (l0.length : Int) := of_decide_eq_true (by first | (with_reducible assumption) | assumption)
        obtain ⟨ad169, e169, hx169_0⟩ := Kd.at_int HR0.out x5_1 p169 q169
        cases e169
        replace p169 := eq_true p169
        replace q169 := eq_true q169
        have p170 : 0 ≤ (x5_1 : Int) := of_decide_eq_true (by first | (with_reducible assumption) | assumption)
        have q170 : x5_1 < (l1.length : Int) := of_decide_eq_true (by first | (with_reducible assumption) | assumption)
        obtain ⟨ad170, e170, hx170_0⟩ := Kd.at_int HR1.out x5_1 p170 q170
        cases e170
        replace p170 := eq_true p170
        replace q170 := eq_true q170
        go_wp2
        repeat (go_quiet (fail); try go_wp2)
        go_roundg k1
        case measure => have := HK1.out; omega
        case rel => exact ⟨(wrap64 (x5_1 + 1)), (by first | rfl | (simp; done) | (simp [*]; done)), H', ⟨by have := HK1.out; omega⟩, by repeat (first | exact Drawn0.refl _ | apply Drawn0.step)⟩
       ·rw [if_neg c7] at H
        have c7b0 : ((rd l0 x5_1) == (rd l1 x5_1)) = false := beq_eq_false_iff_ne.mpr c7
        have c7b1 : ((rd l0 x5_1) != (rd l1 x5_1)) = true := bne_iff_ne.mpr c7
        obtain rfl := Option.some.inj H
        have p169 : 0 ≤ (x5_1 : Int) := of_decide_eq_true (by first | (with_reducible assumption) | assumption)
        have q169 : x5_1 < (l0.length : Int) := of_decide_eq_true (by first | (with_reducible assumption) | assumption)
        obtain ⟨ad169, e169, hx169_0⟩ := Kd.at_int HR0.out x5_1 p169 q169
        cases e169
        replace p169 := eq_true p169
        replace q169 := eq_true q169
        have p170 : 0 ≤ (x5_1 : Int) := of_decide_eq_true (by first | (with_reducible assumption) | assumption)
        have q170 : x5_1 < (l1.length : Int) := of_decide_eq_true (by first | (with_reducible assumption) | assumption)
        obtain ⟨ad170, e170, hx170_0⟩ := Kd.at_int HR1.out x5_1 p170 q170
        cases e170
        replace p170 := eq_true p170
        replace q170 := eq_true q170
        go_wp2
        repeat (go_quiet (fail); try go_wp2)
        go_ret
        exact ⟨by first | rfl | (simp; done) | (simp [*]; done), by repeat (first | exact Drawn0.refl _ | apply Drawn0.step)⟩
      ·rw [if_neg c6] at H
       exact absurd H (by simp)
     ·rw [if_neg c5] at H
      exact absurd H (by simp)
    ·rw [if_neg c4] at H
     have c4b0 : decide (x5_1 < (l0.length : Int)) = false := decide_eq_false c4
     clear c4
     obtain rfl := Option.some.inj H
     go_wp2
     repeat (go_quiet (fail); try go_wp2)
     go_ret
     exact ⟨by first | rfl | (simp; done) | (simp [*]; done), by repeat (first | exact Drawn0.refl _ | apply Drawn0.step)⟩
 ·rw [if_neg c3] at H
  have c3b0 : ((l0.length : Int) == (l1.length : Int)) = false := beq_eq_false_iff_ne.mpr c3
  have c3b1 : ((l0.length : Int) != (l1.length : Int)) = true := bne_iff_ne.mpr c3
  have c3b2 : (l0.length == l1.length) = false := by first | simpa using c3 | (simp at c3 ⊢; omega)
  obtain rfl := Option.some.inj H
  go_enter Try.func24, Try.ntmps24
  go_wp2
  repeat (go_quiet (fail); try go_wp2)
  go_ret
  exact ⟨by first | rfl | (simp; done) | (simp [*]; done), by repeat (first | exact Drawn0.refl _ | apply Drawn0.step)⟩

end Go.Proofs.Ytoldahmgjenlaaa.Q
