-- Written by a program of this session, out of the kit's print tool (see NOTES.md: mypr)
import Derived.Test.YtoldahmgjenlaaaQx0
import Derived.Test.YtoldahmgjenlaaaQx15
import Derived.Test.YtoldahmgjenlaaaQx19
import Derived.Test.YtoldahmgjenlaaaF4
import Derived.Test.YtoldahmgjenlaaaG1
namespace Go.Proofs.Ytoldahmgjenlaaa.Q
open Go.RowKit Go.Proofs.YtoldahmgjenlaaaW.PrintWords Go.Proofs.YtoldahmgjenlaaaW.PrintLast Go.Proofs.YtoldahmgjenlaaaW.PrintMore
attribute [local go_sem] max2_int min2_int max_two min_two max_three min_three max_four min_four   -- for this text's walks alone
set_option linter.unusedVariables false
set_option linter.unusedSimpArgs false

/-! ### subst_One: function 32 -/
def subst_One.j0 : Nat → List (S46) → Int → List Bool → List Int → Int → Bool → Option (List Int × Int × Bool)
 | 0, _, _, _, _, _, _ => none
 | k + 1, x0, x1, x2, x3, x4, x47 => if x47 = true then ((slices_Clone_int_int.f x3).bind fun t455 => (some (t455, x4, false))) else ((subst_one.f k x0 x1 x2 x3 x4 1).bind fun bt458 => ((slices_Clone_int_int.f bt458.1).bind fun t463 => (some (t463, bt458.2.1, bt458.2.2))))
def subst_One.f (k : Nat) (l0 : List (S46)) (a1 : Int) (l2 : List Bool) (l3 : List Int) (a4 : Int) : Option (List Int × Int × Bool) := if a1 < 0 then (subst_One.j0 k l0 a1 l2 l3 a4 true) else (if a1 ≥ (l0.length : Int) then (subst_One.j0 k l0 a1 l2 l3 a4 true) else (if 0 ≤ a1 then (if a1 < (l0.length : Int) then ((subst_puts.f ((rd_T46 l0 a1).f0)).bind fun t453 => (if t453 = true then (if a4 < 0 then (subst_One.j0 k l0 a1 l2 l3 a4 true) else (if a4 ≥ (l3.length : Int) then (subst_One.j0 k l0 a1 l2 l3 a4 true) else ((subst_Formed.f l0 65536).bind fun t454 => (subst_One.j0 k l0 a1 l2 l3 a4 (!t454))))) else (subst_One.j0 k l0 a1 l2 l3 a4 true))) else (none)) else (none)))
theorem subst_One.mono_l : ∀ k, (∀ y0 y1 y2 y3 y4 y5, LeO (subst_One.j0 k y0 y1 y2 y3 y4 y5) (subst_One.j0 (k + 1) y0 y1 y2 y3 y4 y5))
 | 0 => fun _ _ _ _ _ _ r h => by simp [subst_One.j0] at h
 | k + 1 => by
  have ih0 := subst_One.mono_l k
  ·intro y0 y1 y2 y3 y4 y5
   unfold subst_One.j0
   repeat' first
   | (with_reducible exact ih0 _ _ _ _ _ _)
   | (with_reducible exact subst_one.mono _ _ _ _ _ _ _)
   | (with_reducible exact LeO.refl _)
   | (with_reducible exact LeO.none _)
   | (with_reducible refine LeO.ite ?_ ?_)
   | (with_reducible refine LeO.bind ?_ (fun _ => ?_))
   | exact ih0 _ _ _ _ _ _
   | exact subst_one.mono _ _ _ _ _ _ _
   | exact LeO.none _
   | refine LeO.ite ?_ ?_
   | refine LeO.bind ?_ (fun _ => ?_)
theorem subst_One.mono : ∀ a0 a1 a2 a3 a4 k, LeO (subst_One.f k a0 a1 a2 a3 a4) (subst_One.f (k + 1) a0 a1 a2 a3 a4) := by
 intro a0 a1 a2 a3 a4 k
 have ih0 := subst_One.mono_l k
 unfold subst_One.f
 repeat' first
   | (with_reducible exact ih0 _ _ _ _ _ _)
   | (with_reducible exact subst_one.mono _ _ _ _ _ _ _)
   | (with_reducible exact LeO.refl _)
   | (with_reducible exact LeO.none _)
   | (with_reducible refine LeO.ite ?_ ?_)
   | (with_reducible refine LeO.bind ?_ (fun _ => ?_))
   | exact ih0 _ _ _ _ _ _
   | exact subst_one.mono _ _ _ _ _ _ _
   | exact LeO.none _
   | refine LeO.ite ?_ ?_
   | refine LeO.bind ?_ (fun _ => ?_)
set_option maxHeartbeats 8000000 in
set_option maxRecDepth 100000 in
theorem subst_One.calls (k : Nat) (A0 : Option Addr) (c0 : Nat) (l0 : List (S46)) (a1 : Int) (A2 : Option Addr) (c2 : Nat) (l2 : List Bool) (A3 : Option Addr) (c3 : Nat) (l3 : List Int) (a4 : Int) (r1 : List Int) (r2 : Int) (r3 : Bool) (w : World) (hr0 : Kd.C k46 w A0 l0.length l0) (hc0 : l0.length ≤ c0) (hr2 : Kd.C Kd.bool w A2 l2.length l2) (hc2 : l2.length ≤ c2) (hr3 : Kd.C (Kd.int .i64) w A3 l3.length l3) (hc3 : l3.length ≤ c3) (h : subst_One.f k l0 a1 l2 l3 a4 = some (r1, r2, r3)) :
  Calls Try.prog 32 #[.slice A0 l0.length c0, .int .i64 a1, .slice A2 l2.length c2, .slice A3 l3.length c3, .int .i64 a4] w fun e w' => ∃ v0_ : Value, e = .returned (.tuple #[v0_, .int .i64 r2, .bool r3]) ∧ Kd.R (Kd.int .i64) 3 w' w.heap.size (fun _ => True) v0_ r1 ∧ Below w.heap.size w w' := by
 have HR0 := Aside0.mk hr0
 have HC0 := Aside0.mk hc0
 clear hr0 hc0
 have HR2 := Aside0.mk hr2
 have HC2 := Aside0.mk hc2
 clear hr2 hc2
 have HR3 := Aside0.mk hr3
 have HC3 := Aside0.mk hc3
 clear hr3 hc3
 have HB := Aside0.mk (Below.refl w.heap.size w)
 have H : (if a1 < 0 then (subst_One.j0 k l0 a1 l2 l3 a4 true) else (if a1 ≥ (l0.length : Int) then (subst_One.j0 k l0 a1 l2 l3 a4 true) else (if 0 ≤ a1 then (if a1 < (l0.length : Int) then ((subst_puts.f ((rd_T46 l0 a1).f0)).bind fun t453 => (if t453 = true then (if a4 < 0 then (subst_One.j0 k l0 a1 l2 l3 a4 true) else (if a4 ≥ (l3.length : Int) then (subst_One.j0 k l0 a1 l2 l3 a4 true) else ((subst_Formed.f l0 65536).bind fun t454 => (subst_One.j0 k l0 a1 l2 l3 a4 (!t454))))) else (subst_One.j0 k l0 a1 l2 l3 a4 true))) else (none)) else (none)))) = some (r1, r2, r3) := h
 clear h
 have HC6 := Aside0.mk H
 clear H
 go_enter Try.func32, Try.ntmps32
 go_upto_region 1 with (fail)
 go_cut [47] (fun v47 wc => ∃ (kq : Nat) (x47_5 : Bool), v47 = .bool x47_5 ∧ Aside0 (subst_One.j0 kq l0 a1 l2 l3 a4 x47_5 = some (r1, r2, r3)) ∧ Aside0 (kq ≤ k) ∧ Aside0 (Below w.heap.size w wc))
 case first =>
  have H := HC6.out
  clear HC6
  by_cases c7 : a1 < 0
  ·rw [if_pos c7] at H
   have c7b0 : decide (a1 < 0) = true := decide_eq_true c7
   clear c7
   (first | rw [c7b0] | (simp only [i64_w, i32_w]; rw [c7b0]) | skip)
   have H' := Aside0.mk H
   clear H
   go_wp2
   go_meet
   case rel => exact ⟨_, (true), (by first | rfl | (simp; done) | (simp [*]; done)), H', ⟨by first | omega | exact Nat.le_refl _⟩, ⟨by repeat (first | (with_reducible first | exact HB.out | apply below_alloc | apply pw_below_drewN | apply below_drew1) | exact HB.out)⟩⟩
  ·rw [if_neg c7] at H
   have c7b0 : decide (a1 < 0) = false := decide_eq_false c7
   clear c7
   (first | rw [c7b0] | (simp only [i64_w, i32_w]; rw [c7b0]) | skip)
   by_cases c8 : a1 ≥ (l0.length : Int)
   ·rw [if_pos c8] at H
    have c8b0 : decide ((l0.length : Int) ≤ a1) = true := decide_eq_true c8
    clear c8
    have H' := Aside0.mk H
    clear H
    go_wp2
    go_meet
    case rel => exact ⟨_, (true), (by first | rfl | (simp; done) | (simp [*]; done)), H', ⟨by first | omega | exact Nat.le_refl _⟩, ⟨by repeat (first | (with_reducible first | exact HB.out | apply below_alloc | apply pw_below_drewN | apply below_drew1) | exact HB.out)⟩⟩
   ·rw [if_neg c8] at H
    have c8b0 : decide ((l0.length : Int) ≤ a1) = false := decide_eq_false c8
    clear c8
    by_cases c9 : 0 ≤ a1
    ·rw [if_pos c9] at H
     have c9b0 : decide (0 ≤ a1) = true := decide_eq_true c9
     clear c9
     by_cases c10 : a1 < (l0.length : Int)
     ·rw [if_pos c10] at H
      have c10b0 : decide (a1 < (l0.length : Int)) = true := decide_eq_true c10
      clear c10
      replace H := Option.bind_eq_some_iff.mp H
      obtain ⟨t453, A110, H⟩ := H
      replace H : (if t453 = true then (if a4 < 0 then (subst_One.j0 k l0 a1 l2 l3 a4 true) else (if a4 ≥ (l3.length : Int) then (subst_One.j0 k l0 a1 l2 l3 a4 true) else ((subst_Formed.f l0 65536).bind fun t454 => (subst_One.j0 k l0 a1 l2 l3 a4 (!t454))))) else (subst_One.j0 k l0 a1 l2 l3 a4 true)) = some (r1, r2, r3) := H
      have A11 := Aside0.mk A110
      clear A110
      by_cases c12 : t453 = true
      ·subst c12
       have H1 : (if a4 < 0 then (subst_One.j0 k l0 a1 l2 l3 a4 true) else (if a4 ≥ (l3.length : Int) then (subst_One.j0 k l0 a1 l2 l3 a4 true) else ((subst_Formed.f l0 65536).bind fun t454 => (subst_One.j0 k l0 a1 l2 l3 a4 (!t454))))) = some (r1, r2, r3) := by rw [if_pos rfl] at H; exact H
       clear H
       have H := H1
       clear H1
       by_cases c13 : a4 < 0
       ·rw [if_pos c13] at H
        have c13b0 : decide (a4 < 0) = true := decide_eq_true c13
        clear c13
        have H' := Aside0.mk H
        clear H
        have p452 : 0 ≤ (a1 : Int) := of_decide_eq_true (by first | (with_reducible assumption) | assumption)
        have q452 : a1 < (l0.length : Int) := of_decide_eq_true (by first | (with_reducible assumption) | assumption)
        obtain ⟨ad452, A452_2, c452_2, e452, hx452_0, hx452_1, hx452_2, hl452_2, hi452_2⟩ := at_T46 HR0.out a1 p452 q452
        cases e452
        replace hx452_0 := (HB.out.cell (World.block_lt_of_cell? w _ hx452_0)).trans hx452_0
        replace hx452_1 := (HB.out.cell (World.block_lt_of_cell? w _ hx452_1)).trans hx452_1
        replace hx452_2 := (HB.out.cell (World.block_lt_of_cell? w _ hx452_2)).trans hx452_2
        have HR452_2 := Aside0.mk hi452_2
        have HC452_2 := Aside0.mk hl452_2
        clear hi452_2 hl452_2
        replace p452 := eq_true p452
        replace q452 := eq_true q452
        go_wp2_with (first | (go_at_call 38; (with_reducible refine (subst_puts.calls ((rd_T46 l0 a1).f0) true _ A11.out).mono ?_); rintro e w' ⟨rfl, ⟨nd, rfl⟩⟩))
        go_meet
        case rel => exact ⟨_, (true), (by first | rfl | (simp; done) | (simp [*]; done)), H', ⟨by first | omega | exact Nat.le_refl _⟩, ⟨by repeat (first | (with_reducible first | exact HB.out | apply below_alloc | apply pw_below_drewN | apply below_drew1) | exact HB.out)⟩⟩
       ·rw [if_neg c13] at H
        have c13b0 : decide (a4 < 0) = false := decide_eq_false c13
        clear c13
        by_cases c14 : a4 ≥ (l3.length : Int)
        ·rw [if_pos c14] at H
         have c14b0 : decide ((l3.length : Int) ≤ a4) = true := decide_eq_true c14
         clear c14
         have H' := Aside0.mk H
         clear H
         have p452 : 0 ≤ (a1 : Int) := of_decide_eq_true (by first | (with_reducible assumption) | assumption)
         have q452 : a1 < (l0.length : Int) := of_decide_eq_true (by first | (with_reducible assumption) | assumption)
         obtain ⟨ad452, A452_2, c452_2, e452, hx452_0, hx452_1, hx452_2, hl452_2, hi452_2⟩ := at_T46 HR0.out a1 p452 q452
         cases e452
         replace hx452_0 := (HB.out.cell (World.block_lt_of_cell? w _ hx452_0)).trans hx452_0
         replace hx452_1 := (HB.out.cell (World.block_lt_of_cell? w _ hx452_1)).trans hx452_1
         replace hx452_2 := (HB.out.cell (World.block_lt_of_cell? w _ hx452_2)).trans hx452_2
         have HR452_2 := Aside0.mk hi452_2
         have HC452_2 := Aside0.mk hl452_2
         clear hi452_2 hl452_2
         replace p452 := eq_true p452
         replace q452 := eq_true q452
         go_wp2_with (first | (go_at_call 38; (with_reducible refine (subst_puts.calls ((rd_T46 l0 a1).f0) true _ A11.out).mono ?_); rintro e w' ⟨rfl, ⟨nd, rfl⟩⟩))
         go_meet
         case rel => exact ⟨_, (true), (by first | rfl | (simp; done) | (simp [*]; done)), H', ⟨by first | omega | exact Nat.le_refl _⟩, ⟨by repeat (first | (with_reducible first | exact HB.out | apply below_alloc | apply pw_below_drewN | apply below_drew1) | exact HB.out)⟩⟩
        ·rw [if_neg c14] at H
         have c14b0 : decide ((l3.length : Int) ≤ a4) = false := decide_eq_false c14
         clear c14
         replace H := Option.bind_eq_some_iff.mp H
         obtain ⟨t454, A150, H⟩ := H
         replace H : (subst_One.j0 k l0 a1 l2 l3 a4 (!t454)) = some (r1, r2, r3) := H
         have A15 := Aside0.mk A150
         clear A150
         have H' := Aside0.mk H
         clear H
         have p452 : 0 ≤ (a1 : Int) := of_decide_eq_true (by first | (with_reducible assumption) | assumption)
         have q452 : a1 < (l0.length : Int) := of_decide_eq_true (by first | (with_reducible assumption) | assumption)
         obtain ⟨ad452, A452_2, c452_2, e452, hx452_0, hx452_1, hx452_2, hl452_2, hi452_2⟩ := at_T46 HR0.out a1 p452 q452
         cases e452
         replace hx452_0 := (HB.out.cell (World.block_lt_of_cell? w _ hx452_0)).trans hx452_0
         replace hx452_1 := (HB.out.cell (World.block_lt_of_cell? w _ hx452_1)).trans hx452_1
         replace hx452_2 := (HB.out.cell (World.block_lt_of_cell? w _ hx452_2)).trans hx452_2
         have HR452_2 := Aside0.mk hi452_2
         have HC452_2 := Aside0.mk hl452_2
         clear hi452_2 hl452_2
         replace p452 := eq_true p452
         replace q452 := eq_true q452
         go_wp2_with (first | (go_at_call 38; (with_reducible refine (subst_puts.calls ((rd_T46 l0 a1).f0) true _ A11.out).mono ?_); rintro e w' ⟨rfl, ⟨nd, rfl⟩⟩) | (go_at_call 31; (with_reducible refine (subst_Formed.calls _ _ l0 65536 t454 _ ?side1 ?side2 A15.out).mono ?_); (case side1 => repeat (first | exact (Kd.C_below HR0.out (by repeat (first | (with_reducible first | exact HB.out | apply below_alloc | apply pw_below_drewN | apply below_drew1) | exact HB.out))) | (with_reducible refine Kd.C_alloc ?_ _) | (with_reducible refine Kd.C_drewN ?_ _) | (with_reducible refine Kd.C_drew ?_))); (case side2 => exact HC0.out); rintro e w16 ⟨rfl, hb⟩; have n0_ := Aside0.mk (below_step (by repeat (first | (with_reducible first | exact HB.out | apply below_alloc | apply pw_below_drewN | apply below_drew1) | exact HB.out)) hb); clear HB; have HB := n0_; clear n0_; (try clear hb); (try clear hb2); (try clear hk); (try clear hi)))
         go_meet
         case rel => exact ⟨_, (!t454), (by first | rfl | (simp; done) | (simp [*]; done)), H', ⟨by first | omega | exact Nat.le_refl _⟩, ⟨by repeat (first | (with_reducible first | exact HB.out | apply below_alloc | apply pw_below_drewN | apply below_drew1) | exact HB.out)⟩⟩
      ·replace c12 := Bool.eq_false_iff.mpr c12
       subst c12
       have H1 : (subst_One.j0 k l0 a1 l2 l3 a4 true) = some (r1, r2, r3) := by rw [if_neg (show ¬ (false = true) by decide)] at H; exact H
       clear H
       have H := H1
       clear H1
       have H' := Aside0.mk H
       clear H
       have p452 : 0 ≤ (a1 : Int) := of_decide_eq_true (by first | (with_reducible assumption) | assumption)
       have q452 : a1 < (l0.length : Int) := of_decide_eq_true (by first | (with_reducible assumption) | assumption)
       obtain ⟨ad452, A452_2, c452_2, e452, hx452_0, hx452_1, hx452_2, hl452_2, hi452_2⟩ := at_T46 HR0.out a1 p452 q452
       cases e452
       replace hx452_0 := (HB.out.cell (World.block_lt_of_cell? w _ hx452_0)).trans hx452_0
       replace hx452_1 := (HB.out.cell (World.block_lt_of_cell? w _ hx452_1)).trans hx452_1
       replace hx452_2 := (HB.out.cell (World.block_lt_of_cell? w _ hx452_2)).trans hx452_2
       have HR452_2 := Aside0.mk hi452_2
       have HC452_2 := Aside0.mk hl452_2
       clear hi452_2 hl452_2
       replace p452 := eq_true p452
       replace q452 := eq_true q452
       go_wp2_with (first | (go_at_call 38; (with_reducible refine (subst_puts.calls ((rd_T46 l0 a1).f0) false _ A11.out).mono ?_); rintro e w' ⟨rfl, ⟨nd, rfl⟩⟩))
       go_meet
       case rel => exact ⟨_, (true), (by first | rfl | (simp; done) | (simp [*]; done)), H', ⟨by first | omega | exact Nat.le_refl _⟩, ⟨by repeat (first | (with_reducible first | exact HB.out | apply below_alloc | apply pw_below_drewN | apply below_drew1) | exact HB.out)⟩⟩
     ·rw [if_neg c10] at H
      exact absurd H (by simp)
    ·rw [if_neg c9] at H
     exact absurd H (by simp)
 case rest =>
  clear HC6
  try clear c1
  try clear c2
  try clear p2
  try clear c3
  try clear c4
  try clear p4
  try clear q4
  try clear hx4
  try clear c7
  try clear c7b0
  try clear c8
  try clear c8b0
  try clear c9
  try clear c9b0
  try clear c10
  try clear c10b0
  try clear c12
  try clear c13
  try clear c13b0
  try clear c14
  try clear c14b0
  try clear hx452_0
  try clear hx452_1
  try clear hx452_2
  try clear p452
  try clear q452
  obtain ⟨kq, x47_5, rfl, HA, HJ5, HB⟩ := hcut
  cases kq with
  | zero => exact absurd HA.out (by simp [subst_One.j0])
  | succ kj5 =>
   have H := HA.out
   clear HA
   simp only [subst_One.j0] at H
   by_cases c17 : x47_5 = true
   ·subst c17
    have H1 : ((slices_Clone_int_int.f l3).bind fun t455 => (some (t455, a4, false))) = some (r1, r2, r3) := by rw [if_pos rfl] at H; exact H
    clear H
    have H := H1
    clear H1
    replace H := Option.bind_eq_some_iff.mp H
    obtain ⟨t455, A180, H⟩ := H
    replace H : (some (t455, a4, false)) = some (r1, r2, r3) := H
    have A18 := Aside0.mk A180
    clear A180
    simp only [Option.some.injEq, Prod.mk.injEq] at H
    obtain ⟨rfl, rfl, rfl⟩ := H
    go_wp2_with (first | ((with_reducible refine gate_callee (f := 37) rfl ?_); refine goesL_ (some 49) rfl rfl Try.func37 (by kernel_rfl) rfl #[.slice A3 l3.length c3] rfl (by (try simp only [List.map_toArray, List.map_cons, List.map_nil]); first | done | rfl | (simp only [List.length_drop, List.length_take]; rfl)) ?_; (with_reducible refine (slices_Clone_int_int.calls _ _ l3 t455 _ ?side1 ?side2 A18.out).mono ?_); (case side1 => repeat (first | exact (Kd.C_below HR3.out HB.out) | (with_reducible refine Kd.C_alloc ?_ _) | (with_reducible refine Kd.C_drewN ?_ _) | (with_reducible refine Kd.C_drew ?_))); (case side2 => exact HC3.out); rintro e w19 ⟨v456, rfl, ho0, hb⟩; refine ⟨_, rfl, ?_⟩; have n0_ := Aside0.mk (Kd.R_lower ho0 (below_size (by repeat (first | (with_reducible first | exact HB.out | apply below_alloc | apply pw_below_drewN | apply below_drew1) | exact HB.out)))); have n1_ := Aside0.mk (below_step (by repeat (first | (with_reducible first | exact HB.out | apply below_alloc | apply pw_below_drewN | apply below_drew1) | exact HB.out)) hb); clear HB; have HO457 := n0_; have HB := n1_; clear n0_ n1_; (try clear hb); (try clear hb2); (try clear hk); (try clear hi); (try clear ho0)))
    go_ret3
    exact ⟨_, by first | rfl | (simp [errW_none, errW_some] <;> rfl) | (simp [*, errW_none, errW_some] <;> rfl), by (with_reducible repeat (first | apply Kd.R_alloc | apply Kd.R_drewN | apply Kd.R_drew)); exact HO457.out, by repeat (first | (with_reducible first | exact HB.out | apply below_alloc | apply pw_below_drewN | apply below_drew1) | exact HB.out)⟩
   ·replace c17 := Bool.eq_false_iff.mpr c17
    subst c17
    have H1 : ((subst_one.f kj5 l0 a1 l2 l3 a4 1).bind fun bt458 => ((slices_Clone_int_int.f bt458.1).bind fun t463 => (some (t463, bt458.2.1, bt458.2.2)))) = some (r1, r2, r3) := by rw [if_neg (show ¬ (false = true) by decide)] at H; exact H
    clear H
    have H := H1
    clear H1
    replace H := Option.bind_eq_some_iff.mp H
    obtain ⟨⟨t458, t461, t462⟩, A200, H⟩ := H
    replace H : ((slices_Clone_int_int.f t458).bind fun t463 => (some (t463, t461, t462))) = some (r1, r2, r3) := H
    have A20 := Aside0.mk A200
    clear A200
    replace H := Option.bind_eq_some_iff.mp H
    obtain ⟨t463, A210, H⟩ := H
    replace H : (some (t463, t461, t462)) = some (r1, r2, r3) := H
    have A21 := Aside0.mk A210
    clear A210
    simp only [Option.some.injEq, Prod.mk.injEq] at H
    obtain ⟨rfl, rfl, rfl⟩ := H
    go_wp2_with (first | ((with_reducible refine gate_callee (f := 39) rfl ?_); refine goesL_ (some 57) rfl rfl Try.func39 (by kernel_rfl) rfl #[.slice A0 l0.length c0, .int .i64 a1, .slice A2 l2.length c2, .slice A3 l3.length c3, .int .i64 a4, .int .i64 1] rfl (by (try simp only [List.map_toArray, List.map_cons, List.map_nil]); first | done | rfl | (simp only [List.length_drop, List.length_take]; rfl)) ?_; (with_reducible refine (subst_one.calls kj5 _ _ l0 a1 _ _ l2 (fun k_ => k_ < w.heap.size) _ _ l3 a4 1 t458 t461 t462 _ ?side1 ?side2 ?side3 ?side4 ?side5 A20.out).mono ?_); (case side1 => repeat (first | exact (Kd.C_below HR0.out HB.out) | (with_reducible refine Kd.C_alloc ?_ _) | (with_reducible refine Kd.C_drewN ?_ _) | (with_reducible refine Kd.C_drew ?_))); (case side2 => exact HC0.out); (case side3 => repeat (first | exact (Kd.C_below HR2.out HB.out) | (with_reducible refine Kd.C_alloc ?_ _) | (with_reducible refine Kd.C_drewN ?_ _) | (with_reducible refine Kd.C_drew ?_))); (case side4 => exact HC2.out); (case side5 => exact Kd.V_mk HC3.out (Kd.F_below (Kd.C_F (Kd.heap_int .i64) HR3.out) (by repeat (first | (with_reducible first | exact HB.out | apply below_alloc | apply pw_below_drewN | apply below_drew1) | exact HB.out)))); rintro e w22 ⟨v459, rfl, ho0, hb⟩; refine ⟨_, rfl, ?_⟩; have n0_ := Aside0.mk (Kd.V_lower (Kd.V_mono (ok' := fun k_ => True) ho0 (fun k_ hk_ => trivial)) (below_size (by repeat (first | (with_reducible first | exact HB.out | apply below_alloc | apply pw_below_drewN | apply below_drew1) | exact HB.out)))); have n1_ := Aside0.mk (below_step (by repeat (first | (with_reducible first | exact HB.out | apply below_alloc | apply pw_below_drewN | apply below_drew1) | exact HB.out)) hb); clear HB; have HO460 := n0_; have HB := n1_; clear n0_ n1_; (try clear hb); (try clear hb2); (try clear hk); (try clear hi); (try clear ho0); obtain ⟨Ao23, co23, eo23⟩ := Kd.V_slice HO460.out; subst eo23) | ((with_reducible refine gate_callee (f := 37) rfl ?_); refine goesL_ (some 62) rfl rfl Try.func37 (by kernel_rfl) rfl #[.slice Ao23 t458.length co23] rfl (by (try simp only [List.map_toArray, List.map_cons, List.map_nil]); first | done | rfl | (simp only [List.length_drop, List.length_take]; rfl)) ?_; (with_reducible refine (slices_Clone_int_int.calls _ _ t458 t463 _ ?side1 ?side2 A21.out).mono ?_); (case side1 => repeat (first | exact (Kd.V_reads' HO460.out).2.2 | (with_reducible refine Kd.C_alloc ?_ _) | (with_reducible refine Kd.C_drewN ?_ _) | (with_reducible refine Kd.C_drew ?_))); (case side2 => exact (Kd.V_reads' HO460.out).2.1); rintro e w24 ⟨v464, rfl, ho0, hb⟩; refine ⟨_, rfl, ?_⟩; have n0_ := Aside0.mk (Kd.V_elder' (by (with_reducible repeat (first | apply Kd.V_alloc | apply Kd.V_drewN | apply Kd.V_drew)); exact HO460.out) (Kd.R_base ho0) hb); have n1_ := Aside0.mk (Kd.R_lower ho0 (below_size (by repeat (first | (with_reducible first | exact HB.out | apply below_alloc | apply pw_below_drewN | apply below_drew1) | exact HB.out)))); have n2_ := Aside0.mk (below_step (by repeat (first | (with_reducible first | exact HB.out | apply below_alloc | apply pw_below_drewN | apply below_drew1) | exact HB.out)) hb); clear HO460; clear HB; have HO460 := n0_; have HO465 := n1_; have HB := n2_; clear n0_ n1_ n2_; (try clear hb); (try clear hb2); (try clear hk); (try clear hi); (try clear ho0)))
    go_ret3
    exact ⟨_, by first | rfl | (simp [errW_none, errW_some] <;> rfl) | (simp [*, errW_none, errW_some] <;> rfl), by (with_reducible repeat (first | apply Kd.R_alloc | apply Kd.R_drewN | apply Kd.R_drew)); exact HO465.out, by repeat (first | (with_reducible first | exact HB.out | apply below_alloc | apply pw_below_drewN | apply below_drew1) | exact HB.out)⟩

end Go.Proofs.Ytoldahmgjenlaaa.Q
