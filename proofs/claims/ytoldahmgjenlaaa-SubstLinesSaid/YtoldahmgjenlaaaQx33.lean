-- Written by a program of this session, out of the kit's print tool (see NOTES.md: mypr)
import Derived.Test.YtoldahmgjenlaaaQx0
import Derived.Test.YtoldahmgjenlaaaQx2
import Derived.Test.YtoldahmgjenlaaaQx20
import Derived.Test.YtoldahmgjenlaaaQx22
import Derived.Test.YtoldahmgjenlaaaQx27
import Derived.Test.YtoldahmgjenlaaaQx32
import Derived.Test.YtoldahmgjenlaaaF4
namespace Go.Proofs.Ytoldahmgjenlaaa.Q
open Go.RowKit Go.Proofs.YtoldahmgjenlaaaW.PrintWords Go.Proofs.YtoldahmgjenlaaaW.PrintLast Go.Proofs.YtoldahmgjenlaaaW.PrintMore
attribute [local go_sem] max2_int min2_int max_two min_two max_three min_three max_four min_four   -- for this text's walks alone
set_option linter.unusedVariables false
set_option linter.unusedSimpArgs false

/-! ### foundrylaw20_SubstLines: function 13 -/
def foundrylaw20_SubstLines.j0 : Nat → List (S46) → List Int → Bool → List Int → List Bool → Option (Bool)
 | 0, _, _, _, _, _ => none
 | k + 1, x0, x1, x23, x569000, x569001 => if x23 = true then ((foundrylaw20_awake.f k).bind fun t571 => (some t571)) else ((subst_All.f k x0 x1 x569001 x569000).bind fun bt572 => ((foundryref20_All.f k x0 x1 x569001 x569000).bind fun bt576 => (if bt572.2 = bt576.2 then ((foundryref06_SameInts.f k bt572.1 bt576.1).bind fun t580 => (if t580 = true then ((subst_Formed.f x0 50).bind fun t581 => ((foundryref20_Formed.f k x0 50).bind fun t582 => (some (t581 == t582)))) else (some false))) else (some false))))
def foundrylaw20_SubstLines.f (k : Nat) (l0 : List (S46)) (l1 : List Int) (l2_0 : List Int) (l2_1 : List Bool) : Option (Bool) := (foundrylaw20_awake.f k).bind fun t569 => (if t569 = true then ((foundrylaw20_few.f k l0 l2_0 l2_1).bind fun t570 => (if t570 = true then (foundrylaw20_SubstLines.j0 k l0 l1 (decide ((l1.length : Int) > 20)) l2_0 l2_1) else (foundrylaw20_SubstLines.j0 k l0 l1 true l2_0 l2_1))) else (foundrylaw20_SubstLines.j0 k l0 l1 true l2_0 l2_1))
theorem foundrylaw20_SubstLines.mono_l : ∀ k, (∀ y0 y1 y2 y3 y4, LeO (foundrylaw20_SubstLines.j0 k y0 y1 y2 y3 y4) (foundrylaw20_SubstLines.j0 (k + 1) y0 y1 y2 y3 y4))
 | 0 => fun _ _ _ _ _ r h => by simp [foundrylaw20_SubstLines.j0] at h
 | k + 1 => by
  have ih0 := foundrylaw20_SubstLines.mono_l k
  ·intro y0 y1 y2 y3 y4
   unfold foundrylaw20_SubstLines.j0
   repeat' first
   | (with_reducible exact ih0 _ _ _ _ _)
   | (with_reducible exact foundrylaw20_awake.mono _)
   | (with_reducible exact foundrylaw20_few.mono _ _ _ _)
   | (with_reducible exact foundryref06_SameInts.mono _ _ _)
   | (with_reducible exact foundryref20_All.mono _ _ _ _ _)
   | (with_reducible exact foundryref20_Formed.mono _ _ _)
   | (with_reducible exact subst_All.mono _ _ _ _ _)
   | (with_reducible exact LeO.refl _)
   | (with_reducible exact LeO.none _)
   | (with_reducible refine LeO.ite ?_ ?_)
   | (with_reducible refine LeO.bind ?_ (fun _ => ?_))
   | exact ih0 _ _ _ _ _
   | exact foundrylaw20_awake.mono _
   | exact foundrylaw20_few.mono _ _ _ _
   | exact foundryref06_SameInts.mono _ _ _
   | exact foundryref20_All.mono _ _ _ _ _
   | exact foundryref20_Formed.mono _ _ _
   | exact subst_All.mono _ _ _ _ _
   | exact LeO.none _
   | refine LeO.ite ?_ ?_
   | refine LeO.bind ?_ (fun _ => ?_)
theorem foundrylaw20_SubstLines.mono : ∀ a0 a1 a2 a3 k, LeO (foundrylaw20_SubstLines.f k a0 a1 a2 a3) (foundrylaw20_SubstLines.f (k + 1) a0 a1 a2 a3) := by
 intro a0 a1 a2 a3 k
 have ih0 := foundrylaw20_SubstLines.mono_l k
 unfold foundrylaw20_SubstLines.f
 repeat' first
   | (with_reducible exact ih0 _ _ _ _ _)
   | (with_reducible exact foundrylaw20_awake.mono _)
   | (with_reducible exact foundrylaw20_few.mono _ _ _ _)
   | (with_reducible exact foundryref06_SameInts.mono _ _ _)
   | (with_reducible exact foundryref20_All.mono _ _ _ _ _)
   | (with_reducible exact foundryref20_Formed.mono _ _ _)
   | (with_reducible exact subst_All.mono _ _ _ _ _)
   | (with_reducible exact LeO.refl _)
   | (with_reducible exact LeO.none _)
   | (with_reducible refine LeO.ite ?_ ?_)
   | (with_reducible refine LeO.bind ?_ (fun _ => ?_))
   | exact ih0 _ _ _ _ _
   | exact foundrylaw20_awake.mono _
   | exact foundrylaw20_few.mono _ _ _ _
   | exact foundryref06_SameInts.mono _ _ _
   | exact foundryref20_All.mono _ _ _ _ _
   | exact foundryref20_Formed.mono _ _ _
   | exact subst_All.mono _ _ _ _ _
   | exact LeO.none _
   | refine LeO.ite ?_ ?_
   | refine LeO.bind ?_ (fun _ => ?_)
set_option maxHeartbeats 8000000 in
set_option maxRecDepth 100000 in
theorem foundrylaw20_SubstLines.calls (k : Nat) (A0 : Option Addr) (c0 : Nat) (l0 : List (S46)) (A1 : Option Addr) (c1 : Nat) (l1 : List Int) (A2_0 : Option Addr) (c2_0 : Nat) (l2_0 : List Int) (A2_1 : Option Addr) (c2_1 : Nat) (l2_1 : List Bool) (r : Bool) (w : World) (hr0 : Kd.C k46 w A0 l0.length l0) (hc0 : l0.length ≤ c0) (hr1 : Kd.C (Kd.int .i64) w A1 l1.length l1) (hc1 : l1.length ≤ c1) (hr2_0 : Kd.C (Kd.int .i64) w A2_0 l2_0.length l2_0) (hc2_0 : l2_0.length ≤ c2_0) (hr2_1 : Kd.C Kd.bool w A2_1 l2_1.length l2_1) (hc2_1 : l2_1.length ≤ c2_1) (h : foundrylaw20_SubstLines.f k l0 l1 l2_0 l2_1 = some r) :
  Calls Try.prog 13 #[.slice A0 l0.length c0, .slice A1 l1.length c1, .agg #[.slice A2_0 l2_0.length c2_0, .slice A2_1 l2_1.length c2_1]] w fun e w' => e = .returned (.bool r) ∧ Below w.heap.size w w' := by
 have hu56 := Try.underlying56
 have HR0 := Aside0.mk hr0
 have HC0 := Aside0.mk hc0
 clear hr0 hc0
 have HR1 := Aside0.mk hr1
 have HC1 := Aside0.mk hc1
 clear hr1 hc1
 have HR2_0 := Aside0.mk hr2_0
 have HC2_0 := Aside0.mk hc2_0
 clear hr2_0 hc2_0
 have HR2_1 := Aside0.mk hr2_1
 have HC2_1 := Aside0.mk hc2_1
 clear hr2_1 hc2_1
 have HB := Aside0.mk (Below.refl w.heap.size w)
 have H : ((foundrylaw20_awake.f k).bind fun t569 => (if t569 = true then ((foundrylaw20_few.f k l0 l2_0 l2_1).bind fun t570 => (if t570 = true then (foundrylaw20_SubstLines.j0 k l0 l1 (decide ((l1.length : Int) > 20)) l2_0 l2_1) else (foundrylaw20_SubstLines.j0 k l0 l1 true l2_0 l2_1))) else (foundrylaw20_SubstLines.j0 k l0 l1 true l2_0 l2_1))) = some r := h
 clear h
 have HC4 := Aside0.mk H
 clear H
 go_enter Try.func13, Try.ntmps13
 go_upto_region 1 with (first | ((with_reducible refine gate_dst (N := 5) rfl ?_); (try (refine gate_guard (by rfl) ?_; dsimp only)); refine box_event ?hg (N := 5) ?hd (cs := #[.slice A2_0 l2_0.length c2_0, .slice A2_1 l2_1.length c2_1]) (t := 56) ?hr ?_; (case hd => rfl); (case hg => rfl); (case hr => first | (go_simp; done) | (go_simp; rfl)); intro gb568 hg w5 hbox hb; have n0_ := Aside0.mk (below_step (by repeat (first | (with_reducible first | exact HB.out | apply below_alloc | apply pw_below_drewN | apply below_drew1) | exact HB.out)) hb); have n1_ := Aside0.mk (hbox); have n2_ := Aside0.mk ((by rw [hg]; exact (below_size (by repeat (first | (with_reducible first | exact HB.out | apply below_alloc | apply pw_below_drewN | apply below_drew1) | exact HB.out))) : w.heap.size ≤ gb568)); have n3_ := Aside0.mk ((by rw [hg]; exact (below_size (by repeat (first | (with_reducible first | exact HB.out | apply below_alloc | apply pw_below_drewN | apply below_drew1) | exact HB.out))) : w.heap.size ≤ gb568)); clear HB; have HB := n0_; have BK568 := n1_; have GW568 := n2_; have GE568 := n3_; clear n0_ n1_ n2_ n3_; clear hb hbox hg))
 (try simp only [Act.put, List.setIfInBounds_toArray, List.set_cons_zero, List.set_cons_succ])
 go_cut [23] (fun v23 wc => ∃ (kq : Nat) (x23_3 : Bool), v23 = .bool x23_3 ∧ Aside0 (foundrylaw20_SubstLines.j0 kq l0 l1 x23_3 l2_0 l2_1 = some r) ∧ Aside0 (kq ≤ k) ∧ Aside0 (wc.heap[gb568]? = some (.cells #[(.slice A2_0 l2_0.length c2_0), (.slice A2_1 l2_1.length c2_1)] 56 (0, 0))) ∧ Aside0 (Below w.heap.size w wc))
 case first =>
  have H := HC4.out
  clear HC4
  replace H := Option.bind_eq_some_iff.mp H
  obtain ⟨t569, A60, H⟩ := H
  replace H : (if t569 = true then ((foundrylaw20_few.f k l0 l2_0 l2_1).bind fun t570 => (if t570 = true then (foundrylaw20_SubstLines.j0 k l0 l1 (decide ((l1.length : Int) > 20)) l2_0 l2_1) else (foundrylaw20_SubstLines.j0 k l0 l1 true l2_0 l2_1))) else (foundrylaw20_SubstLines.j0 k l0 l1 true l2_0 l2_1)) = some r := H
  have A6 := Aside0.mk A60
  clear A60
  by_cases c7 : t569 = true
  ·subst c7
   have H1 : ((foundrylaw20_few.f k l0 l2_0 l2_1).bind fun t570 => (if t570 = true then (foundrylaw20_SubstLines.j0 k l0 l1 (decide ((l1.length : Int) > 20)) l2_0 l2_1) else (foundrylaw20_SubstLines.j0 k l0 l1 true l2_0 l2_1))) = some r := by rw [if_pos rfl] at H; exact H
   clear H
   have H := H1
   clear H1
   replace H := Option.bind_eq_some_iff.mp H
   obtain ⟨t570, A80, H⟩ := H
   replace H : (if t570 = true then (foundrylaw20_SubstLines.j0 k l0 l1 (decide ((l1.length : Int) > 20)) l2_0 l2_1) else (foundrylaw20_SubstLines.j0 k l0 l1 true l2_0 l2_1)) = some r := H
   have A8 := Aside0.mk A80
   clear A80
   by_cases c9 : t570 = true
   ·subst c9
    have H1 : (foundrylaw20_SubstLines.j0 k l0 l1 (decide ((l1.length : Int) > 20)) l2_0 l2_1) = some r := by rw [if_pos rfl] at H; exact H
    clear H
    have H := H1
    clear H1
    have H' := Aside0.mk H
    clear H
    go_wp2_with (first | ((with_reducible refine gate_callee (f := 25) rfl ?_); refine goesL_ (some 11) rfl rfl Try.func25 (by kernel_rfl) rfl #[] rfl (by (try simp only [List.map_toArray, List.map_cons, List.map_nil]); first | done | rfl | (simp only [List.length_drop, List.length_take]; rfl)) ?_; (with_reducible refine (foundrylaw20_awake.calls k  true _ A6.out).mono ?_); rintro e w10 ⟨rfl, hb⟩; refine ⟨_, rfl, ?_⟩; have n0_ := Aside0.mk (blk_below (g := gb568) (o := .cells #[.slice A2_0 l2_0.length c2_0, .slice A2_1 l2_1.length c2_1] 56 (0, 0)) (by (with_reducible repeat (first | refine blk_drewN ?_ _ | refine blk_drew ?_ | refine blk_alloc ?_ _)); exact BK568.out) hb); have n1_ := Aside0.mk (below_step (by repeat (first | (with_reducible first | exact HB.out | apply below_alloc | apply pw_below_drewN | apply below_drew1 | refine below_set ?_ GE568.out) | exact HB.out)) hb); clear BK568; clear HB; have BK568 := n0_; have HB := n1_; clear n0_ n1_; (try clear hb); (try clear hb2); (try clear hk); (try clear hi); have hcz11_0 : w10.cell? ⟨gb568, 0, none⟩ = some (.slice A2_0 l2_0.length c2_0) := (blk_cell BK568.out 0).trans rfl; have hcz11_1 : w10.cell? ⟨gb568, 1, none⟩ = some (.slice A2_1 l2_1.length c2_1) := (blk_cell BK568.out 1).trans rfl; have hfz11_0 := blk_frozen BK568.out 0; have hfz11_1 := blk_frozen BK568.out 1) | (go_at_call 30; (with_reducible refine (foundrylaw20_few.calls k _ _ l0 _ _ l2_0 _ _ l2_1 true _ ?side1 ?side2 ?side3 ?side4 ?side5 ?side6 A8.out).mono ?_); (case side1 => repeat (first | exact (Kd.C_below HR0.out HB.out) | (with_reducible refine Kd.C_alloc ?_ _) | (with_reducible refine Kd.C_drewN ?_ _) | (with_reducible refine Kd.C_drew ?_))); (case side2 => exact HC0.out); (case side3 => repeat (first | exact (Kd.C_below HR2_0.out HB.out) | (with_reducible refine Kd.C_alloc ?_ _) | (with_reducible refine Kd.C_drewN ?_ _) | (with_reducible refine Kd.C_drew ?_))); (case side4 => exact HC2_0.out); (case side5 => repeat (first | exact (Kd.C_below HR2_1.out HB.out) | (with_reducible refine Kd.C_alloc ?_ _) | (with_reducible refine Kd.C_drewN ?_ _) | (with_reducible refine Kd.C_drew ?_))); (case side6 => exact HC2_1.out); rintro e w12 ⟨rfl, hb⟩; have n0_ := Aside0.mk (blk_below (g := gb568) (o := .cells #[.slice A2_0 l2_0.length c2_0, .slice A2_1 l2_1.length c2_1] 56 (0, 0)) (by (with_reducible repeat (first | refine blk_drewN ?_ _ | refine blk_drew ?_ | refine blk_alloc ?_ _)); exact BK568.out) hb); have n1_ := Aside0.mk (below_step (by repeat (first | (with_reducible first | exact HB.out | apply below_alloc | apply pw_below_drewN | apply below_drew1 | refine below_set ?_ GE568.out) | exact HB.out)) hb); clear BK568; clear HB; have BK568 := n0_; have HB := n1_; clear n0_ n1_; (try clear hb); (try clear hb2); (try clear hk); (try clear hi)))
    go_meet
    case rel => exact ⟨_, (decide ((l1.length : Int) > 20)), (by first | rfl | (simp; done) | (simp [*]; done)), H', ⟨by first | omega | exact Nat.le_refl _⟩, ⟨by (with_reducible repeat (first | refine blk_drewN ?_ _ | refine blk_drew ?_ | refine blk_alloc ?_ _)); exact BK568.out⟩, ⟨by repeat (first | (with_reducible first | exact HB.out | apply below_alloc | apply pw_below_drewN | apply below_drew1 | refine below_set ?_ GE568.out) | exact HB.out)⟩⟩
   ·replace c9 := Bool.eq_false_iff.mpr c9
    subst c9
    have H1 : (foundrylaw20_SubstLines.j0 k l0 l1 true l2_0 l2_1) = some r := by rw [if_neg (show ¬ (false = true) by decide)] at H; exact H
    clear H
    have H := H1
    clear H1
    have H' := Aside0.mk H
    clear H
    go_wp2_with (first | ((with_reducible refine gate_callee (f := 25) rfl ?_); refine goesL_ (some 11) rfl rfl Try.func25 (by kernel_rfl) rfl #[] rfl (by (try simp only [List.map_toArray, List.map_cons, List.map_nil]); first | done | rfl | (simp only [List.length_drop, List.length_take]; rfl)) ?_; (with_reducible refine (foundrylaw20_awake.calls k  true _ A6.out).mono ?_); rintro e w13 ⟨rfl, hb⟩; refine ⟨_, rfl, ?_⟩; have n0_ := Aside0.mk (blk_below (g := gb568) (o := .cells #[.slice A2_0 l2_0.length c2_0, .slice A2_1 l2_1.length c2_1] 56 (0, 0)) (by (with_reducible repeat (first | refine blk_drewN ?_ _ | refine blk_drew ?_ | refine blk_alloc ?_ _)); exact BK568.out) hb); have n1_ := Aside0.mk (below_step (by repeat (first | (with_reducible first | exact HB.out | apply below_alloc | apply pw_below_drewN | apply below_drew1 | refine below_set ?_ GE568.out) | exact HB.out)) hb); clear BK568; clear HB; have BK568 := n0_; have HB := n1_; clear n0_ n1_; (try clear hb); (try clear hb2); (try clear hk); (try clear hi); have hcz14_0 : w13.cell? ⟨gb568, 0, none⟩ = some (.slice A2_0 l2_0.length c2_0) := (blk_cell BK568.out 0).trans rfl; have hcz14_1 : w13.cell? ⟨gb568, 1, none⟩ = some (.slice A2_1 l2_1.length c2_1) := (blk_cell BK568.out 1).trans rfl; have hfz14_0 := blk_frozen BK568.out 0; have hfz14_1 := blk_frozen BK568.out 1) | (go_at_call 30; (with_reducible refine (foundrylaw20_few.calls k _ _ l0 _ _ l2_0 _ _ l2_1 false _ ?side1 ?side2 ?side3 ?side4 ?side5 ?side6 A8.out).mono ?_); (case side1 => repeat (first | exact (Kd.C_below HR0.out HB.out) | (with_reducible refine Kd.C_alloc ?_ _) | (with_reducible refine Kd.C_drewN ?_ _) | (with_reducible refine Kd.C_drew ?_))); (case side2 => exact HC0.out); (case side3 => repeat (first | exact (Kd.C_below HR2_0.out HB.out) | (with_reducible refine Kd.C_alloc ?_ _) | (with_reducible refine Kd.C_drewN ?_ _) | (with_reducible refine Kd.C_drew ?_))); (case side4 => exact HC2_0.out); (case side5 => repeat (first | exact (Kd.C_below HR2_1.out HB.out) | (with_reducible refine Kd.C_alloc ?_ _) | (with_reducible refine Kd.C_drewN ?_ _) | (with_reducible refine Kd.C_drew ?_))); (case side6 => exact HC2_1.out); rintro e w15 ⟨rfl, hb⟩; have n0_ := Aside0.mk (blk_below (g := gb568) (o := .cells #[.slice A2_0 l2_0.length c2_0, .slice A2_1 l2_1.length c2_1] 56 (0, 0)) (by (with_reducible repeat (first | refine blk_drewN ?_ _ | refine blk_drew ?_ | refine blk_alloc ?_ _)); exact BK568.out) hb); have n1_ := Aside0.mk (below_step (by repeat (first | (with_reducible first | exact HB.out | apply below_alloc | apply pw_below_drewN | apply below_drew1 | refine below_set ?_ GE568.out) | exact HB.out)) hb); clear BK568; clear HB; have BK568 := n0_; have HB := n1_; clear n0_ n1_; (try clear hb); (try clear hb2); (try clear hk); (try clear hi)))
    go_meet
    case rel => exact ⟨_, (true), (by first | rfl | (simp; done) | (simp [*]; done)), H', ⟨by first | omega | exact Nat.le_refl _⟩, ⟨by (with_reducible repeat (first | refine blk_drewN ?_ _ | refine blk_drew ?_ | refine blk_alloc ?_ _)); exact BK568.out⟩, ⟨by repeat (first | (with_reducible first | exact HB.out | apply below_alloc | apply pw_below_drewN | apply below_drew1 | refine below_set ?_ GE568.out) | exact HB.out)⟩⟩
  ·replace c7 := Bool.eq_false_iff.mpr c7
   subst c7
   have H1 : (foundrylaw20_SubstLines.j0 k l0 l1 true l2_0 l2_1) = some r := by rw [if_neg (show ¬ (false = true) by decide)] at H; exact H
   clear H
   have H := H1
   clear H1
   have H' := Aside0.mk H
   clear H
   go_wp2_with (first | ((with_reducible refine gate_callee (f := 25) rfl ?_); refine goesL_ (some 11) rfl rfl Try.func25 (by kernel_rfl) rfl #[] rfl (by (try simp only [List.map_toArray, List.map_cons, List.map_nil]); first | done | rfl | (simp only [List.length_drop, List.length_take]; rfl)) ?_; (with_reducible refine (foundrylaw20_awake.calls k  false _ A6.out).mono ?_); rintro e w16 ⟨rfl, hb⟩; refine ⟨_, rfl, ?_⟩; have n0_ := Aside0.mk (blk_below (g := gb568) (o := .cells #[.slice A2_0 l2_0.length c2_0, .slice A2_1 l2_1.length c2_1] 56 (0, 0)) (by (with_reducible repeat (first | refine blk_drewN ?_ _ | refine blk_drew ?_ | refine blk_alloc ?_ _)); exact BK568.out) hb); have n1_ := Aside0.mk (below_step (by repeat (first | (with_reducible first | exact HB.out | apply below_alloc | apply pw_below_drewN | apply below_drew1 | refine below_set ?_ GE568.out) | exact HB.out)) hb); clear BK568; clear HB; have BK568 := n0_; have HB := n1_; clear n0_ n1_; (try clear hb); (try clear hb2); (try clear hk); (try clear hi)))
   go_meet
   case rel => exact ⟨_, (true), (by first | rfl | (simp; done) | (simp [*]; done)), H', ⟨by first | omega | exact Nat.le_refl _⟩, ⟨by (with_reducible repeat (first | refine blk_drewN ?_ _ | refine blk_drew ?_ | refine blk_alloc ?_ _)); exact BK568.out⟩, ⟨by repeat (first | (with_reducible first | exact HB.out | apply below_alloc | apply pw_below_drewN | apply below_drew1 | refine below_set ?_ GE568.out) | exact HB.out)⟩⟩
 case rest =>
  clear HC4
  try clear c1
  try clear c2
  try clear p2
  try clear c7
  try clear c9
  try clear c13
  try clear hcz11_0
  try clear hcz11_1
  try clear hcz14_0
  try clear hcz14_1
  try clear hfz11_0
  try clear hfz11_1
  try clear hfz14_0
  try clear hfz14_1
  obtain ⟨kq, x23_3, rfl, HA, HJ3, BK568, HB⟩ := hcut
  cases kq with
  | zero => exact absurd HA.out (by simp [foundrylaw20_SubstLines.j0])
  | succ kj3 =>
   have H := HA.out
   clear HA
   simp only [foundrylaw20_SubstLines.j0] at H
   by_cases c17 : x23_3 = true
   ·subst c17
    have H1 : ((foundrylaw20_awake.f kj3).bind fun t571 => (some t571)) = some r := by rw [if_pos rfl] at H; exact H
    clear H
    have H := H1
    clear H1
    replace H := Option.bind_eq_some_iff.mp H
    obtain ⟨t571, A180, H⟩ := H
    replace H : (some t571) = some r := H
    have A18 := Aside0.mk A180
    clear A180
    obtain rfl := Option.some.inj H
    go_wp2_with (first | ((with_reducible refine gate_callee (f := 25) rfl ?_); refine goesL_ (some 24) rfl rfl Try.func25 (by kernel_rfl) rfl #[] rfl (by (try simp only [List.map_toArray, List.map_cons, List.map_nil]); first | done | rfl | (simp only [List.length_drop, List.length_take]; rfl)) ?_; (with_reducible refine (foundrylaw20_awake.calls kj3  t571 _ A18.out).mono ?_); rintro e w19 ⟨rfl, hb⟩; refine ⟨_, rfl, ?_⟩; have n0_ := Aside0.mk (blk_below (g := gb568) (o := .cells #[.slice A2_0 l2_0.length c2_0, .slice A2_1 l2_1.length c2_1] 56 (0, 0)) (by (with_reducible repeat (first | refine blk_drewN ?_ _ | refine blk_drew ?_ | refine blk_alloc ?_ _)); exact BK568.out) hb); have n1_ := Aside0.mk (below_step (by repeat (first | (with_reducible first | exact HB.out | apply below_alloc | apply pw_below_drewN | apply below_drew1 | refine below_set ?_ GE568.out) | exact HB.out)) hb); clear BK568; clear HB; have BK568 := n0_; have HB := n1_; clear n0_ n1_; (try clear hb); (try clear hb2); (try clear hk); (try clear hi)))
    go_ret
    exact ⟨by first | rfl | (simp [errW_none, errW_some] <;> rfl) | (simp [*, errW_none, errW_some] <;> rfl), by repeat (first | (with_reducible first | exact HB.out | apply below_alloc | apply pw_below_drewN | apply below_drew1 | refine below_set ?_ GE568.out) | exact HB.out)⟩
   ·replace c17 := Bool.eq_false_iff.mpr c17
    subst c17
    have H1 : ((subst_All.f kj3 l0 l1 l2_1 l2_0).bind fun bt572 => ((foundryref20_All.f kj3 l0 l1 l2_1 l2_0).bind fun bt576 => (if bt572.2 = bt576.2 then ((foundryref06_SameInts.f kj3 bt572.1 bt576.1).bind fun t580 => (if t580 = true then ((subst_Formed.f l0 50).bind fun t581 => ((foundryref20_Formed.f kj3 l0 50).bind fun t582 => (some (t581 == t582)))) else (some false))) else (some false)))) = some r := by rw [if_neg (show ¬ (false = true) by decide)] at H; exact H
    clear H
    have H := H1
    clear H1
    replace H := Option.bind_eq_some_iff.mp H
    obtain ⟨⟨t572, t575⟩, A200, H⟩ := H
    replace H : ((foundryref20_All.f kj3 l0 l1 l2_1 l2_0).bind fun bt576 => (if t575 = bt576.2 then ((foundryref06_SameInts.f kj3 t572 bt576.1).bind fun t580 => (if t580 = true then ((subst_Formed.f l0 50).bind fun t581 => ((foundryref20_Formed.f kj3 l0 50).bind fun t582 => (some (t581 == t582)))) else (some false))) else (some false))) = some r := H
    have A20 := Aside0.mk A200
    clear A200
    replace H := Option.bind_eq_some_iff.mp H
    obtain ⟨⟨t576, t579⟩, A210, H⟩ := H
    replace H : (if t575 = t579 then ((foundryref06_SameInts.f kj3 t572 t576).bind fun t580 => (if t580 = true then ((subst_Formed.f l0 50).bind fun t581 => ((foundryref20_Formed.f kj3 l0 50).bind fun t582 => (some (t581 == t582)))) else (some false))) else (some false)) = some r := H
    have A21 := Aside0.mk A210
    clear A210
    by_cases c22 : t575 = t579
    ·rw [if_pos c22] at H
     have c22b0 : (t575 == t579) = true := beq_iff_eq.mpr c22
     have c22b1 : (t575 != t579) = false := bne_eq_false_iff_eq.mpr c22
     clear c22
     replace H := Option.bind_eq_some_iff.mp H
     obtain ⟨t580, A230, H⟩ := H
     replace H : (if t580 = true then ((subst_Formed.f l0 50).bind fun t581 => ((foundryref20_Formed.f kj3 l0 50).bind fun t582 => (some (t581 == t582)))) else (some false)) = some r := H
     have A23 := Aside0.mk A230
     clear A230
     by_cases c24 : t580 = true
     ·subst c24
      have H1 : ((subst_Formed.f l0 50).bind fun t581 => ((foundryref20_Formed.f kj3 l0 50).bind fun t582 => (some (t581 == t582)))) = some r := by rw [if_pos rfl] at H; exact H
      clear H
      have H := H1
      clear H1
      replace H := Option.bind_eq_some_iff.mp H
      obtain ⟨t581, A250, H⟩ := H
      replace H : ((foundryref20_Formed.f kj3 l0 50).bind fun t582 => (some (t581 == t582))) = some r := H
      have A25 := Aside0.mk A250
      clear A250
      replace H := Option.bind_eq_some_iff.mp H
      obtain ⟨t582, A260, H⟩ := H
      replace H : (some (t581 == t582)) = some r := H
      have A26 := Aside0.mk A260
      clear A260
      obtain rfl := Option.some.inj H
      have hcz27_0 : wc.cell? ⟨gb568, 0, none⟩ = some (.slice A2_0 l2_0.length c2_0) := (blk_cell BK568.out 0).trans rfl
      have hcz27_1 : wc.cell? ⟨gb568, 1, none⟩ = some (.slice A2_1 l2_1.length c2_1) := (blk_cell BK568.out 1).trans rfl
      have hfz27_0 := blk_frozen BK568.out 0
      have hfz27_1 := blk_frozen BK568.out 1
      go_wp2_with (first | ((with_reducible refine gate_callee (f := 27) rfl ?_); refine goesL_ (some 32) rfl rfl Try.func27 (by kernel_rfl) rfl #[.slice A0 l0.length c0, .slice A1 l1.length c1, .slice A2_1 l2_1.length c2_1, .slice A2_0 l2_0.length c2_0] rfl (by (try simp only [List.map_toArray, List.map_cons, List.map_nil]); first | done | rfl | (simp only [List.length_drop, List.length_take]; rfl)) ?_; (with_reducible refine (subst_All.calls kj3 _ _ l0 _ _ l1 _ _ l2_1 _ _ l2_0 t572 t575 _ ?side1 ?side2 ?side3 ?side4 ?side5 ?side6 ?side7 ?side8 A20.out).mono ?_); (case side1 => repeat (first | exact (Kd.C_below HR0.out HB.out) | (with_reducible refine Kd.C_alloc ?_ _) | (with_reducible refine Kd.C_drewN ?_ _) | (with_reducible refine Kd.C_drew ?_))); (case side2 => exact HC0.out); (case side3 => repeat (first | exact (Kd.C_below HR1.out HB.out) | (with_reducible refine Kd.C_alloc ?_ _) | (with_reducible refine Kd.C_drewN ?_ _) | (with_reducible refine Kd.C_drew ?_))); (case side4 => exact HC1.out); (case side5 => repeat (first | exact (Kd.C_below HR2_1.out HB.out) | (with_reducible refine Kd.C_alloc ?_ _) | (with_reducible refine Kd.C_drewN ?_ _) | (with_reducible refine Kd.C_drew ?_))); (case side6 => exact HC2_1.out); (case side7 => repeat (first | exact (Kd.C_below HR2_0.out HB.out) | (with_reducible refine Kd.C_alloc ?_ _) | (with_reducible refine Kd.C_drewN ?_ _) | (with_reducible refine Kd.C_drew ?_))); (case side8 => exact HC2_0.out); rintro e w28 ⟨v573, rfl, ho0, hb⟩; refine ⟨_, rfl, ?_⟩; have n0_ := Aside0.mk (Kd.V_lower (Kd.V_mono (ok' := fun k_ => k_ ≠ gb568) ho0 (fun k_ hk_ => (Kd.freshB (g := gb568) (o := .cells #[.slice A2_0 l2_0.length c2_0, .slice A2_1 l2_1.length c2_1] 56 (0, 0)) (by (with_reducible repeat (first | refine blk_drewN ?_ _ | refine blk_drew ?_ | refine blk_alloc ?_ _)); exact BK568.out) k_ hk_))) (below_size (by repeat (first | (with_reducible first | exact HB.out | apply below_alloc | apply pw_below_drewN | apply below_drew1 | refine below_set ?_ GE568.out) | exact HB.out)))); have n1_ := Aside0.mk (blk_below (g := gb568) (o := .cells #[.slice A2_0 l2_0.length c2_0, .slice A2_1 l2_1.length c2_1] 56 (0, 0)) (by (with_reducible repeat (first | refine blk_drewN ?_ _ | refine blk_drew ?_ | refine blk_alloc ?_ _)); exact BK568.out) hb); have n2_ := Aside0.mk (below_step (by repeat (first | (with_reducible first | exact HB.out | apply below_alloc | apply pw_below_drewN | apply below_drew1 | refine below_set ?_ GE568.out) | exact HB.out)) hb); clear BK568; clear HB; have HO574 := n0_; have BK568 := n1_; have HB := n2_; clear n0_ n1_ n2_; (try clear hb); (try clear hb2); (try clear hk); (try clear hi); (try clear ho0); have hcz29_0 : w28.cell? ⟨gb568, 0, none⟩ = some (.slice A2_0 l2_0.length c2_0) := (blk_cell BK568.out 0).trans rfl; have hcz29_1 : w28.cell? ⟨gb568, 1, none⟩ = some (.slice A2_1 l2_1.length c2_1) := (blk_cell BK568.out 1).trans rfl; have hfz29_0 := blk_frozen BK568.out 0; have hfz29_1 := blk_frozen BK568.out 1) | ((with_reducible refine gate_callee (f := 34) rfl ?_); refine goesL_ (some 42) rfl rfl Try.func34 (by kernel_rfl) rfl #[.slice A0 l0.length c0, .slice A1 l1.length c1, .slice A2_1 l2_1.length c2_1, .slice A2_0 l2_0.length c2_0] rfl (by (try simp only [List.map_toArray, List.map_cons, List.map_nil]); first | done | rfl | (simp only [List.length_drop, List.length_take]; rfl)) ?_; (with_reducible refine (foundryref20_All.calls kj3 _ _ l0 _ _ l1 _ _ l2_1 _ _ l2_0 t576 t579 _ ?side1 ?side2 ?side3 ?side4 ?side5 ?side6 ?side7 ?side8 A21.out).mono ?_); (case side1 => repeat (first | exact (Kd.C_below HR0.out HB.out) | (with_reducible refine Kd.C_alloc ?_ _) | (with_reducible refine Kd.C_drewN ?_ _) | (with_reducible refine Kd.C_drew ?_))); (case side2 => exact HC0.out); (case side3 => repeat (first | exact (Kd.C_below HR1.out HB.out) | (with_reducible refine Kd.C_alloc ?_ _) | (with_reducible refine Kd.C_drewN ?_ _) | (with_reducible refine Kd.C_drew ?_))); (case side4 => exact HC1.out); (case side5 => repeat (first | exact (Kd.C_below HR2_1.out HB.out) | (with_reducible refine Kd.C_alloc ?_ _) | (with_reducible refine Kd.C_drewN ?_ _) | (with_reducible refine Kd.C_drew ?_))); (case side6 => exact HC2_1.out); (case side7 => repeat (first | exact (Kd.C_below HR2_0.out HB.out) | (with_reducible refine Kd.C_alloc ?_ _) | (with_reducible refine Kd.C_drewN ?_ _) | (with_reducible refine Kd.C_drew ?_))); (case side8 => exact HC2_0.out); rintro e w30 ⟨v577, rfl, ho0, hb⟩; refine ⟨_, rfl, ?_⟩; have n0_ := Aside0.mk (Kd.V_below (by (with_reducible repeat (first | apply Kd.V_alloc | apply Kd.V_drewN | apply Kd.V_drew)); exact HO574.out) hb); have n1_ := Aside0.mk (Kd.V_lower (Kd.V_mono (ok' := fun k_ => k_ ≠ gb568) ho0 (fun k_ hk_ => (Kd.freshB (g := gb568) (o := .cells #[.slice A2_0 l2_0.length c2_0, .slice A2_1 l2_1.length c2_1] 56 (0, 0)) (by (with_reducible repeat (first | refine blk_drewN ?_ _ | refine blk_drew ?_ | refine blk_alloc ?_ _)); exact BK568.out) k_ hk_))) (below_size (by repeat (first | (with_reducible first | exact HB.out | apply below_alloc | apply pw_below_drewN | apply below_drew1 | refine below_set ?_ GE568.out) | exact HB.out)))); have n2_ := Aside0.mk (blk_below (g := gb568) (o := .cells #[.slice A2_0 l2_0.length c2_0, .slice A2_1 l2_1.length c2_1] 56 (0, 0)) (by (with_reducible repeat (first | refine blk_drewN ?_ _ | refine blk_drew ?_ | refine blk_alloc ?_ _)); exact BK568.out) hb); have n3_ := Aside0.mk (below_step (by repeat (first | (with_reducible first | exact HB.out | apply below_alloc | apply pw_below_drewN | apply below_drew1 | refine below_set ?_ GE568.out) | exact HB.out)) hb); clear HO574; clear BK568; clear HB; have HO574 := n0_; have HO578 := n1_; have BK568 := n2_; have HB := n3_; clear n0_ n1_ n2_ n3_; (try clear hb); (try clear hb2); (try clear hk); (try clear hi); (try clear ho0); obtain ⟨Ao31, co31, eo31⟩ := Kd.V_slice HO574.out; subst eo31; obtain ⟨Ao32, co32, eo32⟩ := Kd.V_slice HO578.out; subst eo32) | (go_at_call 24; (with_reducible refine (foundryref06_SameInts.calls kj3 _ _ t572 _ _ t576 true _ ?side1 ?side2 ?side3 ?side4 A23.out).mono ?_); (case side1 => repeat (first | exact (Kd.V_reads' HO574.out).2.2 | (with_reducible refine Kd.C_alloc ?_ _) | (with_reducible refine Kd.C_drewN ?_ _) | (with_reducible refine Kd.C_drew ?_))); (case side2 => exact (Kd.V_reads' HO574.out).2.1); (case side3 => repeat (first | exact (Kd.V_reads' HO578.out).2.2 | (with_reducible refine Kd.C_alloc ?_ _) | (with_reducible refine Kd.C_drewN ?_ _) | (with_reducible refine Kd.C_drew ?_))); (case side4 => exact (Kd.V_reads' HO578.out).2.1); rintro e w' ⟨rfl, ⟨nd, rfl⟩⟩) | (go_at_call 31; (with_reducible refine (subst_Formed.calls _ _ l0 50 t581 _ ?side1 ?side2 A25.out).mono ?_); (case side1 => repeat (first | exact (Kd.C_below HR0.out (by repeat (first | (with_reducible first | exact HB.out | apply below_alloc | apply pw_below_drewN | apply below_drew1 | refine below_set ?_ GE568.out) | exact HB.out))) | (with_reducible refine Kd.C_alloc ?_ _) | (with_reducible refine Kd.C_drewN ?_ _) | (with_reducible refine Kd.C_drew ?_))); (case side2 => exact HC0.out); rintro e w33 ⟨rfl, hb⟩; have n0_ := Aside0.mk (Kd.V_below (by (with_reducible repeat (first | apply Kd.V_alloc | apply Kd.V_drewN | apply Kd.V_drew)); exact HO574.out) hb); have n1_ := Aside0.mk (Kd.V_below (by (with_reducible repeat (first | apply Kd.V_alloc | apply Kd.V_drewN | apply Kd.V_drew)); exact HO578.out) hb); have n2_ := Aside0.mk (blk_below (g := gb568) (o := .cells #[.slice A2_0 l2_0.length c2_0, .slice A2_1 l2_1.length c2_1] 56 (0, 0)) (by (with_reducible repeat (first | refine blk_drewN ?_ _ | refine blk_drew ?_ | refine blk_alloc ?_ _)); exact BK568.out) hb); have n3_ := Aside0.mk (below_step (by repeat (first | (with_reducible first | exact HB.out | apply below_alloc | apply pw_below_drewN | apply below_drew1 | refine below_set ?_ GE568.out) | exact HB.out)) hb); clear HO574; clear HO578; clear BK568; clear HB; have HO574 := n0_; have HO578 := n1_; have BK568 := n2_; have HB := n3_; clear n0_ n1_ n2_ n3_; (try clear hb); (try clear hb2); (try clear hk); (try clear hi)) | (go_at_call 35; (with_reducible refine (foundryref20_Formed.calls kj3 _ _ l0 50 t582 _ ?side1 ?side2 A26.out).mono ?_); (case side1 => repeat (first | exact (Kd.C_below HR0.out HB.out) | (with_reducible refine Kd.C_alloc ?_ _) | (with_reducible refine Kd.C_drewN ?_ _) | (with_reducible refine Kd.C_drew ?_))); (case side2 => exact HC0.out); rintro e w34 ⟨rfl, hb⟩; have n0_ := Aside0.mk (Kd.V_below (by (with_reducible repeat (first | apply Kd.V_alloc | apply Kd.V_drewN | apply Kd.V_drew)); exact HO574.out) hb); have n1_ := Aside0.mk (Kd.V_below (by (with_reducible repeat (first | apply Kd.V_alloc | apply Kd.V_drewN | apply Kd.V_drew)); exact HO578.out) hb); have n2_ := Aside0.mk (blk_below (g := gb568) (o := .cells #[.slice A2_0 l2_0.length c2_0, .slice A2_1 l2_1.length c2_1] 56 (0, 0)) (by (with_reducible repeat (first | refine blk_drewN ?_ _ | refine blk_drew ?_ | refine blk_alloc ?_ _)); exact BK568.out) hb); have n3_ := Aside0.mk (below_step (by repeat (first | (with_reducible first | exact HB.out | apply below_alloc | apply pw_below_drewN | apply below_drew1 | refine below_set ?_ GE568.out) | exact HB.out)) hb); clear HO574; clear HO578; clear BK568; clear HB; have HO574 := n0_; have HO578 := n1_; have BK568 := n2_; have HB := n3_; clear n0_ n1_ n2_ n3_; (try clear hb); (try clear hb2); (try clear hk); (try clear hi)))
      go_ret
      exact ⟨by first | rfl | (simp [errW_none, errW_some] <;> rfl) | (simp [*, errW_none, errW_some] <;> rfl), by repeat (first | (with_reducible first | exact HB.out | apply below_alloc | apply pw_below_drewN | apply below_drew1 | refine below_set ?_ GE568.out) | exact HB.out)⟩
     ·replace c24 := Bool.eq_false_iff.mpr c24
      subst c24
      have H1 : (some false) = some r := by rw [if_neg (show ¬ (false = true) by decide)] at H; exact H
      clear H
      have H := H1
      clear H1
      obtain rfl := Option.some.inj H
      have hcz35_0 : wc.cell? ⟨gb568, 0, none⟩ = some (.slice A2_0 l2_0.length c2_0) := (blk_cell BK568.out 0).trans rfl
      have hcz35_1 : wc.cell? ⟨gb568, 1, none⟩ = some (.slice A2_1 l2_1.length c2_1) := (blk_cell BK568.out 1).trans rfl
      have hfz35_0 := blk_frozen BK568.out 0
      have hfz35_1 := blk_frozen BK568.out 1
      go_wp2_with (first | ((with_reducible refine gate_callee (f := 27) rfl ?_); refine goesL_ (some 32) rfl rfl Try.func27 (by kernel_rfl) rfl #[.slice A0 l0.length c0, .slice A1 l1.length c1, .slice A2_1 l2_1.length c2_1, .slice A2_0 l2_0.length c2_0] rfl (by (try simp only [List.map_toArray, List.map_cons, List.map_nil]); first | done | rfl | (simp only [List.length_drop, List.length_take]; rfl)) ?_; (with_reducible refine (subst_All.calls kj3 _ _ l0 _ _ l1 _ _ l2_1 _ _ l2_0 t572 t575 _ ?side1 ?side2 ?side3 ?side4 ?side5 ?side6 ?side7 ?side8 A20.out).mono ?_); (case side1 => repeat (first | exact (Kd.C_below HR0.out HB.out) | (with_reducible refine Kd.C_alloc ?_ _) | (with_reducible refine Kd.C_drewN ?_ _) | (with_reducible refine Kd.C_drew ?_))); (case side2 => exact HC0.out); (case side3 => repeat (first | exact (Kd.C_below HR1.out HB.out) | (with_reducible refine Kd.C_alloc ?_ _) | (with_reducible refine Kd.C_drewN ?_ _) | (with_reducible refine Kd.C_drew ?_))); (case side4 => exact HC1.out); (case side5 => repeat (first | exact (Kd.C_below HR2_1.out HB.out) | (with_reducible refine Kd.C_alloc ?_ _) | (with_reducible refine Kd.C_drewN ?_ _) | (with_reducible refine Kd.C_drew ?_))); (case side6 => exact HC2_1.out); (case side7 => repeat (first | exact (Kd.C_below HR2_0.out HB.out) | (with_reducible refine Kd.C_alloc ?_ _) | (with_reducible refine Kd.C_drewN ?_ _) | (with_reducible refine Kd.C_drew ?_))); (case side8 => exact HC2_0.out); rintro e w36 ⟨v573, rfl, ho0, hb⟩; refine ⟨_, rfl, ?_⟩; have n0_ := Aside0.mk (Kd.V_lower (Kd.V_mono (ok' := fun k_ => k_ ≠ gb568) ho0 (fun k_ hk_ => (Kd.freshB (g := gb568) (o := .cells #[.slice A2_0 l2_0.length c2_0, .slice A2_1 l2_1.length c2_1] 56 (0, 0)) (by (with_reducible repeat (first | refine blk_drewN ?_ _ | refine blk_drew ?_ | refine blk_alloc ?_ _)); exact BK568.out) k_ hk_))) (below_size (by repeat (first | (with_reducible first | exact HB.out | apply below_alloc | apply pw_below_drewN | apply below_drew1 | refine below_set ?_ GE568.out) | exact HB.out)))); have n1_ := Aside0.mk (blk_below (g := gb568) (o := .cells #[.slice A2_0 l2_0.length c2_0, .slice A2_1 l2_1.length c2_1] 56 (0, 0)) (by (with_reducible repeat (first | refine blk_drewN ?_ _ | refine blk_drew ?_ | refine blk_alloc ?_ _)); exact BK568.out) hb); have n2_ := Aside0.mk (below_step (by repeat (first | (with_reducible first | exact HB.out | apply below_alloc | apply pw_below_drewN | apply below_drew1 | refine below_set ?_ GE568.out) | exact HB.out)) hb); clear BK568; clear HB; have HO574 := n0_; have BK568 := n1_; have HB := n2_; clear n0_ n1_ n2_; (try clear hb); (try clear hb2); (try clear hk); (try clear hi); (try clear ho0); have hcz37_0 : w36.cell? ⟨gb568, 0, none⟩ = some (.slice A2_0 l2_0.length c2_0) := (blk_cell BK568.out 0).trans rfl; have hcz37_1 : w36.cell? ⟨gb568, 1, none⟩ = some (.slice A2_1 l2_1.length c2_1) := (blk_cell BK568.out 1).trans rfl; have hfz37_0 := blk_frozen BK568.out 0; have hfz37_1 := blk_frozen BK568.out 1) | ((with_reducible refine gate_callee (f := 34) rfl ?_); refine goesL_ (some 42) rfl rfl Try.func34 (by kernel_rfl) rfl #[.slice A0 l0.length c0, .slice A1 l1.length c1, .slice A2_1 l2_1.length c2_1, .slice A2_0 l2_0.length c2_0] rfl (by (try simp only [List.map_toArray, List.map_cons, List.map_nil]); first | done | rfl | (simp only [List.length_drop, List.length_take]; rfl)) ?_; (with_reducible refine (foundryref20_All.calls kj3 _ _ l0 _ _ l1 _ _ l2_1 _ _ l2_0 t576 t579 _ ?side1 ?side2 ?side3 ?side4 ?side5 ?side6 ?side7 ?side8 A21.out).mono ?_); (case side1 => repeat (first | exact (Kd.C_below HR0.out HB.out) | (with_reducible refine Kd.C_alloc ?_ _) | (with_reducible refine Kd.C_drewN ?_ _) | (with_reducible refine Kd.C_drew ?_))); (case side2 => exact HC0.out); (case side3 => repeat (first | exact (Kd.C_below HR1.out HB.out) | (with_reducible refine Kd.C_alloc ?_ _) | (with_reducible refine Kd.C_drewN ?_ _) | (with_reducible refine Kd.C_drew ?_))); (case side4 => exact HC1.out); (case side5 => repeat (first | exact (Kd.C_below HR2_1.out HB.out) | (with_reducible refine Kd.C_alloc ?_ _) | (with_reducible refine Kd.C_drewN ?_ _) | (with_reducible refine Kd.C_drew ?_))); (case side6 => exact HC2_1.out); (case side7 => repeat (first | exact (Kd.C_below HR2_0.out HB.out) | (with_reducible refine Kd.C_alloc ?_ _) | (with_reducible refine Kd.C_drewN ?_ _) | (with_reducible refine Kd.C_drew ?_))); (case side8 => exact HC2_0.out); rintro e w38 ⟨v577, rfl, ho0, hb⟩; refine ⟨_, rfl, ?_⟩; have n0_ := Aside0.mk (Kd.V_below (by (with_reducible repeat (first | apply Kd.V_alloc | apply Kd.V_drewN | apply Kd.V_drew)); exact HO574.out) hb); have n1_ := Aside0.mk (Kd.V_lower (Kd.V_mono (ok' := fun k_ => k_ ≠ gb568) ho0 (fun k_ hk_ => (Kd.freshB (g := gb568) (o := .cells #[.slice A2_0 l2_0.length c2_0, .slice A2_1 l2_1.length c2_1] 56 (0, 0)) (by (with_reducible repeat (first | refine blk_drewN ?_ _ | refine blk_drew ?_ | refine blk_alloc ?_ _)); exact BK568.out) k_ hk_))) (below_size (by repeat (first | (with_reducible first | exact HB.out | apply below_alloc | apply pw_below_drewN | apply below_drew1 | refine below_set ?_ GE568.out) | exact HB.out)))); have n2_ := Aside0.mk (blk_below (g := gb568) (o := .cells #[.slice A2_0 l2_0.length c2_0, .slice A2_1 l2_1.length c2_1] 56 (0, 0)) (by (with_reducible repeat (first | refine blk_drewN ?_ _ | refine blk_drew ?_ | refine blk_alloc ?_ _)); exact BK568.out) hb); have n3_ := Aside0.mk (below_step (by repeat (first | (with_reducible first | exact HB.out | apply below_alloc | apply pw_below_drewN | apply below_drew1 | refine below_set ?_ GE568.out) | exact HB.out)) hb); clear HO574; clear BK568; clear HB; have HO574 := n0_; have HO578 := n1_; have BK568 := n2_; have HB := n3_; clear n0_ n1_ n2_ n3_; (try clear hb); (try clear hb2); (try clear hk); (try clear hi); (try clear ho0); obtain ⟨Ao39, co39, eo39⟩ := Kd.V_slice HO574.out; subst eo39; obtain ⟨Ao40, co40, eo40⟩ := Kd.V_slice HO578.out; subst eo40) | (go_at_call 24; (with_reducible refine (foundryref06_SameInts.calls kj3 _ _ t572 _ _ t576 false _ ?side1 ?side2 ?side3 ?side4 A23.out).mono ?_); (case side1 => repeat (first | exact (Kd.V_reads' HO574.out).2.2 | (with_reducible refine Kd.C_alloc ?_ _) | (with_reducible refine Kd.C_drewN ?_ _) | (with_reducible refine Kd.C_drew ?_))); (case side2 => exact (Kd.V_reads' HO574.out).2.1); (case side3 => repeat (first | exact (Kd.V_reads' HO578.out).2.2 | (with_reducible refine Kd.C_alloc ?_ _) | (with_reducible refine Kd.C_drewN ?_ _) | (with_reducible refine Kd.C_drew ?_))); (case side4 => exact (Kd.V_reads' HO578.out).2.1); rintro e w' ⟨rfl, ⟨nd, rfl⟩⟩))
      go_ret
      exact ⟨by first | rfl | (simp [errW_none, errW_some] <;> rfl) | (simp [*, errW_none, errW_some] <;> rfl), by repeat (first | (with_reducible first | exact HB.out | apply below_alloc | apply pw_below_drewN | apply below_drew1 | refine below_set ?_ GE568.out) | exact HB.out)⟩
    ·rw [if_neg c22] at H
     have c22b0 : (t575 == t579) = false := beq_eq_false_iff_ne.mpr c22
     have c22b1 : (t575 != t579) = true := bne_iff_ne.mpr c22
     obtain rfl := Option.some.inj H
     have hcz41_0 : wc.cell? ⟨gb568, 0, none⟩ = some (.slice A2_0 l2_0.length c2_0) := (blk_cell BK568.out 0).trans rfl
     have hcz41_1 : wc.cell? ⟨gb568, 1, none⟩ = some (.slice A2_1 l2_1.length c2_1) := (blk_cell BK568.out 1).trans rfl
     have hfz41_0 := blk_frozen BK568.out 0
     have hfz41_1 := blk_frozen BK568.out 1
     go_wp2_with (first | ((with_reducible refine gate_callee (f := 27) rfl ?_); refine goesL_ (some 32) rfl rfl Try.func27 (by kernel_rfl) rfl #[.slice A0 l0.length c0, .slice A1 l1.length c1, .slice A2_1 l2_1.length c2_1, .slice A2_0 l2_0.length c2_0] rfl (by (try simp only [List.map_toArray, List.map_cons, List.map_nil]); first | done | rfl | (simp only [List.length_drop, List.length_take]; rfl)) ?_; (with_reducible refine (subst_All.calls kj3 _ _ l0 _ _ l1 _ _ l2_1 _ _ l2_0 t572 t575 _ ?side1 ?side2 ?side3 ?side4 ?side5 ?side6 ?side7 ?side8 A20.out).mono ?_); (case side1 => repeat (first | exact (Kd.C_below HR0.out HB.out) | (with_reducible refine Kd.C_alloc ?_ _) | (with_reducible refine Kd.C_drewN ?_ _) | (with_reducible refine Kd.C_drew ?_))); (case side2 => exact HC0.out); (case side3 => repeat (first | exact (Kd.C_below HR1.out HB.out) | (with_reducible refine Kd.C_alloc ?_ _) | (with_reducible refine Kd.C_drewN ?_ _) | (with_reducible refine Kd.C_drew ?_))); (case side4 => exact HC1.out); (case side5 => repeat (first | exact (Kd.C_below HR2_1.out HB.out) | (with_reducible refine Kd.C_alloc ?_ _) | (with_reducible refine Kd.C_drewN ?_ _) | (with_reducible refine Kd.C_drew ?_))); (case side6 => exact HC2_1.out); (case side7 => repeat (first | exact (Kd.C_below HR2_0.out HB.out) | (with_reducible refine Kd.C_alloc ?_ _) | (with_reducible refine Kd.C_drewN ?_ _) | (with_reducible refine Kd.C_drew ?_))); (case side8 => exact HC2_0.out); rintro e w42 ⟨v573, rfl, ho0, hb⟩; refine ⟨_, rfl, ?_⟩; have n0_ := Aside0.mk (Kd.V_lower (Kd.V_mono (ok' := fun k_ => k_ ≠ gb568) ho0 (fun k_ hk_ => (Kd.freshB (g := gb568) (o := .cells #[.slice A2_0 l2_0.length c2_0, .slice A2_1 l2_1.length c2_1] 56 (0, 0)) (by (with_reducible repeat (first | refine blk_drewN ?_ _ | refine blk_drew ?_ | refine blk_alloc ?_ _)); exact BK568.out) k_ hk_))) (below_size (by repeat (first | (with_reducible first | exact HB.out | apply below_alloc | apply pw_below_drewN | apply below_drew1 | refine below_set ?_ GE568.out) | exact HB.out)))); have n1_ := Aside0.mk (blk_below (g := gb568) (o := .cells #[.slice A2_0 l2_0.length c2_0, .slice A2_1 l2_1.length c2_1] 56 (0, 0)) (by (with_reducible repeat (first | refine blk_drewN ?_ _ | refine blk_drew ?_ | refine blk_alloc ?_ _)); exact BK568.out) hb); have n2_ := Aside0.mk (below_step (by repeat (first | (with_reducible first | exact HB.out | apply below_alloc | apply pw_below_drewN | apply below_drew1 | refine below_set ?_ GE568.out) | exact HB.out)) hb); clear BK568; clear HB; have HO574 := n0_; have BK568 := n1_; have HB := n2_; clear n0_ n1_ n2_; (try clear hb); (try clear hb2); (try clear hk); (try clear hi); (try clear ho0); have hcz43_0 : w42.cell? ⟨gb568, 0, none⟩ = some (.slice A2_0 l2_0.length c2_0) := (blk_cell BK568.out 0).trans rfl; have hcz43_1 : w42.cell? ⟨gb568, 1, none⟩ = some (.slice A2_1 l2_1.length c2_1) := (blk_cell BK568.out 1).trans rfl; have hfz43_0 := blk_frozen BK568.out 0; have hfz43_1 := blk_frozen BK568.out 1) | ((with_reducible refine gate_callee (f := 34) rfl ?_); refine goesL_ (some 42) rfl rfl Try.func34 (by kernel_rfl) rfl #[.slice A0 l0.length c0, .slice A1 l1.length c1, .slice A2_1 l2_1.length c2_1, .slice A2_0 l2_0.length c2_0] rfl (by (try simp only [List.map_toArray, List.map_cons, List.map_nil]); first | done | rfl | (simp only [List.length_drop, List.length_take]; rfl)) ?_; (with_reducible refine (foundryref20_All.calls kj3 _ _ l0 _ _ l1 _ _ l2_1 _ _ l2_0 t576 t579 _ ?side1 ?side2 ?side3 ?side4 ?side5 ?side6 ?side7 ?side8 A21.out).mono ?_); (case side1 => repeat (first | exact (Kd.C_below HR0.out HB.out) | (with_reducible refine Kd.C_alloc ?_ _) | (with_reducible refine Kd.C_drewN ?_ _) | (with_reducible refine Kd.C_drew ?_))); (case side2 => exact HC0.out); (case side3 => repeat (first | exact (Kd.C_below HR1.out HB.out) | (with_reducible refine Kd.C_alloc ?_ _) | (with_reducible refine Kd.C_drewN ?_ _) | (with_reducible refine Kd.C_drew ?_))); (case side4 => exact HC1.out); (case side5 => repeat (first | exact (Kd.C_below HR2_1.out HB.out) | (with_reducible refine Kd.C_alloc ?_ _) | (with_reducible refine Kd.C_drewN ?_ _) | (with_reducible refine Kd.C_drew ?_))); (case side6 => exact HC2_1.out); (case side7 => repeat (first | exact (Kd.C_below HR2_0.out HB.out) | (with_reducible refine Kd.C_alloc ?_ _) | (with_reducible refine Kd.C_drewN ?_ _) | (with_reducible refine Kd.C_drew ?_))); (case side8 => exact HC2_0.out); rintro e w44 ⟨v577, rfl, ho0, hb⟩; refine ⟨_, rfl, ?_⟩; have n0_ := Aside0.mk (Kd.V_below (by (with_reducible repeat (first | apply Kd.V_alloc | apply Kd.V_drewN | apply Kd.V_drew)); exact HO574.out) hb); have n1_ := Aside0.mk (Kd.V_lower (Kd.V_mono (ok' := fun k_ => k_ ≠ gb568) ho0 (fun k_ hk_ => (Kd.freshB (g := gb568) (o := .cells #[.slice A2_0 l2_0.length c2_0, .slice A2_1 l2_1.length c2_1] 56 (0, 0)) (by (with_reducible repeat (first | refine blk_drewN ?_ _ | refine blk_drew ?_ | refine blk_alloc ?_ _)); exact BK568.out) k_ hk_))) (below_size (by repeat (first | (with_reducible first | exact HB.out | apply below_alloc | apply pw_below_drewN | apply below_drew1 | refine below_set ?_ GE568.out) | exact HB.out)))); have n2_ := Aside0.mk (blk_below (g := gb568) (o := .cells #[.slice A2_0 l2_0.length c2_0, .slice A2_1 l2_1.length c2_1] 56 (0, 0)) (by (with_reducible repeat (first | refine blk_drewN ?_ _ | refine blk_drew ?_ | refine blk_alloc ?_ _)); exact BK568.out) hb); have n3_ := Aside0.mk (below_step (by repeat (first | (with_reducible first | exact HB.out | apply below_alloc | apply pw_below_drewN | apply below_drew1 | refine below_set ?_ GE568.out) | exact HB.out)) hb); clear HO574; clear BK568; clear HB; have HO574 := n0_; have HO578 := n1_; have BK568 := n2_; have HB := n3_; clear n0_ n1_ n2_ n3_; (try clear hb); (try clear hb2); (try clear hk); (try clear hi); (try clear ho0)))
     go_ret
     exact ⟨by first | rfl | (simp [errW_none, errW_some] <;> rfl) | (simp [*, errW_none, errW_some] <;> rfl), by repeat (first | (with_reducible first | exact HB.out | apply below_alloc | apply pw_below_drewN | apply below_drew1 | refine below_set ?_ GE568.out) | exact HB.out)⟩

end Go.Proofs.Ytoldahmgjenlaaa.Q
