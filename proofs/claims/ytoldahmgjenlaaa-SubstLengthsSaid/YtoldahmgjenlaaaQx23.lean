-- Written by a program of this session, out of the kit's print tool (see NOTES.md: mypr)
import Derived.Test.YtoldahmgjenlaaaQx0
import Derived.Test.YtoldahmgjenlaaaQx20
import Derived.Test.YtoldahmgjenlaaaQx22
import Derived.Test.YtoldahmgjenlaaaF4
namespace Go.Proofs.Ytoldahmgjenlaaa.Q
open Go.RowKit Go.Proofs.YtoldahmgjenlaaaW.PrintWords Go.Proofs.YtoldahmgjenlaaaW.PrintLast Go.Proofs.YtoldahmgjenlaaaW.PrintMore
attribute [local go_sem] max2_int min2_int max_two min_two max_three min_three max_four min_four   -- for this text's walks alone
set_option linter.unusedVariables false
set_option linter.unusedSimpArgs false

/-! ### foundrylaw20_SubstLengths: function 9 -/
mutual
def foundrylaw20_SubstLengths.j0 : Nat → List (S46) → Int → Bool → List Int → List Bool → Option (Bool)
 | 0, _, _, _, _, _ => none
 | k + 1, x0, x1, x39, x359000, x359001 => if x39 = true then ((foundrylaw20_awake.f k).bind fun t362 => (some t362)) else ((subst_Line.f k x0 x1 x359001 x359000).bind fun bt363 => ((subst_Line.f k x0 x1 x359001 ([] : List Int)).bind fun bt367 => (if bt367.2 = 0 then (foundrylaw20_SubstLengths.j1 k x0 x1 bt363.1 bt363.2 ((bt367.1.length : Int) != 0) x359000 x359001) else (foundrylaw20_SubstLengths.j1 k x0 x1 bt363.1 bt363.2 true x359000 x359001))))
def foundrylaw20_SubstLengths.j1 : Nat → List (S46) → Int → List Int → Int → Bool → List Int → List Bool → Option (Bool)
 | 0, _, _, _, _, _, _, _ => none
 | k + 1, x0, x1, x7, x8, x65, x359000, x359001 => if x65 = true then (some false) else (if 0 ≤ x1 then (if x1 < (x0.length : Int) then (if ((rd_T46 x0 x1).f0) = 1 then (if x8 = 0 then (some ((x7.length : Int) == (x359000.length : Int))) else (some false)) else (if ((rd_T46 x0 x1).f0) = 3 then (if x8 = 0 then (some (decide ((x7.length : Int) ≤ (x359000.length : Int)))) else (some false)) else (if x8 = 0 then (some true) else (some (x8 == 3))))) else (none)) else (none))
end
def foundrylaw20_SubstLengths.f (k : Nat) (l0 : List (S46)) (a1 : Int) (l2_0 : List Int) (l2_1 : List Bool) : Option (Bool) := (foundrylaw20_awake.f k).bind fun t359 => (if t359 = true then ((foundrylaw20_few.f k l0 l2_0 l2_1).bind fun t360 => (if t360 = true then (if a1 < 0 then (foundrylaw20_SubstLengths.j0 k l0 a1 true l2_0 l2_1) else (if a1 ≥ (l0.length : Int) then (foundrylaw20_SubstLengths.j0 k l0 a1 true l2_0 l2_1) else ((subst_Formed.f l0 65536).bind fun t361 => (if t361 = true then (foundrylaw20_SubstLengths.j0 k l0 a1 (decide ((l2_0.length : Int) > 100)) l2_0 l2_1) else (foundrylaw20_SubstLengths.j0 k l0 a1 true l2_0 l2_1))))) else (foundrylaw20_SubstLengths.j0 k l0 a1 true l2_0 l2_1))) else (foundrylaw20_SubstLengths.j0 k l0 a1 true l2_0 l2_1))
theorem foundrylaw20_SubstLengths.mono_l : ∀ k, (∀ y0 y1 y2 y3 y4, LeO (foundrylaw20_SubstLengths.j0 k y0 y1 y2 y3 y4) (foundrylaw20_SubstLengths.j0 (k + 1) y0 y1 y2 y3 y4)) ∧ (∀ y0 y1 y2 y3 y4 y5 y6, LeO (foundrylaw20_SubstLengths.j1 k y0 y1 y2 y3 y4 y5 y6) (foundrylaw20_SubstLengths.j1 (k + 1) y0 y1 y2 y3 y4 y5 y6))
 | 0 => ⟨fun _ _ _ _ _ r h => by simp [foundrylaw20_SubstLengths.j0] at h, fun _ _ _ _ _ _ _ r h => by simp [foundrylaw20_SubstLengths.j1] at h⟩
 | k + 1 => by
  obtain ⟨ih0, ih1⟩ := foundrylaw20_SubstLengths.mono_l k
  refine ⟨?_, ?_⟩
  ·intro y0 y1 y2 y3 y4
   unfold foundrylaw20_SubstLengths.j0
   repeat' first
   | (with_reducible exact ih0 _ _ _ _ _)
   | (with_reducible exact ih1 _ _ _ _ _ _ _)
   | (with_reducible exact foundrylaw20_awake.mono _)
   | (with_reducible exact foundrylaw20_few.mono _ _ _ _)
   | (with_reducible exact subst_Line.mono _ _ _ _ _)
   | (with_reducible exact LeO.refl _)
   | (with_reducible exact LeO.none _)
   | (with_reducible refine LeO.ite ?_ ?_)
   | (with_reducible refine LeO.bind ?_ (fun _ => ?_))
   | exact ih0 _ _ _ _ _
   | exact ih1 _ _ _ _ _ _ _
   | exact foundrylaw20_awake.mono _
   | exact foundrylaw20_few.mono _ _ _ _
   | exact subst_Line.mono _ _ _ _ _
   | exact LeO.none _
   | refine LeO.ite ?_ ?_
   | refine LeO.bind ?_ (fun _ => ?_)
  ·intro y0 y1 y2 y3 y4 y5 y6
   unfold foundrylaw20_SubstLengths.j1
   repeat' first
   | (with_reducible exact ih0 _ _ _ _ _)
   | (with_reducible exact ih1 _ _ _ _ _ _ _)
   | (with_reducible exact foundrylaw20_awake.mono _)
   | (with_reducible exact foundrylaw20_few.mono _ _ _ _)
   | (with_reducible exact subst_Line.mono _ _ _ _ _)
   | (with_reducible exact LeO.refl _)
   | (with_reducible exact LeO.none _)
   | (with_reducible refine LeO.ite ?_ ?_)
   | (with_reducible refine LeO.bind ?_ (fun _ => ?_))
   | exact ih0 _ _ _ _ _
   | exact ih1 _ _ _ _ _ _ _
   | exact foundrylaw20_awake.mono _
   | exact foundrylaw20_few.mono _ _ _ _
   | exact subst_Line.mono _ _ _ _ _
   | exact LeO.none _
   | refine LeO.ite ?_ ?_
   | refine LeO.bind ?_ (fun _ => ?_)
theorem foundrylaw20_SubstLengths.mono : ∀ a0 a1 a2 a3 k, LeO (foundrylaw20_SubstLengths.f k a0 a1 a2 a3) (foundrylaw20_SubstLengths.f (k + 1) a0 a1 a2 a3) := by
 intro a0 a1 a2 a3 k
 obtain ⟨ih0, ih1⟩ := foundrylaw20_SubstLengths.mono_l k
 unfold foundrylaw20_SubstLengths.f
 repeat' first
   | (with_reducible exact ih0 _ _ _ _ _)
   | (with_reducible exact ih1 _ _ _ _ _ _ _)
   | (with_reducible exact foundrylaw20_awake.mono _)
   | (with_reducible exact foundrylaw20_few.mono _ _ _ _)
   | (with_reducible exact subst_Line.mono _ _ _ _ _)
   | (with_reducible exact LeO.refl _)
   | (with_reducible exact LeO.none _)
   | (with_reducible refine LeO.ite ?_ ?_)
   | (with_reducible refine LeO.bind ?_ (fun _ => ?_))
   | exact ih0 _ _ _ _ _
   | exact ih1 _ _ _ _ _ _ _
   | exact foundrylaw20_awake.mono _
   | exact foundrylaw20_few.mono _ _ _ _
   | exact subst_Line.mono _ _ _ _ _
   | exact LeO.none _
   | refine LeO.ite ?_ ?_
   | refine LeO.bind ?_ (fun _ => ?_)
set_option maxHeartbeats 8000000 in
set_option maxRecDepth 100000 in
theorem foundrylaw20_SubstLengths.calls (k : Nat) (A0 : Option Addr) (c0 : Nat) (l0 : List (S46)) (a1 : Int) (A2_0 : Option Addr) (c2_0 : Nat) (l2_0 : List Int) (A2_1 : Option Addr) (c2_1 : Nat) (l2_1 : List Bool) (r : Bool) (w : World) (hr0 : Kd.C k46 w A0 l0.length l0) (hc0 : l0.length ≤ c0) (hr2_0 : Kd.C (Kd.int .i64) w A2_0 l2_0.length l2_0) (hc2_0 : l2_0.length ≤ c2_0) (hr2_1 : Kd.C Kd.bool w A2_1 l2_1.length l2_1) (hc2_1 : l2_1.length ≤ c2_1) (h : foundrylaw20_SubstLengths.f k l0 a1 l2_0 l2_1 = some r) :
  Calls Try.prog 9 #[.slice A0 l0.length c0, .int .i64 a1, .agg #[.slice A2_0 l2_0.length c2_0, .slice A2_1 l2_1.length c2_1]] w fun e w' => e = .returned (.bool r) ∧ Below w.heap.size w w' := by
 have hu56 := Try.underlying56
 have HR0 := Aside0.mk hr0
 have HC0 := Aside0.mk hc0
 clear hr0 hc0
 have HR2_0 := Aside0.mk hr2_0
 have HC2_0 := Aside0.mk hc2_0
 clear hr2_0 hc2_0
 have HR2_1 := Aside0.mk hr2_1
 have HC2_1 := Aside0.mk hc2_1
 clear hr2_1 hc2_1
 have HB := Aside0.mk (Below.refl w.heap.size w)
 have H : ((foundrylaw20_awake.f k).bind fun t359 => (if t359 = true then ((foundrylaw20_few.f k l0 l2_0 l2_1).bind fun t360 => (if t360 = true then (if a1 < 0 then (foundrylaw20_SubstLengths.j0 k l0 a1 true l2_0 l2_1) else (if a1 ≥ (l0.length : Int) then (foundrylaw20_SubstLengths.j0 k l0 a1 true l2_0 l2_1) else ((subst_Formed.f l0 65536).bind fun t361 => (if t361 = true then (foundrylaw20_SubstLengths.j0 k l0 a1 (decide ((l2_0.length : Int) > 100)) l2_0 l2_1) else (foundrylaw20_SubstLengths.j0 k l0 a1 true l2_0 l2_1))))) else (foundrylaw20_SubstLengths.j0 k l0 a1 true l2_0 l2_1))) else (foundrylaw20_SubstLengths.j0 k l0 a1 true l2_0 l2_1))) = some r := h
 clear h
 have HC4 := Aside0.mk H
 clear H
 go_enter Try.func9, Try.ntmps9
 go_upto_region 1 with (first | ((with_reducible refine gate_dst (N := 5) rfl ?_); (try (refine gate_guard (by rfl) ?_; dsimp only)); refine box_event ?hg (N := 5) ?hd (cs := #[.slice A2_0 l2_0.length c2_0, .slice A2_1 l2_1.length c2_1]) (t := 56) ?hr ?_; (case hd => rfl); (case hg => rfl); (case hr => first | (go_simp; done) | (go_simp; rfl)); intro gb358 hg w5 hbox hb; have n0_ := Aside0.mk (below_step (by repeat (first | (with_reducible first | exact HB.out | apply below_alloc | apply pw_below_drewN | apply below_drew1) | exact HB.out)) hb); have n1_ := Aside0.mk (hbox); have n2_ := Aside0.mk ((by rw [hg]; exact (below_size (by repeat (first | (with_reducible first | exact HB.out | apply below_alloc | apply pw_below_drewN | apply below_drew1) | exact HB.out))) : w.heap.size ≤ gb358)); have n3_ := Aside0.mk ((by rw [hg]; exact (below_size (by repeat (first | (with_reducible first | exact HB.out | apply below_alloc | apply pw_below_drewN | apply below_drew1) | exact HB.out))) : w.heap.size ≤ gb358)); clear HB; have HB := n0_; have BK358 := n1_; have GW358 := n2_; have GE358 := n3_; clear n0_ n1_ n2_ n3_; clear hb hbox hg))
 (try simp only [Act.put, List.setIfInBounds_toArray, List.set_cons_zero, List.set_cons_succ])
 go_cut [39] (fun v39 wc => ∃ (kq : Nat) (x39_3 : Bool), v39 = .bool x39_3 ∧ Aside0 (foundrylaw20_SubstLengths.j0 kq l0 a1 x39_3 l2_0 l2_1 = some r) ∧ Aside0 (kq ≤ k) ∧ Aside0 (wc.heap[gb358]? = some (.cells #[(.slice A2_0 l2_0.length c2_0), (.slice A2_1 l2_1.length c2_1)] 56 (0, 0))) ∧ Aside0 (Below w.heap.size w wc))
 case first =>
  have H := HC4.out
  clear HC4
  replace H := Option.bind_eq_some_iff.mp H
  obtain ⟨t359, A60, H⟩ := H
  replace H : (if t359 = true then ((foundrylaw20_few.f k l0 l2_0 l2_1).bind fun t360 => (if t360 = true then (if a1 < 0 then (foundrylaw20_SubstLengths.j0 k l0 a1 true l2_0 l2_1) else (if a1 ≥ (l0.length : Int) then (foundrylaw20_SubstLengths.j0 k l0 a1 true l2_0 l2_1) else ((subst_Formed.f l0 65536).bind fun t361 => (if t361 = true then (foundrylaw20_SubstLengths.j0 k l0 a1 (decide ((l2_0.length : Int) > 100)) l2_0 l2_1) else (foundrylaw20_SubstLengths.j0 k l0 a1 true l2_0 l2_1))))) else (foundrylaw20_SubstLengths.j0 k l0 a1 true l2_0 l2_1))) else (foundrylaw20_SubstLengths.j0 k l0 a1 true l2_0 l2_1)) = some r := H
  have A6 := Aside0.mk A60
  clear A60
  by_cases c7 : t359 = true
  ·subst c7
   have H1 : ((foundrylaw20_few.f k l0 l2_0 l2_1).bind fun t360 => (if t360 = true then (if a1 < 0 then (foundrylaw20_SubstLengths.j0 k l0 a1 true l2_0 l2_1) else (if a1 ≥ (l0.length : Int) then (foundrylaw20_SubstLengths.j0 k l0 a1 true l2_0 l2_1) else ((subst_Formed.f l0 65536).bind fun t361 => (if t361 = true then (foundrylaw20_SubstLengths.j0 k l0 a1 (decide ((l2_0.length : Int) > 100)) l2_0 l2_1) else (foundrylaw20_SubstLengths.j0 k l0 a1 true l2_0 l2_1))))) else (foundrylaw20_SubstLengths.j0 k l0 a1 true l2_0 l2_1))) = some r := by rw [if_pos rfl] at H; exact H
   clear H
   have H := H1
   clear H1
   replace H := Option.bind_eq_some_iff.mp H
   obtain ⟨t360, A80, H⟩ := H
   replace H : (if t360 = true then (if a1 < 0 then (foundrylaw20_SubstLengths.j0 k l0 a1 true l2_0 l2_1) else (if a1 ≥ (l0.length : Int) then (foundrylaw20_SubstLengths.j0 k l0 a1 true l2_0 l2_1) else ((subst_Formed.f l0 65536).bind fun t361 => (if t361 = true then (foundrylaw20_SubstLengths.j0 k l0 a1 (decide ((l2_0.length : Int) > 100)) l2_0 l2_1) else (foundrylaw20_SubstLengths.j0 k l0 a1 true l2_0 l2_1))))) else (foundrylaw20_SubstLengths.j0 k l0 a1 true l2_0 l2_1)) = some r := H
   have A8 := Aside0.mk A80
   clear A80
   by_cases c9 : t360 = true
   ·subst c9
    have H1 : (if a1 < 0 then (foundrylaw20_SubstLengths.j0 k l0 a1 true l2_0 l2_1) else (if a1 ≥ (l0.length : Int) then (foundrylaw20_SubstLengths.j0 k l0 a1 true l2_0 l2_1) else ((subst_Formed.f l0 65536).bind fun t361 => (if t361 = true then (foundrylaw20_SubstLengths.j0 k l0 a1 (decide ((l2_0.length : Int) > 100)) l2_0 l2_1) else (foundrylaw20_SubstLengths.j0 k l0 a1 true l2_0 l2_1))))) = some r := by rw [if_pos rfl] at H; exact H
    clear H
    have H := H1
    clear H1
    by_cases c10 : a1 < 0
    ·rw [if_pos c10] at H
     have c10b0 : decide (a1 < 0) = true := decide_eq_true c10
     clear c10
     (first | rw [c10b0] | (simp only [i64_w, i32_w]; rw [c10b0]) | skip)
     have H' := Aside0.mk H
     clear H
     go_wp2_with (first | ((with_reducible refine gate_callee (f := 25) rfl ?_); refine goesL_ (some 11) rfl rfl Try.func25 (by kernel_rfl) rfl #[] rfl (by (try simp only [List.map_toArray, List.map_cons, List.map_nil]); first | done | rfl | (simp only [List.length_drop, List.length_take]; rfl)) ?_; (with_reducible refine (foundrylaw20_awake.calls k  true _ A6.out).mono ?_); rintro e w11 ⟨rfl, hb⟩; refine ⟨_, rfl, ?_⟩; have n0_ := Aside0.mk (blk_below (g := gb358) (o := .cells #[.slice A2_0 l2_0.length c2_0, .slice A2_1 l2_1.length c2_1] 56 (0, 0)) (by (with_reducible repeat (first | refine blk_drewN ?_ _ | refine blk_drew ?_ | refine blk_alloc ?_ _)); exact BK358.out) hb); have n1_ := Aside0.mk (below_step (by repeat (first | (with_reducible first | exact HB.out | apply below_alloc | apply pw_below_drewN | apply below_drew1 | refine below_set ?_ GE358.out) | exact HB.out)) hb); clear BK358; clear HB; have BK358 := n0_; have HB := n1_; clear n0_ n1_; (try clear hb); (try clear hb2); (try clear hk); (try clear hi); have hcz12_0 : w11.cell? ⟨gb358, 0, none⟩ = some (.slice A2_0 l2_0.length c2_0) := (blk_cell BK358.out 0).trans rfl; have hcz12_1 : w11.cell? ⟨gb358, 1, none⟩ = some (.slice A2_1 l2_1.length c2_1) := (blk_cell BK358.out 1).trans rfl; have hfz12_0 := blk_frozen BK358.out 0; have hfz12_1 := blk_frozen BK358.out 1) | (go_at_call 30; (with_reducible refine (foundrylaw20_few.calls k _ _ l0 _ _ l2_0 _ _ l2_1 true _ ?side1 ?side2 ?side3 ?side4 ?side5 ?side6 A8.out).mono ?_); (case side1 => repeat (first | exact (Kd.C_below HR0.out HB.out) | (with_reducible refine Kd.C_alloc ?_ _) | (with_reducible refine Kd.C_drewN ?_ _) | (with_reducible refine Kd.C_drew ?_))); (case side2 => exact HC0.out); (case side3 => repeat (first | exact (Kd.C_below HR2_0.out HB.out) | (with_reducible refine Kd.C_alloc ?_ _) | (with_reducible refine Kd.C_drewN ?_ _) | (with_reducible refine Kd.C_drew ?_))); (case side4 => exact HC2_0.out); (case side5 => repeat (first | exact (Kd.C_below HR2_1.out HB.out) | (with_reducible refine Kd.C_alloc ?_ _) | (with_reducible refine Kd.C_drewN ?_ _) | (with_reducible refine Kd.C_drew ?_))); (case side6 => exact HC2_1.out); rintro e w13 ⟨rfl, hb⟩; have n0_ := Aside0.mk (blk_below (g := gb358) (o := .cells #[.slice A2_0 l2_0.length c2_0, .slice A2_1 l2_1.length c2_1] 56 (0, 0)) (by (with_reducible repeat (first | refine blk_drewN ?_ _ | refine blk_drew ?_ | refine blk_alloc ?_ _)); exact BK358.out) hb); have n1_ := Aside0.mk (below_step (by repeat (first | (with_reducible first | exact HB.out | apply below_alloc | apply pw_below_drewN | apply below_drew1 | refine below_set ?_ GE358.out) | exact HB.out)) hb); clear BK358; clear HB; have BK358 := n0_; have HB := n1_; clear n0_ n1_; (try clear hb); (try clear hb2); (try clear hk); (try clear hi)))
     go_meet
     case rel => exact ⟨_, (true), (by first | rfl | (simp; done) | (simp [*]; done)), H', ⟨by first | omega | exact Nat.le_refl _⟩, ⟨by (with_reducible repeat (first | refine blk_drewN ?_ _ | refine blk_drew ?_ | refine blk_alloc ?_ _)); exact BK358.out⟩, ⟨by repeat (first | (with_reducible first | exact HB.out | apply below_alloc | apply pw_below_drewN | apply below_drew1 | refine below_set ?_ GE358.out) | exact HB.out)⟩⟩
    ·rw [if_neg c10] at H
     have c10b0 : decide (a1 < 0) = false := decide_eq_false c10
     clear c10
     (first | rw [c10b0] | (simp only [i64_w, i32_w]; rw [c10b0]) | skip)
     by_cases c14 : a1 ≥ (l0.length : Int)
     ·rw [if_pos c14] at H
      have c14b0 : decide ((l0.length : Int) ≤ a1) = true := decide_eq_true c14
      clear c14
      have H' := Aside0.mk H
      clear H
      go_wp2_with (first | ((with_reducible refine gate_callee (f := 25) rfl ?_); refine goesL_ (some 11) rfl rfl Try.func25 (by kernel_rfl) rfl #[] rfl (by (try simp only [List.map_toArray, List.map_cons, List.map_nil]); first | done | rfl | (simp only [List.length_drop, List.length_take]; rfl)) ?_; (with_reducible refine (foundrylaw20_awake.calls k  true _ A6.out).mono ?_); rintro e w15 ⟨rfl, hb⟩; refine ⟨_, rfl, ?_⟩; have n0_ := Aside0.mk (blk_below (g := gb358) (o := .cells #[.slice A2_0 l2_0.length c2_0, .slice A2_1 l2_1.length c2_1] 56 (0, 0)) (by (with_reducible repeat (first | refine blk_drewN ?_ _ | refine blk_drew ?_ | refine blk_alloc ?_ _)); exact BK358.out) hb); have n1_ := Aside0.mk (below_step (by repeat (first | (with_reducible first | exact HB.out | apply below_alloc | apply pw_below_drewN | apply below_drew1 | refine below_set ?_ GE358.out) | exact HB.out)) hb); clear BK358; clear HB; have BK358 := n0_; have HB := n1_; clear n0_ n1_; (try clear hb); (try clear hb2); (try clear hk); (try clear hi); have hcz16_0 : w15.cell? ⟨gb358, 0, none⟩ = some (.slice A2_0 l2_0.length c2_0) := (blk_cell BK358.out 0).trans rfl; have hcz16_1 : w15.cell? ⟨gb358, 1, none⟩ = some (.slice A2_1 l2_1.length c2_1) := (blk_cell BK358.out 1).trans rfl; have hfz16_0 := blk_frozen BK358.out 0; have hfz16_1 := blk_frozen BK358.out 1) | (go_at_call 30; (with_reducible refine (foundrylaw20_few.calls k _ _ l0 _ _ l2_0 _ _ l2_1 true _ ?side1 ?side2 ?side3 ?side4 ?side5 ?side6 A8.out).mono ?_); (case side1 => repeat (first | exact (Kd.C_below HR0.out HB.out) | (with_reducible refine Kd.C_alloc ?_ _) | (with_reducible refine Kd.C_drewN ?_ _) | (with_reducible refine Kd.C_drew ?_))); (case side2 => exact HC0.out); (case side3 => repeat (first | exact (Kd.C_below HR2_0.out HB.out) | (with_reducible refine Kd.C_alloc ?_ _) | (with_reducible refine Kd.C_drewN ?_ _) | (with_reducible refine Kd.C_drew ?_))); (case side4 => exact HC2_0.out); (case side5 => repeat (first | exact (Kd.C_below HR2_1.out HB.out) | (with_reducible refine Kd.C_alloc ?_ _) | (with_reducible refine Kd.C_drewN ?_ _) | (with_reducible refine Kd.C_drew ?_))); (case side6 => exact HC2_1.out); rintro e w17 ⟨rfl, hb⟩; have n0_ := Aside0.mk (blk_below (g := gb358) (o := .cells #[.slice A2_0 l2_0.length c2_0, .slice A2_1 l2_1.length c2_1] 56 (0, 0)) (by (with_reducible repeat (first | refine blk_drewN ?_ _ | refine blk_drew ?_ | refine blk_alloc ?_ _)); exact BK358.out) hb); have n1_ := Aside0.mk (below_step (by repeat (first | (with_reducible first | exact HB.out | apply below_alloc | apply pw_below_drewN | apply below_drew1 | refine below_set ?_ GE358.out) | exact HB.out)) hb); clear BK358; clear HB; have BK358 := n0_; have HB := n1_; clear n0_ n1_; (try clear hb); (try clear hb2); (try clear hk); (try clear hi)))
      go_meet
      case rel => exact ⟨_, (true), (by first | rfl | (simp; done) | (simp [*]; done)), H', ⟨by first | omega | exact Nat.le_refl _⟩, ⟨by (with_reducible repeat (first | refine blk_drewN ?_ _ | refine blk_drew ?_ | refine blk_alloc ?_ _)); exact BK358.out⟩, ⟨by repeat (first | (with_reducible first | exact HB.out | apply below_alloc | apply pw_below_drewN | apply below_drew1 | refine below_set ?_ GE358.out) | exact HB.out)⟩⟩
     ·rw [if_neg c14] at H
      have c14b0 : decide ((l0.length : Int) ≤ a1) = false := decide_eq_false c14
      clear c14
      replace H := Option.bind_eq_some_iff.mp H
      obtain ⟨t361, A180, H⟩ := H
      replace H : (if t361 = true then (foundrylaw20_SubstLengths.j0 k l0 a1 (decide ((l2_0.length : Int) > 100)) l2_0 l2_1) else (foundrylaw20_SubstLengths.j0 k l0 a1 true l2_0 l2_1)) = some r := H
      have A18 := Aside0.mk A180
      clear A180
      by_cases c19 : t361 = true
      ·subst c19
       have H1 : (foundrylaw20_SubstLengths.j0 k l0 a1 (decide ((l2_0.length : Int) > 100)) l2_0 l2_1) = some r := by rw [if_pos rfl] at H; exact H
       clear H
       have H := H1
       clear H1
       have H' := Aside0.mk H
       clear H
       go_wp2_with (first | ((with_reducible refine gate_callee (f := 25) rfl ?_); refine goesL_ (some 11) rfl rfl Try.func25 (by kernel_rfl) rfl #[] rfl (by (try simp only [List.map_toArray, List.map_cons, List.map_nil]); first | done | rfl | (simp only [List.length_drop, List.length_take]; rfl)) ?_; (with_reducible refine (foundrylaw20_awake.calls k  true _ A6.out).mono ?_); rintro e w20 ⟨rfl, hb⟩; refine ⟨_, rfl, ?_⟩; have n0_ := Aside0.mk (blk_below (g := gb358) (o := .cells #[.slice A2_0 l2_0.length c2_0, .slice A2_1 l2_1.length c2_1] 56 (0, 0)) (by (with_reducible repeat (first | refine blk_drewN ?_ _ | refine blk_drew ?_ | refine blk_alloc ?_ _)); exact BK358.out) hb); have n1_ := Aside0.mk (below_step (by repeat (first | (with_reducible first | exact HB.out | apply below_alloc | apply pw_below_drewN | apply below_drew1 | refine below_set ?_ GE358.out) | exact HB.out)) hb); clear BK358; clear HB; have BK358 := n0_; have HB := n1_; clear n0_ n1_; (try clear hb); (try clear hb2); (try clear hk); (try clear hi); have hcz21_0 : w20.cell? ⟨gb358, 0, none⟩ = some (.slice A2_0 l2_0.length c2_0) := (blk_cell BK358.out 0).trans rfl; have hcz21_1 : w20.cell? ⟨gb358, 1, none⟩ = some (.slice A2_1 l2_1.length c2_1) := (blk_cell BK358.out 1).trans rfl; have hfz21_0 := blk_frozen BK358.out 0; have hfz21_1 := blk_frozen BK358.out 1) | (go_at_call 30; (with_reducible refine (foundrylaw20_few.calls k _ _ l0 _ _ l2_0 _ _ l2_1 true _ ?side1 ?side2 ?side3 ?side4 ?side5 ?side6 A8.out).mono ?_); (case side1 => repeat (first | exact (Kd.C_below HR0.out HB.out) | (with_reducible refine Kd.C_alloc ?_ _) | (with_reducible refine Kd.C_drewN ?_ _) | (with_reducible refine Kd.C_drew ?_))); (case side2 => exact HC0.out); (case side3 => repeat (first | exact (Kd.C_below HR2_0.out HB.out) | (with_reducible refine Kd.C_alloc ?_ _) | (with_reducible refine Kd.C_drewN ?_ _) | (with_reducible refine Kd.C_drew ?_))); (case side4 => exact HC2_0.out); (case side5 => repeat (first | exact (Kd.C_below HR2_1.out HB.out) | (with_reducible refine Kd.C_alloc ?_ _) | (with_reducible refine Kd.C_drewN ?_ _) | (with_reducible refine Kd.C_drew ?_))); (case side6 => exact HC2_1.out); rintro e w22 ⟨rfl, hb⟩; have n0_ := Aside0.mk (blk_below (g := gb358) (o := .cells #[.slice A2_0 l2_0.length c2_0, .slice A2_1 l2_1.length c2_1] 56 (0, 0)) (by (with_reducible repeat (first | refine blk_drewN ?_ _ | refine blk_drew ?_ | refine blk_alloc ?_ _)); exact BK358.out) hb); have n1_ := Aside0.mk (below_step (by repeat (first | (with_reducible first | exact HB.out | apply below_alloc | apply pw_below_drewN | apply below_drew1 | refine below_set ?_ GE358.out) | exact HB.out)) hb); clear BK358; clear HB; have BK358 := n0_; have HB := n1_; clear n0_ n1_; (try clear hb); (try clear hb2); (try clear hk); (try clear hi)) | (go_at_call 31; (with_reducible refine (subst_Formed.calls _ _ l0 65536 true _ ?side1 ?side2 A18.out).mono ?_); (case side1 => repeat (first | exact (Kd.C_below HR0.out HB.out) | (with_reducible refine Kd.C_alloc ?_ _) | (with_reducible refine Kd.C_drewN ?_ _) | (with_reducible refine Kd.C_drew ?_))); (case side2 => exact HC0.out); rintro e w23 ⟨rfl, hb⟩; have n0_ := Aside0.mk (blk_below (g := gb358) (o := .cells #[.slice A2_0 l2_0.length c2_0, .slice A2_1 l2_1.length c2_1] 56 (0, 0)) (by (with_reducible repeat (first | refine blk_drewN ?_ _ | refine blk_drew ?_ | refine blk_alloc ?_ _)); exact BK358.out) hb); have n1_ := Aside0.mk (below_step (by repeat (first | (with_reducible first | exact HB.out | apply below_alloc | apply pw_below_drewN | apply below_drew1 | refine below_set ?_ GE358.out) | exact HB.out)) hb); clear BK358; clear HB; have BK358 := n0_; have HB := n1_; clear n0_ n1_; (try clear hb); (try clear hb2); (try clear hk); (try clear hi); have hcz24_0 : w23.cell? ⟨gb358, 0, none⟩ = some (.slice A2_0 l2_0.length c2_0) := (blk_cell BK358.out 0).trans rfl; have hcz24_1 : w23.cell? ⟨gb358, 1, none⟩ = some (.slice A2_1 l2_1.length c2_1) := (blk_cell BK358.out 1).trans rfl; have hfz24_0 := blk_frozen BK358.out 0; have hfz24_1 := blk_frozen BK358.out 1))
       go_meet
       case rel => exact ⟨_, (decide ((l2_0.length : Int) > 100)), (by first | rfl | (simp; done) | (simp [*]; done)), H', ⟨by first | omega | exact Nat.le_refl _⟩, ⟨by (with_reducible repeat (first | refine blk_drewN ?_ _ | refine blk_drew ?_ | refine blk_alloc ?_ _)); exact BK358.out⟩, ⟨by repeat (first | (with_reducible first | exact HB.out | apply below_alloc | apply pw_below_drewN | apply below_drew1 | refine below_set ?_ GE358.out) | exact HB.out)⟩⟩
      ·replace c19 := Bool.eq_false_iff.mpr c19
       subst c19
       have H1 : (foundrylaw20_SubstLengths.j0 k l0 a1 true l2_0 l2_1) = some r := by rw [if_neg (show ¬ (false = true) by decide)] at H; exact H
       clear H
       have H := H1
       clear H1
       have H' := Aside0.mk H
       clear H
       go_wp2_with (first | ((with_reducible refine gate_callee (f := 25) rfl ?_); refine goesL_ (some 11) rfl rfl Try.func25 (by kernel_rfl) rfl #[] rfl (by (try simp only [List.map_toArray, List.map_cons, List.map_nil]); first | done | rfl | (simp only [List.length_drop, List.length_take]; rfl)) ?_; (with_reducible refine (foundrylaw20_awake.calls k  true _ A6.out).mono ?_); rintro e w25 ⟨rfl, hb⟩; refine ⟨_, rfl, ?_⟩; have n0_ := Aside0.mk (blk_below (g := gb358) (o := .cells #[.slice A2_0 l2_0.length c2_0, .slice A2_1 l2_1.length c2_1] 56 (0, 0)) (by (with_reducible repeat (first | refine blk_drewN ?_ _ | refine blk_drew ?_ | refine blk_alloc ?_ _)); exact BK358.out) hb); have n1_ := Aside0.mk (below_step (by repeat (first | (with_reducible first | exact HB.out | apply below_alloc | apply pw_below_drewN | apply below_drew1 | refine below_set ?_ GE358.out) | exact HB.out)) hb); clear BK358; clear HB; have BK358 := n0_; have HB := n1_; clear n0_ n1_; (try clear hb); (try clear hb2); (try clear hk); (try clear hi); have hcz26_0 : w25.cell? ⟨gb358, 0, none⟩ = some (.slice A2_0 l2_0.length c2_0) := (blk_cell BK358.out 0).trans rfl; have hcz26_1 : w25.cell? ⟨gb358, 1, none⟩ = some (.slice A2_1 l2_1.length c2_1) := (blk_cell BK358.out 1).trans rfl; have hfz26_0 := blk_frozen BK358.out 0; have hfz26_1 := blk_frozen BK358.out 1) | (go_at_call 30; (with_reducible refine (foundrylaw20_few.calls k _ _ l0 _ _ l2_0 _ _ l2_1 true _ ?side1 ?side2 ?side3 ?side4 ?side5 ?side6 A8.out).mono ?_); (case side1 => repeat (first | exact (Kd.C_below HR0.out HB.out) | (with_reducible refine Kd.C_alloc ?_ _) | (with_reducible refine Kd.C_drewN ?_ _) | (with_reducible refine Kd.C_drew ?_))); (case side2 => exact HC0.out); (case side3 => repeat (first | exact (Kd.C_below HR2_0.out HB.out) | (with_reducible refine Kd.C_alloc ?_ _) | (with_reducible refine Kd.C_drewN ?_ _) | (with_reducible refine Kd.C_drew ?_))); (case side4 => exact HC2_0.out); (case side5 => repeat (first | exact (Kd.C_below HR2_1.out HB.out) | (with_reducible refine Kd.C_alloc ?_ _) | (with_reducible refine Kd.C_drewN ?_ _) | (with_reducible refine Kd.C_drew ?_))); (case side6 => exact HC2_1.out); rintro e w27 ⟨rfl, hb⟩; have n0_ := Aside0.mk (blk_below (g := gb358) (o := .cells #[.slice A2_0 l2_0.length c2_0, .slice A2_1 l2_1.length c2_1] 56 (0, 0)) (by (with_reducible repeat (first | refine blk_drewN ?_ _ | refine blk_drew ?_ | refine blk_alloc ?_ _)); exact BK358.out) hb); have n1_ := Aside0.mk (below_step (by repeat (first | (with_reducible first | exact HB.out | apply below_alloc | apply pw_below_drewN | apply below_drew1 | refine below_set ?_ GE358.out) | exact HB.out)) hb); clear BK358; clear HB; have BK358 := n0_; have HB := n1_; clear n0_ n1_; (try clear hb); (try clear hb2); (try clear hk); (try clear hi)) | (go_at_call 31; (with_reducible refine (subst_Formed.calls _ _ l0 65536 false _ ?side1 ?side2 A18.out).mono ?_); (case side1 => repeat (first | exact (Kd.C_below HR0.out HB.out) | (with_reducible refine Kd.C_alloc ?_ _) | (with_reducible refine Kd.C_drewN ?_ _) | (with_reducible refine Kd.C_drew ?_))); (case side2 => exact HC0.out); rintro e w28 ⟨rfl, hb⟩; have n0_ := Aside0.mk (blk_below (g := gb358) (o := .cells #[.slice A2_0 l2_0.length c2_0, .slice A2_1 l2_1.length c2_1] 56 (0, 0)) (by (with_reducible repeat (first | refine blk_drewN ?_ _ | refine blk_drew ?_ | refine blk_alloc ?_ _)); exact BK358.out) hb); have n1_ := Aside0.mk (below_step (by repeat (first | (with_reducible first | exact HB.out | apply below_alloc | apply pw_below_drewN | apply below_drew1 | refine below_set ?_ GE358.out) | exact HB.out)) hb); clear BK358; clear HB; have BK358 := n0_; have HB := n1_; clear n0_ n1_; (try clear hb); (try clear hb2); (try clear hk); (try clear hi)))
       go_meet
       case rel => exact ⟨_, (true), (by first | rfl | (simp; done) | (simp [*]; done)), H', ⟨by first | omega | exact Nat.le_refl _⟩, ⟨by (with_reducible repeat (first | refine blk_drewN ?_ _ | refine blk_drew ?_ | refine blk_alloc ?_ _)); exact BK358.out⟩, ⟨by repeat (first | (with_reducible first | exact HB.out | apply below_alloc | apply pw_below_drewN | apply below_drew1 | refine below_set ?_ GE358.out) | exact HB.out)⟩⟩
   ·replace c9 := Bool.eq_false_iff.mpr c9
    subst c9
    have H1 : (foundrylaw20_SubstLengths.j0 k l0 a1 true l2_0 l2_1) = some r := by rw [if_neg (show ¬ (false = true) by decide)] at H; exact H
    clear H
    have H := H1
    clear H1
    have H' := Aside0.mk H
    clear H
    go_wp2_with (first | ((with_reducible refine gate_callee (f := 25) rfl ?_); refine goesL_ (some 11) rfl rfl Try.func25 (by kernel_rfl) rfl #[] rfl (by (try simp only [List.map_toArray, List.map_cons, List.map_nil]); first | done | rfl | (simp only [List.length_drop, List.length_take]; rfl)) ?_; (with_reducible refine (foundrylaw20_awake.calls k  true _ A6.out).mono ?_); rintro e w29 ⟨rfl, hb⟩; refine ⟨_, rfl, ?_⟩; have n0_ := Aside0.mk (blk_below (g := gb358) (o := .cells #[.slice A2_0 l2_0.length c2_0, .slice A2_1 l2_1.length c2_1] 56 (0, 0)) (by (with_reducible repeat (first | refine blk_drewN ?_ _ | refine blk_drew ?_ | refine blk_alloc ?_ _)); exact BK358.out) hb); have n1_ := Aside0.mk (below_step (by repeat (first | (with_reducible first | exact HB.out | apply below_alloc | apply pw_below_drewN | apply below_drew1 | refine below_set ?_ GE358.out) | exact HB.out)) hb); clear BK358; clear HB; have BK358 := n0_; have HB := n1_; clear n0_ n1_; (try clear hb); (try clear hb2); (try clear hk); (try clear hi); have hcz30_0 : w29.cell? ⟨gb358, 0, none⟩ = some (.slice A2_0 l2_0.length c2_0) := (blk_cell BK358.out 0).trans rfl; have hcz30_1 : w29.cell? ⟨gb358, 1, none⟩ = some (.slice A2_1 l2_1.length c2_1) := (blk_cell BK358.out 1).trans rfl; have hfz30_0 := blk_frozen BK358.out 0; have hfz30_1 := blk_frozen BK358.out 1) | (go_at_call 30; (with_reducible refine (foundrylaw20_few.calls k _ _ l0 _ _ l2_0 _ _ l2_1 false _ ?side1 ?side2 ?side3 ?side4 ?side5 ?side6 A8.out).mono ?_); (case side1 => repeat (first | exact (Kd.C_below HR0.out HB.out) | (with_reducible refine Kd.C_alloc ?_ _) | (with_reducible refine Kd.C_drewN ?_ _) | (with_reducible refine Kd.C_drew ?_))); (case side2 => exact HC0.out); (case side3 => repeat (first | exact (Kd.C_below HR2_0.out HB.out) | (with_reducible refine Kd.C_alloc ?_ _) | (with_reducible refine Kd.C_drewN ?_ _) | (with_reducible refine Kd.C_drew ?_))); (case side4 => exact HC2_0.out); (case side5 => repeat (first | exact (Kd.C_below HR2_1.out HB.out) | (with_reducible refine Kd.C_alloc ?_ _) | (with_reducible refine Kd.C_drewN ?_ _) | (with_reducible refine Kd.C_drew ?_))); (case side6 => exact HC2_1.out); rintro e w31 ⟨rfl, hb⟩; have n0_ := Aside0.mk (blk_below (g := gb358) (o := .cells #[.slice A2_0 l2_0.length c2_0, .slice A2_1 l2_1.length c2_1] 56 (0, 0)) (by (with_reducible repeat (first | refine blk_drewN ?_ _ | refine blk_drew ?_ | refine blk_alloc ?_ _)); exact BK358.out) hb); have n1_ := Aside0.mk (below_step (by repeat (first | (with_reducible first | exact HB.out | apply below_alloc | apply pw_below_drewN | apply below_drew1 | refine below_set ?_ GE358.out) | exact HB.out)) hb); clear BK358; clear HB; have BK358 := n0_; have HB := n1_; clear n0_ n1_; (try clear hb); (try clear hb2); (try clear hk); (try clear hi)))
    go_meet
    case rel => exact ⟨_, (true), (by first | rfl | (simp; done) | (simp [*]; done)), H', ⟨by first | omega | exact Nat.le_refl _⟩, ⟨by (with_reducible repeat (first | refine blk_drewN ?_ _ | refine blk_drew ?_ | refine blk_alloc ?_ _)); exact BK358.out⟩, ⟨by repeat (first | (with_reducible first | exact HB.out | apply below_alloc | apply pw_below_drewN | apply below_drew1 | refine below_set ?_ GE358.out) | exact HB.out)⟩⟩
  ·replace c7 := Bool.eq_false_iff.mpr c7
   subst c7
   have H1 : (foundrylaw20_SubstLengths.j0 k l0 a1 true l2_0 l2_1) = some r := by rw [if_neg (show ¬ (false = true) by decide)] at H; exact H
   clear H
   have H := H1
   clear H1
   have H' := Aside0.mk H
   clear H
   go_wp2_with (first | ((with_reducible refine gate_callee (f := 25) rfl ?_); refine goesL_ (some 11) rfl rfl Try.func25 (by kernel_rfl) rfl #[] rfl (by (try simp only [List.map_toArray, List.map_cons, List.map_nil]); first | done | rfl | (simp only [List.length_drop, List.length_take]; rfl)) ?_; (with_reducible refine (foundrylaw20_awake.calls k  false _ A6.out).mono ?_); rintro e w32 ⟨rfl, hb⟩; refine ⟨_, rfl, ?_⟩; have n0_ := Aside0.mk (blk_below (g := gb358) (o := .cells #[.slice A2_0 l2_0.length c2_0, .slice A2_1 l2_1.length c2_1] 56 (0, 0)) (by (with_reducible repeat (first | refine blk_drewN ?_ _ | refine blk_drew ?_ | refine blk_alloc ?_ _)); exact BK358.out) hb); have n1_ := Aside0.mk (below_step (by repeat (first | (with_reducible first | exact HB.out | apply below_alloc | apply pw_below_drewN | apply below_drew1 | refine below_set ?_ GE358.out) | exact HB.out)) hb); clear BK358; clear HB; have BK358 := n0_; have HB := n1_; clear n0_ n1_; (try clear hb); (try clear hb2); (try clear hk); (try clear hi)))
   go_meet
   case rel => exact ⟨_, (true), (by first | rfl | (simp; done) | (simp [*]; done)), H', ⟨by first | omega | exact Nat.le_refl _⟩, ⟨by (with_reducible repeat (first | refine blk_drewN ?_ _ | refine blk_drew ?_ | refine blk_alloc ?_ _)); exact BK358.out⟩, ⟨by repeat (first | (with_reducible first | exact HB.out | apply below_alloc | apply pw_below_drewN | apply below_drew1 | refine below_set ?_ GE358.out) | exact HB.out)⟩⟩
 case rest =>
  clear HC4
  try clear c1
  try clear c2
  try clear p2
  try clear c7
  try clear c9
  try clear c10
  try clear c10b0
  try clear c14
  try clear c14b0
  try clear c19
  try clear c25
  try clear hcz12_0
  try clear hcz12_1
  try clear hcz16_0
  try clear hcz16_1
  try clear hcz21_0
  try clear hcz21_1
  try clear hcz24_0
  try clear hcz24_1
  try clear hcz26_0
  try clear hcz26_1
  try clear hcz30_0
  try clear hcz30_1
  try clear hfz12_0
  try clear hfz12_1
  try clear hfz16_0
  try clear hfz16_1
  try clear hfz21_0
  try clear hfz21_1
  try clear hfz24_0
  try clear hfz24_1
  try clear hfz26_0
  try clear hfz26_1
  try clear hfz30_0
  try clear hfz30_1
  obtain ⟨kq, x39_3, rfl, HA, HJ3, BK358, HB⟩ := hcut
  cases kq with
  | zero => exact absurd HA.out (by simp [foundrylaw20_SubstLengths.j0])
  | succ kj3 =>
   have H := HA.out
   clear HA
   simp only [foundrylaw20_SubstLengths.j0] at H
   by_cases c33 : x39_3 = true
   ·subst c33
    have H1 : ((foundrylaw20_awake.f kj3).bind fun t362 => (some t362)) = some r := by rw [if_pos rfl] at H; exact H
    clear H
    have H := H1
    clear H1
    replace H := Option.bind_eq_some_iff.mp H
    obtain ⟨t362, A340, H⟩ := H
    replace H : (some t362) = some r := H
    have A34 := Aside0.mk A340
    clear A340
    obtain rfl := Option.some.inj H
    go_wp2_with (first | ((with_reducible refine gate_callee (f := 25) rfl ?_); refine goesL_ (some 40) rfl rfl Try.func25 (by kernel_rfl) rfl #[] rfl (by (try simp only [List.map_toArray, List.map_cons, List.map_nil]); first | done | rfl | (simp only [List.length_drop, List.length_take]; rfl)) ?_; (with_reducible refine (foundrylaw20_awake.calls kj3  t362 _ A34.out).mono ?_); rintro e w35 ⟨rfl, hb⟩; refine ⟨_, rfl, ?_⟩; have n0_ := Aside0.mk (blk_below (g := gb358) (o := .cells #[.slice A2_0 l2_0.length c2_0, .slice A2_1 l2_1.length c2_1] 56 (0, 0)) (by (with_reducible repeat (first | refine blk_drewN ?_ _ | refine blk_drew ?_ | refine blk_alloc ?_ _)); exact BK358.out) hb); have n1_ := Aside0.mk (below_step (by repeat (first | (with_reducible first | exact HB.out | apply below_alloc | apply pw_below_drewN | apply below_drew1 | refine below_set ?_ GE358.out) | exact HB.out)) hb); clear BK358; clear HB; have BK358 := n0_; have HB := n1_; clear n0_ n1_; (try clear hb); (try clear hb2); (try clear hk); (try clear hi)))
    go_ret
    exact ⟨by first | rfl | (simp [errW_none, errW_some] <;> rfl) | (simp [*, errW_none, errW_some] <;> rfl), by repeat (first | (with_reducible first | exact HB.out | apply below_alloc | apply pw_below_drewN | apply below_drew1 | refine below_set ?_ GE358.out) | exact HB.out)⟩
   ·replace c33 := Bool.eq_false_iff.mpr c33
    subst c33
    have H1 : ((subst_Line.f kj3 l0 a1 l2_1 l2_0).bind fun bt363 => ((subst_Line.f kj3 l0 a1 l2_1 ([] : List Int)).bind fun bt367 => (if bt367.2 = 0 then (foundrylaw20_SubstLengths.j1 kj3 l0 a1 bt363.1 bt363.2 ((bt367.1.length : Int) != 0) l2_0 l2_1) else (foundrylaw20_SubstLengths.j1 kj3 l0 a1 bt363.1 bt363.2 true l2_0 l2_1)))) = some r := by rw [if_neg (show ¬ (false = true) by decide)] at H; exact H
    clear H
    have H := H1
    clear H1
    replace H := Option.bind_eq_some_iff.mp H
    obtain ⟨⟨t363, t366⟩, A360, H⟩ := H
    replace H : ((subst_Line.f kj3 l0 a1 l2_1 ([] : List Int)).bind fun bt367 => (if bt367.2 = 0 then (foundrylaw20_SubstLengths.j1 kj3 l0 a1 t363 t366 ((bt367.1.length : Int) != 0) l2_0 l2_1) else (foundrylaw20_SubstLengths.j1 kj3 l0 a1 t363 t366 true l2_0 l2_1))) = some r := H
    have A36 := Aside0.mk A360
    clear A360
    replace H := Option.bind_eq_some_iff.mp H
    obtain ⟨⟨t367, t370⟩, A370, H⟩ := H
    replace H : (if t370 = 0 then (foundrylaw20_SubstLengths.j1 kj3 l0 a1 t363 t366 ((t367.length : Int) != 0) l2_0 l2_1) else (foundrylaw20_SubstLengths.j1 kj3 l0 a1 t363 t366 true l2_0 l2_1)) = some r := H
    have A37 := Aside0.mk A370
    clear A370
    have HC38 := Aside0.mk H
    clear H
    have hcz39_0 : wc.cell? ⟨gb358, 0, none⟩ = some (.slice A2_0 l2_0.length c2_0) := (blk_cell BK358.out 0).trans rfl
    have hcz39_1 : wc.cell? ⟨gb358, 1, none⟩ = some (.slice A2_1 l2_1.length c2_1) := (blk_cell BK358.out 1).trans rfl
    have hfz39_0 := blk_frozen BK358.out 0
    have hfz39_1 := blk_frozen BK358.out 1
    go_upto_region 5 with (first | ((with_reducible refine gate_callee (f := 26) rfl ?_); refine goesL_ (some 48) rfl rfl Try.func26 (by kernel_rfl) rfl #[.slice A0 l0.length c0, .int .i64 a1, .slice A2_1 l2_1.length c2_1, .slice A2_0 l2_0.length c2_0] rfl (by (try simp only [List.map_toArray, List.map_cons, List.map_nil]); first | done | rfl | (simp only [List.length_drop, List.length_take]; rfl)) ?_; (with_reducible refine (subst_Line.calls kj3 _ _ l0 a1 _ _ l2_1 _ _ l2_0 t363 t366 _ ?side1 ?side2 ?side3 ?side4 ?side5 ?side6 A36.out).mono ?_); (case side1 => repeat (first | exact (Kd.C_below HR0.out HB.out) | (with_reducible refine Kd.C_alloc ?_ _) | (with_reducible refine Kd.C_drewN ?_ _) | (with_reducible refine Kd.C_drew ?_))); (case side2 => exact HC0.out); (case side3 => repeat (first | exact (Kd.C_below HR2_1.out HB.out) | (with_reducible refine Kd.C_alloc ?_ _) | (with_reducible refine Kd.C_drewN ?_ _) | (with_reducible refine Kd.C_drew ?_))); (case side4 => exact HC2_1.out); (case side5 => repeat (first | exact (Kd.C_below HR2_0.out HB.out) | (with_reducible refine Kd.C_alloc ?_ _) | (with_reducible refine Kd.C_drewN ?_ _) | (with_reducible refine Kd.C_drew ?_))); (case side6 => exact HC2_0.out); rintro e w40 ⟨v364, rfl, ho0, hb⟩; refine ⟨_, rfl, ?_⟩; have n0_ := Aside0.mk (Kd.V_lower (Kd.V_mono (ok' := fun k_ => k_ ≠ gb358) ho0 (fun k_ hk_ => (Kd.freshB (g := gb358) (o := .cells #[.slice A2_0 l2_0.length c2_0, .slice A2_1 l2_1.length c2_1] 56 (0, 0)) (by (with_reducible repeat (first | refine blk_drewN ?_ _ | refine blk_drew ?_ | refine blk_alloc ?_ _)); exact BK358.out) k_ hk_))) (below_size (by repeat (first | (with_reducible first | exact HB.out | apply below_alloc | apply pw_below_drewN | apply below_drew1 | refine below_set ?_ GE358.out) | exact HB.out)))); have n1_ := Aside0.mk (blk_below (g := gb358) (o := .cells #[.slice A2_0 l2_0.length c2_0, .slice A2_1 l2_1.length c2_1] 56 (0, 0)) (by (with_reducible repeat (first | refine blk_drewN ?_ _ | refine blk_drew ?_ | refine blk_alloc ?_ _)); exact BK358.out) hb); have n2_ := Aside0.mk (below_step (by repeat (first | (with_reducible first | exact HB.out | apply below_alloc | apply pw_below_drewN | apply below_drew1 | refine below_set ?_ GE358.out) | exact HB.out)) hb); clear BK358; clear HB; have HO365 := n0_; have BK358 := n1_; have HB := n2_; clear n0_ n1_ n2_; (try clear hb); (try clear hb2); (try clear hk); (try clear hi); (try clear ho0); have hcz41_0 : w40.cell? ⟨gb358, 0, none⟩ = some (.slice A2_0 l2_0.length c2_0) := (blk_cell BK358.out 0).trans rfl; have hcz41_1 : w40.cell? ⟨gb358, 1, none⟩ = some (.slice A2_1 l2_1.length c2_1) := (blk_cell BK358.out 1).trans rfl; have hfz41_0 := blk_frozen BK358.out 0; have hfz41_1 := blk_frozen BK358.out 1) | ((with_reducible refine gate_callee (f := 26) rfl ?_); refine goesL_ (some 56) rfl rfl Try.func26 (by kernel_rfl) rfl #[.slice A0 l0.length c0, .int .i64 a1, .slice A2_1 l2_1.length c2_1, .slice none 0 0] rfl (by (try simp only [List.map_toArray, List.map_cons, List.map_nil]); first | done | rfl | (simp only [List.length_drop, List.length_take]; rfl)) ?_; (refine (subst_Line.calls kj3 _ _ l0 a1 _ _ l2_1 _ _ ([] : List Int) t367 t370 _ ?side1 ?side2 ?side3 ?side4 ?side5 ?side6 A37.out).mono ?_); (case side1 => repeat (first | exact (Kd.C_below HR0.out HB.out) | (with_reducible refine Kd.C_alloc ?_ _) | (with_reducible refine Kd.C_drewN ?_ _) | (with_reducible refine Kd.C_drew ?_))); (case side2 => exact HC0.out); (case side3 => repeat (first | exact (Kd.C_below HR2_1.out HB.out) | (with_reducible refine Kd.C_alloc ?_ _) | (with_reducible refine Kd.C_drewN ?_ _) | (with_reducible refine Kd.C_drew ?_))); (case side4 => exact HC2_1.out); (case side5 => exact Kd.C_nil _ _); (case side6 => exact Nat.le_refl _); rintro e w42 ⟨v368, rfl, ho0, hb⟩; refine ⟨_, rfl, ?_⟩; have n0_ := Aside0.mk (Kd.V_below (by (with_reducible repeat (first | apply Kd.V_alloc | apply Kd.V_drewN | apply Kd.V_drew)); exact HO365.out) hb); have n1_ := Aside0.mk (Kd.V_lower (Kd.V_mono (ok' := fun k_ => k_ ≠ gb358) ho0 (fun k_ hk_ => (Kd.freshB (g := gb358) (o := .cells #[.slice A2_0 l2_0.length c2_0, .slice A2_1 l2_1.length c2_1] 56 (0, 0)) (by (with_reducible repeat (first | refine blk_drewN ?_ _ | refine blk_drew ?_ | refine blk_alloc ?_ _)); exact BK358.out) k_ hk_))) (below_size (by repeat (first | (with_reducible first | exact HB.out | apply below_alloc | apply pw_below_drewN | apply below_drew1 | refine below_set ?_ GE358.out) | exact HB.out)))); have n2_ := Aside0.mk (blk_below (g := gb358) (o := .cells #[.slice A2_0 l2_0.length c2_0, .slice A2_1 l2_1.length c2_1] 56 (0, 0)) (by (with_reducible repeat (first | refine blk_drewN ?_ _ | refine blk_drew ?_ | refine blk_alloc ?_ _)); exact BK358.out) hb); have n3_ := Aside0.mk (below_step (by repeat (first | (with_reducible first | exact HB.out | apply below_alloc | apply pw_below_drewN | apply below_drew1 | refine below_set ?_ GE358.out) | exact HB.out)) hb); clear HO365; clear BK358; clear HB; have HO365 := n0_; have HO369 := n1_; have BK358 := n2_; have HB := n3_; clear n0_ n1_ n2_ n3_; (try clear hb); (try clear hb2); (try clear hk); (try clear hi); (try clear ho0)))
    (try simp only [Act.put, List.setIfInBounds_toArray, List.set_cons_zero, List.set_cons_succ])
    go_cut [65] (fun v65 wc => ∃ (kq : Nat) (x65_37 : Bool), v65 = .bool x65_37 ∧ Aside0 (foundrylaw20_SubstLengths.j1 kq l0 a1 t363 t366 x65_37 l2_0 l2_1 = some r) ∧ Aside0 (kq ≤ kj3) ∧ Aside0 (Kd.V (Kd.int .i64) 3 wc w.heap.size (fun k_ => k_ ≠ gb358) v364 t363) ∧ Aside0 (wc.heap[gb358]? = some (.cells #[(.slice A2_0 l2_0.length c2_0), (.slice A2_1 l2_1.length c2_1)] 56 (0, 0))) ∧ Aside0 (Below w.heap.size w wc))
    case first =>
     have H := HC38.out
     clear HC38
     by_cases c43 : t370 = 0
     ·rw [if_pos c43] at H
      have c43b0 : (t370 == 0) = true := beq_iff_eq.mpr c43
      have c43b1 : (t370 != 0) = false := bne_eq_false_iff_eq.mpr c43
      clear c43
      (first | rw [c43b0] | (simp only [i64_w, i32_w]; rw [c43b0]) | skip)
      have H' := Aside0.mk H
      clear H
      obtain ⟨Ao44, co44, eo44⟩ := Kd.V_slice HO369.out
      subst eo44
      go_wp2
      go_meet
      case rel => exact ⟨_, (((t367.length : Int) != 0)), (by first | rfl | (simp; done) | (simp [*]; done)), H', ⟨by have := HJ3.out; first | omega | exact Nat.le_refl _⟩, ⟨by (with_reducible repeat (first | apply Kd.V_alloc | apply Kd.V_drewN | apply Kd.V_drew)); exact HO365.out⟩, ⟨by (with_reducible repeat (first | refine blk_drewN ?_ _ | refine blk_drew ?_ | refine blk_alloc ?_ _)); exact BK358.out⟩, ⟨by repeat (first | (with_reducible first | exact HB.out | apply below_alloc | apply pw_below_drewN | apply below_drew1 | refine below_set ?_ GE358.out) | exact HB.out)⟩⟩
     ·rw [if_neg c43] at H
      have c43b0 : (t370 == 0) = false := beq_eq_false_iff_ne.mpr c43
      have c43b1 : (t370 != 0) = true := bne_iff_ne.mpr c43
      (first | rw [c43b0] | (simp only [i64_w, i32_w]; rw [c43b0]) | skip)
      have H' := Aside0.mk H
      clear H
      go_wp2
      go_meet
      case rel => exact ⟨_, (true), (by first | rfl | (simp; done) | (simp [*]; done)), H', ⟨by have := HJ3.out; first | omega | exact Nat.le_refl _⟩, ⟨by (with_reducible repeat (first | apply Kd.V_alloc | apply Kd.V_drewN | apply Kd.V_drew)); exact HO365.out⟩, ⟨by (with_reducible repeat (first | refine blk_drewN ?_ _ | refine blk_drew ?_ | refine blk_alloc ?_ _)); exact BK358.out⟩, ⟨by repeat (first | (with_reducible first | exact HB.out | apply below_alloc | apply pw_below_drewN | apply below_drew1 | refine below_set ?_ GE358.out) | exact HB.out)⟩⟩
    case rest =>
     clear HC38
     try clear c1
     try clear c2
     try clear p2
     try clear c3
     try clear c4
     try clear c7
     try clear c9
     try clear c10
     try clear c10b0
     try clear c14
     try clear c14b0
     try clear c19
     try clear c25
     try clear c26
     try clear c33
     try clear c43
     try clear c43b0
     try clear c43b1
     try clear hcz12_0
     try clear hcz12_1
     try clear hcz16_0
     try clear hcz16_1
     try clear hcz21_0
     try clear hcz21_1
     try clear hcz24_0
     try clear hcz24_1
     try clear hcz26_0
     try clear hcz26_1
     try clear hcz30_0
     try clear hcz30_1
     try clear hcz39_0
     try clear hcz39_1
     try clear hcz41_0
     try clear hcz41_1
     try clear hfz12_0
     try clear hfz12_1
     try clear hfz16_0
     try clear hfz16_1
     try clear hfz21_0
     try clear hfz21_1
     try clear hfz24_0
     try clear hfz24_1
     try clear hfz26_0
     try clear hfz26_1
     try clear hfz30_0
     try clear hfz30_1
     try clear hfz39_0
     try clear hfz39_1
     try clear hfz41_0
     try clear hfz41_1
     try clear p2
     obtain ⟨kq, x65_37, rfl, HA, HJ37, HO_7, BK358, HB⟩ := hcut
     cases kq with
     | zero => exact absurd HA.out (by simp [foundrylaw20_SubstLengths.j1])
     | succ kj37 =>
      have H := HA.out
      clear HA
      simp only [foundrylaw20_SubstLengths.j1] at H
      by_cases c45 : x65_37 = true
      ·subst c45
       have H1 : (some false) = some r := by rw [if_pos rfl] at H; exact H
       clear H
       have H := H1
       clear H1
       obtain rfl := Option.some.inj H
       go_wp2
       go_ret
       exact ⟨by first | rfl | (simp [errW_none, errW_some] <;> rfl) | (simp [*, errW_none, errW_some] <;> rfl), by repeat (first | (with_reducible first | exact HB.out | apply below_alloc | apply pw_below_drewN | apply below_drew1 | refine below_set ?_ GE358.out) | exact HB.out)⟩
      ·replace c45 := Bool.eq_false_iff.mpr c45
       subst c45
       have H1 : (if 0 ≤ a1 then (if a1 < (l0.length : Int) then (if ((rd_T46 l0 a1).f0) = 1 then (if t366 = 0 then (some ((t363.length : Int) == (l2_0.length : Int))) else (some false)) else (if ((rd_T46 l0 a1).f0) = 3 then (if t366 = 0 then (some (decide ((t363.length : Int) ≤ (l2_0.length : Int)))) else (some false)) else (if t366 = 0 then (some true) else (some (t366 == 3))))) else (none)) else (none)) = some r := by rw [if_neg (show ¬ (false = true) by decide)] at H; exact H
       clear H
       have H := H1
       clear H1
       by_cases c46 : 0 ≤ a1
       ·rw [if_pos c46] at H
        have c46b0 : decide (0 ≤ a1) = true := decide_eq_true c46
        clear c46
        by_cases c47 : a1 < (l0.length : Int)
        ·rw [if_pos c47] at H
         have c47b0 : decide (a1 < (l0.length : Int)) = true := decide_eq_true c47
         clear c47
         by_cases c48 : ((rd_T46 l0 a1).f0) = 1
         ·rw [if_pos c48] at H
          have c48b0 : (((rd_T46 l0 a1).f0) == 1) = true := beq_iff_eq.mpr c48
          have c48b1 : (((rd_T46 l0 a1).f0) != 1) = false := bne_eq_false_iff_eq.mpr c48
          clear c48
          by_cases c49 : t366 = 0
          ·rw [if_pos c49] at H
           have c49b0 : (t366 == 0) = true := beq_iff_eq.mpr c49
           have c49b1 : (t366 != 0) = false := bne_eq_false_iff_eq.mpr c49
           clear c49
           obtain rfl := Option.some.inj H
           have p371 : 0 ≤ (a1 : Int) := of_decide_eq_true (by first | (with_reducible assumption) | assumption)
           have q371 : a1 < (l0.length : Int) := of_decide_eq_true (by first | (with_reducible assumption) | assumption)
           obtain ⟨ad371, A371_2, c371_2, e371, hx371_0, hx371_1, hx371_2, hl371_2, hi371_2⟩ := at_T46 HR0.out a1 p371 q371
           cases e371
           replace hx371_0 := (HB.out.cell (World.block_lt_of_cell? w _ hx371_0)).trans hx371_0
           replace hx371_1 := (HB.out.cell (World.block_lt_of_cell? w _ hx371_1)).trans hx371_1
           replace hx371_2 := (HB.out.cell (World.block_lt_of_cell? w _ hx371_2)).trans hx371_2
           have HR371_2 := Aside0.mk hi371_2
           have HC371_2 := Aside0.mk hl371_2
           clear hi371_2 hl371_2
           replace p371 := eq_true p371
           replace q371 := eq_true q371
           obtain ⟨Ao50, co50, eo50⟩ := Kd.V_slice HO_7.out
           subst eo50
           have hcz51_0 : wc.cell? ⟨gb358, 0, none⟩ = some (.slice A2_0 l2_0.length c2_0) := (blk_cell BK358.out 0).trans rfl
           have hcz51_1 : wc.cell? ⟨gb358, 1, none⟩ = some (.slice A2_1 l2_1.length c2_1) := (blk_cell BK358.out 1).trans rfl
           have hfz51_0 := blk_frozen BK358.out 0
           have hfz51_1 := blk_frozen BK358.out 1
           go_wp2
           go_ret
           exact ⟨by first | rfl | (simp [errW_none, errW_some] <;> rfl) | (simp [*, errW_none, errW_some] <;> rfl), by repeat (first | (with_reducible first | exact HB.out | apply below_alloc | apply pw_below_drewN | apply below_drew1 | refine below_set ?_ GE358.out) | exact HB.out)⟩
          ·rw [if_neg c49] at H
           have c49b0 : (t366 == 0) = false := beq_eq_false_iff_ne.mpr c49
           have c49b1 : (t366 != 0) = true := bne_iff_ne.mpr c49
           obtain rfl := Option.some.inj H
           have p371 : 0 ≤ (a1 : Int) := of_decide_eq_true (by first | (with_reducible assumption) | assumption)
           have q371 : a1 < (l0.length : Int) := of_decide_eq_true (by first | (with_reducible assumption) | assumption)
           obtain ⟨ad371, A371_2, c371_2, e371, hx371_0, hx371_1, hx371_2, hl371_2, hi371_2⟩ := at_T46 HR0.out a1 p371 q371
           cases e371
           replace hx371_0 := (HB.out.cell (World.block_lt_of_cell? w _ hx371_0)).trans hx371_0
           replace hx371_1 := (HB.out.cell (World.block_lt_of_cell? w _ hx371_1)).trans hx371_1
           replace hx371_2 := (HB.out.cell (World.block_lt_of_cell? w _ hx371_2)).trans hx371_2
           have HR371_2 := Aside0.mk hi371_2
           have HC371_2 := Aside0.mk hl371_2
           clear hi371_2 hl371_2
           replace p371 := eq_true p371
           replace q371 := eq_true q371
           go_wp2
           go_ret
           exact ⟨by first | rfl | (simp [errW_none, errW_some] <;> rfl) | (simp [*, errW_none, errW_some] <;> rfl), by repeat (first | (with_reducible first | exact HB.out | apply below_alloc | apply pw_below_drewN | apply below_drew1 | refine below_set ?_ GE358.out) | exact HB.out)⟩
         ·rw [if_neg c48] at H
          have c48b0 : (((rd_T46 l0 a1).f0) == 1) = false := beq_eq_false_iff_ne.mpr c48
          have c48b1 : (((rd_T46 l0 a1).f0) != 1) = true := bne_iff_ne.mpr c48
          by_cases c52 : ((rd_T46 l0 a1).f0) = 3
          ·rw [if_pos c52] at H
           have c52b0 : (((rd_T46 l0 a1).f0) == 3) = true := beq_iff_eq.mpr c52
           have c52b1 : (((rd_T46 l0 a1).f0) != 3) = false := bne_eq_false_iff_eq.mpr c52
           clear c52
           by_cases c53 : t366 = 0
           ·rw [if_pos c53] at H
            have c53b0 : (t366 == 0) = true := beq_iff_eq.mpr c53
            have c53b1 : (t366 != 0) = false := bne_eq_false_iff_eq.mpr c53
            clear c53
            obtain rfl := Option.some.inj H
            have p371 : 0 ≤ (a1 : Int) := of_decide_eq_true (by first | (with_reducible assumption) | assumption)
            have q371 : a1 < (l0.length : Int) := of_decide_eq_true (by first | (with_reducible assumption) | assumption)
            obtain ⟨ad371, A371_2, c371_2, e371, hx371_0, hx371_1, hx371_2, hl371_2, hi371_2⟩ := at_T46 HR0.out a1 p371 q371
            cases e371
            replace hx371_0 := (HB.out.cell (World.block_lt_of_cell? w _ hx371_0)).trans hx371_0
            replace hx371_1 := (HB.out.cell (World.block_lt_of_cell? w _ hx371_1)).trans hx371_1
            replace hx371_2 := (HB.out.cell (World.block_lt_of_cell? w _ hx371_2)).trans hx371_2
            have HR371_2 := Aside0.mk hi371_2
            have HC371_2 := Aside0.mk hl371_2
            clear hi371_2 hl371_2
            replace p371 := eq_true p371
            replace q371 := eq_true q371
            obtain ⟨Ao54, co54, eo54⟩ := Kd.V_slice HO_7.out
            subst eo54
            have hcz55_0 : wc.cell? ⟨gb358, 0, none⟩ = some (.slice A2_0 l2_0.length c2_0) := (blk_cell BK358.out 0).trans rfl
            have hcz55_1 : wc.cell? ⟨gb358, 1, none⟩ = some (.slice A2_1 l2_1.length c2_1) := (blk_cell BK358.out 1).trans rfl
            have hfz55_0 := blk_frozen BK358.out 0
            have hfz55_1 := blk_frozen BK358.out 1
            go_wp2
            go_ret
            exact ⟨by first | rfl | (simp [errW_none, errW_some] <;> rfl) | (simp [*, errW_none, errW_some] <;> rfl), by repeat (first | (with_reducible first | exact HB.out | apply below_alloc | apply pw_below_drewN | apply below_drew1 | refine below_set ?_ GE358.out) | exact HB.out)⟩
           ·rw [if_neg c53] at H
            have c53b0 : (t366 == 0) = false := beq_eq_false_iff_ne.mpr c53
            have c53b1 : (t366 != 0) = true := bne_iff_ne.mpr c53
            obtain rfl := Option.some.inj H
            have p371 : 0 ≤ (a1 : Int) := of_decide_eq_true (by first | (with_reducible assumption) | assumption)
            have q371 : a1 < (l0.length : Int) := of_decide_eq_true (by first | (with_reducible assumption) | assumption)
            obtain ⟨ad371, A371_2, c371_2, e371, hx371_0, hx371_1, hx371_2, hl371_2, hi371_2⟩ := at_T46 HR0.out a1 p371 q371
            cases e371
            replace hx371_0 := (HB.out.cell (World.block_lt_of_cell? w _ hx371_0)).trans hx371_0
            replace hx371_1 := (HB.out.cell (World.block_lt_of_cell? w _ hx371_1)).trans hx371_1
            replace hx371_2 := (HB.out.cell (World.block_lt_of_cell? w _ hx371_2)).trans hx371_2
            have HR371_2 := Aside0.mk hi371_2
            have HC371_2 := Aside0.mk hl371_2
            clear hi371_2 hl371_2
            replace p371 := eq_true p371
            replace q371 := eq_true q371
            go_wp2
            go_ret
            exact ⟨by first | rfl | (simp [errW_none, errW_some] <;> rfl) | (simp [*, errW_none, errW_some] <;> rfl), by repeat (first | (with_reducible first | exact HB.out | apply below_alloc | apply pw_below_drewN | apply below_drew1 | refine below_set ?_ GE358.out) | exact HB.out)⟩
          ·rw [if_neg c52] at H
           have c52b0 : (((rd_T46 l0 a1).f0) == 3) = false := beq_eq_false_iff_ne.mpr c52
           have c52b1 : (((rd_T46 l0 a1).f0) != 3) = true := bne_iff_ne.mpr c52
           by_cases c56 : t366 = 0
           ·rw [if_pos c56] at H
            have c56b0 : (t366 == 0) = true := beq_iff_eq.mpr c56
            have c56b1 : (t366 != 0) = false := bne_eq_false_iff_eq.mpr c56
            clear c56
            obtain rfl := Option.some.inj H
            have p371 : 0 ≤ (a1 : Int) := of_decide_eq_true (by first | (with_reducible assumption) | assumption)
            have q371 : a1 < (l0.length : Int) := of_decide_eq_true (by first | (with_reducible assumption) | assumption)
            obtain ⟨ad371, A371_2, c371_2, e371, hx371_0, hx371_1, hx371_2, hl371_2, hi371_2⟩ := at_T46 HR0.out a1 p371 q371
            cases e371
            replace hx371_0 := (HB.out.cell (World.block_lt_of_cell? w _ hx371_0)).trans hx371_0
            replace hx371_1 := (HB.out.cell (World.block_lt_of_cell? w _ hx371_1)).trans hx371_1
            replace hx371_2 := (HB.out.cell (World.block_lt_of_cell? w _ hx371_2)).trans hx371_2
            have HR371_2 := Aside0.mk hi371_2
            have HC371_2 := Aside0.mk hl371_2
            clear hi371_2 hl371_2
            replace p371 := eq_true p371
            replace q371 := eq_true q371
            go_wp2
            go_ret
            exact ⟨by first | rfl | (simp [errW_none, errW_some] <;> rfl) | (simp [*, errW_none, errW_some] <;> rfl), by repeat (first | (with_reducible first | exact HB.out | apply below_alloc | apply pw_below_drewN | apply below_drew1 | refine below_set ?_ GE358.out) | exact HB.out)⟩
           ·rw [if_neg c56] at H
            have c56b0 : (t366 == 0) = false := beq_eq_false_iff_ne.mpr c56
            have c56b1 : (t366 != 0) = true := bne_iff_ne.mpr c56
            obtain rfl := Option.some.inj H
            have p371 : 0 ≤ (a1 : Int) := of_decide_eq_true (by first | (with_reducible assumption) | assumption)
            have q371 : a1 < (l0.length : Int) := of_decide_eq_true (by first | (with_reducible assumption) | assumption)
            obtain ⟨ad371, A371_2, c371_2, e371, hx371_0, hx371_1, hx371_2, hl371_2, hi371_2⟩ := at_T46 HR0.out a1 p371 q371
            cases e371
            replace hx371_0 := (HB.out.cell (World.block_lt_of_cell? w _ hx371_0)).trans hx371_0
            replace hx371_1 := (HB.out.cell (World.block_lt_of_cell? w _ hx371_1)).trans hx371_1
            replace hx371_2 := (HB.out.cell (World.block_lt_of_cell? w _ hx371_2)).trans hx371_2
            have HR371_2 := Aside0.mk hi371_2
            have HC371_2 := Aside0.mk hl371_2
            clear hi371_2 hl371_2
            replace p371 := eq_true p371
            replace q371 := eq_true q371
            go_wp2
            go_ret
            exact ⟨by first | rfl | (simp [errW_none, errW_some] <;> rfl) | (simp [*, errW_none, errW_some] <;> rfl), by repeat (first | (with_reducible first | exact HB.out | apply below_alloc | apply pw_below_drewN | apply below_drew1 | refine below_set ?_ GE358.out) | exact HB.out)⟩
        ·rw [if_neg c47] at H
         exact absurd H (by simp)
       ·rw [if_neg c46] at H
        exact absurd H (by simp)

end Go.Proofs.Ytoldahmgjenlaaa.Q
