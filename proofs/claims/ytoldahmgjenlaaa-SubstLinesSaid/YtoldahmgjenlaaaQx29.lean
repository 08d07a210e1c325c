-- Written by a program of this session, out of the kit's print tool (see NOTES.md: mypr)
import Derived.Test.YtoldahmgjenlaaaQx0
import Derived.Test.YtoldahmgjenlaaaQx4
import Derived.Test.YtoldahmgjenlaaaQx13
namespace Go.Proofs.Ytoldahmgjenlaaa.Q
open Go.RowKit Go.Proofs.YtoldahmgjenlaaaW.PrintWords Go.Proofs.YtoldahmgjenlaaaW.PrintLast Go.Proofs.YtoldahmgjenlaaaW.PrintMore
attribute [local go_sem] max2_int min2_int max_two min_two max_three min_three max_four min_four   -- for this text's walks alone
set_option linter.unusedVariables false
set_option linter.unusedSimpArgs false

/-! ### foundryref20_done: function 47 -/
mutual
def foundryref20_done.j0 : Nat → List (S46) → List Bool → List Int → Int → Int → Bool → Int → Bool → List (S43) → Option (List Int × Int × Bool)
 | 0, _, _, _, _, _, _, _, _, _ => none
 | k + 1, x0, x2, x3, x4, x5, x37, x493000, x493001, x493002 => if x37 = true then (some (x3, x4, false)) else (foundryref20_done.l0 k x0 x2 x3 x4 x5 0 x493000 x493001 x493002)
def foundryref20_done.l0 : Nat → List (S46) → List Bool → List Int → Int → Int → Int → Int → Bool → List (S43) → Option (List Int × Int × Bool)
 | 0, _, _, _, _, _, _, _, _, _ => none
 | k + 1, x0, x2, x3, x4, x5, x16, x493000, x493001, x493002 => if x16 < (x493002.length : Int) then (if 0 ≤ x16 then ((foundryref19_Meet.f k x3 x2 x4 ((rd_T43 x493002 x16).f0) x493001).bind fun bt497 => (if bt497.2 = true then (if x493000 = 4 then (if x5 < 8 then (if 0 ≤ ((rd_T43 x493002 x16).f2) then (if ((rd_T43 x493002 x16).f2) < (bt497.1.length : Int) then ((foundryref20_done.f k x0 ((rd_T43 x493002 x16).f3) x2 x3 (rd bt497.1 ((rd_T43 x493002 x16).f2)) (wrap64 (x5 + 1))).bind fun bt502 => (if 0 ≤ (wrap64 ((bt497.1.length : Int) - 1)) then (if (wrap64 ((bt497.1.length : Int) - 1)) < (bt497.1.length : Int) then (some (bt502.1, mx (wrap64 ((wrap64 ((wrap64 ((rd bt497.1 (wrap64 ((bt497.1.length : Int) - 1))) + 1)) + (bt502.1.length : Int))) - (x3.length : Int))) x4, true)) else (none)) else (none))) else (none)) else (none)) else (if 0 ≤ (wrap64 ((bt497.1.length : Int) - 1)) then (if (wrap64 ((bt497.1.length : Int) - 1)) < (bt497.1.length : Int) then (some (x3, mx (wrap64 ((wrap64 ((wrap64 ((rd bt497.1 (wrap64 ((bt497.1.length : Int) - 1))) + 1)) + (x3.length : Int))) - (x3.length : Int))) x4, true)) else (none)) else (none))) else (if x493000 = 3 then (foundryref20_done.l1 k x4 bt497.1 x3 (wrap64 ((bt497.1.length : Int) - 1)) ((rd_T43 x493002 x16).f0) ((rd_T43 x493002 x16).f1) ((rd_T43 x493002 x16).f2) ((rd_T43 x493002 x16).f3) ((rd_T43 x493002 x16).f4.f0) ((rd_T43 x493002 x16).f4.f1) ((rd_T43 x493002 x16).f5.f0) ((rd_T43 x493002 x16).f5.f1) ((rd_T43 x493002 x16).f6.f0) ((rd_T43 x493002 x16).f6.f1)) else ((foundryref19_Put.f x3 x4 (wrap64 (x4 + 1)) ((rd_T43 x493002 x16).f1)).bind fun t517 => (some (t517, wrap64 (x4 + (((rd_T43 x493002 x16).f1).length : Int)), true))))) else (foundryref20_done.l0 k x0 x2 x3 x4 x5 (wrap64 (x16 + 1)) x493000 x493001 x493002))) else (none)) else (some (x3, x4, false))
def foundryref20_done.l1 : Nat → Int → List Int → List Int → Int → List Int → List Int → Int → Int → Int → Int → Int → Int → Int → Int → Option (List Int × Int × Bool)
 | 0, _, _, _, _, _, _, _, _, _, _, _, _, _, _ => none
 | k + 1, x4, x18, x22, x23, x497000, x497001, x497002, x497003, x497004, x497005, x497006, x497007, x497008, x497009 => if x23 ≥ 1 then (if 0 ≤ x23 then (if x23 < (x18.length : Int) then ((foundryref19_Put.f x22 (rd x18 x23) (wrap64 ((rd x18 x23) + 1)) ([] : List Int)).bind fun t511 => (foundryref20_done.l1 k x4 x18 t511 (wrap64 (x23 - 1)) x497000 x497001 x497002 x497003 x497004 x497005 x497006 x497007 x497008 x497009)) else (none)) else (none)) else ((foundryref19_Put.f x22 x4 (wrap64 (x4 + 1)) x497001).bind fun t514 => (some (t514, wrap64 (x4 + 1), true)))
def foundryref20_done.f : Nat → List (S46) → Int → List Bool → List Int → Int → Int → Option (List Int × Int × Bool)
 | 0, _, _, _, _, _, _ => none
 | k + 1, l0, a1, l2, l3, a4, a5 => if 0 ≤ a1 then (if a1 < (l0.length : Int) then (if (rd_T46 l0 a1).f1 = true then (if 0 ≤ a4 then (if a4 < (l3.length : Int) then ((foundryref19_Mark.f l2 (rd l3 a4)).bind fun t494 => (foundryref20_done.j0 k l0 l2 l3 a4 a5 t494 ((rd_T46 l0 a1).f0) ((rd_T46 l0 a1).f1) ((rd_T46 l0 a1).f2))) else (none)) else (none)) else (foundryref20_done.j0 k l0 l2 l3 a4 a5 false ((rd_T46 l0 a1).f0) ((rd_T46 l0 a1).f1) ((rd_T46 l0 a1).f2))) else (none)) else (none)
end
theorem foundryref20_done.mono_l : ∀ k, (∀ y0 y1 y2 y3 y4 y5, LeO (foundryref20_done.f k y0 y1 y2 y3 y4 y5) (foundryref20_done.f (k + 1) y0 y1 y2 y3 y4 y5)) ∧ (∀ y0 y1 y2 y3 y4 y5 y6 y7 y8, LeO (foundryref20_done.j0 k y0 y1 y2 y3 y4 y5 y6 y7 y8) (foundryref20_done.j0 (k + 1) y0 y1 y2 y3 y4 y5 y6 y7 y8)) ∧ (∀ y0 y1 y2 y3 y4 y5 y6 y7 y8, LeO (foundryref20_done.l0 k y0 y1 y2 y3 y4 y5 y6 y7 y8) (foundryref20_done.l0 (k + 1) y0 y1 y2 y3 y4 y5 y6 y7 y8)) ∧ (∀ y0 y1 y2 y3 y4 y5 y6 y7 y8 y9 y10 y11 y12 y13, LeO (foundryref20_done.l1 k y0 y1 y2 y3 y4 y5 y6 y7 y8 y9 y10 y11 y12 y13) (foundryref20_done.l1 (k + 1) y0 y1 y2 y3 y4 y5 y6 y7 y8 y9 y10 y11 y12 y13))
 | 0 => ⟨fun _ _ _ _ _ _ r h => by simp [foundryref20_done.f] at h, fun _ _ _ _ _ _ _ _ _ r h => by simp [foundryref20_done.j0] at h, fun _ _ _ _ _ _ _ _ _ r h => by simp [foundryref20_done.l0] at h, fun _ _ _ _ _ _ _ _ _ _ _ _ _ _ r h => by simp [foundryref20_done.l1] at h⟩
 | k + 1 => by
  obtain ⟨ih0, ih1, ih2, ih3⟩ := foundryref20_done.mono_l k
  refine ⟨?_, ?_, ?_, ?_⟩
  ·intro y0 y1 y2 y3 y4 y5
   unfold foundryref20_done.f
   repeat' first
   | (with_reducible exact ih0 _ _ _ _ _ _)
   | (with_reducible exact ih1 _ _ _ _ _ _ _ _ _)
   | (with_reducible exact ih2 _ _ _ _ _ _ _ _ _)
   | (with_reducible exact ih3 _ _ _ _ _ _ _ _ _ _ _ _ _ _)
   | (with_reducible exact foundryref19_Meet.mono _ _ _ _ _ _)
   | (with_reducible exact LeO.refl _)
   | (with_reducible exact LeO.none _)
   | (with_reducible refine LeO.ite ?_ ?_)
   | (with_reducible refine LeO.bind ?_ (fun _ => ?_))
   | exact ih0 _ _ _ _ _ _
   | exact ih1 _ _ _ _ _ _ _ _ _
   | exact ih2 _ _ _ _ _ _ _ _ _
   | exact ih3 _ _ _ _ _ _ _ _ _ _ _ _ _ _
   | exact foundryref19_Meet.mono _ _ _ _ _ _
   | exact LeO.none _
   | refine LeO.ite ?_ ?_
   | refine LeO.bind ?_ (fun _ => ?_)
  ·intro y0 y1 y2 y3 y4 y5 y6 y7 y8
   unfold foundryref20_done.j0
   repeat' first
   | (with_reducible exact ih0 _ _ _ _ _ _)
   | (with_reducible exact ih1 _ _ _ _ _ _ _ _ _)
   | (with_reducible exact ih2 _ _ _ _ _ _ _ _ _)
   | (with_reducible exact ih3 _ _ _ _ _ _ _ _ _ _ _ _ _ _)
   | (with_reducible exact foundryref19_Meet.mono _ _ _ _ _ _)
   | (with_reducible exact LeO.refl _)
   | (with_reducible exact LeO.none _)
   | (with_reducible refine LeO.ite ?_ ?_)
   | (with_reducible refine LeO.bind ?_ (fun _ => ?_))
   | exact ih0 _ _ _ _ _ _
   | exact ih1 _ _ _ _ _ _ _ _ _
   | exact ih2 _ _ _ _ _ _ _ _ _
   | exact ih3 _ _ _ _ _ _ _ _ _ _ _ _ _ _
   | exact foundryref19_Meet.mono _ _ _ _ _ _
   | exact LeO.none _
   | refine LeO.ite ?_ ?_
   | refine LeO.bind ?_ (fun _ => ?_)
  ·intro y0 y1 y2 y3 y4 y5 y6 y7 y8
   unfold foundryref20_done.l0
   repeat' first
   | (with_reducible exact ih0 _ _ _ _ _ _)
   | (with_reducible exact ih1 _ _ _ _ _ _ _ _ _)
   | (with_reducible exact ih2 _ _ _ _ _ _ _ _ _)
   | (with_reducible exact ih3 _ _ _ _ _ _ _ _ _ _ _ _ _ _)
   | (with_reducible exact foundryref19_Meet.mono _ _ _ _ _ _)
   | (with_reducible exact LeO.refl _)
   | (with_reducible exact LeO.none _)
   | (with_reducible refine LeO.ite ?_ ?_)
   | (with_reducible refine LeO.bind ?_ (fun _ => ?_))
   | exact ih0 _ _ _ _ _ _
   | exact ih1 _ _ _ _ _ _ _ _ _
   | exact ih2 _ _ _ _ _ _ _ _ _
   | exact ih3 _ _ _ _ _ _ _ _ _ _ _ _ _ _
   | exact foundryref19_Meet.mono _ _ _ _ _ _
   | exact LeO.none _
   | refine LeO.ite ?_ ?_
   | refine LeO.bind ?_ (fun _ => ?_)
  ·intro y0 y1 y2 y3 y4 y5 y6 y7 y8 y9 y10 y11 y12 y13
   unfold foundryref20_done.l1
   repeat' first
   | (with_reducible exact ih0 _ _ _ _ _ _)
   | (with_reducible exact ih1 _ _ _ _ _ _ _ _ _)
   | (with_reducible exact ih2 _ _ _ _ _ _ _ _ _)
   | (with_reducible exact ih3 _ _ _ _ _ _ _ _ _ _ _ _ _ _)
   | (with_reducible exact foundryref19_Meet.mono _ _ _ _ _ _)
   | (with_reducible exact LeO.refl _)
   | (with_reducible exact LeO.none _)
   | (with_reducible refine LeO.ite ?_ ?_)
   | (with_reducible refine LeO.bind ?_ (fun _ => ?_))
   | exact ih0 _ _ _ _ _ _
   | exact ih1 _ _ _ _ _ _ _ _ _
   | exact ih2 _ _ _ _ _ _ _ _ _
   | exact ih3 _ _ _ _ _ _ _ _ _ _ _ _ _ _
   | exact foundryref19_Meet.mono _ _ _ _ _ _
   | exact LeO.none _
   | refine LeO.ite ?_ ?_
   | refine LeO.bind ?_ (fun _ => ?_)
theorem foundryref20_done.mono : ∀ a0 a1 a2 a3 a4 a5 k, LeO (foundryref20_done.f k a0 a1 a2 a3 a4 a5) (foundryref20_done.f (k + 1) a0 a1 a2 a3 a4 a5) := by
 intro a0 a1 a2 a3 a4 a5 k
 obtain ⟨ih0, ih1, ih2, ih3⟩ := foundryref20_done.mono_l k
 exact ih0 a0 a1 a2 a3 a4 a5
def foundryref20_done.T14 : Bool × List (List Nat × List Nat) := (true, [([], []), ([], []), ([1], [1]), ([], []), ([], []), ([], []), ([], []), ([6], [6]), ([5, 7], [5, 7]), ([8], [8]), ([], []), ([10], [10]), ([0, 2, 3, 4, 9, 11], [0, 2, 3, 4, 9, 11]), ([12], [12]), ([13], [13]), ([13], [13]), ([13], [13]), ([14, 12, 0, 1, 2, 3, 4, 5, 6, 7, 8, 9, 10, 11, 12, 13, 14], [14])])
def foundryref20_done.B14 : List Nat := [0, 0, 2, 0, 0, 0, 0, 64, 224, 480, 0, 1024, 4095, 8191, 16383, 16383, 16383, 32767]
theorem foundryref20_done.tab14 : rtab .any (opsOf Try.f47 14) = foundryref20_done.T14 := by kernel_rfl
theorem foundryref20_done.bits14 : waitsOk foundryref20_done.T14.2 foundryref20_done.B14 = true := by kernel_rfl
def foundryref20_done.T22 : Bool × List (List Nat × List Nat) := (true, [([], []), ([], []), ([], []), ([1, 2], [1, 2]), ([3], [3]), ([], []), ([], []), ([5, 6], [5, 6]), ([7], [7]), ([8], [8]), ([0, 4, 9], [0, 4, 9]), ([10, 10, 0, 1, 2, 3, 4, 5, 6, 7, 8, 9, 10], [0, 10])])
def foundryref20_done.B22 : List Nat := [0, 0, 0, 6, 14, 0, 0, 96, 224, 480, 1023, 2047]
theorem foundryref20_done.tab22 : rtab .any (opsOf Try.f47 22) = foundryref20_done.T22 := by kernel_rfl
theorem foundryref20_done.bits22 : waitsOk foundryref20_done.T22.2 foundryref20_done.B22 = true := by kernel_rfl
def foundryref20_done.T24 : Bool × List (List Nat × List Nat) := (true, [([], []), ([], []), ([], []), ([2], [2]), ([], []), ([4], [4]), ([0, 1, 3, 5], [0, 1, 3, 5]), ([], []), ([], []), ([8], [8]), ([9], [9]), ([7, 10], [7, 10]), ([6, 6, 0, 1, 2, 3, 4, 5, 6], [6]), ([11, 12, 0, 1, 2, 3, 4, 5, 6, 7, 8, 9, 10, 11, 12], [11]), ([13, 0, 1, 2, 3, 4, 5, 6, 7, 8, 9, 10, 11, 12, 13], [])])
def foundryref20_done.B24 : List Nat := [0, 0, 0, 4, 0, 16, 63, 0, 0, 256, 768, 1920, 127, 8191, 16383]
theorem foundryref20_done.tab24 : rtab .any (opsOf Try.f47 24) = foundryref20_done.T24 := by kernel_rfl
theorem foundryref20_done.bits24 : waitsOk foundryref20_done.T24.2 foundryref20_done.B24 = true := by kernel_rfl
set_option maxHeartbeats 8000000 in
set_option maxRecDepth 100000 in
theorem foundryref20_done.calls (k : Nat) : ∀ (A0 : Option Addr) (c0 : Nat) (l0 : List (S46)) (a1 : Int) (A2 : Option Addr) (c2 : Nat) (l2 : List Bool) (P3_ : Nat → Prop) (A3 : Option Addr) (c3 : Nat) (l3 : List Int) (a4 : Int) (a5 : Int) (r1 : List Int) (r2 : Int) (r3 : Bool) (w : World) (hr0 : Kd.C k46 w A0 l0.length l0) (hc0 : l0.length ≤ c0) (hr2 : Kd.C Kd.bool w A2 l2.length l2) (hc2 : l2.length ≤ c2) (hs3 : Kd.V (Kd.int .i64) 3 w w.heap.size (fun k_ => P3_ k_) (.slice A3 l3.length c3) l3) (h : foundryref20_done.f k l0 a1 l2 l3 a4 a5 = some (r1, r2, r3)),
  Calls Try.prog 47 #[.slice A0 l0.length c0, .int .i64 a1, .slice A2 l2.length c2, .slice A3 l3.length c3, .int .i64 a4, .int .i64 a5] w fun e w' => ∃ v0_ : Value, e = .returned (.tuple #[v0_, .int .i64 r2, .bool r3]) ∧ Kd.V (Kd.int .i64) 3 w' w.heap.size (fun k_ => (P3_ k_ ∨ w.heap.size ≤ k_)) v0_ r1 ∧ Below w.heap.size w w' := by
 induction k using Nat.strongRecOn with
 | _ k ih =>
 intro A0 c0 l0 a1 A2 c2 l2 P3_ A3 c3 l3 a4 a5 r1 r2 r3 w hr0 hc0 hr2 hc2 hs3 h
 cases k with
 | zero => exact absurd h (by simp [foundryref20_done.f])
 | succ k =>
 simp only [foundryref20_done.f] at h
 have hu46 := Try.underlying46
 have hu43 := Try.underlying43
 have HR0 := Aside0.mk hr0
 have HC0 := Aside0.mk hc0
 clear hr0 hc0
 have HR2 := Aside0.mk hr2
 have HC2 := Aside0.mk hc2
 clear hr2 hc2
 have HO3 := Aside0.mk (show Kd.V (Kd.int .i64) 3 w w.heap.size (fun k_ => (P3_ k_ ∨ w.heap.size ≤ k_)) (.slice A3 l3.length c3) l3 from Kd.V_mono hs3 (fun k_ hk => .inl hk))
 have HB := Aside0.mk (Below.refl w.heap.size w)
 have H : (if 0 ≤ a1 then (if a1 < (l0.length : Int) then (if (rd_T46 l0 a1).f1 = true then (if 0 ≤ a4 then (if a4 < (l3.length : Int) then ((foundryref19_Mark.f l2 (rd l3 a4)).bind fun t494 => (foundryref20_done.j0 k l0 l2 l3 a4 a5 t494 ((rd_T46 l0 a1).f0) ((rd_T46 l0 a1).f1) ((rd_T46 l0 a1).f2))) else (none)) else (none)) else (foundryref20_done.j0 k l0 l2 l3 a4 a5 false ((rd_T46 l0 a1).f0) ((rd_T46 l0 a1).f1) ((rd_T46 l0 a1).f2))) else (none)) else (none)) = some (r1, r2, r3) := h
 clear h
 by_cases c7 : 0 ≤ a1
 ·rw [if_pos c7] at H
  have c7b0 : decide (0 ≤ a1) = true := decide_eq_true c7
  clear c7
  by_cases c8 : a1 < (l0.length : Int)
  ·rw [if_pos c8] at H
   have c8b0 : decide (a1 < (l0.length : Int)) = true := decide_eq_true c8
   clear c8
   have HC9 := Aside0.mk H
   clear H
   have p491 : 0 ≤ (a1 : Int) := of_decide_eq_true (by first | (with_reducible assumption) | assumption)
   have q491 : a1 < (l0.length : Int) := of_decide_eq_true (by first | (with_reducible assumption) | assumption)
   obtain ⟨ad491, A491_2, c491_2, e491, hx491_0, hx491_1, hx491_2, hl491_2, hi491_2⟩ := at_T46 HR0.out a1 p491 q491
   cases e491
   have HR491_2 := Aside0.mk hi491_2
   have HC491_2 := Aside0.mk hl491_2
   clear hi491_2 hl491_2
   replace p491 := eq_true p491
   replace q491 := eq_true q491
   go_enter Try.func47, Try.ntmps47
   go_upto_region 2 with (first | ((with_reducible refine gate_dst (N := 15) rfl ?_); refine box_event ?hg (N := 15) ?hd (cs := #[.int .i64 0, .bool false, .slice none 0 0]) (t := 46) ?hr ?_; (case hd => rfl); (case hg => rfl); (case hr => first | (go_simp; done) | (go_simp; rfl)); intro gb492 hg w10 hbox hb; have n0_ := Aside0.mk (Kd.V_below (Kd.V_elderB (by (with_reducible repeat (first | apply Kd.V_alloc | apply Kd.V_drewN | apply Kd.V_drew)); exact HO3.out) gb492 (Nat.le_of_eq hg.symm)) hb); have n1_ := Aside0.mk (below_step (by repeat (first | (with_reducible first | exact HB.out | apply below_alloc | apply pw_below_drewN | apply below_drew1) | exact HB.out)) hb); have n2_ := Aside0.mk (hbox); have n3_ := Aside0.mk ((by rw [hg]; exact (below_size (by repeat (first | (with_reducible first | exact HB.out | apply below_alloc | apply pw_below_drewN | apply below_drew1) | exact HB.out))) : w.heap.size ≤ gb492)); have n4_ := Aside0.mk ((by rw [hg]; exact (below_size (by repeat (first | (with_reducible first | exact HB.out | apply below_alloc | apply pw_below_drewN | apply below_drew1) | exact HB.out))) : w.heap.size ≤ gb492)); clear HO3; clear HB; have HO3 := n0_; have HB := n1_; have BK492 := n2_; have GW492 := n3_; have GE492 := n4_; clear n0_ n1_ n2_ n3_ n4_; clear hb hbox hg; have hcz11_0 : w10.cell? ⟨gb492, 0, none⟩ = some (.int .i64 0) := (blk_cell BK492.out 0).trans rfl; have hcz11_1 : w10.cell? ⟨gb492, 1, none⟩ = some (.bool false) := (blk_cell BK492.out 1).trans rfl; have hcz11_2 : w10.cell? ⟨gb492, 2, none⟩ = some (.slice none 0 0) := (blk_cell BK492.out 2).trans rfl; have hfz11_0 := blk_frozen BK492.out 0; have hfz11_1 := blk_frozen BK492.out 1; have hfz11_2 := blk_frozen BK492.out 2))
   (try simp only [Act.put, List.setIfInBounds_toArray, List.set_cons_zero, List.set_cons_succ])
   go_cut [37] (fun v37 wc => ∃ (kq : Nat) (x37_8 : Bool), v37 = .bool x37_8 ∧ Aside0 (foundryref20_done.j0 kq l0 l2 l3 a4 a5 x37_8 ((rd_T46 l0 a1).f0) ((rd_T46 l0 a1).f1) ((rd_T46 l0 a1).f2) = some (r1, r2, r3)) ∧ Aside0 (kq ≤ k) ∧ Aside0 (Kd.V (Kd.int .i64) 3 wc w.heap.size (fun k_ => (P3_ k_ ∨ w.heap.size ≤ k_) ∧ k_ ≠ gb492) (.slice A3 l3.length c3) l3) ∧ Aside0 (wc.heap[gb492]? = some (.cells #[.int .i64 ((rd_T46 l0 a1).f0), .bool ((rd_T46 l0 a1).f1), (.slice A491_2 ((rd_T46 l0 a1).f2).length c491_2)] 46 (0, 0))) ∧ Aside0 (Below w.heap.size w wc))
   case first =>
    have H := HC9.out
    clear HC9
    obtain ⟨bq12, hbq12⟩ : ∃ b_ : Bool, b_ = ((rd_T46 l0 a1).f1) := ⟨_, rfl⟩
    replace H : (if bq12 = true then (if 0 ≤ a4 then (if a4 < (l3.length : Int) then ((foundryref19_Mark.f l2 (rd l3 a4)).bind fun t494 => (foundryref20_done.j0 k l0 l2 l3 a4 a5 t494 ((rd_T46 l0 a1).f0) bq12 ((rd_T46 l0 a1).f2))) else (none)) else (none)) else (foundryref20_done.j0 k l0 l2 l3 a4 a5 false ((rd_T46 l0 a1).f0) bq12 ((rd_T46 l0 a1).f2))) = some (r1, r2, r3) := by rw [← hbq12] at H; exact H
    have Nbq12 := Aside0.mk hbq12
    clear hbq12
    (try rw [← Nbq12.out])
    by_cases c13 : bq12 = true
    ·subst c13
     have H1 : (if 0 ≤ a4 then (if a4 < (l3.length : Int) then ((foundryref19_Mark.f l2 (rd l3 a4)).bind fun t494 => (foundryref20_done.j0 k l0 l2 l3 a4 a5 t494 ((rd_T46 l0 a1).f0) true ((rd_T46 l0 a1).f2))) else (none)) else (none)) = some (r1, r2, r3) := by rw [if_pos rfl] at H; exact H
     clear H
     have H := H1
     clear H1
     by_cases c14 : 0 ≤ a4
     ·rw [if_pos c14] at H
      have c14b0 : decide (0 ≤ a4) = true := decide_eq_true c14
      clear c14
      by_cases c15 : a4 < (l3.length : Int)
      ·rw [if_pos c15] at H
       have c15b0 : decide (a4 < (l3.length : Int)) = true := decide_eq_true c15
       clear c15
       replace H := Option.bind_eq_some_iff.mp H
       obtain ⟨t494, A160, H⟩ := H
       replace H : (foundryref20_done.j0 k l0 l2 l3 a4 a5 t494 ((rd_T46 l0 a1).f0) true ((rd_T46 l0 a1).f2)) = some (r1, r2, r3) := H
       have A16 := Aside0.mk A160
       clear A160
       have H' := Aside0.mk H
       clear H
       have hcz17_0 : w10.cell? ⟨gb492, 0, none⟩ = some (.int .i64 0) := (blk_cell BK492.out 0).trans rfl
       have hcz17_1 : w10.cell? ⟨gb492, 1, none⟩ = some (.bool false) := (blk_cell BK492.out 1).trans rfl
       have hcz17_2 : w10.cell? ⟨gb492, 2, none⟩ = some (.slice none 0 0) := (blk_cell BK492.out 2).trans rfl
       have hfz17_0 := blk_frozen BK492.out 0
       have hfz17_1 := blk_frozen BK492.out 1
       have hfz17_2 := blk_frozen BK492.out 2
       have p493 : 0 ≤ (a4 : Int) := of_decide_eq_true (by first | (with_reducible assumption) | assumption)
       have q493 : a4 < (l3.length : Int) := of_decide_eq_true (by first | (with_reducible assumption) | assumption)
       obtain ⟨ad493, e493, hx493_0⟩ := Kd.at_int (Kd.V_reads' HO3.out).2.2 a4 p493 q493
       cases e493
       have hn493_0 : ad493.block ≠ gb492 := Kd.foot_ne (Kd.C_foot_ownV HO3.out (fun k_ hk => hk.2)) (by omega) (by decide)
       have hn493_1 : ad493.block ≠ gb492 := Kd.foot_ne (Kd.C_foot_ownV HO3.out (fun k_ hk => hk.2)) (by omega) (by decide)
       have hn493_2 : ad493.block ≠ gb492 := Kd.foot_ne (Kd.C_foot_ownV HO3.out (fun k_ hk => hk.2)) (by omega) (by decide)
       replace hx493_0 := (cell_far (p := ⟨gb492, 0, none⟩) (by first | (rw [add_block]; exact hn493_0) | (show (Addr.add _ _).block ≠ _; rw [add_block]; exact hn493_0) | exact hn493_0) (.int .i64 ((rd_T46 l0 a1).f0))).trans hx493_0
       replace hx493_0 := (cell_far (p := ⟨gb492, 1, none⟩) (by first | (rw [add_block]; exact hn493_1) | (show (Addr.add _ _).block ≠ _; rw [add_block]; exact hn493_1) | exact hn493_1) (.bool (true))).trans hx493_0
       replace hx493_0 := (cell_far (p := ⟨gb492, 2, none⟩) (by first | (rw [add_block]; exact hn493_2) | (show (Addr.add _ _).block ≠ _; rw [add_block]; exact hn493_2) | exact hn493_2) (.slice A491_2 ((rd_T46 l0 a1).f2).length c491_2)).trans hx493_0
       clear hn493_0
       clear hn493_1
       clear hn493_2
       replace p493 := eq_true p493
       replace q493 := eq_true q493
       go_wp2_with (first | (go_at_call 21; (with_reducible refine (foundryref19_Mark.calls _ _ l2 (rd l3 a4) t494 _ ?side1 ?side2 A16.out).mono ?_); (case side1 => exact Kd.C_below HR2.out (by repeat (first | (with_reducible first | exact HB.out | apply below_alloc | apply pw_below_drewN | apply below_drew1 | refine below_set ?_ GE492.out) | exact HB.out))); (case side2 => exact HC2.out); rintro e w' ⟨rfl, ⟨nd, rfl⟩⟩))
       go_meet
       case rel => (try rw [← Nbq12.out]); exact ⟨_, (t494), (by first | rfl | (simp; done) | (simp [*]; done)), H', ⟨by first | omega | exact Nat.le_refl _⟩, ⟨by (with_reducible repeat (first | apply Kd.V_alloc | apply Kd.V_drewN | apply Kd.V_drew)); exact Kd.V_mono (Kd.V_far (p := ⟨gb492, 2, none⟩) (Kd.V_far (p := ⟨gb492, 1, none⟩) (Kd.V_far (p := ⟨gb492, 0, none⟩) (Kd.V_mono HO3.out (fun k_ hk => (⟨hk, hk.2⟩ : _ ∧ k_ ≠ gb492))) (fun _ hk => hk.2) (.int .i64 ((rd_T46 l0 a1).f0))) (fun _ hk => hk.2) (.bool (true))) (fun _ hk => hk.2) (.slice A491_2 ((rd_T46 l0 a1).f2).length c491_2)) (fun _ hk => ⟨hk.1.1, hk.1.2⟩)⟩, ⟨by (with_reducible repeat (first | refine blk_drewN ?_ _ | refine blk_drew ?_ | refine blk_alloc ?_ _)); refine blk_put (cs := #[.int .i64 ((rd_T46 l0 a1).f0), .bool (true), .slice none 0 0]) ?_ 2 _ rfl; (with_reducible repeat (first | refine blk_drewN ?_ _ | refine blk_drew ?_ | refine blk_alloc ?_ _)); refine blk_put (cs := #[.int .i64 ((rd_T46 l0 a1).f0), .bool false, .slice none 0 0]) ?_ 1 _ rfl; (with_reducible repeat (first | refine blk_drewN ?_ _ | refine blk_drew ?_ | refine blk_alloc ?_ _)); refine blk_put (cs := #[.int .i64 0, .bool false, .slice none 0 0]) ?_ 0 _ rfl; (with_reducible repeat (first | refine blk_drewN ?_ _ | refine blk_drew ?_ | refine blk_alloc ?_ _)); exact BK492.out⟩, ⟨by repeat (first | (with_reducible first | exact HB.out | apply below_alloc | apply pw_below_drewN | apply below_drew1 | refine below_set ?_ GE492.out) | exact HB.out)⟩⟩
      ·rw [if_neg c15] at H
       exact absurd H (by simp)
     ·rw [if_neg c14] at H
      exact absurd H (by simp)
    ·replace c13 := Bool.eq_false_iff.mpr c13
     subst c13
     have H1 : (foundryref20_done.j0 k l0 l2 l3 a4 a5 false ((rd_T46 l0 a1).f0) false ((rd_T46 l0 a1).f2)) = some (r1, r2, r3) := by rw [if_neg (show ¬ (false = true) by decide)] at H; exact H
     clear H
     have H := H1
     clear H1
     have H' := Aside0.mk H
     clear H
     have hcz18_0 : w10.cell? ⟨gb492, 0, none⟩ = some (.int .i64 0) := (blk_cell BK492.out 0).trans rfl
     have hcz18_1 : w10.cell? ⟨gb492, 1, none⟩ = some (.bool false) := (blk_cell BK492.out 1).trans rfl
     have hcz18_2 : w10.cell? ⟨gb492, 2, none⟩ = some (.slice none 0 0) := (blk_cell BK492.out 2).trans rfl
     have hfz18_0 := blk_frozen BK492.out 0
     have hfz18_1 := blk_frozen BK492.out 1
     have hfz18_2 := blk_frozen BK492.out 2
     go_wp2
     go_meet
     case rel => (try rw [← Nbq12.out]); exact ⟨_, (false), (by first | rfl | (simp; done) | (simp [*]; done)), H', ⟨by first | omega | exact Nat.le_refl _⟩, ⟨by (with_reducible repeat (first | apply Kd.V_alloc | apply Kd.V_drewN | apply Kd.V_drew)); exact Kd.V_mono (Kd.V_far (p := ⟨gb492, 2, none⟩) (Kd.V_far (p := ⟨gb492, 1, none⟩) (Kd.V_far (p := ⟨gb492, 0, none⟩) (Kd.V_mono HO3.out (fun k_ hk => (⟨hk, hk.2⟩ : _ ∧ k_ ≠ gb492))) (fun _ hk => hk.2) (.int .i64 ((rd_T46 l0 a1).f0))) (fun _ hk => hk.2) (.bool (false))) (fun _ hk => hk.2) (.slice A491_2 ((rd_T46 l0 a1).f2).length c491_2)) (fun _ hk => ⟨hk.1.1, hk.1.2⟩)⟩, ⟨by (with_reducible repeat (first | refine blk_drewN ?_ _ | refine blk_drew ?_ | refine blk_alloc ?_ _)); refine blk_put (cs := #[.int .i64 ((rd_T46 l0 a1).f0), .bool (false), .slice none 0 0]) ?_ 2 _ rfl; (with_reducible repeat (first | refine blk_drewN ?_ _ | refine blk_drew ?_ | refine blk_alloc ?_ _)); refine blk_put (cs := #[.int .i64 ((rd_T46 l0 a1).f0), .bool false, .slice none 0 0]) ?_ 1 _ rfl; (with_reducible repeat (first | refine blk_drewN ?_ _ | refine blk_drew ?_ | refine blk_alloc ?_ _)); refine blk_put (cs := #[.int .i64 0, .bool false, .slice none 0 0]) ?_ 0 _ rfl; (with_reducible repeat (first | refine blk_drewN ?_ _ | refine blk_drew ?_ | refine blk_alloc ?_ _)); exact BK492.out⟩, ⟨by repeat (first | (with_reducible first | exact HB.out | apply below_alloc | apply pw_below_drewN | apply below_drew1 | refine below_set ?_ GE492.out) | exact HB.out)⟩⟩
   case rest =>
    clear HC9
    try clear c1
    try clear q1
    try clear c2
    try clear p2
    try clear c3
    try clear c4
    try clear p4
    try clear q4
    try clear hx4
    try clear c7
    try clear c7b0
    try clear c8
    try clear c8b0
    try clear q12
    try clear c13
    try clear c14
    try clear c14b0
    try clear c15
    try clear c15b0
    try clear hcz11_0
    try clear hcz11_1
    try clear hcz11_2
    try clear hcz17_0
    try clear hcz17_1
    try clear hcz17_2
    try clear hcz18_0
    try clear hcz18_1
    try clear hcz18_2
    try clear hfz11_0
    try clear hfz11_1
    try clear hfz11_2
    try clear hfz17_0
    try clear hfz17_1
    try clear hfz17_2
    try clear hfz18_0
    try clear hfz18_1
    try clear hfz18_2
    try clear hx491_0
    try clear hx491_1
    try clear hx491_2
    try clear hx493_0
    try clear p491
    try clear p493
    try clear q491
    try clear q493
    obtain ⟨kq, x37_8, rfl, HA, HJ8, HO_3, BK492, HB⟩ := hcut
    cases kq with
    | zero => exact absurd HA.out (by simp [foundryref20_done.j0])
    | succ kj8 =>
     have H := HA.out
     clear HA
     simp only [foundryref20_done.j0] at H
     by_cases c19 : x37_8 = true
     ·subst c19
      have H1 : (some (l3, a4, false)) = some (r1, r2, r3) := by rw [if_pos rfl] at H; exact H
      clear H
      have H := H1
      clear H1
      simp only [Option.some.injEq, Prod.mk.injEq] at H
      obtain ⟨rfl, rfl, rfl⟩ := H
      go_wp2
      go_ret3
      exact ⟨_, by first | rfl | (simp [errW_none, errW_some] <;> rfl) | (simp [*, errW_none, errW_some] <;> rfl), by (with_reducible repeat (first | apply Kd.V_alloc | apply Kd.V_drewN | apply Kd.V_drew)); exact Kd.V_mono HO_3.out (fun _ hk => hk.1), by repeat (first | (with_reducible first | exact HB.out | apply below_alloc | apply pw_below_drewN | apply below_drew1 | refine below_set ?_ GE492.out) | exact HB.out)⟩
     ·replace c19 := Bool.eq_false_iff.mpr c19
      subst c19
      have H1 : (foundryref20_done.l0 kj8 l0 l2 l3 a4 a5 0 ((rd_T46 l0 a1).f0) ((rd_T46 l0 a1).f1) ((rd_T46 l0 a1).f2)) = some (r1, r2, r3) := by rw [if_neg (show ¬ (false = true) by decide)] at H; exact H
      clear H
      have H := H1
      clear H1
      have H' := Aside0.mk H
      clear H
      go_wp2
      go_loopg [16] kj8 (fun kq v16 w' => ∃ (x16_2 : Int), v16 = .int .i64 x16_2 ∧ Aside0 (foundryref20_done.l0 kq l0 l2 l3 a4 a5 x16_2 ((rd_T46 l0 a1).f0) ((rd_T46 l0 a1).f1) ((rd_T46 l0 a1).f2) = some (r1, r2, r3)) ∧ Aside0 (kq ≤ kj8) ∧ Aside0 (Kd.V (Kd.int .i64) 3 w' w.heap.size (fun k_ => (P3_ k_ ∨ w.heap.size ≤ k_) ∧ k_ ≠ gb492) (.slice A3 l3.length c3) l3) ∧ Aside0 (w'.heap[gb492]? = some (.cells #[.int .i64 ((rd_T46 l0 a1).f0), .bool ((rd_T46 l0 a1).f1), (.slice A491_2 ((rd_T46 l0 a1).f2).length c491_2)] 46 (0, 0))) ∧ Aside0 (Below w.heap.size w w'))
      case atStart => exact ⟨(0), (by first | rfl | (simp; done) | (simp [*]; done)), H', ⟨Nat.le_refl _⟩, ⟨by (with_reducible repeat (first | apply Kd.V_alloc | apply Kd.V_drewN | apply Kd.V_drew)); exact HO_3.out⟩, ⟨by (with_reducible repeat (first | refine blk_drewN ?_ _ | refine blk_drew ?_ | refine blk_alloc ?_ _)); exact BK492.out⟩, ⟨by repeat (first | (with_reducible first | exact HB.out | apply below_alloc | apply pw_below_drewN | apply below_drew1 | refine below_set ?_ GE492.out) | exact HB.out)⟩⟩
      case round =>
       clear H'
       try clear c1
       try clear q1
       try clear c2
       try clear p2
       try clear c3
       try clear c4
       try clear p4
       try clear q4
       try clear hx4
       try clear c7
       try clear c7b0
       try clear c8
       try clear c8b0
       try clear q12
       try clear c13
       try clear c14
       try clear c14b0
       try clear c15
       try clear c15b0
       try clear c19
       try clear hcz11_0
       try clear hcz11_1
       try clear hcz11_2
       try clear hcz17_0
       try clear hcz17_1
       try clear hcz17_2
       try clear hcz18_0
       try clear hcz18_1
       try clear hcz18_2
       try clear hfz11_0
       try clear hfz11_1
       try clear hfz11_2
       try clear hfz17_0
       try clear hfz17_1
       try clear hfz17_2
       try clear hfz18_0
       try clear hfz18_1
       try clear hfz18_2
       try clear hx491_0
       try clear hx491_1
       try clear hx491_2
       try clear hx493_0
       try clear p2
       try clear p4
       try clear p491
       try clear p493
       try clear q1
       try clear q12
       try clear q4
       try clear q491
       try clear q493
       obtain ⟨x16_2, rfl, HA, HK2, HO_3, BK492, HB⟩ := hrel
       cases gk with
       | zero => exact absurd HA.out (by simp [foundryref20_done.l0])
       | succ k2 =>
        have H := HA.out
        clear HA
        simp only [foundryref20_done.l0] at H
        by_cases c20 : x16_2 < (((rd_T46 l0 a1).f2).length : Int)
        ·rw [if_pos c20] at H
         have c20b0 : decide (x16_2 < (((rd_T46 l0 a1).f2).length : Int)) = true := decide_eq_true c20
         clear c20
         by_cases c21 : 0 ≤ x16_2
         ·rw [if_pos c21] at H
          have c21b0 : decide (0 ≤ x16_2) = true := decide_eq_true c21
          clear c21
          replace H := Option.bind_eq_some_iff.mp H
          obtain ⟨⟨t497, t498⟩, A220, H⟩ := H
          replace H : (if t498 = true then (if ((rd_T46 l0 a1).f0) = 4 then (if a5 < 8 then (if 0 ≤ ((rd_T43 ((rd_T46 l0 a1).f2) x16_2).f2) then (if ((rd_T43 ((rd_T46 l0 a1).f2) x16_2).f2) < (t497.length : Int) then ((foundryref20_done.f k2 l0 ((rd_T43 ((rd_T46 l0 a1).f2) x16_2).f3) l2 l3 (rd t497 ((rd_T43 ((rd_T46 l0 a1).f2) x16_2).f2)) (wrap64 (a5 + 1))).bind fun bt502 => (if 0 ≤ (wrap64 ((t497.length : Int) - 1)) then (if (wrap64 ((t497.length : Int) - 1)) < (t497.length : Int) then (some (bt502.1, mx (wrap64 ((wrap64 ((wrap64 ((rd t497 (wrap64 ((t497.length : Int) - 1))) + 1)) + (bt502.1.length : Int))) - (l3.length : Int))) a4, true)) else (none)) else (none))) else (none)) else (none)) else (if 0 ≤ (wrap64 ((t497.length : Int) - 1)) then (if (wrap64 ((t497.length : Int) - 1)) < (t497.length : Int) then (some (l3, mx (wrap64 ((wrap64 ((wrap64 ((rd t497 (wrap64 ((t497.length : Int) - 1))) + 1)) + (l3.length : Int))) - (l3.length : Int))) a4, true)) else (none)) else (none))) else (if ((rd_T46 l0 a1).f0) = 3 then (foundryref20_done.l1 k2 a4 t497 l3 (wrap64 ((t497.length : Int) - 1)) ((rd_T43 ((rd_T46 l0 a1).f2) x16_2).f0) ((rd_T43 ((rd_T46 l0 a1).f2) x16_2).f1) ((rd_T43 ((rd_T46 l0 a1).f2) x16_2).f2) ((rd_T43 ((rd_T46 l0 a1).f2) x16_2).f3) ((rd_T43 ((rd_T46 l0 a1).f2) x16_2).f4.f0) ((rd_T43 ((rd_T46 l0 a1).f2) x16_2).f4.f1) ((rd_T43 ((rd_T46 l0 a1).f2) x16_2).f5.f0) ((rd_T43 ((rd_T46 l0 a1).f2) x16_2).f5.f1) ((rd_T43 ((rd_T46 l0 a1).f2) x16_2).f6.f0) ((rd_T43 ((rd_T46 l0 a1).f2) x16_2).f6.f1)) else ((foundryref19_Put.f l3 a4 (wrap64 (a4 + 1)) ((rd_T43 ((rd_T46 l0 a1).f2) x16_2).f1)).bind fun t517 => (some (t517, wrap64 (a4 + (((rd_T43 ((rd_T46 l0 a1).f2) x16_2).f1).length : Int)), true))))) else (foundryref20_done.l0 k2 l0 l2 l3 a4 a5 (wrap64 (x16_2 + 1)) ((rd_T46 l0 a1).f0) ((rd_T46 l0 a1).f1) ((rd_T46 l0 a1).f2))) = some (r1, r2, r3) := H
          have A22 := Aside0.mk A220
          clear A220
          by_cases c23 : t498 = true
          ·subst c23
           have H1 : (if ((rd_T46 l0 a1).f0) = 4 then (if a5 < 8 then (if 0 ≤ ((rd_T43 ((rd_T46 l0 a1).f2) x16_2).f2) then (if ((rd_T43 ((rd_T46 l0 a1).f2) x16_2).f2) < (t497.length : Int) then ((foundryref20_done.f k2 l0 ((rd_T43 ((rd_T46 l0 a1).f2) x16_2).f3) l2 l3 (rd t497 ((rd_T43 ((rd_T46 l0 a1).f2) x16_2).f2)) (wrap64 (a5 + 1))).bind fun bt502 => (if 0 ≤ (wrap64 ((t497.length : Int) - 1)) then (if (wrap64 ((t497.length : Int) - 1)) < (t497.length : Int) then (some (bt502.1, mx (wrap64 ((wrap64 ((wrap64 ((rd t497 (wrap64 ((t497.length : Int) - 1))) + 1)) + (bt502.1.length : Int))) - (l3.length : Int))) a4, true)) else (none)) else (none))) else (none)) else (none)) else (if 0 ≤ (wrap64 ((t497.length : Int) - 1)) then (if (wrap64 ((t497.length : Int) - 1)) < (t497.length : Int) then (some (l3, mx (wrap64 ((wrap64 ((wrap64 ((rd t497 (wrap64 ((t497.length : Int) - 1))) + 1)) + (l3.length : Int))) - (l3.length : Int))) a4, true)) else (none)) else (none))) else (if ((rd_T46 l0 a1).f0) = 3 then (foundryref20_done.l1 k2 a4 t497 l3 (wrap64 ((t497.length : Int) - 1)) ((rd_T43 ((rd_T46 l0 a1).f2) x16_2).f0) ((rd_T43 ((rd_T46 l0 a1).f2) x16_2).f1) ((rd_T43 ((rd_T46 l0 a1).f2) x16_2).f2) ((rd_T43 ((rd_T46 l0 a1).f2) x16_2).f3) ((rd_T43 ((rd_T46 l0 a1).f2) x16_2).f4.f0) ((rd_T43 ((rd_T46 l0 a1).f2) x16_2).f4.f1) ((rd_T43 ((rd_T46 l0 a1).f2) x16_2).f5.f0) ((rd_T43 ((rd_T46 l0 a1).f2) x16_2).f5.f1) ((rd_T43 ((rd_T46 l0 a1).f2) x16_2).f6.f0) ((rd_T43 ((rd_T46 l0 a1).f2) x16_2).f6.f1)) else ((foundryref19_Put.f l3 a4 (wrap64 (a4 + 1)) ((rd_T43 ((rd_T46 l0 a1).f2) x16_2).f1)).bind fun t517 => (some (t517, wrap64 (a4 + (((rd_T43 ((rd_T46 l0 a1).f2) x16_2).f1).length : Int)), true))))) = some (r1, r2, r3) := by rw [if_pos rfl] at H; exact H
           clear H
           have H := H1
           clear H1
           by_cases c24 : ((rd_T46 l0 a1).f0) = 4
           ·rw [if_pos c24] at H
            have c24b0 : (((rd_T46 l0 a1).f0) == 4) = true := beq_iff_eq.mpr c24
            have c24b1 : (((rd_T46 l0 a1).f0) != 4) = false := bne_eq_false_iff_eq.mpr c24
            clear c24
            by_cases c25 : a5 < 8
            ·rw [if_pos c25] at H
             have c25b0 : decide (a5 < 8) = true := decide_eq_true c25
             clear c25
             by_cases c26 : 0 ≤ ((rd_T43 ((rd_T46 l0 a1).f2) x16_2).f2)
             ·rw [if_pos c26] at H
              have c26b0 : decide (0 ≤ ((rd_T43 ((rd_T46 l0 a1).f2) x16_2).f2)) = true := decide_eq_true c26
              clear c26
              by_cases c27 : ((rd_T43 ((rd_T46 l0 a1).f2) x16_2).f2) < (t497.length : Int)
              ·rw [if_pos c27] at H
               have c27b0 : decide (((rd_T43 ((rd_T46 l0 a1).f2) x16_2).f2) < (t497.length : Int)) = true := decide_eq_true c27
               clear c27
               replace H := Option.bind_eq_some_iff.mp H
               obtain ⟨⟨t502, t505, t506⟩, A280, H⟩ := H
               replace H : (if 0 ≤ (wrap64 ((t497.length : Int) - 1)) then (if (wrap64 ((t497.length : Int) - 1)) < (t497.length : Int) then (some (t502, mx (wrap64 ((wrap64 ((wrap64 ((rd t497 (wrap64 ((t497.length : Int) - 1))) + 1)) + (t502.length : Int))) - (l3.length : Int))) a4, true)) else (none)) else (none)) = some (r1, r2, r3) := H
               have A28 := Aside0.mk A280
               clear A280
               obtain ⟨ji29, hji29⟩ : ∃ j_ : Int, (wrap64 ((t497.length : Int) - 1)) = j_ := ⟨_, rfl⟩
               replace H : (if 0 ≤ (ji29) then (if (ji29) < (t497.length : Int) then (some (t502, mx (wrap64 ((wrap64 ((wrap64 ((rd t497 (ji29)) + 1)) + (t502.length : Int))) - (l3.length : Int))) a4, true)) else (none)) else (none)) = some (r1, r2, r3) := by first | (rw [hji29] at H; exact H) | (simp only [hji29] at H ⊢; exact H)
               (try rw [hji29] at A22)
               (try rw [hji29] at A28)
               have hji29w : (IntKind.i64.wrap ((t497.length : Int) - 1)) = ji29 := (i64_w _).trans hji29
               by_cases c30 : 0 ≤ (ji29)
               ·rw [if_pos c30] at H
                have c30b0 : decide (0 ≤ (ji29)) = true := decide_eq_true c30
                clear c30
                by_cases c31 : (ji29) < (t497.length : Int)
                ·rw [if_pos c31] at H
                 have c31b0 : decide ((ji29) < (t497.length : Int)) = true := decide_eq_true c31
                 clear c31
                 obtain ⟨ji32, hji32⟩ : ∃ j_ : Int, (mx (wrap64 ((wrap64 ((wrap64 ((rd t497 (ji29)) + 1)) + (t502.length : Int))) - (l3.length : Int))) a4) = j_ := ⟨_, rfl⟩
                 replace H : (some (t502, ji32, true)) = some (r1, r2, r3) := by first | (rw [hji32] at H; exact H) | (simp only [hji32] at H ⊢; exact H)
                 (try rw [hji32] at A22)
                 (try rw [hji32] at A28)
                 have hji32_ : (if (wrap64 ((wrap64 ((wrap64 ((rd t497 (ji29)) + 1)) + (t502.length : Int))) - (l3.length : Int))) < a4 then a4 else (wrap64 ((wrap64 ((wrap64 ((rd t497 (ji29)) + 1)) + (t502.length : Int))) - (l3.length : Int)))) = ji32 := hji32
                 (try (have hji32_n := hji32_; simp only [Int.ofNat_lt] at hji32_n))
                 simp only [Option.some.injEq, Prod.mk.injEq] at H
                 obtain ⟨rfl, rfl, rfl⟩ := H
                 have hcz33_0 : wr.cell? ⟨gb492, 0, none⟩ = some (.int .i64 ((rd_T46 l0 a1).f0)) := (blk_cell BK492.out 0).trans rfl
                 have hcz33_1 : wr.cell? ⟨gb492, 1, none⟩ = some (.bool ((rd_T46 l0 a1).f1)) := (blk_cell BK492.out 1).trans rfl
                 have hcz33_2 : wr.cell? ⟨gb492, 2, none⟩ = some (.slice A491_2 ((rd_T46 l0 a1).f2).length c491_2) := (blk_cell BK492.out 2).trans rfl
                 have hfz33_0 := blk_frozen BK492.out 0
                 have hfz33_1 := blk_frozen BK492.out 1
                 have hfz33_2 := blk_frozen BK492.out 2
                 have p495 : 0 ≤ (x16_2 : Int) := of_decide_eq_true (by first | (with_reducible assumption) | assumption)
                 have q495 : x16_2 < (((rd_T46 l0 a1).f2).length : Int) := of_decide_eq_true (by first | (with_reducible assumption) | assumption)
                 obtain ⟨ad495, A495_0, c495_0, A495_1, c495_1, e495, hx495_0, hx495_1, hx495_2, hx495_3, hx495_4, hx495_5, hx495_6, hx495_7, hx495_8, hx495_9, hl495_0, hi495_0, hl495_1, hi495_1⟩ := at_T43 HR491_2.out x16_2 p495 q495
                 cases e495
                 replace hx495_0 := (HB.out.cell (World.block_lt_of_cell? w _ hx495_0)).trans hx495_0
                 replace hx495_1 := (HB.out.cell (World.block_lt_of_cell? w _ hx495_1)).trans hx495_1
                 replace hx495_2 := (HB.out.cell (World.block_lt_of_cell? w _ hx495_2)).trans hx495_2
                 replace hx495_3 := (HB.out.cell (World.block_lt_of_cell? w _ hx495_3)).trans hx495_3
                 replace hx495_4 := (HB.out.cell (World.block_lt_of_cell? w _ hx495_4)).trans hx495_4
                 replace hx495_5 := (HB.out.cell (World.block_lt_of_cell? w _ hx495_5)).trans hx495_5
                 replace hx495_6 := (HB.out.cell (World.block_lt_of_cell? w _ hx495_6)).trans hx495_6
                 replace hx495_7 := (HB.out.cell (World.block_lt_of_cell? w _ hx495_7)).trans hx495_7
                 replace hx495_8 := (HB.out.cell (World.block_lt_of_cell? w _ hx495_8)).trans hx495_8
                 replace hx495_9 := (HB.out.cell (World.block_lt_of_cell? w _ hx495_9)).trans hx495_9
                 have HR495_0 := Aside0.mk hi495_0
                 have HC495_0 := Aside0.mk hl495_0
                 clear hi495_0 hl495_0
                 have HR495_1 := Aside0.mk hi495_1
                 have HC495_1 := Aside0.mk hl495_1
                 clear hi495_1 hl495_1
                 replace p495 := eq_true p495
                 replace q495 := eq_true q495
                 try go_wp2_with (first | ((with_reducible refine gate_dst (N := 17) rfl ?_); refine box_event ?hg (N := 17) ?hd (cs := #[.slice none 0 0, .slice none 0 0, .int .i64 0, .int .i64 0, .int .i64 0, .int .i64 0, .int .i64 0, .int .i64 0, .int .i64 0, .int .i64 0]) (t := 43) ?hr ?_; (case hd => rfl); (case hg => rfl); (case hr => first | (go_simp; done) | (go_simp; rfl)); intro gb496 hg w34 hbox hb; have n0_ := Aside0.mk (Kd.V_below (Kd.V_elderB (by (with_reducible repeat (first | apply Kd.V_alloc | apply Kd.V_drewN | apply Kd.V_drew)); exact HO_3.out) gb496 (Nat.le_of_eq hg.symm)) hb); have n1_ := Aside0.mk (blk_below (g := gb492) (o := .cells #[.int .i64 ((rd_T46 l0 a1).f0), .bool ((rd_T46 l0 a1).f1), .slice (some ad495) ((rd_T46 l0 a1).f2).length c491_2] 46 (0, 0)) (by (with_reducible repeat (first | refine blk_drewN ?_ _ | refine blk_drew ?_ | refine blk_alloc ?_ _)); exact BK492.out) hb); have n2_ := Aside0.mk (below_step (by repeat (first | (with_reducible first | exact HB.out | apply below_alloc | apply pw_below_drewN | apply below_drew1 | refine below_set ?_ GE492.out) | exact HB.out)) hb); have n3_ := Aside0.mk (hbox); have n4_ := Aside0.mk ((by rw [hg]; exact (below_size (by repeat (first | (with_reducible first | exact HB.out | apply below_alloc | apply pw_below_drewN | apply below_drew1 | refine below_set ?_ GE492.out) | exact HB.out))) : w.heap.size ≤ gb496)); have n5_ := Aside0.mk ((by rw [hg]; exact (below_size (by repeat (first | (with_reducible first | exact HB.out | apply below_alloc | apply pw_below_drewN | apply below_drew1 | refine below_set ?_ GE492.out) | exact HB.out))) : w.heap.size ≤ gb496)); have n6_ := Aside0.mk ((by rw [hg]; exact Nat.ne_of_lt (blk_lt (g := gb492) (o := .cells #[.int .i64 ((rd_T46 l0 a1).f0), .bool ((rd_T46 l0 a1).f1), .slice (some ad495) ((rd_T46 l0 a1).f2).length c491_2] 46 (0, 0)) (by (with_reducible repeat (first | refine blk_drewN ?_ _ | refine blk_drew ?_ | refine blk_alloc ?_ _)); exact BK492.out)) : gb492 ≠ gb496)); have n7_ := Aside0.mk ((by rw [hg]; exact Nat.ne_of_gt (blk_lt (g := gb492) (o := .cells #[.int .i64 ((rd_T46 l0 a1).f0), .bool ((rd_T46 l0 a1).f1), .slice (some ad495) ((rd_T46 l0 a1).f2).length c491_2] 46 (0, 0)) (by (with_reducible repeat (first | refine blk_drewN ?_ _ | refine blk_drew ?_ | refine blk_alloc ?_ _)); exact BK492.out)) : gb496 ≠ gb492)); clear HO_3; clear BK492; clear HB; have HO_3 := n0_; have BK492 := n1_; have HB := n2_; have BK496 := n3_; have GW496 := n4_; have GE496 := n5_; have NB492_496 := n6_; have NB496_492 := n7_; clear n0_ n1_ n2_ n3_ n4_ n5_ n6_ n7_; clear hb hbox hg; have hnb35 := NB496_492.out; have hnc35 := NB492_496.out; have hcz36_0 : w34.cell? ⟨gb496, 0, none⟩ = some (.slice none 0 0) := (blk_cell BK496.out 0).trans rfl; have hcz36_1 : w34.cell? ⟨gb496, 1, none⟩ = some (.slice none 0 0) := (blk_cell BK496.out 1).trans rfl; have hcz36_2 : w34.cell? ⟨gb496, 2, none⟩ = some (.int .i64 0) := (blk_cell BK496.out 2).trans rfl; have hcz36_3 : w34.cell? ⟨gb496, 3, none⟩ = some (.int .i64 0) := (blk_cell BK496.out 3).trans rfl; have hcz36_4 : w34.cell? ⟨gb496, 4, none⟩ = some (.int .i64 0) := (blk_cell BK496.out 4).trans rfl; have hcz36_5 : w34.cell? ⟨gb496, 5, none⟩ = some (.int .i64 0) := (blk_cell BK496.out 5).trans rfl; have hcz36_6 : w34.cell? ⟨gb496, 6, none⟩ = some (.int .i64 0) := (blk_cell BK496.out 6).trans rfl; have hcz36_7 : w34.cell? ⟨gb496, 7, none⟩ = some (.int .i64 0) := (blk_cell BK496.out 7).trans rfl; have hcz36_8 : w34.cell? ⟨gb496, 8, none⟩ = some (.int .i64 0) := (blk_cell BK496.out 8).trans rfl; have hcz36_9 : w34.cell? ⟨gb496, 9, none⟩ = some (.int .i64 0) := (blk_cell BK496.out 9).trans rfl; have hfz36_0 := blk_frozen BK496.out 0; have hfz36_1 := blk_frozen BK496.out 1; have hfz36_2 := blk_frozen BK496.out 2; have hfz36_3 := blk_frozen BK496.out 3; have hfz36_4 := blk_frozen BK496.out 4; have hfz36_5 := blk_frozen BK496.out 5; have hfz36_6 := blk_frozen BK496.out 6; have hfz36_7 := blk_frozen BK496.out 7; have hfz36_8 := blk_frozen BK496.out 8; have hfz36_9 := blk_frozen BK496.out 9; have hcz37_0 : w34.cell? ⟨gb492, 0, none⟩ = some (.int .i64 ((rd_T46 l0 a1).f0)) := (blk_cell BK492.out 0).trans rfl; have hcz37_1 : w34.cell? ⟨gb492, 1, none⟩ = some (.bool ((rd_T46 l0 a1).f1)) := (blk_cell BK492.out 1).trans rfl; have hcz37_2 : w34.cell? ⟨gb492, 2, none⟩ = some (.slice (some ad495) ((rd_T46 l0 a1).f2).length c491_2) := (blk_cell BK492.out 2).trans rfl; have hfz37_0 := blk_frozen BK492.out 0; have hfz37_1 := blk_frozen BK492.out 1; have hfz37_2 := blk_frozen BK492.out 2) | ((with_reducible refine gate_callee (f := 23) rfl ?_); refine goesL_ (some 60) rfl rfl Try.func23 (by kernel_rfl) rfl #[.slice A3 l3.length c3, .slice A2 l2.length c2, .int .i64 a4, .slice A495_0 ((rd_T43 ((rd_T46 l0 a1).f2) x16_2).f0).length c495_0, .bool ((rd_T46 l0 a1).f1)] rfl (by (try simp only [List.map_toArray, List.map_cons, List.map_nil]); first | done | rfl | (simp only [List.length_drop, List.length_take]; rfl)) ?_; (with_reducible refine (foundryref19_Meet.calls k2 _ _ l3 _ _ l2 a4 _ _ ((rd_T43 ((rd_T46 l0 a1).f2) x16_2).f0) ((rd_T46 l0 a1).f1) t497 true _ ?side1 ?side2 ?side3 ?side4 ?side5 ?side6 A22.out).mono ?_); (case side1 => refine (Kd.V_reads' (e := 3) (base := w.heap.size) (ok := fun k_ => ((((P3_ k_ ∨ w.heap.size ≤ k_)) ∧ k_ ≠ gb492) ∧ k_ ≠ gb496)) (n := l3.length) (c := c3) ?_).2.2; exact (by (with_reducible repeat (first | apply Kd.V_alloc | apply Kd.V_drewN | apply Kd.V_drew)); exact (Kd.V_mono (Kd.V_far (p := ⟨gb496, 9, none⟩) (Kd.V_far (p := ⟨gb496, 8, none⟩) (Kd.V_far (p := ⟨gb496, 7, none⟩) (Kd.V_far (p := ⟨gb496, 6, none⟩) (Kd.V_far (p := ⟨gb496, 5, none⟩) (Kd.V_far (p := ⟨gb496, 4, none⟩) (Kd.V_far (p := ⟨gb496, 3, none⟩) (Kd.V_far (p := ⟨gb496, 2, none⟩) (Kd.V_far (p := ⟨gb496, 1, none⟩) (Kd.V_far (p := ⟨gb496, 0, none⟩) (Kd.V_mono HO_3.out (fun k_ hk => (⟨hk, hk.2⟩ : _ ∧ k_ ≠ gb496))) (fun _ hk => hk.2) (.slice A495_0 ((rd_T43 ((rd_T46 l0 a1).f2) x16_2).f0).length c495_0)) (fun _ hk => hk.2) (.slice A495_1 ((rd_T43 ((rd_T46 l0 a1).f2) x16_2).f1).length c495_1)) (fun _ hk => hk.2) (.int .i64 ((rd_T43 ((rd_T46 l0 a1).f2) x16_2).f2))) (fun _ hk => hk.2) (.int .i64 ((rd_T43 ((rd_T46 l0 a1).f2) x16_2).f3))) (fun _ hk => hk.2) (.int .i64 ((rd_T43 ((rd_T46 l0 a1).f2) x16_2).f4.f0))) (fun _ hk => hk.2) (.int .i64 ((rd_T43 ((rd_T46 l0 a1).f2) x16_2).f4.f1))) (fun _ hk => hk.2) (.int .i64 ((rd_T43 ((rd_T46 l0 a1).f2) x16_2).f5.f0))) (fun _ hk => hk.2) (.int .i64 ((rd_T43 ((rd_T46 l0 a1).f2) x16_2).f5.f1))) (fun _ hk => hk.2) (.int .i64 ((rd_T43 ((rd_T46 l0 a1).f2) x16_2).f6.f0))) (fun _ hk => hk.2) (.int .i64 ((rd_T43 ((rd_T46 l0 a1).f2) x16_2).f6.f1))) (fun _ h_ => h_.1)))); (case side2 => exact (Kd.V_reads' HO_3.out).2.1); (case side3 => exact Kd.C_below HR2.out (by repeat (first | (with_reducible first | exact HB.out | apply below_alloc | apply pw_below_drewN | apply below_drew1 | refine below_set ?_ GE492.out | refine below_set ?_ GE496.out) | exact HB.out))); (case side4 => exact HC2.out); (case side5 => exact Kd.C_below HR495_0.out (by repeat (first | (with_reducible first | exact HB.out | apply below_alloc | apply pw_below_drewN | apply below_drew1 | refine below_set ?_ GE492.out | refine below_set ?_ GE496.out) | exact HB.out))); (case side6 => exact HC495_0.out); rintro e w38 ⟨v499, rfl, ho0, hb⟩; refine ⟨_, rfl, ?_⟩; have n0_ := Aside0.mk (Kd.V_elder' (by (with_reducible repeat (first | apply Kd.V_alloc | apply Kd.V_drewN | apply Kd.V_drew)); exact (Kd.V_mono (Kd.V_far (p := ⟨gb496, 9, none⟩) (Kd.V_far (p := ⟨gb496, 8, none⟩) (Kd.V_far (p := ⟨gb496, 7, none⟩) (Kd.V_far (p := ⟨gb496, 6, none⟩) (Kd.V_far (p := ⟨gb496, 5, none⟩) (Kd.V_far (p := ⟨gb496, 4, none⟩) (Kd.V_far (p := ⟨gb496, 3, none⟩) (Kd.V_far (p := ⟨gb496, 2, none⟩) (Kd.V_far (p := ⟨gb496, 1, none⟩) (Kd.V_far (p := ⟨gb496, 0, none⟩) (Kd.V_mono HO_3.out (fun k_ hk => (⟨hk, hk.2⟩ : _ ∧ k_ ≠ gb496))) (fun _ hk => hk.2) (.slice A495_0 ((rd_T43 ((rd_T46 l0 a1).f2) x16_2).f0).length c495_0)) (fun _ hk => hk.2) (.slice A495_1 ((rd_T43 ((rd_T46 l0 a1).f2) x16_2).f1).length c495_1)) (fun _ hk => hk.2) (.int .i64 ((rd_T43 ((rd_T46 l0 a1).f2) x16_2).f2))) (fun _ hk => hk.2) (.int .i64 ((rd_T43 ((rd_T46 l0 a1).f2) x16_2).f3))) (fun _ hk => hk.2) (.int .i64 ((rd_T43 ((rd_T46 l0 a1).f2) x16_2).f4.f0))) (fun _ hk => hk.2) (.int .i64 ((rd_T43 ((rd_T46 l0 a1).f2) x16_2).f4.f1))) (fun _ hk => hk.2) (.int .i64 ((rd_T43 ((rd_T46 l0 a1).f2) x16_2).f5.f0))) (fun _ hk => hk.2) (.int .i64 ((rd_T43 ((rd_T46 l0 a1).f2) x16_2).f5.f1))) (fun _ hk => hk.2) (.int .i64 ((rd_T43 ((rd_T46 l0 a1).f2) x16_2).f6.f0))) (fun _ hk => hk.2) (.int .i64 ((rd_T43 ((rd_T46 l0 a1).f2) x16_2).f6.f1))) (fun _ h_ => h_.1))) (Kd.R_base ho0) hb); have n1_ := Aside0.mk (Kd.R_lower (Kd.R_newM (M := fun k_ => (w.heap.size ≤ k_)) ho0 (below_size (by repeat (first | (with_reducible first | exact HB.out | apply below_alloc | apply pw_below_drewN | apply below_drew1 | refine below_set ?_ GE492.out | refine below_set ?_ GE496.out) | exact HB.out))) (fun k_ h_ => h_)) (below_size (by repeat (first | (with_reducible first | exact HB.out | apply below_alloc | apply pw_below_drewN | apply below_drew1 | refine below_set ?_ GE492.out | refine below_set ?_ GE496.out) | exact HB.out)))); have n2_ := Aside0.mk (blk_below (g := gb492) (o := .cells #[.int .i64 ((rd_T46 l0 a1).f0), .bool ((rd_T46 l0 a1).f1), .slice (some ad495) ((rd_T46 l0 a1).f2).length c491_2] 46 (0, 0)) (by (with_reducible repeat (first | refine blk_drewN ?_ _ | refine blk_drew ?_ | refine blk_alloc ?_ _)); refine blk_far ?_ NB492_496.out _; (with_reducible repeat (first | refine blk_drewN ?_ _ | refine blk_drew ?_ | refine blk_alloc ?_ _)); refine blk_far ?_ NB492_496.out _; (with_reducible repeat (first | refine blk_drewN ?_ _ | refine blk_drew ?_ | refine blk_alloc ?_ _)); refine blk_far ?_ NB492_496.out _; (with_reducible repeat (first | refine blk_drewN ?_ _ | refine blk_drew ?_ | refine blk_alloc ?_ _)); refine blk_far ?_ NB492_496.out _; (with_reducible repeat (first | refine blk_drewN ?_ _ | refine blk_drew ?_ | refine blk_alloc ?_ _)); refine blk_far ?_ NB492_496.out _; (with_reducible repeat (first | refine blk_drewN ?_ _ | refine blk_drew ?_ | refine blk_alloc ?_ _)); refine blk_far ?_ NB492_496.out _; (with_reducible repeat (first | refine blk_drewN ?_ _ | refine blk_drew ?_ | refine blk_alloc ?_ _)); refine blk_far ?_ NB492_496.out _; (with_reducible repeat (first | refine blk_drewN ?_ _ | refine blk_drew ?_ | refine blk_alloc ?_ _)); refine blk_far ?_ NB492_496.out _; (with_reducible repeat (first | refine blk_drewN ?_ _ | refine blk_drew ?_ | refine blk_alloc ?_ _)); refine blk_far ?_ NB492_496.out _; (with_reducible repeat (first | refine blk_drewN ?_ _ | refine blk_drew ?_ | refine blk_alloc ?_ _)); refine blk_far ?_ NB492_496.out _; (with_reducible repeat (first | refine blk_drewN ?_ _ | refine blk_drew ?_ | refine blk_alloc ?_ _)); exact BK492.out) hb); have n3_ := Aside0.mk (blk_below (g := gb496) (o := .cells #[.slice A495_0 ((rd_T43 ((rd_T46 l0 a1).f2) x16_2).f0).length c495_0, .slice A495_1 ((rd_T43 ((rd_T46 l0 a1).f2) x16_2).f1).length c495_1, .int .i64 ((rd_T43 ((rd_T46 l0 a1).f2) x16_2).f2), .int .i64 ((rd_T43 ((rd_T46 l0 a1).f2) x16_2).f3), .int .i64 ((rd_T43 ((rd_T46 l0 a1).f2) x16_2).f4.f0), .int .i64 ((rd_T43 ((rd_T46 l0 a1).f2) x16_2).f4.f1), .int .i64 ((rd_T43 ((rd_T46 l0 a1).f2) x16_2).f5.f0), .int .i64 ((rd_T43 ((rd_T46 l0 a1).f2) x16_2).f5.f1), .int .i64 ((rd_T43 ((rd_T46 l0 a1).f2) x16_2).f6.f0), .int .i64 ((rd_T43 ((rd_T46 l0 a1).f2) x16_2).f6.f1)] 43 (0, 0)) (by (with_reducible repeat (first | refine blk_drewN ?_ _ | refine blk_drew ?_ | refine blk_alloc ?_ _)); refine blk_put (cs := #[.slice A495_0 ((rd_T43 ((rd_T46 l0 a1).f2) x16_2).f0).length c495_0, .slice A495_1 ((rd_T43 ((rd_T46 l0 a1).f2) x16_2).f1).length c495_1, .int .i64 ((rd_T43 ((rd_T46 l0 a1).f2) x16_2).f2), .int .i64 ((rd_T43 ((rd_T46 l0 a1).f2) x16_2).f3), .int .i64 ((rd_T43 ((rd_T46 l0 a1).f2) x16_2).f4.f0), .int .i64 ((rd_T43 ((rd_T46 l0 a1).f2) x16_2).f4.f1), .int .i64 ((rd_T43 ((rd_T46 l0 a1).f2) x16_2).f5.f0), .int .i64 ((rd_T43 ((rd_T46 l0 a1).f2) x16_2).f5.f1), .int .i64 ((rd_T43 ((rd_T46 l0 a1).f2) x16_2).f6.f0), .int .i64 0]) ?_ 9 _ rfl; (with_reducible repeat (first | refine blk_drewN ?_ _ | refine blk_drew ?_ | refine blk_alloc ?_ _)); refine blk_put (cs := #[.slice A495_0 ((rd_T43 ((rd_T46 l0 a1).f2) x16_2).f0).length c495_0, .slice A495_1 ((rd_T43 ((rd_T46 l0 a1).f2) x16_2).f1).length c495_1, .int .i64 ((rd_T43 ((rd_T46 l0 a1).f2) x16_2).f2), .int .i64 ((rd_T43 ((rd_T46 l0 a1).f2) x16_2).f3), .int .i64 ((rd_T43 ((rd_T46 l0 a1).f2) x16_2).f4.f0), .int .i64 ((rd_T43 ((rd_T46 l0 a1).f2) x16_2).f4.f1), .int .i64 ((rd_T43 ((rd_T46 l0 a1).f2) x16_2).f5.f0), .int .i64 ((rd_T43 ((rd_T46 l0 a1).f2) x16_2).f5.f1), .int .i64 0, .int .i64 0]) ?_ 8 _ rfl; (with_reducible repeat (first | refine blk_drewN ?_ _ | refine blk_drew ?_ | refine blk_alloc ?_ _)); refine blk_put (cs := #[.slice A495_0 ((rd_T43 ((rd_T46 l0 a1).f2) x16_2).f0).length c495_0, .slice A495_1 ((rd_T43 ((rd_T46 l0 a1).f2) x16_2).f1).length c495_1, .int .i64 ((rd_T43 ((rd_T46 l0 a1).f2) x16_2).f2), .int .i64 ((rd_T43 ((rd_T46 l0 a1).f2) x16_2).f3), .int .i64 ((rd_T43 ((rd_T46 l0 a1).f2) x16_2).f4.f0), .int .i64 ((rd_T43 ((rd_T46 l0 a1).f2) x16_2).f4.f1), .int .i64 ((rd_T43 ((rd_T46 l0 a1).f2) x16_2).f5.f0), .int .i64 0, .int .i64 0, .int .i64 0]) ?_ 7 _ rfl; (with_reducible repeat (first | refine blk_drewN ?_ _ | refine blk_drew ?_ | refine blk_alloc ?_ _)); refine blk_put (cs := #[.slice A495_0 ((rd_T43 ((rd_T46 l0 a1).f2) x16_2).f0).length c495_0, .slice A495_1 ((rd_T43 ((rd_T46 l0 a1).f2) x16_2).f1).length c495_1, .int .i64 ((rd_T43 ((rd_T46 l0 a1).f2) x16_2).f2), .int .i64 ((rd_T43 ((rd_T46 l0 a1).f2) x16_2).f3), .int .i64 ((rd_T43 ((rd_T46 l0 a1).f2) x16_2).f4.f0), .int .i64 ((rd_T43 ((rd_T46 l0 a1).f2) x16_2).f4.f1), .int .i64 0, .int .i64 0, .int .i64 0, .int .i64 0]) ?_ 6 _ rfl; (with_reducible repeat (first | refine blk_drewN ?_ _ | refine blk_drew ?_ | refine blk_alloc ?_ _)); refine blk_put (cs := #[.slice A495_0 ((rd_T43 ((rd_T46 l0 a1).f2) x16_2).f0).length c495_0, .slice A495_1 ((rd_T43 ((rd_T46 l0 a1).f2) x16_2).f1).length c495_1, .int .i64 ((rd_T43 ((rd_T46 l0 a1).f2) x16_2).f2), .int .i64 ((rd_T43 ((rd_T46 l0 a1).f2) x16_2).f3), .int .i64 ((rd_T43 ((rd_T46 l0 a1).f2) x16_2).f4.f0), .int .i64 0, .int .i64 0, .int .i64 0, .int .i64 0, .int .i64 0]) ?_ 5 _ rfl; (with_reducible repeat (first | refine blk_drewN ?_ _ | refine blk_drew ?_ | refine blk_alloc ?_ _)); refine blk_put (cs := #[.slice A495_0 ((rd_T43 ((rd_T46 l0 a1).f2) x16_2).f0).length c495_0, .slice A495_1 ((rd_T43 ((rd_T46 l0 a1).f2) x16_2).f1).length c495_1, .int .i64 ((rd_T43 ((rd_T46 l0 a1).f2) x16_2).f2), .int .i64 ((rd_T43 ((rd_T46 l0 a1).f2) x16_2).f3), .int .i64 0, .int .i64 0, .int .i64 0, .int .i64 0, .int .i64 0, .int .i64 0]) ?_ 4 _ rfl; (with_reducible repeat (first | refine blk_drewN ?_ _ | refine blk_drew ?_ | refine blk_alloc ?_ _)); refine blk_put (cs := #[.slice A495_0 ((rd_T43 ((rd_T46 l0 a1).f2) x16_2).f0).length c495_0, .slice A495_1 ((rd_T43 ((rd_T46 l0 a1).f2) x16_2).f1).length c495_1, .int .i64 ((rd_T43 ((rd_T46 l0 a1).f2) x16_2).f2), .int .i64 0, .int .i64 0, .int .i64 0, .int .i64 0, .int .i64 0, .int .i64 0, .int .i64 0]) ?_ 3 _ rfl; (with_reducible repeat (first | refine blk_drewN ?_ _ | refine blk_drew ?_ | refine blk_alloc ?_ _)); refine blk_put (cs := #[.slice A495_0 ((rd_T43 ((rd_T46 l0 a1).f2) x16_2).f0).length c495_0, .slice A495_1 ((rd_T43 ((rd_T46 l0 a1).f2) x16_2).f1).length c495_1, .int .i64 0, .int .i64 0, .int .i64 0, .int .i64 0, .int .i64 0, .int .i64 0, .int .i64 0, .int .i64 0]) ?_ 2 _ rfl; (with_reducible repeat (first | refine blk_drewN ?_ _ | refine blk_drew ?_ | refine blk_alloc ?_ _)); refine blk_put (cs := #[.slice A495_0 ((rd_T43 ((rd_T46 l0 a1).f2) x16_2).f0).length c495_0, .slice none 0 0, .int .i64 0, .int .i64 0, .int .i64 0, .int .i64 0, .int .i64 0, .int .i64 0, .int .i64 0, .int .i64 0]) ?_ 1 _ rfl; (with_reducible repeat (first | refine blk_drewN ?_ _ | refine blk_drew ?_ | refine blk_alloc ?_ _)); refine blk_put (cs := #[.slice none 0 0, .slice none 0 0, .int .i64 0, .int .i64 0, .int .i64 0, .int .i64 0, .int .i64 0, .int .i64 0, .int .i64 0, .int .i64 0]) ?_ 0 _ rfl; (with_reducible repeat (first | refine blk_drewN ?_ _ | refine blk_drew ?_ | refine blk_alloc ?_ _)); exact BK496.out) hb); have n4_ := Aside0.mk (below_step (by repeat (first | (with_reducible first | exact HB.out | apply below_alloc | apply pw_below_drewN | apply below_drew1 | refine below_set ?_ GE492.out | refine below_set ?_ GE496.out) | exact HB.out)) hb); clear HO_3; clear BK492; clear BK496; clear HB; have HO_3 := n0_; have HO500 := n1_; have BK492 := n2_; have BK496 := n3_; have HB := n4_; clear n0_ n1_ n2_ n3_ n4_; (try clear hb); (try clear hb2); (try clear hk); (try clear hi); (try clear ho0); have hcz39_0 : w38.cell? ⟨gb492, 0, none⟩ = some (.int .i64 ((rd_T46 l0 a1).f0)) := (blk_cell BK492.out 0).trans rfl; have hcz39_1 : w38.cell? ⟨gb492, 1, none⟩ = some (.bool ((rd_T46 l0 a1).f1)) := (blk_cell BK492.out 1).trans rfl; have hcz39_2 : w38.cell? ⟨gb492, 2, none⟩ = some (.slice (some ad495) ((rd_T46 l0 a1).f2).length c491_2) := (blk_cell BK492.out 2).trans rfl; have hfz39_0 := blk_frozen BK492.out 0; have hfz39_1 := blk_frozen BK492.out 1; have hfz39_2 := blk_frozen BK492.out 2))
                 have n0_ := Aside0.mk (Kd.V_drew HO_3.out)
                 have n1_ := Aside0.mk (Kd.R_drew HO500.out)
                 have n2_ := Aside0.mk (blk_drew BK492.out)
                 have n3_ := Aside0.mk (blk_drew BK496.out)
                 have n4_ := Aside0.mk (below_drew1 HB.out)
                 clear HO_3
                 clear HO500
                 clear BK492
                 clear BK496
                 clear HB
                 have HO_3 := n0_
                 have HO500 := n1_
                 have BK492 := n2_
                 have BK496 := n3_
                 have HB := n4_
                 clear n0_ n1_ n2_ n3_ n4_
                 obtain ⟨Ao41, co41, eo41⟩ := Kd.R_slice HO500.out
                 (first | subst eo41 | (injection eo41 with f1_ f2_ f3_; have f4_ := f1_.symm; have f5_ := f3_.symm; clear f1_ f2_ f3_; subst f4_; subst f5_))
                 have p501 : 0 ≤ (((rd_T43 ((rd_T46 l0 a1).f2) x16_2).f2) : Int) := of_decide_eq_true (by first | (with_reducible assumption) | assumption)
                 have q501 : ((rd_T43 ((rd_T46 l0 a1).f2) x16_2).f2) < (t497.length : Int) := of_decide_eq_true (by first | (with_reducible assumption) | assumption)
                 obtain ⟨ad501, e501, hx501_0⟩ := Kd.at_int (Kd.R_reads' HO500.out).2.2 ((rd_T43 ((rd_T46 l0 a1).f2) x16_2).f2) p501 q501
                 cases e501
                 replace p501 := eq_true p501
                 replace q501 := eq_true q501
                 refine start_ (n := 18) (S := fun w' => w'.cell? ⟨gb496, 0, none⟩ = some (.slice A495_0 ((rd_T43 ((rd_T46 l0 a1).f2) x16_2).f0).length c495_0) ∧ w'.cell? ⟨gb496, 1, none⟩ = some (.slice A495_1 ((rd_T43 ((rd_T46 l0 a1).f2) x16_2).f1).length c495_1) ∧ w'.cell? ⟨gb496, 2, none⟩ = some (.int .i64 ((rd_T43 ((rd_T46 l0 a1).f2) x16_2).f2)) ∧ w'.cell? ⟨gb496, 3, none⟩ = some (.int .i64 ((rd_T43 ((rd_T46 l0 a1).f2) x16_2).f3)) ∧ w'.cell? ⟨gb496, 4, none⟩ = some (.int .i64 ((rd_T43 ((rd_T46 l0 a1).f2) x16_2).f4.f0)) ∧ w'.cell? ⟨gb496, 5, none⟩ = some (.int .i64 ((rd_T43 ((rd_T46 l0 a1).f2) x16_2).f4.f1)) ∧ w'.cell? ⟨gb496, 6, none⟩ = some (.int .i64 ((rd_T43 ((rd_T46 l0 a1).f2) x16_2).f5.f0)) ∧ w'.cell? ⟨gb496, 7, none⟩ = some (.int .i64 ((rd_T43 ((rd_T46 l0 a1).f2) x16_2).f5.f1)) ∧ w'.cell? ⟨gb496, 8, none⟩ = some (.int .i64 ((rd_T43 ((rd_T46 l0 a1).f2) x16_2).f6.f0)) ∧ w'.cell? ⟨gb496, 9, none⟩ = some (.int .i64 ((rd_T43 ((rd_T46 l0 a1).f2) x16_2).f6.f1)) ∧ w'.cell? (ad501.add (((rd_T43 ((rd_T46 l0 a1).f2) x16_2).f2)).toNat) = some (.int .i64 (rd t497 ((rd_T43 ((rd_T46 l0 a1).f2) x16_2).f2)))) (ds := []) #[false, false, false, false, false, false, false, false, false, false, false, false, false, false, false, false, false, false] (by kernel_rfl) rfl rfl ⟨(blk_cell BK496.out 0).trans rfl, (blk_cell BK496.out 1).trans rfl, (blk_cell BK496.out 2).trans rfl, (blk_cell BK496.out 3).trans rfl, (blk_cell BK496.out 4).trans rfl, (blk_cell BK496.out 5).trans rfl, (blk_cell BK496.out 6).trans rfl, (blk_cell BK496.out 7).trans rfl, (blk_cell BK496.out 8).trans rfl, (blk_cell BK496.out 9).trans rfl, hx501_0⟩ (fun hHeld => ?_); refine with_tabW foundryref20_done.tab14 foundryref20_done.bits14 (fun HT_ HW_ => ?_)
                 generalize w38.drew = w40 at HO_3 HO500 BK492 BK496 HB hx501_0 hHeld ⊢
                 refine pure_ (i := 0) (N := some 73) (v := ?_) (a' := ?_) #[true, false, false, false, false, false, false, false, false, false, false, false, false, false, false, false, false, false] rfl rfl (any_of HT_.out (by kernel_rfl)) (fun _ _ _ h => h) (Or.inl ⟨by rfl, ?_⟩) ?_ ?_
                 rotate_left
                 ·intro w'
                  go_simp
                  with_reducible rfl
                 rotate_left
                 ·simp only [Act.put, List.setIfInBounds_toArray, List.set_cons_zero, List.set_cons_succ, i64_w, i32_w]
                  rfl
                 refine pure_ (i := 1) (N := some 74) (v := ?_) (a' := ?_) #[true, true, false, false, false, false, false, false, false, false, false, false, false, false, false, false, false, false] rfl rfl (any_of HT_.out (by kernel_rfl)) (fun _ _ _ h => h) (Or.inl ⟨by rfl, ?_⟩) ?_ ?_
                 rotate_left
                 ·intro w'
                  go_simp
                  with_reducible rfl
                 rotate_left
                 ·simp only [Act.put, List.setIfInBounds_toArray, List.set_cons_zero, List.set_cons_succ, i64_w, i32_w]
                  rfl
                 refine pure_ (i := 3) (N := some 76) (v := ?_) (a' := ?_) #[true, true, false, true, false, false, false, false, false, false, false, false, false, false, false, false, false, false] rfl rfl (any_of HT_.out (by kernel_rfl)) (fun _ _ _ h => h) (Or.inl ⟨by rfl, ?_⟩) ?_ ?_
                 rotate_left
                 ·intro w'
                  go_simp
                  with_reducible rfl
                 rotate_left
                 ·simp only [Act.put, List.setIfInBounds_toArray, List.set_cons_zero, List.set_cons_succ, i64_w, i32_w]
                  rfl
                 refine pure_ (i := 4) (N := some 77) (v := ?_) (a' := ?_) #[true, true, false, true, true, false, false, false, false, false, false, false, false, false, false, false, false, false] rfl rfl (any_of HT_.out (by kernel_rfl)) (fun _ _ _ h => h) (Or.inl ⟨by rfl, ?_⟩) ?_ ?_
                 rotate_left
                 ·intro w'
                  go_simp
                  with_reducible rfl
                 rotate_left
                 ·simp only [Act.put, List.setIfInBounds_toArray, List.set_cons_zero, List.set_cons_succ, i64_w, i32_w]
                  rfl
                 refine pure_ (i := 5) (N := some 78) (v := ?_) (a' := ?_) #[true, true, false, true, true, true, false, false, false, false, false, false, false, false, false, false, false, false] rfl rfl (any_of HT_.out (by kernel_rfl)) (fun _ _ _ h => h) (Or.inl ⟨by rfl, ?_⟩) ?_ ?_
                 rotate_left
                 ·intro w'
                  go_simp
                  with_reducible rfl
                 rotate_left
                 ·simp only [Act.put, List.setIfInBounds_toArray, List.set_cons_zero, List.set_cons_succ, i64_w, i32_w]
                  rfl
                 refine pure_ (i := 6) (N := some 79) (v := ?_) (a' := ?_) #[true, true, false, true, true, true, true, false, false, false, false, false, false, false, false, false, false, false] rfl rfl (any_of HT_.out (by kernel_rfl)) (fun _ _ _ h => h) (Or.inl ⟨by rfl, ?_⟩) ?_ ?_
                 rotate_left
                 ·intro w'
                  go_simp
                  with_reducible rfl
                 rotate_left
                 ·simp only [Act.put, List.setIfInBounds_toArray, List.set_cons_zero, List.set_cons_succ, i64_w, i32_w]
                  rfl
                 refine pure_ (i := 10) (N := some 83) (v := ?_) (a' := ?_) #[true, true, false, true, true, true, true, false, false, false, true, false, false, false, false, false, false, false] rfl rfl (any_of HT_.out (by kernel_rfl)) (fun _ _ _ h => h) (Or.inl ⟨by rfl, ?_⟩) ?_ ?_
                 rotate_left
                 ·intro w'
                  go_simp
                  with_reducible rfl
                 rotate_left
                 ·simp only [Act.put, List.setIfInBounds_toArray, List.set_cons_zero, List.set_cons_succ, i64_w, i32_w]
                  rfl
                 refine pure_ (i := 11) (N := some 84) (v := ?_) (a' := ?_) #[true, true, false, true, true, true, true, false, false, false, true, true, false, false, false, false, false, false] rfl rfl (any_of HT_.out (by kernel_rfl)) (fun _ _ _ h => h) (Or.inl ⟨by rfl, ?_⟩) ?_ ?_
                 rotate_left
                 ·intro w'
                  go_simp
                  with_reducible rfl
                 rotate_left
                 ·simp only [Act.put, List.setIfInBounds_toArray, List.set_cons_zero, List.set_cons_succ, i64_w, i32_w]
                  rfl
                 refine take_ (i := 2) (N := some 75) (v := ?_) (a' := ?_) #[true, true, true, true, true, true, true, false, false, false, true, true, false, false, false, false, false, false] rfl rfl (take_ofW HT_.out HW_.out (by kernel_rfl)) (fun _ _ _ h => h) (Or.inl ⟨by rfl, ?_⟩) hHeld ?_ ?_
                 rotate_left
                 ·rintro w' ⟨s0, s1, s2, s3, s4, s5, s6, s7, s8, s9, s10⟩
                  go_simp
                  with_reducible rfl
                 rotate_left
                 ·simp only [Act.put, List.setIfInBounds_toArray, List.set_cons_zero, List.set_cons_succ, i64_w, i32_w]
                  rfl
                 refine take_ (i := 7) (N := some 80) (v := ?_) (a' := ?_) #[true, true, true, true, true, true, true, true, false, false, true, true, false, false, false, false, false, false] rfl rfl (take_ofW HT_.out HW_.out (by kernel_rfl)) (fun _ _ _ h => h) (Or.inl ⟨by rfl, ?_⟩) hHeld ?_ ?_
                 rotate_left
                 ·rintro w' ⟨s0, s1, s2, s3, s4, s5, s6, s7, s8, s9, s10⟩
                  go_simp
                  with_reducible rfl
                 rotate_left
                 ·simp only [Act.put, List.setIfInBounds_toArray, List.set_cons_zero, List.set_cons_succ, i64_w, i32_w]
                  rfl
                 refine pure_ (i := 8) (N := some 81) (v := ?_) (a' := ?_) #[true, true, true, true, true, true, true, true, true, false, true, true, false, false, false, false, false, false] rfl rfl (any_of HT_.out (by kernel_rfl)) (fun _ _ _ h => h) (Or.inl ⟨by rfl, ?_⟩) ?_ ?_
                 rotate_left
                 ·intro w'
                  go_simp
                  with_reducible rfl
                 rotate_left
                 ·simp only [Act.put, List.setIfInBounds_toArray, List.set_cons_zero, List.set_cons_succ, i64_w, i32_w]
                  rfl
                 refine take_ (i := 9) (N := some 82) (v := ?_) (a' := ?_) #[true, true, true, true, true, true, true, true, true, true, true, true, false, false, false, false, false, false] rfl rfl (take_ofW HT_.out HW_.out (by kernel_rfl)) (fun _ _ _ h => h) (Or.inl ⟨by rfl, ?_⟩) hHeld ?_ ?_
                 rotate_left
                 ·rintro w' ⟨s0, s1, s2, s3, s4, s5, s6, s7, s8, s9, s10⟩
                  go_simp
                  with_reducible rfl
                 rotate_left
                 ·simp only [Act.put, List.setIfInBounds_toArray, List.set_cons_zero, List.set_cons_succ, i64_w, i32_w]
                  rfl
                 refine one_ (i := 12) (N := some 85) #[true, true, true, true, true, true, true, true, true, true, true, true, true, false, false, false, false, false] rfl rfl (one_of HT_.out (by kernel_rfl)) (by decide) (fun K hK => ?_)
                 refine goes_ Try.func47 (by kernel_rfl) rfl #[.slice (some ad491) l0.length c0, .int .i64 ((rd_T43 ((rd_T46 l0 a1).f2) x16_2).f3), .slice A2 l2.length c2, .slice A3 l3.length c3, .int .i64 (rd t497 ((rd_T43 ((rd_T46 l0 a1).f2) x16_2).f2)), .int .i64 (wrap64 (a5 + 1))] (by rfl) rfl rfl (by (try simp only [List.map_toArray, List.map_cons, List.map_nil]); first | done | rfl | (simp only [List.length_drop, List.length_take]; rfl)) ?_
                 with_reducible refine (ih k2 (by have := HJ8.out; have := HK2.out; omega) _ _ l0 ((rd_T43 ((rd_T46 l0 a1).f2) x16_2).f3) _ _ l2 (fun k_ => ((((P3_ k_ ∨ w.heap.size ≤ k_) ∧ k_ ≠ gb492) ∧ k_ ≠ gb496) ∧ some k_ ≠ (.slice (some ad501) t497.length co41 : Value).ownBlock)) _ _ l3 (rd t497 ((rd_T43 ((rd_T46 l0 a1).f2) x16_2).f2)) (wrap64 (a5 + 1)) t502 t505 t506 _ ?side1 ?side2 ?side3 ?side4 ?side5 A28.out).mono ?_
                 (case side1 => repeat (first | exact (Kd.C_below HR0.out HB.out) | (with_reducible refine Kd.C_alloc ?_ _) | (with_reducible refine Kd.C_drewN ?_ _) | (with_reducible refine Kd.C_drew ?_)))
                 (case side2 => exact HC0.out)
                 (case side3 => repeat (first | exact (Kd.C_below HR2.out HB.out) | (with_reducible refine Kd.C_alloc ?_ _) | (with_reducible refine Kd.C_drewN ?_ _) | (with_reducible refine Kd.C_drew ?_)))
                 (case side4 => exact HC2.out)
                 (case side5 => exact HO_3.out)
                 rintro e w42 ⟨v503, rfl, ho0, hb⟩
                 have HS10_ := (hb.cell (World.block_lt_of_cell? _ _ (hHeld.2.2.2.2.2.2.2.2.2.2))).trans (hHeld.2.2.2.2.2.2.2.2.2.2)
                 refine ⟨_, rfl, ?_⟩
                 have n0_ := Aside0.mk (Kd.V_below (by (with_reducible repeat (first | apply Kd.V_alloc | apply Kd.V_drewN | apply Kd.V_drew)); exact HO_3.out) hb)
                 have n1_ := Aside0.mk (Kd.R_below (by (with_reducible repeat (first | apply Kd.R_alloc | apply Kd.R_drewN | apply Kd.R_drew)); exact HO500.out) hb)
                 have n2_ := Aside0.mk (Kd.V_lower (Kd.V_mono (ok' := fun k_ => (P3_ k_ ∨ w.heap.size ≤ k_) ∧ some k_ ≠ (.slice (some ad501) t497.length co41 : Value).ownBlock ∧ k_ ≠ gb492 ∧ k_ ≠ gb496) ho0 (fun k_ hk_ => ⟨Or.elim hk_ (fun hs_ => hs_.1.1.1) (fun hn_ => (.inr (Nat.le_trans (below_size (by repeat (first | (with_reducible first | exact HB.out | apply below_alloc | apply pw_below_drewN | apply below_drew1 | refine below_set ?_ GE492.out | refine below_set ?_ GE496.out) | exact HB.out))) hn_))), Or.elim hk_ (fun hs_ => hs_.2) (fun hn_ => (Kd.fresh' (Kd.R_lt (by (with_reducible repeat (first | apply Kd.R_alloc | apply Kd.R_drewN | apply Kd.R_drew)); exact HO500.out)) k_ hn_)), Or.elim hk_ (fun hs_ => hs_.1.1.2) (fun hn_ => (Kd.freshB (g := gb492) (o := .cells #[.int .i64 ((rd_T46 l0 a1).f0), .bool ((rd_T46 l0 a1).f1), .slice (some ad495) ((rd_T46 l0 a1).f2).length c491_2] 46 (0, 0)) (by (with_reducible repeat (first | refine blk_drewN ?_ _ | refine blk_drew ?_ | refine blk_alloc ?_ _)); exact BK492.out) k_ hn_)), Or.elim hk_ (fun hs_ => hs_.1.2) (fun hn_ => (Kd.freshB (g := gb496) (o := .cells #[.slice A495_0 ((rd_T43 ((rd_T46 l0 a1).f2) x16_2).f0).length c495_0, .slice A495_1 ((rd_T43 ((rd_T46 l0 a1).f2) x16_2).f1).length c495_1, .int .i64 ((rd_T43 ((rd_T46 l0 a1).f2) x16_2).f2), .int .i64 ((rd_T43 ((rd_T46 l0 a1).f2) x16_2).f3), .int .i64 ((rd_T43 ((rd_T46 l0 a1).f2) x16_2).f4.f0), .int .i64 ((rd_T43 ((rd_T46 l0 a1).f2) x16_2).f4.f1), .int .i64 ((rd_T43 ((rd_T46 l0 a1).f2) x16_2).f5.f0), .int .i64 ((rd_T43 ((rd_T46 l0 a1).f2) x16_2).f5.f1), .int .i64 ((rd_T43 ((rd_T46 l0 a1).f2) x16_2).f6.f0), .int .i64 ((rd_T43 ((rd_T46 l0 a1).f2) x16_2).f6.f1)] 43 (0, 0)) (by (with_reducible repeat (first | refine blk_drewN ?_ _ | refine blk_drew ?_ | refine blk_alloc ?_ _)); exact BK496.out) k_ hn_))⟩)) (below_size (by repeat (first | (with_reducible first | exact HB.out | apply below_alloc | apply pw_below_drewN | apply below_drew1 | refine below_set ?_ GE492.out | refine below_set ?_ GE496.out) | exact HB.out))))
                 have n3_ := Aside0.mk (blk_below (g := gb492) (o := .cells #[.int .i64 ((rd_T46 l0 a1).f0), .bool ((rd_T46 l0 a1).f1), .slice (some ad495) ((rd_T46 l0 a1).f2).length c491_2] 46 (0, 0)) (by (with_reducible repeat (first | refine blk_drewN ?_ _ | refine blk_drew ?_ | refine blk_alloc ?_ _)); exact BK492.out) hb)
                 have n4_ := Aside0.mk (blk_below (g := gb496) (o := .cells #[.slice A495_0 ((rd_T43 ((rd_T46 l0 a1).f2) x16_2).f0).length c495_0, .slice A495_1 ((rd_T43 ((rd_T46 l0 a1).f2) x16_2).f1).length c495_1, .int .i64 ((rd_T43 ((rd_T46 l0 a1).f2) x16_2).f2), .int .i64 ((rd_T43 ((rd_T46 l0 a1).f2) x16_2).f3), .int .i64 ((rd_T43 ((rd_T46 l0 a1).f2) x16_2).f4.f0), .int .i64 ((rd_T43 ((rd_T46 l0 a1).f2) x16_2).f4.f1), .int .i64 ((rd_T43 ((rd_T46 l0 a1).f2) x16_2).f5.f0), .int .i64 ((rd_T43 ((rd_T46 l0 a1).f2) x16_2).f5.f1), .int .i64 ((rd_T43 ((rd_T46 l0 a1).f2) x16_2).f6.f0), .int .i64 ((rd_T43 ((rd_T46 l0 a1).f2) x16_2).f6.f1)] 43 (0, 0)) (by (with_reducible repeat (first | refine blk_drewN ?_ _ | refine blk_drew ?_ | refine blk_alloc ?_ _)); exact BK496.out) hb)
                 have n5_ := Aside0.mk (below_step (by repeat (first | (with_reducible first | exact HB.out | apply below_alloc | apply pw_below_drewN | apply below_drew1 | refine below_set ?_ GE492.out | refine below_set ?_ GE496.out) | exact HB.out)) hb)
                 clear HO_3
                 clear HO500
                 clear BK492
                 clear BK496
                 clear HB
                 have HO_3 := n0_
                 have HO500 := n1_
                 have HO504 := n2_
                 have BK492 := n3_
                 have BK496 := n4_
                 have HB := n5_
                 clear n0_ n1_ n2_ n3_ n4_ n5_
                 (try clear hb)
                 (try clear hb2)
                 (try clear hk)
                 (try clear hi)
                 (try clear ho0)
                 refine hK.out _ _ ⟨(blk_cell BK496.out 0).trans rfl, (blk_cell BK496.out 1).trans rfl, (blk_cell BK496.out 2).trans rfl, (blk_cell BK496.out 3).trans rfl, (blk_cell BK496.out 4).trans rfl, (blk_cell BK496.out 5).trans rfl, (blk_cell BK496.out 6).trans rfl, (blk_cell BK496.out 7).trans rfl, (blk_cell BK496.out 8).trans rfl, (blk_cell BK496.out 9).trans rfl, HS10_⟩ (fun hHeld => ?_)
                 clear hK K
                 refine norm_ (a' := ?_) ?_ ?_
                 rotate_left
                 ·show Act.put _ (some 85) _ = _
                  simp only [Act.put, List.setIfInBounds_toArray, List.set_cons_zero, List.set_cons_succ, i64_w, i32_w]
                  rfl
                 refine pure_ (i := 13) (N := some 72) (v := ?_) (a' := ?_) #[true, true, true, true, true, true, true, true, true, true, true, true, true, true, false, false, false, false] rfl rfl (any_of HT_.out (by kernel_rfl)) (fun _ _ _ h => h) (Or.inl ⟨by rfl, ?_⟩) ?_ ?_
                 rotate_left
                 ·intro w'
                  go_simp
                  with_reducible rfl
                 rotate_left
                 ·simp only [Act.put, List.setIfInBounds_toArray, List.set_cons_zero, List.set_cons_succ, i64_w, i32_w]
                  rfl
                 refine pure_ (i := 14) (N := some 86) (v := ?_) (a' := ?_) #[true, true, true, true, true, true, true, true, true, true, true, true, true, true, true, false, false, false] rfl rfl (any_of HT_.out (by kernel_rfl)) (fun _ _ _ h => h) (Or.inl ⟨by rfl, ?_⟩) ?_ ?_
                 rotate_left
                 ·intro w'
                  go_simp
                  with_reducible rfl
                 rotate_left
                 ·simp only [Act.put, List.setIfInBounds_toArray, List.set_cons_zero, List.set_cons_succ, i64_w, i32_w]
                  rfl
                 refine pure_ (i := 15) (N := some 87) (v := ?_) (a' := ?_) #[true, true, true, true, true, true, true, true, true, true, true, true, true, true, true, true, false, false] rfl rfl (any_of HT_.out (by kernel_rfl)) (fun _ _ _ h => h) (Or.inl ⟨by rfl, ?_⟩) ?_ ?_
                 rotate_left
                 ·intro w'
                  go_simp
                  with_reducible rfl
                 rotate_left
                 ·simp only [Act.put, List.setIfInBounds_toArray, List.set_cons_zero, List.set_cons_succ, i64_w, i32_w]
                  rfl
                 refine pure_ (i := 16) (N := some 88) (v := ?_) (a' := ?_) #[true, true, true, true, true, true, true, true, true, true, true, true, true, true, true, true, true, false] rfl rfl (any_of HT_.out (by kernel_rfl)) (fun _ _ _ h => h) (Or.inl ⟨by rfl, ?_⟩) ?_ ?_
                 rotate_left
                 ·intro w'
                  go_simp
                  with_reducible rfl
                 rotate_left
                 ·simp only [Act.put, List.setIfInBounds_toArray, List.set_cons_zero, List.set_cons_succ, i64_w, i32_w]
                  rfl
                 refine pure_ (i := 17) (N := some 20) (v := ?_) (a' := ?_) #[true, true, true, true, true, true, true, true, true, true, true, true, true, true, true, true, true, true] rfl rfl (any_of HT_.out (by kernel_rfl)) (fun _ _ _ h => h) (Or.inl ⟨by rfl, ?_⟩) ?_ ?_
                 rotate_left
                 ·intro w'
                  go_simp
                  with_reducible rfl
                 rotate_left
                 ·simp only [Act.put, List.setIfInBounds_toArray, List.set_cons_zero, List.set_cons_succ, i64_w, i32_w]
                  rfl
                 refine done_ (done_of HT_.out (by kernel_rfl)) ?_
                 have p507 : 0 ≤ ((ji29) : Int) := of_decide_eq_true (by first | (with_reducible assumption) | assumption)
                 have q507 : (ji29) < (t497.length : Int) := of_decide_eq_true (by first | (with_reducible assumption) | assumption)
                 obtain ⟨ad507, e507, hx507_0⟩ := Kd.at_int (Kd.R_reads' HO500.out).2.2 (ji29) p507 q507
                 obtain rfl : ad501 = ad507 := (by injection e507)
                 replace p507 := eq_true p507
                 replace q507 := eq_true q507
                 obtain ⟨Ao43, co43, eo43⟩ := Kd.V_slice HO504.out
                 subst eo43
                 try go_wp2
                 go_ret3
                 exact ⟨_, by first | rfl | (simp [errW_none, errW_some] <;> rfl) | (simp only [← hji29, ← hji32]; first | rfl | (simp [errW_none, errW_some] <;> rfl)) | (simp [*, errW_none, errW_some] <;> rfl), by (with_reducible repeat (first | apply Kd.V_alloc | apply Kd.V_drewN | apply Kd.V_drew)); exact Kd.V_mono HO504.out (fun _ hk => hk.1), by repeat (first | (with_reducible first | exact HB.out | apply below_alloc | apply pw_below_drewN | apply below_drew1 | refine below_set ?_ GE492.out | refine below_set ?_ GE496.out) | exact HB.out)⟩
                ·rw [if_neg c31] at H
                 exact absurd H (by simp)
               ·rw [if_neg c30] at H
                exact absurd H (by simp)
              ·rw [if_neg c27] at H
               exact absurd H (by simp)
             ·rw [if_neg c26] at H
              exact absurd H (by simp)
            ·rw [if_neg c25] at H
             have c25b0 : decide (a5 < 8) = false := decide_eq_false c25
             clear c25
             obtain ⟨ji44, hji44⟩ : ∃ j_ : Int, (wrap64 ((t497.length : Int) - 1)) = j_ := ⟨_, rfl⟩
             replace H : (if 0 ≤ (ji44) then (if (ji44) < (t497.length : Int) then (some (l3, mx (wrap64 ((wrap64 ((wrap64 ((rd t497 (ji44)) + 1)) + (l3.length : Int))) - (l3.length : Int))) a4, true)) else (none)) else (none)) = some (r1, r2, r3) := by first | (rw [hji44] at H; exact H) | (simp only [hji44] at H ⊢; exact H)
             (try rw [hji44] at A22)
             have hji44w : (IntKind.i64.wrap ((t497.length : Int) - 1)) = ji44 := (i64_w _).trans hji44
             by_cases c45 : 0 ≤ (ji44)
             ·rw [if_pos c45] at H
              have c45b0 : decide (0 ≤ (ji44)) = true := decide_eq_true c45
              clear c45
              by_cases c46 : (ji44) < (t497.length : Int)
              ·rw [if_pos c46] at H
               have c46b0 : decide ((ji44) < (t497.length : Int)) = true := decide_eq_true c46
               clear c46
               obtain ⟨ji47, hji47⟩ : ∃ j_ : Int, (mx (wrap64 ((wrap64 ((wrap64 ((rd t497 (ji44)) + 1)) + (l3.length : Int))) - (l3.length : Int))) a4) = j_ := ⟨_, rfl⟩
               replace H : (some (l3, ji47, true)) = some (r1, r2, r3) := by first | (rw [hji47] at H; exact H) | (simp only [hji47] at H ⊢; exact H)
               (try rw [hji47] at A22)
               have hji47_ : (if (wrap64 ((wrap64 ((wrap64 ((rd t497 (ji44)) + 1)) + (l3.length : Int))) - (l3.length : Int))) < a4 then a4 else (wrap64 ((wrap64 ((wrap64 ((rd t497 (ji44)) + 1)) + (l3.length : Int))) - (l3.length : Int)))) = ji47 := hji47
               (try (have hji47_n := hji47_; simp only [Int.ofNat_lt] at hji47_n))
               simp only [Option.some.injEq, Prod.mk.injEq] at H
               obtain ⟨rfl, rfl, rfl⟩ := H
               have hcz48_0 : wr.cell? ⟨gb492, 0, none⟩ = some (.int .i64 ((rd_T46 l0 a1).f0)) := (blk_cell BK492.out 0).trans rfl
               have hcz48_1 : wr.cell? ⟨gb492, 1, none⟩ = some (.bool ((rd_T46 l0 a1).f1)) := (blk_cell BK492.out 1).trans rfl
               have hcz48_2 : wr.cell? ⟨gb492, 2, none⟩ = some (.slice A491_2 ((rd_T46 l0 a1).f2).length c491_2) := (blk_cell BK492.out 2).trans rfl
               have hfz48_0 := blk_frozen BK492.out 0
               have hfz48_1 := blk_frozen BK492.out 1
               have hfz48_2 := blk_frozen BK492.out 2
               have p495 : 0 ≤ (x16_2 : Int) := of_decide_eq_true (by first | (with_reducible assumption) | assumption)
               have q495 : x16_2 < (((rd_T46 l0 a1).f2).length : Int) := of_decide_eq_true (by first | (with_reducible assumption) | assumption)
               obtain ⟨ad495, A495_0, c495_0, A495_1, c495_1, e495, hx495_0, hx495_1, hx495_2, hx495_3, hx495_4, hx495_5, hx495_6, hx495_7, hx495_8, hx495_9, hl495_0, hi495_0, hl495_1, hi495_1⟩ := at_T43 HR491_2.out x16_2 p495 q495
               cases e495
               replace hx495_0 := (HB.out.cell (World.block_lt_of_cell? w _ hx495_0)).trans hx495_0
               replace hx495_1 := (HB.out.cell (World.block_lt_of_cell? w _ hx495_1)).trans hx495_1
               replace hx495_2 := (HB.out.cell (World.block_lt_of_cell? w _ hx495_2)).trans hx495_2
               replace hx495_3 := (HB.out.cell (World.block_lt_of_cell? w _ hx495_3)).trans hx495_3
               replace hx495_4 := (HB.out.cell (World.block_lt_of_cell? w _ hx495_4)).trans hx495_4
               replace hx495_5 := (HB.out.cell (World.block_lt_of_cell? w _ hx495_5)).trans hx495_5
               replace hx495_6 := (HB.out.cell (World.block_lt_of_cell? w _ hx495_6)).trans hx495_6
               replace hx495_7 := (HB.out.cell (World.block_lt_of_cell? w _ hx495_7)).trans hx495_7
               replace hx495_8 := (HB.out.cell (World.block_lt_of_cell? w _ hx495_8)).trans hx495_8
               replace hx495_9 := (HB.out.cell (World.block_lt_of_cell? w _ hx495_9)).trans hx495_9
               have HR495_0 := Aside0.mk hi495_0
               have HC495_0 := Aside0.mk hl495_0
               clear hi495_0 hl495_0
               have HR495_1 := Aside0.mk hi495_1
               have HC495_1 := Aside0.mk hl495_1
               clear hi495_1 hl495_1
               replace p495 := eq_true p495
               replace q495 := eq_true q495
               go_wp2_with (first | ((with_reducible refine gate_dst (N := 17) rfl ?_); refine box_event ?hg (N := 17) ?hd (cs := #[.slice none 0 0, .slice none 0 0, .int .i64 0, .int .i64 0, .int .i64 0, .int .i64 0, .int .i64 0, .int .i64 0, .int .i64 0, .int .i64 0]) (t := 43) ?hr ?_; (case hd => rfl); (case hg => rfl); (case hr => first | (go_simp; done) | (go_simp; rfl)); intro gb496 hg w49 hbox hb; have n0_ := Aside0.mk (Kd.V_below (Kd.V_elderB (by (with_reducible repeat (first | apply Kd.V_alloc | apply Kd.V_drewN | apply Kd.V_drew)); exact HO_3.out) gb496 (Nat.le_of_eq hg.symm)) hb); have n1_ := Aside0.mk (blk_below (g := gb492) (o := .cells #[.int .i64 ((rd_T46 l0 a1).f0), .bool ((rd_T46 l0 a1).f1), .slice (some ad495) ((rd_T46 l0 a1).f2).length c491_2] 46 (0, 0)) (by (with_reducible repeat (first | refine blk_drewN ?_ _ | refine blk_drew ?_ | refine blk_alloc ?_ _)); exact BK492.out) hb); have n2_ := Aside0.mk (below_step (by repeat (first | (with_reducible first | exact HB.out | apply below_alloc | apply pw_below_drewN | apply below_drew1 | refine below_set ?_ GE492.out) | exact HB.out)) hb); have n3_ := Aside0.mk (hbox); have n4_ := Aside0.mk ((by rw [hg]; exact (below_size (by repeat (first | (with_reducible first | exact HB.out | apply below_alloc | apply pw_below_drewN | apply below_drew1 | refine below_set ?_ GE492.out) | exact HB.out))) : w.heap.size ≤ gb496)); have n5_ := Aside0.mk ((by rw [hg]; exact (below_size (by repeat (first | (with_reducible first | exact HB.out | apply below_alloc | apply pw_below_drewN | apply below_drew1 | refine below_set ?_ GE492.out) | exact HB.out))) : w.heap.size ≤ gb496)); have n6_ := Aside0.mk ((by rw [hg]; exact Nat.ne_of_lt (blk_lt (g := gb492) (o := .cells #[.int .i64 ((rd_T46 l0 a1).f0), .bool ((rd_T46 l0 a1).f1), .slice (some ad495) ((rd_T46 l0 a1).f2).length c491_2] 46 (0, 0)) (by (with_reducible repeat (first | refine blk_drewN ?_ _ | refine blk_drew ?_ | refine blk_alloc ?_ _)); exact BK492.out)) : gb492 ≠ gb496)); have n7_ := Aside0.mk ((by rw [hg]; exact Nat.ne_of_gt (blk_lt (g := gb492) (o := .cells #[.int .i64 ((rd_T46 l0 a1).f0), .bool ((rd_T46 l0 a1).f1), .slice (some ad495) ((rd_T46 l0 a1).f2).length c491_2] 46 (0, 0)) (by (with_reducible repeat (first | refine blk_drewN ?_ _ | refine blk_drew ?_ | refine blk_alloc ?_ _)); exact BK492.out)) : gb496 ≠ gb492)); clear HO_3; clear BK492; clear HB; have HO_3 := n0_; have BK492 := n1_; have HB := n2_; have BK496 := n3_; have GW496 := n4_; have GE496 := n5_; have NB492_496 := n6_; have NB496_492 := n7_; clear n0_ n1_ n2_ n3_ n4_ n5_ n6_ n7_; clear hb hbox hg; have hnb50 := NB496_492.out; have hnc50 := NB492_496.out; have hcz51_0 : w49.cell? ⟨gb496, 0, none⟩ = some (.slice none 0 0) := (blk_cell BK496.out 0).trans rfl; have hcz51_1 : w49.cell? ⟨gb496, 1, none⟩ = some (.slice none 0 0) := (blk_cell BK496.out 1).trans rfl; have hcz51_2 : w49.cell? ⟨gb496, 2, none⟩ = some (.int .i64 0) := (blk_cell BK496.out 2).trans rfl; have hcz51_3 : w49.cell? ⟨gb496, 3, none⟩ = some (.int .i64 0) := (blk_cell BK496.out 3).trans rfl; have hcz51_4 : w49.cell? ⟨gb496, 4, none⟩ = some (.int .i64 0) := (blk_cell BK496.out 4).trans rfl; have hcz51_5 : w49.cell? ⟨gb496, 5, none⟩ = some (.int .i64 0) := (blk_cell BK496.out 5).trans rfl; have hcz51_6 : w49.cell? ⟨gb496, 6, none⟩ = some (.int .i64 0) := (blk_cell BK496.out 6).trans rfl; have hcz51_7 : w49.cell? ⟨gb496, 7, none⟩ = some (.int .i64 0) := (blk_cell BK496.out 7).trans rfl; have hcz51_8 : w49.cell? ⟨gb496, 8, none⟩ = some (.int .i64 0) := (blk_cell BK496.out 8).trans rfl; have hcz51_9 : w49.cell? ⟨gb496, 9, none⟩ = some (.int .i64 0) := (blk_cell BK496.out 9).trans rfl; have hfz51_0 := blk_frozen BK496.out 0; have hfz51_1 := blk_frozen BK496.out 1; have hfz51_2 := blk_frozen BK496.out 2; have hfz51_3 := blk_frozen BK496.out 3; have hfz51_4 := blk_frozen BK496.out 4; have hfz51_5 := blk_frozen BK496.out 5; have hfz51_6 := blk_frozen BK496.out 6; have hfz51_7 := blk_frozen BK496.out 7; have hfz51_8 := blk_frozen BK496.out 8; have hfz51_9 := blk_frozen BK496.out 9; have hcz52_0 : w49.cell? ⟨gb492, 0, none⟩ = some (.int .i64 ((rd_T46 l0 a1).f0)) := (blk_cell BK492.out 0).trans rfl; have hcz52_1 : w49.cell? ⟨gb492, 1, none⟩ = some (.bool ((rd_T46 l0 a1).f1)) := (blk_cell BK492.out 1).trans rfl; have hcz52_2 : w49.cell? ⟨gb492, 2, none⟩ = some (.slice (some ad495) ((rd_T46 l0 a1).f2).length c491_2) := (blk_cell BK492.out 2).trans rfl; have hfz52_0 := blk_frozen BK492.out 0; have hfz52_1 := blk_frozen BK492.out 1; have hfz52_2 := blk_frozen BK492.out 2) | ((with_reducible refine gate_callee (f := 23) rfl ?_); refine goesL_ (some 60) rfl rfl Try.func23 (by kernel_rfl) rfl #[.slice A3 l3.length c3, .slice A2 l2.length c2, .int .i64 a4, .slice A495_0 ((rd_T43 ((rd_T46 l0 a1).f2) x16_2).f0).length c495_0, .bool ((rd_T46 l0 a1).f1)] rfl (by (try simp only [List.map_toArray, List.map_cons, List.map_nil]); first | done | rfl | (simp only [List.length_drop, List.length_take]; rfl)) ?_; (with_reducible refine (foundryref19_Meet.calls k2 _ _ l3 _ _ l2 a4 _ _ ((rd_T43 ((rd_T46 l0 a1).f2) x16_2).f0) ((rd_T46 l0 a1).f1) t497 true _ ?side1 ?side2 ?side3 ?side4 ?side5 ?side6 A22.out).mono ?_); (case side1 => refine (Kd.V_reads' (e := 3) (base := w.heap.size) (ok := fun k_ => ((((P3_ k_ ∨ w.heap.size ≤ k_)) ∧ k_ ≠ gb492) ∧ k_ ≠ gb496)) (n := l3.length) (c := c3) ?_).2.2; exact (by (with_reducible repeat (first | apply Kd.V_alloc | apply Kd.V_drewN | apply Kd.V_drew)); exact (Kd.V_mono (Kd.V_far (p := ⟨gb496, 9, none⟩) (Kd.V_far (p := ⟨gb496, 8, none⟩) (Kd.V_far (p := ⟨gb496, 7, none⟩) (Kd.V_far (p := ⟨gb496, 6, none⟩) (Kd.V_far (p := ⟨gb496, 5, none⟩) (Kd.V_far (p := ⟨gb496, 4, none⟩) (Kd.V_far (p := ⟨gb496, 3, none⟩) (Kd.V_far (p := ⟨gb496, 2, none⟩) (Kd.V_far (p := ⟨gb496, 1, none⟩) (Kd.V_far (p := ⟨gb496, 0, none⟩) (Kd.V_mono HO_3.out (fun k_ hk => (⟨hk, hk.2⟩ : _ ∧ k_ ≠ gb496))) (fun _ hk => hk.2) (.slice A495_0 ((rd_T43 ((rd_T46 l0 a1).f2) x16_2).f0).length c495_0)) (fun _ hk => hk.2) (.slice A495_1 ((rd_T43 ((rd_T46 l0 a1).f2) x16_2).f1).length c495_1)) (fun _ hk => hk.2) (.int .i64 ((rd_T43 ((rd_T46 l0 a1).f2) x16_2).f2))) (fun _ hk => hk.2) (.int .i64 ((rd_T43 ((rd_T46 l0 a1).f2) x16_2).f3))) (fun _ hk => hk.2) (.int .i64 ((rd_T43 ((rd_T46 l0 a1).f2) x16_2).f4.f0))) (fun _ hk => hk.2) (.int .i64 ((rd_T43 ((rd_T46 l0 a1).f2) x16_2).f4.f1))) (fun _ hk => hk.2) (.int .i64 ((rd_T43 ((rd_T46 l0 a1).f2) x16_2).f5.f0))) (fun _ hk => hk.2) (.int .i64 ((rd_T43 ((rd_T46 l0 a1).f2) x16_2).f5.f1))) (fun _ hk => hk.2) (.int .i64 ((rd_T43 ((rd_T46 l0 a1).f2) x16_2).f6.f0))) (fun _ hk => hk.2) (.int .i64 ((rd_T43 ((rd_T46 l0 a1).f2) x16_2).f6.f1))) (fun _ h_ => h_.1)))); (case side2 => exact (Kd.V_reads' HO_3.out).2.1); (case side3 => exact Kd.C_below HR2.out (by repeat (first | (with_reducible first | exact HB.out | apply below_alloc | apply pw_below_drewN | apply below_drew1 | refine below_set ?_ GE492.out | refine below_set ?_ GE496.out) | exact HB.out))); (case side4 => exact HC2.out); (case side5 => exact Kd.C_below HR495_0.out (by repeat (first | (with_reducible first | exact HB.out | apply below_alloc | apply pw_below_drewN | apply below_drew1 | refine below_set ?_ GE492.out | refine below_set ?_ GE496.out) | exact HB.out))); (case side6 => exact HC495_0.out); rintro e w53 ⟨v499, rfl, ho0, hb⟩; refine ⟨_, rfl, ?_⟩; have n0_ := Aside0.mk (Kd.V_elder' (by (with_reducible repeat (first | apply Kd.V_alloc | apply Kd.V_drewN | apply Kd.V_drew)); exact (Kd.V_mono (Kd.V_far (p := ⟨gb496, 9, none⟩) (Kd.V_far (p := ⟨gb496, 8, none⟩) (Kd.V_far (p := ⟨gb496, 7, none⟩) (Kd.V_far (p := ⟨gb496, 6, none⟩) (Kd.V_far (p := ⟨gb496, 5, none⟩) (Kd.V_far (p := ⟨gb496, 4, none⟩) (Kd.V_far (p := ⟨gb496, 3, none⟩) (Kd.V_far (p := ⟨gb496, 2, none⟩) (Kd.V_far (p := ⟨gb496, 1, none⟩) (Kd.V_far (p := ⟨gb496, 0, none⟩) (Kd.V_mono HO_3.out (fun k_ hk => (⟨hk, hk.2⟩ : _ ∧ k_ ≠ gb496))) (fun _ hk => hk.2) (.slice A495_0 ((rd_T43 ((rd_T46 l0 a1).f2) x16_2).f0).length c495_0)) (fun _ hk => hk.2) (.slice A495_1 ((rd_T43 ((rd_T46 l0 a1).f2) x16_2).f1).length c495_1)) (fun _ hk => hk.2) (.int .i64 ((rd_T43 ((rd_T46 l0 a1).f2) x16_2).f2))) (fun _ hk => hk.2) (.int .i64 ((rd_T43 ((rd_T46 l0 a1).f2) x16_2).f3))) (fun _ hk => hk.2) (.int .i64 ((rd_T43 ((rd_T46 l0 a1).f2) x16_2).f4.f0))) (fun _ hk => hk.2) (.int .i64 ((rd_T43 ((rd_T46 l0 a1).f2) x16_2).f4.f1))) (fun _ hk => hk.2) (.int .i64 ((rd_T43 ((rd_T46 l0 a1).f2) x16_2).f5.f0))) (fun _ hk => hk.2) (.int .i64 ((rd_T43 ((rd_T46 l0 a1).f2) x16_2).f5.f1))) (fun _ hk => hk.2) (.int .i64 ((rd_T43 ((rd_T46 l0 a1).f2) x16_2).f6.f0))) (fun _ hk => hk.2) (.int .i64 ((rd_T43 ((rd_T46 l0 a1).f2) x16_2).f6.f1))) (fun _ h_ => h_.1))) (Kd.R_base ho0) hb); have n1_ := Aside0.mk (Kd.R_lower (Kd.R_newM (M := fun k_ => (w.heap.size ≤ k_)) ho0 (below_size (by repeat (first | (with_reducible first | exact HB.out | apply below_alloc | apply pw_below_drewN | apply below_drew1 | refine below_set ?_ GE492.out | refine below_set ?_ GE496.out) | exact HB.out))) (fun k_ h_ => h_)) (below_size (by repeat (first | (with_reducible first | exact HB.out | apply below_alloc | apply pw_below_drewN | apply below_drew1 | refine below_set ?_ GE492.out | refine below_set ?_ GE496.out) | exact HB.out)))); have n2_ := Aside0.mk (blk_below (g := gb492) (o := .cells #[.int .i64 ((rd_T46 l0 a1).f0), .bool ((rd_T46 l0 a1).f1), .slice (some ad495) ((rd_T46 l0 a1).f2).length c491_2] 46 (0, 0)) (by (with_reducible repeat (first | refine blk_drewN ?_ _ | refine blk_drew ?_ | refine blk_alloc ?_ _)); refine blk_far ?_ NB492_496.out _; (with_reducible repeat (first | refine blk_drewN ?_ _ | refine blk_drew ?_ | refine blk_alloc ?_ _)); refine blk_far ?_ NB492_496.out _; (with_reducible repeat (first | refine blk_drewN ?_ _ | refine blk_drew ?_ | refine blk_alloc ?_ _)); refine blk_far ?_ NB492_496.out _; (with_reducible repeat (first | refine blk_drewN ?_ _ | refine blk_drew ?_ | refine blk_alloc ?_ _)); refine blk_far ?_ NB492_496.out _; (with_reducible repeat (first | refine blk_drewN ?_ _ | refine blk_drew ?_ | refine blk_alloc ?_ _)); refine blk_far ?_ NB492_496.out _; (with_reducible repeat (first | refine blk_drewN ?_ _ | refine blk_drew ?_ | refine blk_alloc ?_ _)); refine blk_far ?_ NB492_496.out _; (with_reducible repeat (first | refine blk_drewN ?_ _ | refine blk_drew ?_ | refine blk_alloc ?_ _)); refine blk_far ?_ NB492_496.out _; (with_reducible repeat (first | refine blk_drewN ?_ _ | refine blk_drew ?_ | refine blk_alloc ?_ _)); refine blk_far ?_ NB492_496.out _; (with_reducible repeat (first | refine blk_drewN ?_ _ | refine blk_drew ?_ | refine blk_alloc ?_ _)); refine blk_far ?_ NB492_496.out _; (with_reducible repeat (first | refine blk_drewN ?_ _ | refine blk_drew ?_ | refine blk_alloc ?_ _)); refine blk_far ?_ NB492_496.out _; (with_reducible repeat (first | refine blk_drewN ?_ _ | refine blk_drew ?_ | refine blk_alloc ?_ _)); exact BK492.out) hb); have n3_ := Aside0.mk (blk_below (g := gb496) (o := .cells #[.slice A495_0 ((rd_T43 ((rd_T46 l0 a1).f2) x16_2).f0).length c495_0, .slice A495_1 ((rd_T43 ((rd_T46 l0 a1).f2) x16_2).f1).length c495_1, .int .i64 ((rd_T43 ((rd_T46 l0 a1).f2) x16_2).f2), .int .i64 ((rd_T43 ((rd_T46 l0 a1).f2) x16_2).f3), .int .i64 ((rd_T43 ((rd_T46 l0 a1).f2) x16_2).f4.f0), .int .i64 ((rd_T43 ((rd_T46 l0 a1).f2) x16_2).f4.f1), .int .i64 ((rd_T43 ((rd_T46 l0 a1).f2) x16_2).f5.f0), .int .i64 ((rd_T43 ((rd_T46 l0 a1).f2) x16_2).f5.f1), .int .i64 ((rd_T43 ((rd_T46 l0 a1).f2) x16_2).f6.f0), .int .i64 ((rd_T43 ((rd_T46 l0 a1).f2) x16_2).f6.f1)] 43 (0, 0)) (by (with_reducible repeat (first | refine blk_drewN ?_ _ | refine blk_drew ?_ | refine blk_alloc ?_ _)); refine blk_put (cs := #[.slice A495_0 ((rd_T43 ((rd_T46 l0 a1).f2) x16_2).f0).length c495_0, .slice A495_1 ((rd_T43 ((rd_T46 l0 a1).f2) x16_2).f1).length c495_1, .int .i64 ((rd_T43 ((rd_T46 l0 a1).f2) x16_2).f2), .int .i64 ((rd_T43 ((rd_T46 l0 a1).f2) x16_2).f3), .int .i64 ((rd_T43 ((rd_T46 l0 a1).f2) x16_2).f4.f0), .int .i64 ((rd_T43 ((rd_T46 l0 a1).f2) x16_2).f4.f1), .int .i64 ((rd_T43 ((rd_T46 l0 a1).f2) x16_2).f5.f0), .int .i64 ((rd_T43 ((rd_T46 l0 a1).f2) x16_2).f5.f1), .int .i64 ((rd_T43 ((rd_T46 l0 a1).f2) x16_2).f6.f0), .int .i64 0]) ?_ 9 _ rfl; (with_reducible repeat (first | refine blk_drewN ?_ _ | refine blk_drew ?_ | refine blk_alloc ?_ _)); refine blk_put (cs := #[.slice A495_0 ((rd_T43 ((rd_T46 l0 a1).f2) x16_2).f0).length c495_0, .slice A495_1 ((rd_T43 ((rd_T46 l0 a1).f2) x16_2).f1).length c495_1, .int .i64 ((rd_T43 ((rd_T46 l0 a1).f2) x16_2).f2), .int .i64 ((rd_T43 ((rd_T46 l0 a1).f2) x16_2).f3), .int .i64 ((rd_T43 ((rd_T46 l0 a1).f2) x16_2).f4.f0), .int .i64 ((rd_T43 ((rd_T46 l0 a1).f2) x16_2).f4.f1), .int .i64 ((rd_T43 ((rd_T46 l0 a1).f2) x16_2).f5.f0), .int .i64 ((rd_T43 ((rd_T46 l0 a1).f2) x16_2).f5.f1), .int .i64 0, .int .i64 0]) ?_ 8 _ rfl; (with_reducible repeat (first | refine blk_drewN ?_ _ | refine blk_drew ?_ | refine blk_alloc ?_ _)); refine blk_put (cs := #[.slice A495_0 ((rd_T43 ((rd_T46 l0 a1).f2) x16_2).f0).length c495_0, .slice A495_1 ((rd_T43 ((rd_T46 l0 a1).f2) x16_2).f1).length c495_1, .int .i64 ((rd_T43 ((rd_T46 l0 a1).f2) x16_2).f2), .int .i64 ((rd_T43 ((rd_T46 l0 a1).f2) x16_2).f3), .int .i64 ((rd_T43 ((rd_T46 l0 a1).f2) x16_2).f4.f0), .int .i64 ((rd_T43 ((rd_T46 l0 a1).f2) x16_2).f4.f1), .int .i64 ((rd_T43 ((rd_T46 l0 a1).f2) x16_2).f5.f0), .int .i64 0, .int .i64 0, .int .i64 0]) ?_ 7 _ rfl; (with_reducible repeat (first | refine blk_drewN ?_ _ | refine blk_drew ?_ | refine blk_alloc ?_ _)); refine blk_put (cs := #[.slice A495_0 ((rd_T43 ((rd_T46 l0 a1).f2) x16_2).f0).length c495_0, .slice A495_1 ((rd_T43 ((rd_T46 l0 a1).f2) x16_2).f1).length c495_1, .int .i64 ((rd_T43 ((rd_T46 l0 a1).f2) x16_2).f2), .int .i64 ((rd_T43 ((rd_T46 l0 a1).f2) x16_2).f3), .int .i64 ((rd_T43 ((rd_T46 l0 a1).f2) x16_2).f4.f0), .int .i64 ((rd_T43 ((rd_T46 l0 a1).f2) x16_2).f4.f1), .int .i64 0, .int .i64 0, .int .i64 0, .int .i64 0]) ?_ 6 _ rfl; (with_reducible repeat (first | refine blk_drewN ?_ _ | refine blk_drew ?_ | refine blk_alloc ?_ _)); refine blk_put (cs := #[.slice A495_0 ((rd_T43 ((rd_T46 l0 a1).f2) x16_2).f0).length c495_0, .slice A495_1 ((rd_T43 ((rd_T46 l0 a1).f2) x16_2).f1).length c495_1, .int .i64 ((rd_T43 ((rd_T46 l0 a1).f2) x16_2).f2), .int .i64 ((rd_T43 ((rd_T46 l0 a1).f2) x16_2).f3), .int .i64 ((rd_T43 ((rd_T46 l0 a1).f2) x16_2).f4.f0), .int .i64 0, .int .i64 0, .int .i64 0, .int .i64 0, .int .i64 0]) ?_ 5 _ rfl; (with_reducible repeat (first | refine blk_drewN ?_ _ | refine blk_drew ?_ | refine blk_alloc ?_ _)); refine blk_put (cs := #[.slice A495_0 ((rd_T43 ((rd_T46 l0 a1).f2) x16_2).f0).length c495_0, .slice A495_1 ((rd_T43 ((rd_T46 l0 a1).f2) x16_2).f1).length c495_1, .int .i64 ((rd_T43 ((rd_T46 l0 a1).f2) x16_2).f2), .int .i64 ((rd_T43 ((rd_T46 l0 a1).f2) x16_2).f3), .int .i64 0, .int .i64 0, .int .i64 0, .int .i64 0, .int .i64 0, .int .i64 0]) ?_ 4 _ rfl; (with_reducible repeat (first | refine blk_drewN ?_ _ | refine blk_drew ?_ | refine blk_alloc ?_ _)); refine blk_put (cs := #[.slice A495_0 ((rd_T43 ((rd_T46 l0 a1).f2) x16_2).f0).length c495_0, .slice A495_1 ((rd_T43 ((rd_T46 l0 a1).f2) x16_2).f1).length c495_1, .int .i64 ((rd_T43 ((rd_T46 l0 a1).f2) x16_2).f2), .int .i64 0, .int .i64 0, .int .i64 0, .int .i64 0, .int .i64 0, .int .i64 0, .int .i64 0]) ?_ 3 _ rfl; (with_reducible repeat (first | refine blk_drewN ?_ _ | refine blk_drew ?_ | refine blk_alloc ?_ _)); refine blk_put (cs := #[.slice A495_0 ((rd_T43 ((rd_T46 l0 a1).f2) x16_2).f0).length c495_0, .slice A495_1 ((rd_T43 ((rd_T46 l0 a1).f2) x16_2).f1).length c495_1, .int .i64 0, .int .i64 0, .int .i64 0, .int .i64 0, .int .i64 0, .int .i64 0, .int .i64 0, .int .i64 0]) ?_ 2 _ rfl; (with_reducible repeat (first | refine blk_drewN ?_ _ | refine blk_drew ?_ | refine blk_alloc ?_ _)); refine blk_put (cs := #[.slice A495_0 ((rd_T43 ((rd_T46 l0 a1).f2) x16_2).f0).length c495_0, .slice none 0 0, .int .i64 0, .int .i64 0, .int .i64 0, .int .i64 0, .int .i64 0, .int .i64 0, .int .i64 0, .int .i64 0]) ?_ 1 _ rfl; (with_reducible repeat (first | refine blk_drewN ?_ _ | refine blk_drew ?_ | refine blk_alloc ?_ _)); refine blk_put (cs := #[.slice none 0 0, .slice none 0 0, .int .i64 0, .int .i64 0, .int .i64 0, .int .i64 0, .int .i64 0, .int .i64 0, .int .i64 0, .int .i64 0]) ?_ 0 _ rfl; (with_reducible repeat (first | refine blk_drewN ?_ _ | refine blk_drew ?_ | refine blk_alloc ?_ _)); exact BK496.out) hb); have n4_ := Aside0.mk (below_step (by repeat (first | (with_reducible first | exact HB.out | apply below_alloc | apply pw_below_drewN | apply below_drew1 | refine below_set ?_ GE492.out | refine below_set ?_ GE496.out) | exact HB.out)) hb); clear HO_3; clear BK492; clear BK496; clear HB; have HO_3 := n0_; have HO500 := n1_; have BK492 := n2_; have BK496 := n3_; have HB := n4_; clear n0_ n1_ n2_ n3_ n4_; (try clear hb); (try clear hb2); (try clear hk); (try clear hi); (try clear ho0); have hcz54_0 : w53.cell? ⟨gb492, 0, none⟩ = some (.int .i64 ((rd_T46 l0 a1).f0)) := (blk_cell BK492.out 0).trans rfl; have hcz54_1 : w53.cell? ⟨gb492, 1, none⟩ = some (.bool ((rd_T46 l0 a1).f1)) := (blk_cell BK492.out 1).trans rfl; have hcz54_2 : w53.cell? ⟨gb492, 2, none⟩ = some (.slice (some ad495) ((rd_T46 l0 a1).f2).length c491_2) := (blk_cell BK492.out 2).trans rfl; have hfz54_0 := blk_frozen BK492.out 0; have hfz54_1 := blk_frozen BK492.out 1; have hfz54_2 := blk_frozen BK492.out 2; obtain ⟨Ao55, co55, eo55⟩ := Kd.R_slice HO500.out; subst eo55; have p508 : 0 ≤ ((ji44) : Int) := of_decide_eq_true (by first | (with_reducible assumption) | assumption); have q508 : (ji44) < (t497.length : Int) := of_decide_eq_true (by first | (with_reducible assumption) | assumption); obtain ⟨ad508, e508, hx508_0⟩ := Kd.at_int (Kd.R_reads' HO500.out).2.2 (ji44) p508 q508; cases e508; replace p508 := eq_true p508; replace q508 := eq_true q508))
               go_ret3
               exact ⟨_, by first | rfl | (simp [errW_none, errW_some] <;> rfl) | (simp only [← hji44, ← hji47]; first | rfl | (simp [errW_none, errW_some] <;> rfl)) | (simp [*, errW_none, errW_some] <;> rfl), by (with_reducible repeat (first | apply Kd.V_alloc | apply Kd.V_drewN | apply Kd.V_drew)); exact Kd.V_mono HO_3.out (fun _ hk => hk.1.1.1), by repeat (first | (with_reducible first | exact HB.out | apply below_alloc | apply pw_below_drewN | apply below_drew1 | refine below_set ?_ GE492.out | refine below_set ?_ GE496.out) | exact HB.out)⟩
              ·rw [if_neg c46] at H
               exact absurd H (by simp)
             ·rw [if_neg c45] at H
              exact absurd H (by simp)
           ·rw [if_neg c24] at H
            have c24b0 : (((rd_T46 l0 a1).f0) == 4) = false := beq_eq_false_iff_ne.mpr c24
            have c24b1 : (((rd_T46 l0 a1).f0) != 4) = true := bne_iff_ne.mpr c24
            by_cases c56 : ((rd_T46 l0 a1).f0) = 3
            ·rw [if_pos c56] at H
             have c56b0 : (((rd_T46 l0 a1).f0) == 3) = true := beq_iff_eq.mpr c56
             have c56b1 : (((rd_T46 l0 a1).f0) != 3) = false := bne_eq_false_iff_eq.mpr c56
             clear c56
             have H' := Aside0.mk H
             clear H
             have hcz57_0 : wr.cell? ⟨gb492, 0, none⟩ = some (.int .i64 ((rd_T46 l0 a1).f0)) := (blk_cell BK492.out 0).trans rfl
             have hcz57_1 : wr.cell? ⟨gb492, 1, none⟩ = some (.bool ((rd_T46 l0 a1).f1)) := (blk_cell BK492.out 1).trans rfl
             have hcz57_2 : wr.cell? ⟨gb492, 2, none⟩ = some (.slice A491_2 ((rd_T46 l0 a1).f2).length c491_2) := (blk_cell BK492.out 2).trans rfl
             have hfz57_0 := blk_frozen BK492.out 0
             have hfz57_1 := blk_frozen BK492.out 1
             have hfz57_2 := blk_frozen BK492.out 2
             have p495 : 0 ≤ (x16_2 : Int) := of_decide_eq_true (by first | (with_reducible assumption) | assumption)
             have q495 : x16_2 < (((rd_T46 l0 a1).f2).length : Int) := of_decide_eq_true (by first | (with_reducible assumption) | assumption)
             obtain ⟨ad495, A495_0, c495_0, A495_1, c495_1, e495, hx495_0, hx495_1, hx495_2, hx495_3, hx495_4, hx495_5, hx495_6, hx495_7, hx495_8, hx495_9, hl495_0, hi495_0, hl495_1, hi495_1⟩ := at_T43 HR491_2.out x16_2 p495 q495
             cases e495
             replace hx495_0 := (HB.out.cell (World.block_lt_of_cell? w _ hx495_0)).trans hx495_0
             replace hx495_1 := (HB.out.cell (World.block_lt_of_cell? w _ hx495_1)).trans hx495_1
             replace hx495_2 := (HB.out.cell (World.block_lt_of_cell? w _ hx495_2)).trans hx495_2
             replace hx495_3 := (HB.out.cell (World.block_lt_of_cell? w _ hx495_3)).trans hx495_3
             replace hx495_4 := (HB.out.cell (World.block_lt_of_cell? w _ hx495_4)).trans hx495_4
             replace hx495_5 := (HB.out.cell (World.block_lt_of_cell? w _ hx495_5)).trans hx495_5
             replace hx495_6 := (HB.out.cell (World.block_lt_of_cell? w _ hx495_6)).trans hx495_6
             replace hx495_7 := (HB.out.cell (World.block_lt_of_cell? w _ hx495_7)).trans hx495_7
             replace hx495_8 := (HB.out.cell (World.block_lt_of_cell? w _ hx495_8)).trans hx495_8
             replace hx495_9 := (HB.out.cell (World.block_lt_of_cell? w _ hx495_9)).trans hx495_9
             have HR495_0 := Aside0.mk hi495_0
             have HC495_0 := Aside0.mk hl495_0
             clear hi495_0 hl495_0
             have HR495_1 := Aside0.mk hi495_1
             have HC495_1 := Aside0.mk hl495_1
             clear hi495_1 hl495_1
             replace p495 := eq_true p495
             replace q495 := eq_true q495
             go_wp2_with (first | ((with_reducible refine gate_dst (N := 17) rfl ?_); refine box_event ?hg (N := 17) ?hd (cs := #[.slice none 0 0, .slice none 0 0, .int .i64 0, .int .i64 0, .int .i64 0, .int .i64 0, .int .i64 0, .int .i64 0, .int .i64 0, .int .i64 0]) (t := 43) ?hr ?_; (case hd => rfl); (case hg => rfl); (case hr => first | (go_simp; done) | (go_simp; rfl)); intro gb496 hg w58 hbox hb; have n0_ := Aside0.mk (Kd.V_below (Kd.V_elderB (by (with_reducible repeat (first | apply Kd.V_alloc | apply Kd.V_drewN | apply Kd.V_drew)); exact HO_3.out) gb496 (Nat.le_of_eq hg.symm)) hb); have n1_ := Aside0.mk (blk_below (g := gb492) (o := .cells #[.int .i64 ((rd_T46 l0 a1).f0), .bool ((rd_T46 l0 a1).f1), .slice (some ad495) ((rd_T46 l0 a1).f2).length c491_2] 46 (0, 0)) (by (with_reducible repeat (first | refine blk_drewN ?_ _ | refine blk_drew ?_ | refine blk_alloc ?_ _)); exact BK492.out) hb); have n2_ := Aside0.mk (below_step (by repeat (first | (with_reducible first | exact HB.out | apply below_alloc | apply pw_below_drewN | apply below_drew1 | refine below_set ?_ GE492.out) | exact HB.out)) hb); have n3_ := Aside0.mk (hbox); have n4_ := Aside0.mk ((by rw [hg]; exact (below_size (by repeat (first | (with_reducible first | exact HB.out | apply below_alloc | apply pw_below_drewN | apply below_drew1 | refine below_set ?_ GE492.out) | exact HB.out))) : w.heap.size ≤ gb496)); have n5_ := Aside0.mk ((by rw [hg]; exact (below_size (by repeat (first | (with_reducible first | exact HB.out | apply below_alloc | apply pw_below_drewN | apply below_drew1 | refine below_set ?_ GE492.out) | exact HB.out))) : w.heap.size ≤ gb496)); have n6_ := Aside0.mk ((by rw [hg]; exact Nat.ne_of_lt (blk_lt (g := gb492) (o := .cells #[.int .i64 ((rd_T46 l0 a1).f0), .bool ((rd_T46 l0 a1).f1), .slice (some ad495) ((rd_T46 l0 a1).f2).length c491_2] 46 (0, 0)) (by (with_reducible repeat (first | refine blk_drewN ?_ _ | refine blk_drew ?_ | refine blk_alloc ?_ _)); exact BK492.out)) : gb492 ≠ gb496)); have n7_ := Aside0.mk ((by rw [hg]; exact Nat.ne_of_gt (blk_lt (g := gb492) (o := .cells #[.int .i64 ((rd_T46 l0 a1).f0), .bool ((rd_T46 l0 a1).f1), .slice (some ad495) ((rd_T46 l0 a1).f2).length c491_2] 46 (0, 0)) (by (with_reducible repeat (first | refine blk_drewN ?_ _ | refine blk_drew ?_ | refine blk_alloc ?_ _)); exact BK492.out)) : gb496 ≠ gb492)); clear HO_3; clear BK492; clear HB; have HO_3 := n0_; have BK492 := n1_; have HB := n2_; have BK496 := n3_; have GW496 := n4_; have GE496 := n5_; have NB492_496 := n6_; have NB496_492 := n7_; clear n0_ n1_ n2_ n3_ n4_ n5_ n6_ n7_; clear hb hbox hg; have hnb59 := NB496_492.out; have hnc59 := NB492_496.out; have hcz60_0 : w58.cell? ⟨gb496, 0, none⟩ = some (.slice none 0 0) := (blk_cell BK496.out 0).trans rfl; have hcz60_1 : w58.cell? ⟨gb496, 1, none⟩ = some (.slice none 0 0) := (blk_cell BK496.out 1).trans rfl; have hcz60_2 : w58.cell? ⟨gb496, 2, none⟩ = some (.int .i64 0) := (blk_cell BK496.out 2).trans rfl; have hcz60_3 : w58.cell? ⟨gb496, 3, none⟩ = some (.int .i64 0) := (blk_cell BK496.out 3).trans rfl; have hcz60_4 : w58.cell? ⟨gb496, 4, none⟩ = some (.int .i64 0) := (blk_cell BK496.out 4).trans rfl; have hcz60_5 : w58.cell? ⟨gb496, 5, none⟩ = some (.int .i64 0) := (blk_cell BK496.out 5).trans rfl; have hcz60_6 : w58.cell? ⟨gb496, 6, none⟩ = some (.int .i64 0) := (blk_cell BK496.out 6).trans rfl; have hcz60_7 : w58.cell? ⟨gb496, 7, none⟩ = some (.int .i64 0) := (blk_cell BK496.out 7).trans rfl; have hcz60_8 : w58.cell? ⟨gb496, 8, none⟩ = some (.int .i64 0) := (blk_cell BK496.out 8).trans rfl; have hcz60_9 : w58.cell? ⟨gb496, 9, none⟩ = some (.int .i64 0) := (blk_cell BK496.out 9).trans rfl; have hfz60_0 := blk_frozen BK496.out 0; have hfz60_1 := blk_frozen BK496.out 1; have hfz60_2 := blk_frozen BK496.out 2; have hfz60_3 := blk_frozen BK496.out 3; have hfz60_4 := blk_frozen BK496.out 4; have hfz60_5 := blk_frozen BK496.out 5; have hfz60_6 := blk_frozen BK496.out 6; have hfz60_7 := blk_frozen BK496.out 7; have hfz60_8 := blk_frozen BK496.out 8; have hfz60_9 := blk_frozen BK496.out 9; have hcz61_0 : w58.cell? ⟨gb492, 0, none⟩ = some (.int .i64 ((rd_T46 l0 a1).f0)) := (blk_cell BK492.out 0).trans rfl; have hcz61_1 : w58.cell? ⟨gb492, 1, none⟩ = some (.bool ((rd_T46 l0 a1).f1)) := (blk_cell BK492.out 1).trans rfl; have hcz61_2 : w58.cell? ⟨gb492, 2, none⟩ = some (.slice (some ad495) ((rd_T46 l0 a1).f2).length c491_2) := (blk_cell BK492.out 2).trans rfl; have hfz61_0 := blk_frozen BK492.out 0; have hfz61_1 := blk_frozen BK492.out 1; have hfz61_2 := blk_frozen BK492.out 2) | ((with_reducible refine gate_callee (f := 23) rfl ?_); refine goesL_ (some 60) rfl rfl Try.func23 (by kernel_rfl) rfl #[.slice A3 l3.length c3, .slice A2 l2.length c2, .int .i64 a4, .slice A495_0 ((rd_T43 ((rd_T46 l0 a1).f2) x16_2).f0).length c495_0, .bool ((rd_T46 l0 a1).f1)] rfl (by (try simp only [List.map_toArray, List.map_cons, List.map_nil]); first | done | rfl | (simp only [List.length_drop, List.length_take]; rfl)) ?_; (with_reducible refine (foundryref19_Meet.calls k2 _ _ l3 _ _ l2 a4 _ _ ((rd_T43 ((rd_T46 l0 a1).f2) x16_2).f0) ((rd_T46 l0 a1).f1) t497 true _ ?side1 ?side2 ?side3 ?side4 ?side5 ?side6 A22.out).mono ?_); (case side1 => refine (Kd.V_reads' (e := 3) (base := w.heap.size) (ok := fun k_ => ((((P3_ k_ ∨ w.heap.size ≤ k_)) ∧ k_ ≠ gb492) ∧ k_ ≠ gb496)) (n := l3.length) (c := c3) ?_).2.2; exact (by (with_reducible repeat (first | apply Kd.V_alloc | apply Kd.V_drewN | apply Kd.V_drew)); exact (Kd.V_mono (Kd.V_far (p := ⟨gb496, 9, none⟩) (Kd.V_far (p := ⟨gb496, 8, none⟩) (Kd.V_far (p := ⟨gb496, 7, none⟩) (Kd.V_far (p := ⟨gb496, 6, none⟩) (Kd.V_far (p := ⟨gb496, 5, none⟩) (Kd.V_far (p := ⟨gb496, 4, none⟩) (Kd.V_far (p := ⟨gb496, 3, none⟩) (Kd.V_far (p := ⟨gb496, 2, none⟩) (Kd.V_far (p := ⟨gb496, 1, none⟩) (Kd.V_far (p := ⟨gb496, 0, none⟩) (Kd.V_mono HO_3.out (fun k_ hk => (⟨hk, hk.2⟩ : _ ∧ k_ ≠ gb496))) (fun _ hk => hk.2) (.slice A495_0 ((rd_T43 ((rd_T46 l0 a1).f2) x16_2).f0).length c495_0)) (fun _ hk => hk.2) (.slice A495_1 ((rd_T43 ((rd_T46 l0 a1).f2) x16_2).f1).length c495_1)) (fun _ hk => hk.2) (.int .i64 ((rd_T43 ((rd_T46 l0 a1).f2) x16_2).f2))) (fun _ hk => hk.2) (.int .i64 ((rd_T43 ((rd_T46 l0 a1).f2) x16_2).f3))) (fun _ hk => hk.2) (.int .i64 ((rd_T43 ((rd_T46 l0 a1).f2) x16_2).f4.f0))) (fun _ hk => hk.2) (.int .i64 ((rd_T43 ((rd_T46 l0 a1).f2) x16_2).f4.f1))) (fun _ hk => hk.2) (.int .i64 ((rd_T43 ((rd_T46 l0 a1).f2) x16_2).f5.f0))) (fun _ hk => hk.2) (.int .i64 ((rd_T43 ((rd_T46 l0 a1).f2) x16_2).f5.f1))) (fun _ hk => hk.2) (.int .i64 ((rd_T43 ((rd_T46 l0 a1).f2) x16_2).f6.f0))) (fun _ hk => hk.2) (.int .i64 ((rd_T43 ((rd_T46 l0 a1).f2) x16_2).f6.f1))) (fun _ h_ => h_.1)))); (case side2 => exact (Kd.V_reads' HO_3.out).2.1); (case side3 => exact Kd.C_below HR2.out (by repeat (first | (with_reducible first | exact HB.out | apply below_alloc | apply pw_below_drewN | apply below_drew1 | refine below_set ?_ GE492.out | refine below_set ?_ GE496.out) | exact HB.out))); (case side4 => exact HC2.out); (case side5 => exact Kd.C_below HR495_0.out (by repeat (first | (with_reducible first | exact HB.out | apply below_alloc | apply pw_below_drewN | apply below_drew1 | refine below_set ?_ GE492.out | refine below_set ?_ GE496.out) | exact HB.out))); (case side6 => exact HC495_0.out); rintro e w62 ⟨v499, rfl, ho0, hb⟩; refine ⟨_, rfl, ?_⟩; have n0_ := Aside0.mk (Kd.V_elder' (by (with_reducible repeat (first | apply Kd.V_alloc | apply Kd.V_drewN | apply Kd.V_drew)); exact (Kd.V_mono (Kd.V_far (p := ⟨gb496, 9, none⟩) (Kd.V_far (p := ⟨gb496, 8, none⟩) (Kd.V_far (p := ⟨gb496, 7, none⟩) (Kd.V_far (p := ⟨gb496, 6, none⟩) (Kd.V_far (p := ⟨gb496, 5, none⟩) (Kd.V_far (p := ⟨gb496, 4, none⟩) (Kd.V_far (p := ⟨gb496, 3, none⟩) (Kd.V_far (p := ⟨gb496, 2, none⟩) (Kd.V_far (p := ⟨gb496, 1, none⟩) (Kd.V_far (p := ⟨gb496, 0, none⟩) (Kd.V_mono HO_3.out (fun k_ hk => (⟨hk, hk.2⟩ : _ ∧ k_ ≠ gb496))) (fun _ hk => hk.2) (.slice A495_0 ((rd_T43 ((rd_T46 l0 a1).f2) x16_2).f0).length c495_0)) (fun _ hk => hk.2) (.slice A495_1 ((rd_T43 ((rd_T46 l0 a1).f2) x16_2).f1).length c495_1)) (fun _ hk => hk.2) (.int .i64 ((rd_T43 ((rd_T46 l0 a1).f2) x16_2).f2))) (fun _ hk => hk.2) (.int .i64 ((rd_T43 ((rd_T46 l0 a1).f2) x16_2).f3))) (fun _ hk => hk.2) (.int .i64 ((rd_T43 ((rd_T46 l0 a1).f2) x16_2).f4.f0))) (fun _ hk => hk.2) (.int .i64 ((rd_T43 ((rd_T46 l0 a1).f2) x16_2).f4.f1))) (fun _ hk => hk.2) (.int .i64 ((rd_T43 ((rd_T46 l0 a1).f2) x16_2).f5.f0))) (fun _ hk => hk.2) (.int .i64 ((rd_T43 ((rd_T46 l0 a1).f2) x16_2).f5.f1))) (fun _ hk => hk.2) (.int .i64 ((rd_T43 ((rd_T46 l0 a1).f2) x16_2).f6.f0))) (fun _ hk => hk.2) (.int .i64 ((rd_T43 ((rd_T46 l0 a1).f2) x16_2).f6.f1))) (fun _ h_ => h_.1))) (Kd.R_base ho0) hb); have n1_ := Aside0.mk (Kd.R_lower (Kd.R_newM (M := fun k_ => (w.heap.size ≤ k_)) ho0 (below_size (by repeat (first | (with_reducible first | exact HB.out | apply below_alloc | apply pw_below_drewN | apply below_drew1 | refine below_set ?_ GE492.out | refine below_set ?_ GE496.out) | exact HB.out))) (fun k_ h_ => h_)) (below_size (by repeat (first | (with_reducible first | exact HB.out | apply below_alloc | apply pw_below_drewN | apply below_drew1 | refine below_set ?_ GE492.out | refine below_set ?_ GE496.out) | exact HB.out)))); have n2_ := Aside0.mk (blk_below (g := gb492) (o := .cells #[.int .i64 ((rd_T46 l0 a1).f0), .bool ((rd_T46 l0 a1).f1), .slice (some ad495) ((rd_T46 l0 a1).f2).length c491_2] 46 (0, 0)) (by (with_reducible repeat (first | refine blk_drewN ?_ _ | refine blk_drew ?_ | refine blk_alloc ?_ _)); refine blk_far ?_ NB492_496.out _; (with_reducible repeat (first | refine blk_drewN ?_ _ | refine blk_drew ?_ | refine blk_alloc ?_ _)); refine blk_far ?_ NB492_496.out _; (with_reducible repeat (first | refine blk_drewN ?_ _ | refine blk_drew ?_ | refine blk_alloc ?_ _)); refine blk_far ?_ NB492_496.out _; (with_reducible repeat (first | refine blk_drewN ?_ _ | refine blk_drew ?_ | refine blk_alloc ?_ _)); refine blk_far ?_ NB492_496.out _; (with_reducible repeat (first | refine blk_drewN ?_ _ | refine blk_drew ?_ | refine blk_alloc ?_ _)); refine blk_far ?_ NB492_496.out _; (with_reducible repeat (first | refine blk_drewN ?_ _ | refine blk_drew ?_ | refine blk_alloc ?_ _)); refine blk_far ?_ NB492_496.out _; (with_reducible repeat (first | refine blk_drewN ?_ _ | refine blk_drew ?_ | refine blk_alloc ?_ _)); refine blk_far ?_ NB492_496.out _; (with_reducible repeat (first | refine blk_drewN ?_ _ | refine blk_drew ?_ | refine blk_alloc ?_ _)); refine blk_far ?_ NB492_496.out _; (with_reducible repeat (first | refine blk_drewN ?_ _ | refine blk_drew ?_ | refine blk_alloc ?_ _)); refine blk_far ?_ NB492_496.out _; (with_reducible repeat (first | refine blk_drewN ?_ _ | refine blk_drew ?_ | refine blk_alloc ?_ _)); refine blk_far ?_ NB492_496.out _; (with_reducible repeat (first | refine blk_drewN ?_ _ | refine blk_drew ?_ | refine blk_alloc ?_ _)); exact BK492.out) hb); have n3_ := Aside0.mk (blk_below (g := gb496) (o := .cells #[.slice A495_0 ((rd_T43 ((rd_T46 l0 a1).f2) x16_2).f0).length c495_0, .slice A495_1 ((rd_T43 ((rd_T46 l0 a1).f2) x16_2).f1).length c495_1, .int .i64 ((rd_T43 ((rd_T46 l0 a1).f2) x16_2).f2), .int .i64 ((rd_T43 ((rd_T46 l0 a1).f2) x16_2).f3), .int .i64 ((rd_T43 ((rd_T46 l0 a1).f2) x16_2).f4.f0), .int .i64 ((rd_T43 ((rd_T46 l0 a1).f2) x16_2).f4.f1), .int .i64 ((rd_T43 ((rd_T46 l0 a1).f2) x16_2).f5.f0), .int .i64 ((rd_T43 ((rd_T46 l0 a1).f2) x16_2).f5.f1), .int .i64 ((rd_T43 ((rd_T46 l0 a1).f2) x16_2).f6.f0), .int .i64 ((rd_T43 ((rd_T46 l0 a1).f2) x16_2).f6.f1)] 43 (0, 0)) (by (with_reducible repeat (first | refine blk_drewN ?_ _ | refine blk_drew ?_ | refine blk_alloc ?_ _)); refine blk_put (cs := #[.slice A495_0 ((rd_T43 ((rd_T46 l0 a1).f2) x16_2).f0).length c495_0, .slice A495_1 ((rd_T43 ((rd_T46 l0 a1).f2) x16_2).f1).length c495_1, .int .i64 ((rd_T43 ((rd_T46 l0 a1).f2) x16_2).f2), .int .i64 ((rd_T43 ((rd_T46 l0 a1).f2) x16_2).f3), .int .i64 ((rd_T43 ((rd_T46 l0 a1).f2) x16_2).f4.f0), .int .i64 ((rd_T43 ((rd_T46 l0 a1).f2) x16_2).f4.f1), .int .i64 ((rd_T43 ((rd_T46 l0 a1).f2) x16_2).f5.f0), .int .i64 ((rd_T43 ((rd_T46 l0 a1).f2) x16_2).f5.f1), .int .i64 ((rd_T43 ((rd_T46 l0 a1).f2) x16_2).f6.f0), .int .i64 0]) ?_ 9 _ rfl; (with_reducible repeat (first | refine blk_drewN ?_ _ | refine blk_drew ?_ | refine blk_alloc ?_ _)); refine blk_put (cs := #[.slice A495_0 ((rd_T43 ((rd_T46 l0 a1).f2) x16_2).f0).length c495_0, .slice A495_1 ((rd_T43 ((rd_T46 l0 a1).f2) x16_2).f1).length c495_1, .int .i64 ((rd_T43 ((rd_T46 l0 a1).f2) x16_2).f2), .int .i64 ((rd_T43 ((rd_T46 l0 a1).f2) x16_2).f3), .int .i64 ((rd_T43 ((rd_T46 l0 a1).f2) x16_2).f4.f0), .int .i64 ((rd_T43 ((rd_T46 l0 a1).f2) x16_2).f4.f1), .int .i64 ((rd_T43 ((rd_T46 l0 a1).f2) x16_2).f5.f0), .int .i64 ((rd_T43 ((rd_T46 l0 a1).f2) x16_2).f5.f1), .int .i64 0, .int .i64 0]) ?_ 8 _ rfl; (with_reducible repeat (first | refine blk_drewN ?_ _ | refine blk_drew ?_ | refine blk_alloc ?_ _)); refine blk_put (cs := #[.slice A495_0 ((rd_T43 ((rd_T46 l0 a1).f2) x16_2).f0).length c495_0, .slice A495_1 ((rd_T43 ((rd_T46 l0 a1).f2) x16_2).f1).length c495_1, .int .i64 ((rd_T43 ((rd_T46 l0 a1).f2) x16_2).f2), .int .i64 ((rd_T43 ((rd_T46 l0 a1).f2) x16_2).f3), .int .i64 ((rd_T43 ((rd_T46 l0 a1).f2) x16_2).f4.f0), .int .i64 ((rd_T43 ((rd_T46 l0 a1).f2) x16_2).f4.f1), .int .i64 ((rd_T43 ((rd_T46 l0 a1).f2) x16_2).f5.f0), .int .i64 0, .int .i64 0, .int .i64 0]) ?_ 7 _ rfl; (with_reducible repeat (first | refine blk_drewN ?_ _ | refine blk_drew ?_ | refine blk_alloc ?_ _)); refine blk_put (cs := #[.slice A495_0 ((rd_T43 ((rd_T46 l0 a1).f2) x16_2).f0).length c495_0, .slice A495_1 ((rd_T43 ((rd_T46 l0 a1).f2) x16_2).f1).length c495_1, .int .i64 ((rd_T43 ((rd_T46 l0 a1).f2) x16_2).f2), .int .i64 ((rd_T43 ((rd_T46 l0 a1).f2) x16_2).f3), .int .i64 ((rd_T43 ((rd_T46 l0 a1).f2) x16_2).f4.f0), .int .i64 ((rd_T43 ((rd_T46 l0 a1).f2) x16_2).f4.f1), .int .i64 0, .int .i64 0, .int .i64 0, .int .i64 0]) ?_ 6 _ rfl; (with_reducible repeat (first | refine blk_drewN ?_ _ | refine blk_drew ?_ | refine blk_alloc ?_ _)); refine blk_put (cs := #[.slice A495_0 ((rd_T43 ((rd_T46 l0 a1).f2) x16_2).f0).length c495_0, .slice A495_1 ((rd_T43 ((rd_T46 l0 a1).f2) x16_2).f1).length c495_1, .int .i64 ((rd_T43 ((rd_T46 l0 a1).f2) x16_2).f2), .int .i64 ((rd_T43 ((rd_T46 l0 a1).f2) x16_2).f3), .int .i64 ((rd_T43 ((rd_T46 l0 a1).f2) x16_2).f4.f0), .int .i64 0, .int .i64 0, .int .i64 0, .int .i64 0, .int .i64 0]) ?_ 5 _ rfl; (with_reducible repeat (first | refine blk_drewN ?_ _ | refine blk_drew ?_ | refine blk_alloc ?_ _)); refine blk_put (cs := #[.slice A495_0 ((rd_T43 ((rd_T46 l0 a1).f2) x16_2).f0).length c495_0, .slice A495_1 ((rd_T43 ((rd_T46 l0 a1).f2) x16_2).f1).length c495_1, .int .i64 ((rd_T43 ((rd_T46 l0 a1).f2) x16_2).f2), .int .i64 ((rd_T43 ((rd_T46 l0 a1).f2) x16_2).f3), .int .i64 0, .int .i64 0, .int .i64 0, .int .i64 0, .int .i64 0, .int .i64 0]) ?_ 4 _ rfl; (with_reducible repeat (first | refine blk_drewN ?_ _ | refine blk_drew ?_ | refine blk_alloc ?_ _)); refine blk_put (cs := #[.slice A495_0 ((rd_T43 ((rd_T46 l0 a1).f2) x16_2).f0).length c495_0, .slice A495_1 ((rd_T43 ((rd_T46 l0 a1).f2) x16_2).f1).length c495_1, .int .i64 ((rd_T43 ((rd_T46 l0 a1).f2) x16_2).f2), .int .i64 0, .int .i64 0, .int .i64 0, .int .i64 0, .int .i64 0, .int .i64 0, .int .i64 0]) ?_ 3 _ rfl; (with_reducible repeat (first | refine blk_drewN ?_ _ | refine blk_drew ?_ | refine blk_alloc ?_ _)); refine blk_put (cs := #[.slice A495_0 ((rd_T43 ((rd_T46 l0 a1).f2) x16_2).f0).length c495_0, .slice A495_1 ((rd_T43 ((rd_T46 l0 a1).f2) x16_2).f1).length c495_1, .int .i64 0, .int .i64 0, .int .i64 0, .int .i64 0, .int .i64 0, .int .i64 0, .int .i64 0, .int .i64 0]) ?_ 2 _ rfl; (with_reducible repeat (first | refine blk_drewN ?_ _ | refine blk_drew ?_ | refine blk_alloc ?_ _)); refine blk_put (cs := #[.slice A495_0 ((rd_T43 ((rd_T46 l0 a1).f2) x16_2).f0).length c495_0, .slice none 0 0, .int .i64 0, .int .i64 0, .int .i64 0, .int .i64 0, .int .i64 0, .int .i64 0, .int .i64 0, .int .i64 0]) ?_ 1 _ rfl; (with_reducible repeat (first | refine blk_drewN ?_ _ | refine blk_drew ?_ | refine blk_alloc ?_ _)); refine blk_put (cs := #[.slice none 0 0, .slice none 0 0, .int .i64 0, .int .i64 0, .int .i64 0, .int .i64 0, .int .i64 0, .int .i64 0, .int .i64 0, .int .i64 0]) ?_ 0 _ rfl; (with_reducible repeat (first | refine blk_drewN ?_ _ | refine blk_drew ?_ | refine blk_alloc ?_ _)); exact BK496.out) hb); have n4_ := Aside0.mk (below_step (by repeat (first | (with_reducible first | exact HB.out | apply below_alloc | apply pw_below_drewN | apply below_drew1 | refine below_set ?_ GE492.out | refine below_set ?_ GE496.out) | exact HB.out)) hb); clear HO_3; clear BK492; clear BK496; clear HB; have HO_3 := n0_; have HO500 := n1_; have BK492 := n2_; have BK496 := n3_; have HB := n4_; clear n0_ n1_ n2_ n3_ n4_; (try clear hb); (try clear hb2); (try clear hk); (try clear hi); (try clear ho0); have hcz63_0 : w62.cell? ⟨gb492, 0, none⟩ = some (.int .i64 ((rd_T46 l0 a1).f0)) := (blk_cell BK492.out 0).trans rfl; have hcz63_1 : w62.cell? ⟨gb492, 1, none⟩ = some (.bool ((rd_T46 l0 a1).f1)) := (blk_cell BK492.out 1).trans rfl; have hcz63_2 : w62.cell? ⟨gb492, 2, none⟩ = some (.slice (some ad495) ((rd_T46 l0 a1).f2).length c491_2) := (blk_cell BK492.out 2).trans rfl; have hfz63_0 := blk_frozen BK492.out 0; have hfz63_1 := blk_frozen BK492.out 1; have hfz63_2 := blk_frozen BK492.out 2; obtain ⟨Ao64, co64, eo64⟩ := Kd.R_slice HO500.out; subst eo64))
             go_loopg [22, 23] k2 (fun kq v22 v23 w' => ∃ (x22_3 : List Int) (x23_3 : Int), v23 = .int .i64 x23_3 ∧ Aside0 (foundryref20_done.l1 kq a4 t497 x22_3 x23_3 ((rd_T43 ((rd_T46 l0 a1).f2) x16_2).f0) ((rd_T43 ((rd_T46 l0 a1).f2) x16_2).f1) ((rd_T43 ((rd_T46 l0 a1).f2) x16_2).f2) ((rd_T43 ((rd_T46 l0 a1).f2) x16_2).f3) ((rd_T43 ((rd_T46 l0 a1).f2) x16_2).f4.f0) ((rd_T43 ((rd_T46 l0 a1).f2) x16_2).f4.f1) ((rd_T43 ((rd_T46 l0 a1).f2) x16_2).f5.f0) ((rd_T43 ((rd_T46 l0 a1).f2) x16_2).f5.f1) ((rd_T43 ((rd_T46 l0 a1).f2) x16_2).f6.f0) ((rd_T43 ((rd_T46 l0 a1).f2) x16_2).f6.f1) = some (r1, r2, r3)) ∧ Aside0 (kq ≤ k2) ∧ Aside0 (Kd.R (Kd.int .i64) 3 w' w.heap.size (fun k_ => (w.heap.size ≤ k_)) (.slice Ao64 t497.length co64) t497) ∧ Aside0 (Kd.V (Kd.int .i64) 3 w' w.heap.size (fun k_ => (P3_ k_ ∨ w.heap.size ≤ k_) ∧ some k_ ≠ ((.slice Ao64 t497.length co64) : Value).ownBlock ∧ k_ ≠ gb492 ∧ k_ ≠ gb496) v22 x22_3) ∧ Aside0 (w'.heap[gb492]? = some (.cells #[.int .i64 ((rd_T46 l0 a1).f0), .bool ((rd_T46 l0 a1).f1), (.slice (some ad495) ((rd_T46 l0 a1).f2).length c491_2)] 46 (0, 0))) ∧ Aside0 (w'.heap[gb496]? = some (.cells #[(.slice A495_0 ((rd_T43 ((rd_T46 l0 a1).f2) x16_2).f0).length c495_0), (.slice A495_1 ((rd_T43 ((rd_T46 l0 a1).f2) x16_2).f1).length c495_1), .int .i64 ((rd_T43 ((rd_T46 l0 a1).f2) x16_2).f2), .int .i64 ((rd_T43 ((rd_T46 l0 a1).f2) x16_2).f3), .int .i64 ((rd_T43 ((rd_T46 l0 a1).f2) x16_2).f4.f0), .int .i64 ((rd_T43 ((rd_T46 l0 a1).f2) x16_2).f4.f1), .int .i64 ((rd_T43 ((rd_T46 l0 a1).f2) x16_2).f5.f0), .int .i64 ((rd_T43 ((rd_T46 l0 a1).f2) x16_2).f5.f1), .int .i64 ((rd_T43 ((rd_T46 l0 a1).f2) x16_2).f6.f0), .int .i64 ((rd_T43 ((rd_T46 l0 a1).f2) x16_2).f6.f1)] 43 (0, 0))) ∧ Aside0 (Below w.heap.size w w'))
             case atStart => exact ⟨(l3), (wrap64 ((t497.length : Int) - 1)), (by first | rfl | (simp; done) | (simp [*]; done)), H', ⟨Nat.le_refl _⟩, ⟨by (with_reducible repeat (first | apply Kd.R_alloc | apply Kd.R_drewN | apply Kd.R_drew)); exact Kd.R_mono HO500.out (fun _ hk => hk.1)⟩, ⟨by (with_reducible repeat (first | apply Kd.V_alloc | apply Kd.V_drewN | apply Kd.V_drew)); exact Kd.V_mono HO_3.out (fun _ hk => ⟨hk.1.1.1, ⟨hk.2, ⟨hk.1.1.2, hk.1.2⟩⟩⟩)⟩, ⟨by (with_reducible repeat (first | refine blk_drewN ?_ _ | refine blk_drew ?_ | refine blk_alloc ?_ _)); exact BK492.out⟩, ⟨by (with_reducible repeat (first | refine blk_drewN ?_ _ | refine blk_drew ?_ | refine blk_alloc ?_ _)); exact BK496.out⟩, ⟨by repeat (first | (with_reducible first | exact HB.out | apply below_alloc | apply pw_below_drewN | apply below_drew1 | refine below_set ?_ GE492.out | refine below_set ?_ GE496.out) | exact HB.out)⟩⟩
             case round =>
              clear H'
              try clear c1
              try clear q1
              try clear c2
              try clear p2
              try clear c3
              try clear c4
              try clear p4
              try clear q4
              try clear hx4
              try clear c5
              try clear p5
              try clear q5
              try clear hx5
              try clear p6
              try clear c7
              try clear c7b0
              try clear c8
              try clear c8b0
              try clear q12
              try clear c13
              try clear c14
              try clear c14b0
              try clear c15
              try clear c15b0
              try clear c19
              try clear c20
              try clear c20b0
              try clear c21
              try clear c21b0
              try clear c23
              try clear c24
              try clear c24b0
              try clear c24b1
              try clear c25
              try clear c25b0
              try clear c26
              try clear c26b0
              try clear c27
              try clear c27b0
              try clear c30
              try clear c30b0
              try clear c31
              try clear c31b0
              try clear c35
              try clear c45
              try clear c45b0
              try clear c46
              try clear c46b0
              try clear c47
              try clear c49
              try clear p49
              try clear q49
              try clear hx49
              try clear c50
              try clear p50
              try clear q50
              try clear hx50
              try clear c56
              try clear c56b0
              try clear c56b1
              try clear c59
              try clear p64
              try clear hcz11_0
              try clear hcz11_1
              try clear hcz11_2
              try clear hcz17_0
              try clear hcz17_1
              try clear hcz17_2
              try clear hcz18_0
              try clear hcz18_1
              try clear hcz18_2
              try clear hcz33_0
              try clear hcz33_1
              try clear hcz33_2
              try clear hcz36_0
              try clear hcz36_1
              try clear hcz36_2
              try clear hcz36_3
              try clear hcz36_4
              try clear hcz36_5
              try clear hcz36_6
              try clear hcz36_7
              try clear hcz36_8
              try clear hcz36_9
              try clear hcz37_0
              try clear hcz37_1
              try clear hcz37_2
              try clear hcz39_0
              try clear hcz39_1
              try clear hcz39_2
              try clear hcz48_0
              try clear hcz48_1
              try clear hcz48_2
              try clear hcz51_0
              try clear hcz51_1
              try clear hcz51_2
              try clear hcz51_3
              try clear hcz51_4
              try clear hcz51_5
              try clear hcz51_6
              try clear hcz51_7
              try clear hcz51_8
              try clear hcz51_9
              try clear hcz52_0
              try clear hcz52_1
              try clear hcz52_2
              try clear hcz54_0
              try clear hcz54_1
              try clear hcz54_2
              try clear hcz57_0
              try clear hcz57_1
              try clear hcz57_2
              try clear hcz60_0
              try clear hcz60_1
              try clear hcz60_2
              try clear hcz60_3
              try clear hcz60_4
              try clear hcz60_5
              try clear hcz60_6
              try clear hcz60_7
              try clear hcz60_8
              try clear hcz60_9
              try clear hcz61_0
              try clear hcz61_1
              try clear hcz61_2
              try clear hcz63_0
              try clear hcz63_1
              try clear hcz63_2
              try clear hfz11_0
              try clear hfz11_1
              try clear hfz11_2
              try clear hfz17_0
              try clear hfz17_1
              try clear hfz17_2
              try clear hfz18_0
              try clear hfz18_1
              try clear hfz18_2
              try clear hfz33_0
              try clear hfz33_1
              try clear hfz33_2
              try clear hfz36_0
              try clear hfz36_1
              try clear hfz36_2
              try clear hfz36_3
              try clear hfz36_4
              try clear hfz36_5
              try clear hfz36_6
              try clear hfz36_7
              try clear hfz36_8
              try clear hfz36_9
              try clear hfz37_0
              try clear hfz37_1
              try clear hfz37_2
              try clear hfz39_0
              try clear hfz39_1
              try clear hfz39_2
              try clear hfz48_0
              try clear hfz48_1
              try clear hfz48_2
              try clear hfz51_0
              try clear hfz51_1
              try clear hfz51_2
              try clear hfz51_3
              try clear hfz51_4
              try clear hfz51_5
              try clear hfz51_6
              try clear hfz51_7
              try clear hfz51_8
              try clear hfz51_9
              try clear hfz52_0
              try clear hfz52_1
              try clear hfz52_2
              try clear hfz54_0
              try clear hfz54_1
              try clear hfz54_2
              try clear hfz57_0
              try clear hfz57_1
              try clear hfz57_2
              try clear hfz60_0
              try clear hfz60_1
              try clear hfz60_2
              try clear hfz60_3
              try clear hfz60_4
              try clear hfz60_5
              try clear hfz60_6
              try clear hfz60_7
              try clear hfz60_8
              try clear hfz60_9
              try clear hfz61_0
              try clear hfz61_1
              try clear hfz61_2
              try clear hfz63_0
              try clear hfz63_1
              try clear hfz63_2
              try clear hx491_0
              try clear hx491_1
              try clear hx491_2
              try clear hx493_0
              try clear hx495_0
              try clear hx495_1
              try clear hx495_2
              try clear hx495_3
              try clear hx495_4
              try clear hx495_5
              try clear hx495_6
              try clear hx495_7
              try clear hx495_8
              try clear hx495_9
              try clear hx501_0
              try clear hx507_0
              try clear hx508_0
              try clear p2
              try clear p4
              try clear p491
              try clear p493
              try clear p495
              try clear p501
              try clear p507
              try clear p508
              try clear q1
              try clear q12
              try clear q4
              try clear q491
              try clear q493
              try clear q495
              try clear q501
              try clear q507
              try clear q508
              obtain ⟨x22_3, x23_3, rfl, HA, HK3, HO_18, HO_22, BK492, BK496, HB⟩ := hrel
              cases gk with
              | zero => exact absurd HA.out (by simp [foundryref20_done.l1])
              | succ k3 =>
               have H := HA.out
               clear HA
               simp only [foundryref20_done.l1] at H
               by_cases c65 : x23_3 ≥ 1
               ·rw [if_pos c65] at H
                have c65b0 : decide (1 ≤ x23_3) = true := decide_eq_true c65
                clear c65
                by_cases c66 : 0 ≤ x23_3
                ·rw [if_pos c66] at H
                 have c66b0 : decide (0 ≤ x23_3) = true := decide_eq_true c66
                 clear c66
                 by_cases c67 : x23_3 < (t497.length : Int)
                 ·rw [if_pos c67] at H
                  have c67b0 : decide (x23_3 < (t497.length : Int)) = true := decide_eq_true c67
                  clear c67
                  replace H := Option.bind_eq_some_iff.mp H
                  obtain ⟨t511, A680, H⟩ := H
                  replace H : (foundryref20_done.l1 k3 a4 t497 t511 (wrap64 (x23_3 - 1)) ((rd_T43 ((rd_T46 l0 a1).f2) x16_2).f0) ((rd_T43 ((rd_T46 l0 a1).f2) x16_2).f1) ((rd_T43 ((rd_T46 l0 a1).f2) x16_2).f2) ((rd_T43 ((rd_T46 l0 a1).f2) x16_2).f3) ((rd_T43 ((rd_T46 l0 a1).f2) x16_2).f4.f0) ((rd_T43 ((rd_T46 l0 a1).f2) x16_2).f4.f1) ((rd_T43 ((rd_T46 l0 a1).f2) x16_2).f5.f0) ((rd_T43 ((rd_T46 l0 a1).f2) x16_2).f5.f1) ((rd_T43 ((rd_T46 l0 a1).f2) x16_2).f6.f0) ((rd_T43 ((rd_T46 l0 a1).f2) x16_2).f6.f1)) = some (r1, r2, r3) := H
                  have A68 := Aside0.mk A680
                  clear A680
                  have H' := Aside0.mk H
                  clear H
                  try go_wp2
                  have n0_ := Aside0.mk (Kd.R_drew HO_18.out)
                  have n1_ := Aside0.mk (Kd.V_drew HO_22.out)
                  have n2_ := Aside0.mk (blk_drew BK492.out)
                  have n3_ := Aside0.mk (blk_drew BK496.out)
                  have n4_ := Aside0.mk (below_drew1 HB.out)
                  clear HO_18
                  clear HO_22
                  clear BK492
                  clear BK496
                  clear HB
                  have HO_18 := n0_
                  have HO_22 := n1_
                  have BK492 := n2_
                  have BK496 := n3_
                  have HB := n4_
                  clear n0_ n1_ n2_ n3_ n4_
                  have p509 : 0 ≤ (x23_3 : Int) := of_decide_eq_true (by first | (with_reducible assumption) | assumption)
                  have q509 : x23_3 < (t497.length : Int) := of_decide_eq_true (by first | (with_reducible assumption) | assumption)
                  obtain ⟨ad509, e509, hx509_0⟩ := Kd.at_int (Kd.R_reads' HO_18.out).2.2 x23_3 p509 q509
                  cases e509
                  replace p509 := eq_true p509
                  replace q509 := eq_true q509
                  have p510 : 0 ≤ (x23_3 : Int) := of_decide_eq_true (by first | (with_reducible assumption) | assumption)
                  have q510 : x23_3 < (t497.length : Int) := of_decide_eq_true (by first | (with_reducible assumption) | assumption)
                  obtain ⟨ad510, e510, hx510_0⟩ := Kd.at_int (Kd.R_reads' HO_18.out).2.2 x23_3 p510 q510
                  obtain rfl : ad509 = ad510 := (by injection e510)
                  replace p510 := eq_true p510
                  replace q510 := eq_true q510
                  obtain ⟨Ao70, co70, eo70⟩ := Kd.V_slice HO_22.out
                  (first | subst eo70 | (injection eo70 with f1_ f2_ f3_; have f4_ := f1_.symm; have f5_ := f3_.symm; clear f1_ f2_ f3_; subst f4_; subst f5_))
                  refine start_ (n := 12) (S := fun w' => w'.cell? (ad509.add (x23_3).toNat) = some (.int .i64 (rd t497 x23_3)) ∧ w'.cell? (ad509.add (x23_3).toNat) = some (.int .i64 (rd t497 x23_3))) (ds := []) #[false, false, false, false, false, false, false, false, false, false, false, false] (by kernel_rfl) rfl rfl ⟨hx509_0, hx510_0⟩ (fun hHeld => ?_); refine with_tabW foundryref20_done.tab22 foundryref20_done.bits22 (fun HT_ HW_ => ?_)
                  generalize wr.drew = w69 at HO_18 HO_22 BK492 BK496 HB hx509_0 hx510_0 hHeld ⊢
                  refine pure_ (i := 0) (N := some 116) (v := ?_) (a' := ?_) #[true, false, false, false, false, false, false, false, false, false, false, false] rfl rfl (any_of HT_.out (by kernel_rfl)) (fun _ _ _ h => h) (Or.inl ⟨by rfl, ?_⟩) ?_ ?_
                  rotate_left
                  ·intro w'
                   go_simp
                   with_reducible rfl
                  rotate_left
                  ·simp only [Act.put, List.setIfInBounds_toArray, List.set_cons_zero, List.set_cons_succ, i64_w, i32_w]
                   rfl
                  refine pure_ (i := 1) (N := some 117) (v := ?_) (a' := ?_) #[true, true, false, false, false, false, false, false, false, false, false, false] rfl rfl (any_of HT_.out (by kernel_rfl)) (fun _ _ _ h => h) (Or.inl ⟨by rfl, ?_⟩) ?_ ?_
                  rotate_left
                  ·intro w'
                   go_simp
                   with_reducible rfl
                  rotate_left
                  ·simp only [Act.put, List.setIfInBounds_toArray, List.set_cons_zero, List.set_cons_succ, i64_w, i32_w]
                   rfl
                  refine pure_ (i := 2) (N := some 118) (v := ?_) (a' := ?_) #[true, true, true, false, false, false, false, false, false, false, false, false] rfl rfl (any_of HT_.out (by kernel_rfl)) (fun _ _ _ h => h) (Or.inl ⟨by rfl, ?_⟩) ?_ ?_
                  rotate_left
                  ·intro w'
                   go_simp
                   with_reducible rfl
                  rotate_left
                  ·simp only [Act.put, List.setIfInBounds_toArray, List.set_cons_zero, List.set_cons_succ, i64_w, i32_w]
                   rfl
                  refine pure_ (i := 3) (N := some 119) (v := ?_) (a' := ?_) #[true, true, true, true, false, false, false, false, false, false, false, false] rfl rfl (any_of HT_.out (by kernel_rfl)) (fun _ _ _ h => h) (Or.inl ⟨by rfl, ?_⟩) ?_ ?_
                  rotate_left
                  ·intro w'
                   go_simp
                   with_reducible rfl
                  rotate_left
                  ·simp only [Act.put, List.setIfInBounds_toArray, List.set_cons_zero, List.set_cons_succ, i64_w, i32_w]
                   rfl
                  refine pure_ (i := 5) (N := some 121) (v := ?_) (a' := ?_) #[true, true, true, true, false, true, false, false, false, false, false, false] rfl rfl (any_of HT_.out (by kernel_rfl)) (fun _ _ _ h => h) (Or.inl ⟨by rfl, ?_⟩) ?_ ?_
                  rotate_left
                  ·intro w'
                   go_simp
                   with_reducible rfl
                  rotate_left
                  ·simp only [Act.put, List.setIfInBounds_toArray, List.set_cons_zero, List.set_cons_succ, i64_w, i32_w]
                   rfl
                  refine pure_ (i := 6) (N := some 122) (v := ?_) (a' := ?_) #[true, true, true, true, false, true, true, false, false, false, false, false] rfl rfl (any_of HT_.out (by kernel_rfl)) (fun _ _ _ h => h) (Or.inl ⟨by rfl, ?_⟩) ?_ ?_
                  rotate_left
                  ·intro w'
                   go_simp
                   with_reducible rfl
                  rotate_left
                  ·simp only [Act.put, List.setIfInBounds_toArray, List.set_cons_zero, List.set_cons_succ, i64_w, i32_w]
                   rfl
                  refine pure_ (i := 7) (N := some 123) (v := ?_) (a' := ?_) #[true, true, true, true, false, true, true, true, false, false, false, false] rfl rfl (any_of HT_.out (by kernel_rfl)) (fun _ _ _ h => h) (Or.inl ⟨by rfl, ?_⟩) ?_ ?_
                  rotate_left
                  ·intro w'
                   go_simp
                   with_reducible rfl
                  rotate_left
                  ·simp only [Act.put, List.setIfInBounds_toArray, List.set_cons_zero, List.set_cons_succ, i64_w, i32_w]
                   rfl
                  refine take_ (i := 4) (N := some 120) (v := ?_) (a' := ?_) #[true, true, true, true, true, true, true, true, false, false, false, false] rfl rfl (take_ofW HT_.out HW_.out (by kernel_rfl)) (fun _ _ _ h => h) (Or.inl ⟨by rfl, ?_⟩) hHeld ?_ ?_
                  rotate_left
                  ·rintro w' ⟨s0, s1⟩
                   go_simp
                   with_reducible rfl
                  rotate_left
                  ·simp only [Act.put, List.setIfInBounds_toArray, List.set_cons_zero, List.set_cons_succ, i64_w, i32_w]
                   rfl
                  refine take_ (i := 8) (N := some 124) (v := ?_) (a' := ?_) #[true, true, true, true, true, true, true, true, true, false, false, false] rfl rfl (take_ofW HT_.out HW_.out (by kernel_rfl)) (fun _ _ _ h => h) (Or.inl ⟨by rfl, ?_⟩) hHeld ?_ ?_
                  rotate_left
                  ·rintro w' ⟨s0, s1⟩
                   go_simp
                   with_reducible rfl
                  rotate_left
                  ·simp only [Act.put, List.setIfInBounds_toArray, List.set_cons_zero, List.set_cons_succ, i64_w, i32_w]
                   rfl
                  refine pure_ (i := 9) (N := some 125) (v := ?_) (a' := ?_) #[true, true, true, true, true, true, true, true, true, true, false, false] rfl rfl (any_of HT_.out (by kernel_rfl)) (fun _ _ _ h => h) (Or.inl ⟨by rfl, ?_⟩) ?_ ?_
                  rotate_left
                  ·intro w'
                   go_simp
                   with_reducible rfl
                  rotate_left
                  ·simp only [Act.put, List.setIfInBounds_toArray, List.set_cons_zero, List.set_cons_succ, i64_w, i32_w]
                   rfl
                  refine one_ (i := 10) (N := some 126) #[true, true, true, true, true, true, true, true, true, true, true, false] rfl rfl (one_of HT_.out (by kernel_rfl)) (by decide) (fun K hK => ?_)
                  refine goes_ Try.func29 (by kernel_rfl) rfl #[.slice Ao70 x22_3.length co70, .int .i64 (rd t497 x23_3), .int .i64 (wrap64 ((rd t497 x23_3) + 1)), .slice none 0 0] (by rfl) rfl rfl (by (try simp only [List.map_toArray, List.map_cons, List.map_nil]); first | done | rfl | (simp only [List.length_drop, List.length_take]; rfl)) ?_
                  refine (foundryref19_Put.calls _ _ x22_3 (rd t497 x23_3) (wrap64 ((rd t497 x23_3) + 1)) _ _ ([] : List Int) t511 _ ?side1 ?side2 ?side3 ?side4 A68.out).mono ?_
                  (case side1 => repeat (first | exact (Kd.V_reads' HO_22.out).2.2 | (with_reducible refine Kd.C_alloc ?_ _) | (with_reducible refine Kd.C_drewN ?_ _) | (with_reducible refine Kd.C_drew ?_)))
                  (case side2 => exact (Kd.V_reads' HO_22.out).2.1)
                  (case side3 => exact Kd.C_nil _ _)
                  (case side4 => exact Nat.le_refl _)
                  rintro e w71 ⟨v512, rfl, ho0, hb⟩
                  have HS0_ := (hb.cell (World.block_lt_of_cell? _ _ (hHeld.1))).trans (hHeld.1)
                  have HS1_ := (hb.cell (World.block_lt_of_cell? _ _ (hHeld.2))).trans (hHeld.2)
                  refine ⟨_, rfl, ?_⟩
                  have n0_ := Aside0.mk (Kd.R_elder' (by (with_reducible repeat (first | apply Kd.R_alloc | apply Kd.R_drewN | apply Kd.R_drew)); exact HO_18.out) (Kd.R_base ho0) hb)
                  have n1_ := Aside0.mk (Kd.V_elder' (by (with_reducible repeat (first | apply Kd.V_alloc | apply Kd.V_drewN | apply Kd.V_drew)); exact HO_22.out) (Kd.R_base ho0) hb)
                  have n2_ := Aside0.mk (Kd.R_lower (Kd.R_new' (Kd.R_newM (M := fun k_ => (w.heap.size ≤ k_)) ho0 (below_size (by repeat (first | (with_reducible first | exact HB.out | apply below_alloc | apply pw_below_drewN | apply below_drew1 | refine below_set ?_ GE492.out | refine below_set ?_ GE496.out) | exact HB.out))) (fun k_ h_ => h_)) (Kd.R_lt (by (with_reducible repeat (first | apply Kd.R_alloc | apply Kd.R_drewN | apply Kd.R_drew)); exact HO_18.out))) (below_size (by repeat (first | (with_reducible first | exact HB.out | apply below_alloc | apply pw_below_drewN | apply below_drew1 | refine below_set ?_ GE492.out | refine below_set ?_ GE496.out) | exact HB.out))))
                  have n3_ := Aside0.mk (blk_below (g := gb492) (o := .cells #[.int .i64 ((rd_T46 l0 a1).f0), .bool ((rd_T46 l0 a1).f1), .slice (some ad495) ((rd_T46 l0 a1).f2).length c491_2] 46 (0, 0)) (by (with_reducible repeat (first | refine blk_drewN ?_ _ | refine blk_drew ?_ | refine blk_alloc ?_ _)); exact BK492.out) hb)
                  have n4_ := Aside0.mk (blk_below (g := gb496) (o := .cells #[.slice A495_0 ((rd_T43 ((rd_T46 l0 a1).f2) x16_2).f0).length c495_0, .slice A495_1 ((rd_T43 ((rd_T46 l0 a1).f2) x16_2).f1).length c495_1, .int .i64 ((rd_T43 ((rd_T46 l0 a1).f2) x16_2).f2), .int .i64 ((rd_T43 ((rd_T46 l0 a1).f2) x16_2).f3), .int .i64 ((rd_T43 ((rd_T46 l0 a1).f2) x16_2).f4.f0), .int .i64 ((rd_T43 ((rd_T46 l0 a1).f2) x16_2).f4.f1), .int .i64 ((rd_T43 ((rd_T46 l0 a1).f2) x16_2).f5.f0), .int .i64 ((rd_T43 ((rd_T46 l0 a1).f2) x16_2).f5.f1), .int .i64 ((rd_T43 ((rd_T46 l0 a1).f2) x16_2).f6.f0), .int .i64 ((rd_T43 ((rd_T46 l0 a1).f2) x16_2).f6.f1)] 43 (0, 0)) (by (with_reducible repeat (first | refine blk_drewN ?_ _ | refine blk_drew ?_ | refine blk_alloc ?_ _)); exact BK496.out) hb)
                  have n5_ := Aside0.mk (below_step (by repeat (first | (with_reducible first | exact HB.out | apply below_alloc | apply pw_below_drewN | apply below_drew1 | refine below_set ?_ GE492.out | refine below_set ?_ GE496.out) | exact HB.out)) hb)
                  clear HO_18
                  clear HO_22
                  clear BK492
                  clear BK496
                  clear HB
                  have HO_18 := n0_
                  have HO_22 := n1_
                  have HO513 := n2_
                  have BK492 := n3_
                  have BK496 := n4_
                  have HB := n5_
                  clear n0_ n1_ n2_ n3_ n4_ n5_
                  (try clear hb)
                  (try clear hb2)
                  (try clear hk)
                  (try clear hi)
                  (try clear ho0)
                  refine hK.out _ _ ⟨HS0_, HS1_⟩ (fun hHeld => ?_)
                  clear hK K
                  refine norm_ (a' := ?_) ?_ ?_
                  rotate_left
                  ·show Act.put _ (some 126) _ = _
                   simp only [Act.put, List.setIfInBounds_toArray, List.set_cons_zero, List.set_cons_succ, i64_w, i32_w]
                   rfl
                  refine pure_ (i := 11) (N := some 22) (v := ?_) (a' := ?_) #[true, true, true, true, true, true, true, true, true, true, true, true] rfl rfl (any_of HT_.out (by kernel_rfl)) (fun _ _ _ h => h) (Or.inl ⟨by rfl, ?_⟩) ?_ ?_
                  rotate_left
                  ·intro w'
                   go_simp
                   with_reducible rfl
                  rotate_left
                  ·simp only [Act.put, List.setIfInBounds_toArray, List.set_cons_zero, List.set_cons_succ, i64_w, i32_w]
                   rfl
                  refine done_ (done_of HT_.out (by kernel_rfl)) ?_
                  try go_wp2
                  go_roundg k3
                  case measure => have := HJ8.out; have := HK2.out; have := HK3.out; omega
                  case rel => (try rw [← Nbq12.out]); exact ⟨(t511), (wrap64 (x23_3 - 1)), (by first | rfl | (simp; done) | (simp [*]; done)), H', ⟨by have := HJ8.out; have := HK2.out; have := HK3.out; omega⟩, ⟨by (with_reducible repeat (first | apply Kd.R_alloc | apply Kd.R_drewN | apply Kd.R_drew)); exact Kd.R_mono HO_18.out (fun _ hk => hk.1)⟩, ⟨Kd.V_mono (Kd.R_V (by (with_reducible repeat (first | apply Kd.R_alloc | apply Kd.R_drewN | apply Kd.R_drew)); exact Kd.R_types (Kd.R_types HO513.out BK492.out (by decide)) BK496.out (by decide))) (fun k_ hk => by first | exact ⟨(.inr (hk.1.1.1.1)), ⟨hk.1.1.2, ⟨hk.1.2, hk.2⟩⟩⟩ | exact (.inr (⟨hk.1.1.1.1, ⟨hk.1.1.2, ⟨hk.1.2, hk.2⟩⟩⟩)))⟩, ⟨by (with_reducible repeat (first | refine blk_drewN ?_ _ | refine blk_drew ?_ | refine blk_alloc ?_ _)); exact BK492.out⟩, ⟨by (with_reducible repeat (first | refine blk_drewN ?_ _ | refine blk_drew ?_ | refine blk_alloc ?_ _)); exact BK496.out⟩, ⟨by repeat (first | (with_reducible first | exact HB.out | apply below_alloc | apply pw_below_drewN | apply below_drew1 | refine below_set ?_ GE492.out | refine below_set ?_ GE496.out) | exact HB.out)⟩⟩
                 ·rw [if_neg c67] at H
                  exact absurd H (by simp)
                ·rw [if_neg c66] at H
                 exact absurd H (by simp)
               ·rw [if_neg c65] at H
                have c65b0 : decide (1 ≤ x23_3) = false := decide_eq_false c65
                clear c65
                replace H := Option.bind_eq_some_iff.mp H
                obtain ⟨t514, A720, H⟩ := H
                replace H : (some (t514, wrap64 (a4 + 1), true)) = some (r1, r2, r3) := H
                have A72 := Aside0.mk A720
                clear A720
                simp only [Option.some.injEq, Prod.mk.injEq] at H
                obtain ⟨rfl, rfl, rfl⟩ := H
                have hnb73 := NB496_492.out
                have hnc73 := NB492_496.out
                have hcz74_0 : wr.cell? ⟨gb496, 0, none⟩ = some (.slice A495_0 ((rd_T43 ((rd_T46 l0 a1).f2) x16_2).f0).length c495_0) := (blk_cell BK496.out 0).trans rfl
                have hcz74_1 : wr.cell? ⟨gb496, 1, none⟩ = some (.slice A495_1 ((rd_T43 ((rd_T46 l0 a1).f2) x16_2).f1).length c495_1) := (blk_cell BK496.out 1).trans rfl
                have hcz74_2 : wr.cell? ⟨gb496, 2, none⟩ = some (.int .i64 ((rd_T43 ((rd_T46 l0 a1).f2) x16_2).f2)) := (blk_cell BK496.out 2).trans rfl
                have hcz74_3 : wr.cell? ⟨gb496, 3, none⟩ = some (.int .i64 ((rd_T43 ((rd_T46 l0 a1).f2) x16_2).f3)) := (blk_cell BK496.out 3).trans rfl
                have hcz74_4 : wr.cell? ⟨gb496, 4, none⟩ = some (.int .i64 ((rd_T43 ((rd_T46 l0 a1).f2) x16_2).f4.f0)) := (blk_cell BK496.out 4).trans rfl
                have hcz74_5 : wr.cell? ⟨gb496, 5, none⟩ = some (.int .i64 ((rd_T43 ((rd_T46 l0 a1).f2) x16_2).f4.f1)) := (blk_cell BK496.out 5).trans rfl
                have hcz74_6 : wr.cell? ⟨gb496, 6, none⟩ = some (.int .i64 ((rd_T43 ((rd_T46 l0 a1).f2) x16_2).f5.f0)) := (blk_cell BK496.out 6).trans rfl
                have hcz74_7 : wr.cell? ⟨gb496, 7, none⟩ = some (.int .i64 ((rd_T43 ((rd_T46 l0 a1).f2) x16_2).f5.f1)) := (blk_cell BK496.out 7).trans rfl
                have hcz74_8 : wr.cell? ⟨gb496, 8, none⟩ = some (.int .i64 ((rd_T43 ((rd_T46 l0 a1).f2) x16_2).f6.f0)) := (blk_cell BK496.out 8).trans rfl
                have hcz74_9 : wr.cell? ⟨gb496, 9, none⟩ = some (.int .i64 ((rd_T43 ((rd_T46 l0 a1).f2) x16_2).f6.f1)) := (blk_cell BK496.out 9).trans rfl
                have hfz74_0 := blk_frozen BK496.out 0
                have hfz74_1 := blk_frozen BK496.out 1
                have hfz74_2 := blk_frozen BK496.out 2
                have hfz74_3 := blk_frozen BK496.out 3
                have hfz74_4 := blk_frozen BK496.out 4
                have hfz74_5 := blk_frozen BK496.out 5
                have hfz74_6 := blk_frozen BK496.out 6
                have hfz74_7 := blk_frozen BK496.out 7
                have hfz74_8 := blk_frozen BK496.out 8
                have hfz74_9 := blk_frozen BK496.out 9
                obtain ⟨Ao75, co75, eo75⟩ := Kd.V_slice HO_22.out
                subst eo75
                go_wp2_with (first | ((with_reducible refine gate_callee (f := 29) rfl ?_); refine goesL_ (some 133) rfl rfl Try.func29 (by kernel_rfl) rfl #[.slice Ao75 x22_3.length co75, .int .i64 a4, .int .i64 (wrap64 (a4 + 1)), .slice A495_1 ((rd_T43 ((rd_T46 l0 a1).f2) x16_2).f1).length c495_1] rfl (by (try simp only [List.map_toArray, List.map_cons, List.map_nil]); first | done | rfl | (simp only [List.length_drop, List.length_take]; rfl)) ?_; (with_reducible refine (foundryref19_Put.calls _ _ x22_3 a4 (wrap64 (a4 + 1)) _ _ ((rd_T43 ((rd_T46 l0 a1).f2) x16_2).f1) t514 _ ?side1 ?side2 ?side3 ?side4 A72.out).mono ?_); (case side1 => repeat (first | exact (Kd.V_reads' HO_22.out).2.2 | (with_reducible refine Kd.C_alloc ?_ _) | (with_reducible refine Kd.C_drewN ?_ _) | (with_reducible refine Kd.C_drew ?_))); (case side2 => exact (Kd.V_reads' HO_22.out).2.1); (case side3 => repeat (first | exact (Kd.C_below HR495_1.out HB.out) | (with_reducible refine Kd.C_alloc ?_ _) | (with_reducible refine Kd.C_drewN ?_ _) | (with_reducible refine Kd.C_drew ?_))); (case side4 => exact HC495_1.out); rintro e w76 ⟨v515, rfl, ho0, hb⟩; refine ⟨_, rfl, ?_⟩; have n0_ := Aside0.mk (Kd.R_elder' (by (with_reducible repeat (first | apply Kd.R_alloc | apply Kd.R_drewN | apply Kd.R_drew)); exact HO_18.out) (Kd.R_base ho0) hb); have n1_ := Aside0.mk (Kd.V_elder' (by (with_reducible repeat (first | apply Kd.V_alloc | apply Kd.V_drewN | apply Kd.V_drew)); exact HO_22.out) (Kd.R_base ho0) hb); have n2_ := Aside0.mk (Kd.R_lower (Kd.R_new' (Kd.R_newM (M := fun k_ => (w.heap.size ≤ k_)) ho0 (below_size (by repeat (first | (with_reducible first | exact HB.out | apply below_alloc | apply pw_below_drewN | apply below_drew1 | refine below_set ?_ GE492.out | refine below_set ?_ GE496.out) | exact HB.out))) (fun k_ h_ => h_)) (Kd.R_lt (by (with_reducible repeat (first | apply Kd.R_alloc | apply Kd.R_drewN | apply Kd.R_drew)); exact HO_18.out))) (below_size (by repeat (first | (with_reducible first | exact HB.out | apply below_alloc | apply pw_below_drewN | apply below_drew1 | refine below_set ?_ GE492.out | refine below_set ?_ GE496.out) | exact HB.out)))); have n3_ := Aside0.mk (blk_below (g := gb492) (o := .cells #[.int .i64 ((rd_T46 l0 a1).f0), .bool ((rd_T46 l0 a1).f1), .slice (some ad495) ((rd_T46 l0 a1).f2).length c491_2] 46 (0, 0)) (by (with_reducible repeat (first | refine blk_drewN ?_ _ | refine blk_drew ?_ | refine blk_alloc ?_ _)); exact BK492.out) hb); have n4_ := Aside0.mk (blk_below (g := gb496) (o := .cells #[.slice A495_0 ((rd_T43 ((rd_T46 l0 a1).f2) x16_2).f0).length c495_0, .slice A495_1 ((rd_T43 ((rd_T46 l0 a1).f2) x16_2).f1).length c495_1, .int .i64 ((rd_T43 ((rd_T46 l0 a1).f2) x16_2).f2), .int .i64 ((rd_T43 ((rd_T46 l0 a1).f2) x16_2).f3), .int .i64 ((rd_T43 ((rd_T46 l0 a1).f2) x16_2).f4.f0), .int .i64 ((rd_T43 ((rd_T46 l0 a1).f2) x16_2).f4.f1), .int .i64 ((rd_T43 ((rd_T46 l0 a1).f2) x16_2).f5.f0), .int .i64 ((rd_T43 ((rd_T46 l0 a1).f2) x16_2).f5.f1), .int .i64 ((rd_T43 ((rd_T46 l0 a1).f2) x16_2).f6.f0), .int .i64 ((rd_T43 ((rd_T46 l0 a1).f2) x16_2).f6.f1)] 43 (0, 0)) (by (with_reducible repeat (first | refine blk_drewN ?_ _ | refine blk_drew ?_ | refine blk_alloc ?_ _)); exact BK496.out) hb); have n5_ := Aside0.mk (below_step (by repeat (first | (with_reducible first | exact HB.out | apply below_alloc | apply pw_below_drewN | apply below_drew1 | refine below_set ?_ GE492.out | refine below_set ?_ GE496.out) | exact HB.out)) hb); clear HO_18; clear HO_22; clear BK492; clear BK496; clear HB; have HO_18 := n0_; have HO_22 := n1_; have HO516 := n2_; have BK492 := n3_; have BK496 := n4_; have HB := n5_; clear n0_ n1_ n2_ n3_ n4_ n5_; (try clear hb); (try clear hb2); (try clear hk); (try clear hi); (try clear ho0)))
                go_ret3
                exact ⟨_, by first | rfl | (simp [errW_none, errW_some] <;> rfl) | (simp [*, errW_none, errW_some] <;> rfl), Kd.V_mono (Kd.R_V (by (with_reducible repeat (first | apply Kd.R_alloc | apply Kd.R_drewN | apply Kd.R_drew)); exact Kd.R_mono HO516.out (fun _ hk => hk.1.1))) (fun k_ hk => by first | exact ⟨(.inr (hk.1)), hk.2⟩ | exact (.inr (hk))), by repeat (first | (with_reducible first | exact HB.out | apply below_alloc | apply pw_below_drewN | apply below_drew1 | refine below_set ?_ GE492.out | refine below_set ?_ GE496.out) | exact HB.out)⟩
            ·rw [if_neg c56] at H
             have c56b0 : (((rd_T46 l0 a1).f0) == 3) = false := beq_eq_false_iff_ne.mpr c56
             have c56b1 : (((rd_T46 l0 a1).f0) != 3) = true := bne_iff_ne.mpr c56
             replace H := Option.bind_eq_some_iff.mp H
             obtain ⟨t517, A770, H⟩ := H
             replace H : (some (t517, wrap64 (a4 + (((rd_T43 ((rd_T46 l0 a1).f2) x16_2).f1).length : Int)), true)) = some (r1, r2, r3) := H
             have A77 := Aside0.mk A770
             clear A770
             simp only [Option.some.injEq, Prod.mk.injEq] at H
             obtain ⟨rfl, rfl, rfl⟩ := H
             have hcz78_0 : wr.cell? ⟨gb492, 0, none⟩ = some (.int .i64 ((rd_T46 l0 a1).f0)) := (blk_cell BK492.out 0).trans rfl
             have hcz78_1 : wr.cell? ⟨gb492, 1, none⟩ = some (.bool ((rd_T46 l0 a1).f1)) := (blk_cell BK492.out 1).trans rfl
             have hcz78_2 : wr.cell? ⟨gb492, 2, none⟩ = some (.slice A491_2 ((rd_T46 l0 a1).f2).length c491_2) := (blk_cell BK492.out 2).trans rfl
             have hfz78_0 := blk_frozen BK492.out 0
             have hfz78_1 := blk_frozen BK492.out 1
             have hfz78_2 := blk_frozen BK492.out 2
             have p495 : 0 ≤ (x16_2 : Int) := of_decide_eq_true (by first | (with_reducible assumption) | assumption)
             have q495 : x16_2 < (((rd_T46 l0 a1).f2).length : Int) := of_decide_eq_true (by first | (with_reducible assumption) | assumption)
             obtain ⟨ad495, A495_0, c495_0, A495_1, c495_1, e495, hx495_0, hx495_1, hx495_2, hx495_3, hx495_4, hx495_5, hx495_6, hx495_7, hx495_8, hx495_9, hl495_0, hi495_0, hl495_1, hi495_1⟩ := at_T43 HR491_2.out x16_2 p495 q495
             cases e495
             replace hx495_0 := (HB.out.cell (World.block_lt_of_cell? w _ hx495_0)).trans hx495_0
             replace hx495_1 := (HB.out.cell (World.block_lt_of_cell? w _ hx495_1)).trans hx495_1
             replace hx495_2 := (HB.out.cell (World.block_lt_of_cell? w _ hx495_2)).trans hx495_2
             replace hx495_3 := (HB.out.cell (World.block_lt_of_cell? w _ hx495_3)).trans hx495_3
             replace hx495_4 := (HB.out.cell (World.block_lt_of_cell? w _ hx495_4)).trans hx495_4
             replace hx495_5 := (HB.out.cell (World.block_lt_of_cell? w _ hx495_5)).trans hx495_5
             replace hx495_6 := (HB.out.cell (World.block_lt_of_cell? w _ hx495_6)).trans hx495_6
             replace hx495_7 := (HB.out.cell (World.block_lt_of_cell? w _ hx495_7)).trans hx495_7
             replace hx495_8 := (HB.out.cell (World.block_lt_of_cell? w _ hx495_8)).trans hx495_8
             replace hx495_9 := (HB.out.cell (World.block_lt_of_cell? w _ hx495_9)).trans hx495_9
             have HR495_0 := Aside0.mk hi495_0
             have HC495_0 := Aside0.mk hl495_0
             clear hi495_0 hl495_0
             have HR495_1 := Aside0.mk hi495_1
             have HC495_1 := Aside0.mk hl495_1
             clear hi495_1 hl495_1
             replace p495 := eq_true p495
             replace q495 := eq_true q495
             try go_wp2_with (first | ((with_reducible refine gate_dst (N := 17) rfl ?_); refine box_event ?hg (N := 17) ?hd (cs := #[.slice none 0 0, .slice none 0 0, .int .i64 0, .int .i64 0, .int .i64 0, .int .i64 0, .int .i64 0, .int .i64 0, .int .i64 0, .int .i64 0]) (t := 43) ?hr ?_; (case hd => rfl); (case hg => rfl); (case hr => first | (go_simp; done) | (go_simp; rfl)); intro gb496 hg w79 hbox hb; have n0_ := Aside0.mk (Kd.V_below (Kd.V_elderB (by (with_reducible repeat (first | apply Kd.V_alloc | apply Kd.V_drewN | apply Kd.V_drew)); exact HO_3.out) gb496 (Nat.le_of_eq hg.symm)) hb); have n1_ := Aside0.mk (blk_below (g := gb492) (o := .cells #[.int .i64 ((rd_T46 l0 a1).f0), .bool ((rd_T46 l0 a1).f1), .slice (some ad495) ((rd_T46 l0 a1).f2).length c491_2] 46 (0, 0)) (by (with_reducible repeat (first | refine blk_drewN ?_ _ | refine blk_drew ?_ | refine blk_alloc ?_ _)); exact BK492.out) hb); have n2_ := Aside0.mk (below_step (by repeat (first | (with_reducible first | exact HB.out | apply below_alloc | apply pw_below_drewN | apply below_drew1 | refine below_set ?_ GE492.out) | exact HB.out)) hb); have n3_ := Aside0.mk (hbox); have n4_ := Aside0.mk ((by rw [hg]; exact (below_size (by repeat (first | (with_reducible first | exact HB.out | apply below_alloc | apply pw_below_drewN | apply below_drew1 | refine below_set ?_ GE492.out) | exact HB.out))) : w.heap.size ≤ gb496)); have n5_ := Aside0.mk ((by rw [hg]; exact (below_size (by repeat (first | (with_reducible first | exact HB.out | apply below_alloc | apply pw_below_drewN | apply below_drew1 | refine below_set ?_ GE492.out) | exact HB.out))) : w.heap.size ≤ gb496)); have n6_ := Aside0.mk ((by rw [hg]; exact Nat.ne_of_lt (blk_lt (g := gb492) (o := .cells #[.int .i64 ((rd_T46 l0 a1).f0), .bool ((rd_T46 l0 a1).f1), .slice (some ad495) ((rd_T46 l0 a1).f2).length c491_2] 46 (0, 0)) (by (with_reducible repeat (first | refine blk_drewN ?_ _ | refine blk_drew ?_ | refine blk_alloc ?_ _)); exact BK492.out)) : gb492 ≠ gb496)); have n7_ := Aside0.mk ((by rw [hg]; exact Nat.ne_of_gt (blk_lt (g := gb492) (o := .cells #[.int .i64 ((rd_T46 l0 a1).f0), .bool ((rd_T46 l0 a1).f1), .slice (some ad495) ((rd_T46 l0 a1).f2).length c491_2] 46 (0, 0)) (by (with_reducible repeat (first | refine blk_drewN ?_ _ | refine blk_drew ?_ | refine blk_alloc ?_ _)); exact BK492.out)) : gb496 ≠ gb492)); clear HO_3; clear BK492; clear HB; have HO_3 := n0_; have BK492 := n1_; have HB := n2_; have BK496 := n3_; have GW496 := n4_; have GE496 := n5_; have NB492_496 := n6_; have NB496_492 := n7_; clear n0_ n1_ n2_ n3_ n4_ n5_ n6_ n7_; clear hb hbox hg; have hnb80 := NB496_492.out; have hnc80 := NB492_496.out; have hcz81_0 : w79.cell? ⟨gb496, 0, none⟩ = some (.slice none 0 0) := (blk_cell BK496.out 0).trans rfl; have hcz81_1 : w79.cell? ⟨gb496, 1, none⟩ = some (.slice none 0 0) := (blk_cell BK496.out 1).trans rfl; have hcz81_2 : w79.cell? ⟨gb496, 2, none⟩ = some (.int .i64 0) := (blk_cell BK496.out 2).trans rfl; have hcz81_3 : w79.cell? ⟨gb496, 3, none⟩ = some (.int .i64 0) := (blk_cell BK496.out 3).trans rfl; have hcz81_4 : w79.cell? ⟨gb496, 4, none⟩ = some (.int .i64 0) := (blk_cell BK496.out 4).trans rfl; have hcz81_5 : w79.cell? ⟨gb496, 5, none⟩ = some (.int .i64 0) := (blk_cell BK496.out 5).trans rfl; have hcz81_6 : w79.cell? ⟨gb496, 6, none⟩ = some (.int .i64 0) := (blk_cell BK496.out 6).trans rfl; have hcz81_7 : w79.cell? ⟨gb496, 7, none⟩ = some (.int .i64 0) := (blk_cell BK496.out 7).trans rfl; have hcz81_8 : w79.cell? ⟨gb496, 8, none⟩ = some (.int .i64 0) := (blk_cell BK496.out 8).trans rfl; have hcz81_9 : w79.cell? ⟨gb496, 9, none⟩ = some (.int .i64 0) := (blk_cell BK496.out 9).trans rfl; have hfz81_0 := blk_frozen BK496.out 0; have hfz81_1 := blk_frozen BK496.out 1; have hfz81_2 := blk_frozen BK496.out 2; have hfz81_3 := blk_frozen BK496.out 3; have hfz81_4 := blk_frozen BK496.out 4; have hfz81_5 := blk_frozen BK496.out 5; have hfz81_6 := blk_frozen BK496.out 6; have hfz81_7 := blk_frozen BK496.out 7; have hfz81_8 := blk_frozen BK496.out 8; have hfz81_9 := blk_frozen BK496.out 9; have hcz82_0 : w79.cell? ⟨gb492, 0, none⟩ = some (.int .i64 ((rd_T46 l0 a1).f0)) := (blk_cell BK492.out 0).trans rfl; have hcz82_1 : w79.cell? ⟨gb492, 1, none⟩ = some (.bool ((rd_T46 l0 a1).f1)) := (blk_cell BK492.out 1).trans rfl; have hcz82_2 : w79.cell? ⟨gb492, 2, none⟩ = some (.slice (some ad495) ((rd_T46 l0 a1).f2).length c491_2) := (blk_cell BK492.out 2).trans rfl; have hfz82_0 := blk_frozen BK492.out 0; have hfz82_1 := blk_frozen BK492.out 1; have hfz82_2 := blk_frozen BK492.out 2) | ((with_reducible refine gate_callee (f := 23) rfl ?_); refine goesL_ (some 60) rfl rfl Try.func23 (by kernel_rfl) rfl #[.slice A3 l3.length c3, .slice A2 l2.length c2, .int .i64 a4, .slice A495_0 ((rd_T43 ((rd_T46 l0 a1).f2) x16_2).f0).length c495_0, .bool ((rd_T46 l0 a1).f1)] rfl (by (try simp only [List.map_toArray, List.map_cons, List.map_nil]); first | done | rfl | (simp only [List.length_drop, List.length_take]; rfl)) ?_; (with_reducible refine (foundryref19_Meet.calls k2 _ _ l3 _ _ l2 a4 _ _ ((rd_T43 ((rd_T46 l0 a1).f2) x16_2).f0) ((rd_T46 l0 a1).f1) t497 true _ ?side1 ?side2 ?side3 ?side4 ?side5 ?side6 A22.out).mono ?_); (case side1 => refine (Kd.V_reads' (e := 3) (base := w.heap.size) (ok := fun k_ => ((((P3_ k_ ∨ w.heap.size ≤ k_)) ∧ k_ ≠ gb492) ∧ k_ ≠ gb496)) (n := l3.length) (c := c3) ?_).2.2; exact (by (with_reducible repeat (first | apply Kd.V_alloc | apply Kd.V_drewN | apply Kd.V_drew)); exact (Kd.V_mono (Kd.V_far (p := ⟨gb496, 9, none⟩) (Kd.V_far (p := ⟨gb496, 8, none⟩) (Kd.V_far (p := ⟨gb496, 7, none⟩) (Kd.V_far (p := ⟨gb496, 6, none⟩) (Kd.V_far (p := ⟨gb496, 5, none⟩) (Kd.V_far (p := ⟨gb496, 4, none⟩) (Kd.V_far (p := ⟨gb496, 3, none⟩) (Kd.V_far (p := ⟨gb496, 2, none⟩) (Kd.V_far (p := ⟨gb496, 1, none⟩) (Kd.V_far (p := ⟨gb496, 0, none⟩) (Kd.V_mono HO_3.out (fun k_ hk => (⟨hk, hk.2⟩ : _ ∧ k_ ≠ gb496))) (fun _ hk => hk.2) (.slice A495_0 ((rd_T43 ((rd_T46 l0 a1).f2) x16_2).f0).length c495_0)) (fun _ hk => hk.2) (.slice A495_1 ((rd_T43 ((rd_T46 l0 a1).f2) x16_2).f1).length c495_1)) (fun _ hk => hk.2) (.int .i64 ((rd_T43 ((rd_T46 l0 a1).f2) x16_2).f2))) (fun _ hk => hk.2) (.int .i64 ((rd_T43 ((rd_T46 l0 a1).f2) x16_2).f3))) (fun _ hk => hk.2) (.int .i64 ((rd_T43 ((rd_T46 l0 a1).f2) x16_2).f4.f0))) (fun _ hk => hk.2) (.int .i64 ((rd_T43 ((rd_T46 l0 a1).f2) x16_2).f4.f1))) (fun _ hk => hk.2) (.int .i64 ((rd_T43 ((rd_T46 l0 a1).f2) x16_2).f5.f0))) (fun _ hk => hk.2) (.int .i64 ((rd_T43 ((rd_T46 l0 a1).f2) x16_2).f5.f1))) (fun _ hk => hk.2) (.int .i64 ((rd_T43 ((rd_T46 l0 a1).f2) x16_2).f6.f0))) (fun _ hk => hk.2) (.int .i64 ((rd_T43 ((rd_T46 l0 a1).f2) x16_2).f6.f1))) (fun _ h_ => h_.1)))); (case side2 => exact (Kd.V_reads' HO_3.out).2.1); (case side3 => exact Kd.C_below HR2.out (by repeat (first | (with_reducible first | exact HB.out | apply below_alloc | apply pw_below_drewN | apply below_drew1 | refine below_set ?_ GE492.out | refine below_set ?_ GE496.out) | exact HB.out))); (case side4 => exact HC2.out); (case side5 => exact Kd.C_below HR495_0.out (by repeat (first | (with_reducible first | exact HB.out | apply below_alloc | apply pw_below_drewN | apply below_drew1 | refine below_set ?_ GE492.out | refine below_set ?_ GE496.out) | exact HB.out))); (case side6 => exact HC495_0.out); rintro e w83 ⟨v499, rfl, ho0, hb⟩; refine ⟨_, rfl, ?_⟩; have n0_ := Aside0.mk (Kd.V_elder' (by (with_reducible repeat (first | apply Kd.V_alloc | apply Kd.V_drewN | apply Kd.V_drew)); exact (Kd.V_mono (Kd.V_far (p := ⟨gb496, 9, none⟩) (Kd.V_far (p := ⟨gb496, 8, none⟩) (Kd.V_far (p := ⟨gb496, 7, none⟩) (Kd.V_far (p := ⟨gb496, 6, none⟩) (Kd.V_far (p := ⟨gb496, 5, none⟩) (Kd.V_far (p := ⟨gb496, 4, none⟩) (Kd.V_far (p := ⟨gb496, 3, none⟩) (Kd.V_far (p := ⟨gb496, 2, none⟩) (Kd.V_far (p := ⟨gb496, 1, none⟩) (Kd.V_far (p := ⟨gb496, 0, none⟩) (Kd.V_mono HO_3.out (fun k_ hk => (⟨hk, hk.2⟩ : _ ∧ k_ ≠ gb496))) (fun _ hk => hk.2) (.slice A495_0 ((rd_T43 ((rd_T46 l0 a1).f2) x16_2).f0).length c495_0)) (fun _ hk => hk.2) (.slice A495_1 ((rd_T43 ((rd_T46 l0 a1).f2) x16_2).f1).length c495_1)) (fun _ hk => hk.2) (.int .i64 ((rd_T43 ((rd_T46 l0 a1).f2) x16_2).f2))) (fun _ hk => hk.2) (.int .i64 ((rd_T43 ((rd_T46 l0 a1).f2) x16_2).f3))) (fun _ hk => hk.2) (.int .i64 ((rd_T43 ((rd_T46 l0 a1).f2) x16_2).f4.f0))) (fun _ hk => hk.2) (.int .i64 ((rd_T43 ((rd_T46 l0 a1).f2) x16_2).f4.f1))) (fun _ hk => hk.2) (.int .i64 ((rd_T43 ((rd_T46 l0 a1).f2) x16_2).f5.f0))) (fun _ hk => hk.2) (.int .i64 ((rd_T43 ((rd_T46 l0 a1).f2) x16_2).f5.f1))) (fun _ hk => hk.2) (.int .i64 ((rd_T43 ((rd_T46 l0 a1).f2) x16_2).f6.f0))) (fun _ hk => hk.2) (.int .i64 ((rd_T43 ((rd_T46 l0 a1).f2) x16_2).f6.f1))) (fun _ h_ => h_.1))) (Kd.R_base ho0) hb); have n1_ := Aside0.mk (Kd.R_lower (Kd.R_newM (M := fun k_ => (w.heap.size ≤ k_)) ho0 (below_size (by repeat (first | (with_reducible first | exact HB.out | apply below_alloc | apply pw_below_drewN | apply below_drew1 | refine below_set ?_ GE492.out | refine below_set ?_ GE496.out) | exact HB.out))) (fun k_ h_ => h_)) (below_size (by repeat (first | (with_reducible first | exact HB.out | apply below_alloc | apply pw_below_drewN | apply below_drew1 | refine below_set ?_ GE492.out | refine below_set ?_ GE496.out) | exact HB.out)))); have n2_ := Aside0.mk (blk_below (g := gb492) (o := .cells #[.int .i64 ((rd_T46 l0 a1).f0), .bool ((rd_T46 l0 a1).f1), .slice (some ad495) ((rd_T46 l0 a1).f2).length c491_2] 46 (0, 0)) (by (with_reducible repeat (first | refine blk_drewN ?_ _ | refine blk_drew ?_ | refine blk_alloc ?_ _)); refine blk_far ?_ NB492_496.out _; (with_reducible repeat (first | refine blk_drewN ?_ _ | refine blk_drew ?_ | refine blk_alloc ?_ _)); refine blk_far ?_ NB492_496.out _; (with_reducible repeat (first | refine blk_drewN ?_ _ | refine blk_drew ?_ | refine blk_alloc ?_ _)); refine blk_far ?_ NB492_496.out _; (with_reducible repeat (first | refine blk_drewN ?_ _ | refine blk_drew ?_ | refine blk_alloc ?_ _)); refine blk_far ?_ NB492_496.out _; (with_reducible repeat (first | refine blk_drewN ?_ _ | refine blk_drew ?_ | refine blk_alloc ?_ _)); refine blk_far ?_ NB492_496.out _; (with_reducible repeat (first | refine blk_drewN ?_ _ | refine blk_drew ?_ | refine blk_alloc ?_ _)); refine blk_far ?_ NB492_496.out _; (with_reducible repeat (first | refine blk_drewN ?_ _ | refine blk_drew ?_ | refine blk_alloc ?_ _)); refine blk_far ?_ NB492_496.out _; (with_reducible repeat (first | refine blk_drewN ?_ _ | refine blk_drew ?_ | refine blk_alloc ?_ _)); refine blk_far ?_ NB492_496.out _; (with_reducible repeat (first | refine blk_drewN ?_ _ | refine blk_drew ?_ | refine blk_alloc ?_ _)); refine blk_far ?_ NB492_496.out _; (with_reducible repeat (first | refine blk_drewN ?_ _ | refine blk_drew ?_ | refine blk_alloc ?_ _)); refine blk_far ?_ NB492_496.out _; (with_reducible repeat (first | refine blk_drewN ?_ _ | refine blk_drew ?_ | refine blk_alloc ?_ _)); exact BK492.out) hb); have n3_ := Aside0.mk (blk_below (g := gb496) (o := .cells #[.slice A495_0 ((rd_T43 ((rd_T46 l0 a1).f2) x16_2).f0).length c495_0, .slice A495_1 ((rd_T43 ((rd_T46 l0 a1).f2) x16_2).f1).length c495_1, .int .i64 ((rd_T43 ((rd_T46 l0 a1).f2) x16_2).f2), .int .i64 ((rd_T43 ((rd_T46 l0 a1).f2) x16_2).f3), .int .i64 ((rd_T43 ((rd_T46 l0 a1).f2) x16_2).f4.f0), .int .i64 ((rd_T43 ((rd_T46 l0 a1).f2) x16_2).f4.f1), .int .i64 ((rd_T43 ((rd_T46 l0 a1).f2) x16_2).f5.f0), .int .i64 ((rd_T43 ((rd_T46 l0 a1).f2) x16_2).f5.f1), .int .i64 ((rd_T43 ((rd_T46 l0 a1).f2) x16_2).f6.f0), .int .i64 ((rd_T43 ((rd_T46 l0 a1).f2) x16_2).f6.f1)] 43 (0, 0)) (by (with_reducible repeat (first | refine blk_drewN ?_ _ | refine blk_drew ?_ | refine blk_alloc ?_ _)); refine blk_put (cs := #[.slice A495_0 ((rd_T43 ((rd_T46 l0 a1).f2) x16_2).f0).length c495_0, .slice A495_1 ((rd_T43 ((rd_T46 l0 a1).f2) x16_2).f1).length c495_1, .int .i64 ((rd_T43 ((rd_T46 l0 a1).f2) x16_2).f2), .int .i64 ((rd_T43 ((rd_T46 l0 a1).f2) x16_2).f3), .int .i64 ((rd_T43 ((rd_T46 l0 a1).f2) x16_2).f4.f0), .int .i64 ((rd_T43 ((rd_T46 l0 a1).f2) x16_2).f4.f1), .int .i64 ((rd_T43 ((rd_T46 l0 a1).f2) x16_2).f5.f0), .int .i64 ((rd_T43 ((rd_T46 l0 a1).f2) x16_2).f5.f1), .int .i64 ((rd_T43 ((rd_T46 l0 a1).f2) x16_2).f6.f0), .int .i64 0]) ?_ 9 _ rfl; (with_reducible repeat (first | refine blk_drewN ?_ _ | refine blk_drew ?_ | refine blk_alloc ?_ _)); refine blk_put (cs := #[.slice A495_0 ((rd_T43 ((rd_T46 l0 a1).f2) x16_2).f0).length c495_0, .slice A495_1 ((rd_T43 ((rd_T46 l0 a1).f2) x16_2).f1).length c495_1, .int .i64 ((rd_T43 ((rd_T46 l0 a1).f2) x16_2).f2), .int .i64 ((rd_T43 ((rd_T46 l0 a1).f2) x16_2).f3), .int .i64 ((rd_T43 ((rd_T46 l0 a1).f2) x16_2).f4.f0), .int .i64 ((rd_T43 ((rd_T46 l0 a1).f2) x16_2).f4.f1), .int .i64 ((rd_T43 ((rd_T46 l0 a1).f2) x16_2).f5.f0), .int .i64 ((rd_T43 ((rd_T46 l0 a1).f2) x16_2).f5.f1), .int .i64 0, .int .i64 0]) ?_ 8 _ rfl; (with_reducible repeat (first | refine blk_drewN ?_ _ | refine blk_drew ?_ | refine blk_alloc ?_ _)); refine blk_put (cs := #[.slice A495_0 ((rd_T43 ((rd_T46 l0 a1).f2) x16_2).f0).length c495_0, .slice A495_1 ((rd_T43 ((rd_T46 l0 a1).f2) x16_2).f1).length c495_1, .int .i64 ((rd_T43 ((rd_T46 l0 a1).f2) x16_2).f2), .int .i64 ((rd_T43 ((rd_T46 l0 a1).f2) x16_2).f3), .int .i64 ((rd_T43 ((rd_T46 l0 a1).f2) x16_2).f4.f0), .int .i64 ((rd_T43 ((rd_T46 l0 a1).f2) x16_2).f4.f1), .int .i64 ((rd_T43 ((rd_T46 l0 a1).f2) x16_2).f5.f0), .int .i64 0, .int .i64 0, .int .i64 0]) ?_ 7 _ rfl; (with_reducible repeat (first | refine blk_drewN ?_ _ | refine blk_drew ?_ | refine blk_alloc ?_ _)); refine blk_put (cs := #[.slice A495_0 ((rd_T43 ((rd_T46 l0 a1).f2) x16_2).f0).length c495_0, .slice A495_1 ((rd_T43 ((rd_T46 l0 a1).f2) x16_2).f1).length c495_1, .int .i64 ((rd_T43 ((rd_T46 l0 a1).f2) x16_2).f2), .int .i64 ((rd_T43 ((rd_T46 l0 a1).f2) x16_2).f3), .int .i64 ((rd_T43 ((rd_T46 l0 a1).f2) x16_2).f4.f0), .int .i64 ((rd_T43 ((rd_T46 l0 a1).f2) x16_2).f4.f1), .int .i64 0, .int .i64 0, .int .i64 0, .int .i64 0]) ?_ 6 _ rfl; (with_reducible repeat (first | refine blk_drewN ?_ _ | refine blk_drew ?_ | refine blk_alloc ?_ _)); refine blk_put (cs := #[.slice A495_0 ((rd_T43 ((rd_T46 l0 a1).f2) x16_2).f0).length c495_0, .slice A495_1 ((rd_T43 ((rd_T46 l0 a1).f2) x16_2).f1).length c495_1, .int .i64 ((rd_T43 ((rd_T46 l0 a1).f2) x16_2).f2), .int .i64 ((rd_T43 ((rd_T46 l0 a1).f2) x16_2).f3), .int .i64 ((rd_T43 ((rd_T46 l0 a1).f2) x16_2).f4.f0), .int .i64 0, .int .i64 0, .int .i64 0, .int .i64 0, .int .i64 0]) ?_ 5 _ rfl; (with_reducible repeat (first | refine blk_drewN ?_ _ | refine blk_drew ?_ | refine blk_alloc ?_ _)); refine blk_put (cs := #[.slice A495_0 ((rd_T43 ((rd_T46 l0 a1).f2) x16_2).f0).length c495_0, .slice A495_1 ((rd_T43 ((rd_T46 l0 a1).f2) x16_2).f1).length c495_1, .int .i64 ((rd_T43 ((rd_T46 l0 a1).f2) x16_2).f2), .int .i64 ((rd_T43 ((rd_T46 l0 a1).f2) x16_2).f3), .int .i64 0, .int .i64 0, .int .i64 0, .int .i64 0, .int .i64 0, .int .i64 0]) ?_ 4 _ rfl; (with_reducible repeat (first | refine blk_drewN ?_ _ | refine blk_drew ?_ | refine blk_alloc ?_ _)); refine blk_put (cs := #[.slice A495_0 ((rd_T43 ((rd_T46 l0 a1).f2) x16_2).f0).length c495_0, .slice A495_1 ((rd_T43 ((rd_T46 l0 a1).f2) x16_2).f1).length c495_1, .int .i64 ((rd_T43 ((rd_T46 l0 a1).f2) x16_2).f2), .int .i64 0, .int .i64 0, .int .i64 0, .int .i64 0, .int .i64 0, .int .i64 0, .int .i64 0]) ?_ 3 _ rfl; (with_reducible repeat (first | refine blk_drewN ?_ _ | refine blk_drew ?_ | refine blk_alloc ?_ _)); refine blk_put (cs := #[.slice A495_0 ((rd_T43 ((rd_T46 l0 a1).f2) x16_2).f0).length c495_0, .slice A495_1 ((rd_T43 ((rd_T46 l0 a1).f2) x16_2).f1).length c495_1, .int .i64 0, .int .i64 0, .int .i64 0, .int .i64 0, .int .i64 0, .int .i64 0, .int .i64 0, .int .i64 0]) ?_ 2 _ rfl; (with_reducible repeat (first | refine blk_drewN ?_ _ | refine blk_drew ?_ | refine blk_alloc ?_ _)); refine blk_put (cs := #[.slice A495_0 ((rd_T43 ((rd_T46 l0 a1).f2) x16_2).f0).length c495_0, .slice none 0 0, .int .i64 0, .int .i64 0, .int .i64 0, .int .i64 0, .int .i64 0, .int .i64 0, .int .i64 0, .int .i64 0]) ?_ 1 _ rfl; (with_reducible repeat (first | refine blk_drewN ?_ _ | refine blk_drew ?_ | refine blk_alloc ?_ _)); refine blk_put (cs := #[.slice none 0 0, .slice none 0 0, .int .i64 0, .int .i64 0, .int .i64 0, .int .i64 0, .int .i64 0, .int .i64 0, .int .i64 0, .int .i64 0]) ?_ 0 _ rfl; (with_reducible repeat (first | refine blk_drewN ?_ _ | refine blk_drew ?_ | refine blk_alloc ?_ _)); exact BK496.out) hb); have n4_ := Aside0.mk (below_step (by repeat (first | (with_reducible first | exact HB.out | apply below_alloc | apply pw_below_drewN | apply below_drew1 | refine below_set ?_ GE492.out | refine below_set ?_ GE496.out) | exact HB.out)) hb); clear HO_3; clear BK492; clear BK496; clear HB; have HO_3 := n0_; have HO500 := n1_; have BK492 := n2_; have BK496 := n3_; have HB := n4_; clear n0_ n1_ n2_ n3_ n4_; (try clear hb); (try clear hb2); (try clear hk); (try clear hi); (try clear ho0); have hcz84_0 : w83.cell? ⟨gb492, 0, none⟩ = some (.int .i64 ((rd_T46 l0 a1).f0)) := (blk_cell BK492.out 0).trans rfl; have hcz84_1 : w83.cell? ⟨gb492, 1, none⟩ = some (.bool ((rd_T46 l0 a1).f1)) := (blk_cell BK492.out 1).trans rfl; have hcz84_2 : w83.cell? ⟨gb492, 2, none⟩ = some (.slice (some ad495) ((rd_T46 l0 a1).f2).length c491_2) := (blk_cell BK492.out 2).trans rfl; have hfz84_0 := blk_frozen BK492.out 0; have hfz84_1 := blk_frozen BK492.out 1; have hfz84_2 := blk_frozen BK492.out 2))
             have n0_ := Aside0.mk (Kd.V_drew HO_3.out)
             have n1_ := Aside0.mk (Kd.R_drew HO500.out)
             have n2_ := Aside0.mk (blk_drew BK492.out)
             have n3_ := Aside0.mk (blk_drew BK496.out)
             have n4_ := Aside0.mk (below_drew1 HB.out)
             clear HO_3
             clear HO500
             clear BK492
             clear BK496
             clear HB
             have HO_3 := n0_
             have HO500 := n1_
             have BK492 := n2_
             have BK496 := n3_
             have HB := n4_
             clear n0_ n1_ n2_ n3_ n4_
             refine start_ (n := 15) (S := fun w' => w'.cell? ⟨gb496, 0, none⟩ = some (.slice A495_0 ((rd_T43 ((rd_T46 l0 a1).f2) x16_2).f0).length c495_0) ∧ w'.cell? ⟨gb496, 1, none⟩ = some (.slice A495_1 ((rd_T43 ((rd_T46 l0 a1).f2) x16_2).f1).length c495_1) ∧ w'.cell? ⟨gb496, 2, none⟩ = some (.int .i64 ((rd_T43 ((rd_T46 l0 a1).f2) x16_2).f2)) ∧ w'.cell? ⟨gb496, 3, none⟩ = some (.int .i64 ((rd_T43 ((rd_T46 l0 a1).f2) x16_2).f3)) ∧ w'.cell? ⟨gb496, 4, none⟩ = some (.int .i64 ((rd_T43 ((rd_T46 l0 a1).f2) x16_2).f4.f0)) ∧ w'.cell? ⟨gb496, 5, none⟩ = some (.int .i64 ((rd_T43 ((rd_T46 l0 a1).f2) x16_2).f4.f1)) ∧ w'.cell? ⟨gb496, 6, none⟩ = some (.int .i64 ((rd_T43 ((rd_T46 l0 a1).f2) x16_2).f5.f0)) ∧ w'.cell? ⟨gb496, 7, none⟩ = some (.int .i64 ((rd_T43 ((rd_T46 l0 a1).f2) x16_2).f5.f1)) ∧ w'.cell? ⟨gb496, 8, none⟩ = some (.int .i64 ((rd_T43 ((rd_T46 l0 a1).f2) x16_2).f6.f0)) ∧ w'.cell? ⟨gb496, 9, none⟩ = some (.int .i64 ((rd_T43 ((rd_T46 l0 a1).f2) x16_2).f6.f1))) (ds := []) #[false, false, false, false, false, false, false, false, false, false, false, false, false, false, false] (by kernel_rfl) rfl rfl ⟨(blk_cell BK496.out 0).trans rfl, (blk_cell BK496.out 1).trans rfl, (blk_cell BK496.out 2).trans rfl, (blk_cell BK496.out 3).trans rfl, (blk_cell BK496.out 4).trans rfl, (blk_cell BK496.out 5).trans rfl, (blk_cell BK496.out 6).trans rfl, (blk_cell BK496.out 7).trans rfl, (blk_cell BK496.out 8).trans rfl, (blk_cell BK496.out 9).trans rfl⟩ (fun hHeld => ?_); refine with_tabW foundryref20_done.tab24 foundryref20_done.bits24 (fun HT_ HW_ => ?_)
             generalize w83.drew = w85 at HO_3 HO500 BK492 BK496 HB hHeld ⊢
             refine pure_ (i := 0) (N := some 136) (v := ?_) (a' := ?_) #[true, false, false, false, false, false, false, false, false, false, false, false, false, false, false] rfl rfl (any_of HT_.out (by kernel_rfl)) (fun _ _ _ h => h) (Or.inl ⟨by rfl, ?_⟩) ?_ ?_
             rotate_left
             ·intro w'
              go_simp
              with_reducible rfl
             rotate_left
             ·simp only [Act.put, List.setIfInBounds_toArray, List.set_cons_zero, List.set_cons_succ, i64_w, i32_w]
              rfl
             refine pure_ (i := 1) (N := some 137) (v := ?_) (a' := ?_) #[true, true, false, false, false, false, false, false, false, false, false, false, false, false, false] rfl rfl (any_of HT_.out (by kernel_rfl)) (fun _ _ _ h => h) (Or.inl ⟨by rfl, ?_⟩) ?_ ?_
             rotate_left
             ·intro w'
              go_simp
              with_reducible rfl
             rotate_left
             ·simp only [Act.put, List.setIfInBounds_toArray, List.set_cons_zero, List.set_cons_succ, i64_w, i32_w]
              rfl
             refine pure_ (i := 2) (N := some 138) (v := ?_) (a' := ?_) #[true, true, true, false, false, false, false, false, false, false, false, false, false, false, false] rfl rfl (any_of HT_.out (by kernel_rfl)) (fun _ _ _ h => h) (Or.inl ⟨by rfl, ?_⟩) ?_ ?_
             rotate_left
             ·intro w'
              go_simp
              with_reducible rfl
             rotate_left
             ·simp only [Act.put, List.setIfInBounds_toArray, List.set_cons_zero, List.set_cons_succ, i64_w, i32_w]
              rfl
             refine pure_ (i := 3) (N := some 139) (v := ?_) (a' := ?_) #[true, true, true, true, false, false, false, false, false, false, false, false, false, false, false] rfl rfl (any_of HT_.out (by kernel_rfl)) (fun _ _ _ h => h) (Or.inl ⟨by rfl, ?_⟩) ?_ ?_
             rotate_left
             ·intro w'
              go_simp
              with_reducible rfl
             rotate_left
             ·simp only [Act.put, List.setIfInBounds_toArray, List.set_cons_zero, List.set_cons_succ, i64_w, i32_w]
              rfl
             refine pure_ (i := 4) (N := some 140) (v := ?_) (a' := ?_) #[true, true, true, true, true, false, false, false, false, false, false, false, false, false, false] rfl rfl (any_of HT_.out (by kernel_rfl)) (fun _ _ _ h => h) (Or.inl ⟨by rfl, ?_⟩) ?_ ?_
             rotate_left
             ·intro w'
              go_simp
              with_reducible rfl
             rotate_left
             ·simp only [Act.put, List.setIfInBounds_toArray, List.set_cons_zero, List.set_cons_succ, i64_w, i32_w]
              rfl
             refine pure_ (i := 7) (N := some 143) (v := ?_) (a' := ?_) #[true, true, true, true, true, false, false, true, false, false, false, false, false, false, false] rfl rfl (any_of HT_.out (by kernel_rfl)) (fun _ _ _ h => h) (Or.inl ⟨by rfl, ?_⟩) ?_ ?_
             rotate_left
             ·intro w'
              go_simp
              with_reducible rfl
             rotate_left
             ·simp only [Act.put, List.setIfInBounds_toArray, List.set_cons_zero, List.set_cons_succ, i64_w, i32_w]
              rfl
             refine pure_ (i := 8) (N := some 144) (v := ?_) (a' := ?_) #[true, true, true, true, true, false, false, true, true, false, false, false, false, false, false] rfl rfl (any_of HT_.out (by kernel_rfl)) (fun _ _ _ h => h) (Or.inl ⟨by rfl, ?_⟩) ?_ ?_
             rotate_left
             ·intro w'
              go_simp
              with_reducible rfl
             rotate_left
             ·simp only [Act.put, List.setIfInBounds_toArray, List.set_cons_zero, List.set_cons_succ, i64_w, i32_w]
              rfl
             refine take_ (i := 5) (N := some 141) (v := ?_) (a' := ?_) #[true, true, true, true, true, true, false, true, true, false, false, false, false, false, false] rfl rfl (take_ofW HT_.out HW_.out (by kernel_rfl)) (fun _ _ _ h => h) (Or.inl ⟨by rfl, ?_⟩) hHeld ?_ ?_
             rotate_left
             ·rintro w' ⟨s0, s1, s2, s3, s4, s5, s6, s7, s8, s9⟩
              go_simp
              with_reducible rfl
             rotate_left
             ·simp only [Act.put, List.setIfInBounds_toArray, List.set_cons_zero, List.set_cons_succ, i64_w, i32_w]
              rfl
             refine take_ (i := 9) (N := some 145) (v := ?_) (a' := ?_) #[true, true, true, true, true, true, false, true, true, true, false, false, false, false, false] rfl rfl (take_ofW HT_.out HW_.out (by kernel_rfl)) (fun _ _ _ h => h) (Or.inl ⟨by rfl, ?_⟩) hHeld ?_ ?_
             rotate_left
             ·rintro w' ⟨s0, s1, s2, s3, s4, s5, s6, s7, s8, s9⟩
              go_simp
              with_reducible rfl
             rotate_left
             ·simp only [Act.put, List.setIfInBounds_toArray, List.set_cons_zero, List.set_cons_succ, i64_w, i32_w]
              rfl
             refine pure_ (i := 10) (N := some 146) (v := ?_) (a' := ?_) #[true, true, true, true, true, true, false, true, true, true, true, false, false, false, false] rfl rfl (any_of HT_.out (by kernel_rfl)) (fun _ _ _ h => h) (Or.inl ⟨by rfl, ?_⟩) ?_ ?_
             rotate_left
             ·intro w'
              go_simp
              with_reducible rfl
             rotate_left
             ·simp only [Act.put, List.setIfInBounds_toArray, List.set_cons_zero, List.set_cons_succ, i64_w, i32_w]
              rfl
             refine pure_ (i := 11) (N := some 147) (v := ?_) (a' := ?_) #[true, true, true, true, true, true, false, true, true, true, true, true, false, false, false] rfl rfl (any_of HT_.out (by kernel_rfl)) (fun _ _ _ h => h) (Or.inl ⟨by rfl, ?_⟩) ?_ ?_
             rotate_left
             ·intro w'
              go_simp
              with_reducible rfl
             rotate_left
             ·simp only [Act.put, List.setIfInBounds_toArray, List.set_cons_zero, List.set_cons_succ, i64_w, i32_w]
              rfl
             refine one_ (i := 6) (N := some 142) #[true, true, true, true, true, true, true, true, true, true, true, true, false, false, false] rfl rfl (one_of HT_.out (by kernel_rfl)) (by decide) (fun K hK => ?_)
             refine goes_ Try.func29 (by kernel_rfl) rfl #[.slice A3 l3.length c3, .int .i64 a4, .int .i64 (wrap64 (a4 + 1)), .slice A495_1 ((rd_T43 ((rd_T46 l0 a1).f2) x16_2).f1).length c495_1] (by rfl) rfl rfl (by (try simp only [List.map_toArray, List.map_cons, List.map_nil]); first | done | rfl | (simp only [List.length_drop, List.length_take]; rfl)) ?_
             with_reducible refine (foundryref19_Put.calls _ _ l3 a4 (wrap64 (a4 + 1)) _ _ ((rd_T43 ((rd_T46 l0 a1).f2) x16_2).f1) t517 _ ?side1 ?side2 ?side3 ?side4 A77.out).mono ?_
             (case side1 => repeat (first | exact (Kd.V_reads' HO_3.out).2.2 | (with_reducible refine Kd.C_alloc ?_ _) | (with_reducible refine Kd.C_drewN ?_ _) | (with_reducible refine Kd.C_drew ?_)))
             (case side2 => exact (Kd.V_reads' HO_3.out).2.1)
             (case side3 => repeat (first | exact (Kd.C_below HR495_1.out HB.out) | (with_reducible refine Kd.C_alloc ?_ _) | (with_reducible refine Kd.C_drewN ?_ _) | (with_reducible refine Kd.C_drew ?_)))
             (case side4 => exact HC495_1.out)
             rintro e w86 ⟨v518, rfl, ho0, hb⟩
             refine ⟨_, rfl, ?_⟩
             have n0_ := Aside0.mk (Kd.V_elder' (by (with_reducible repeat (first | apply Kd.V_alloc | apply Kd.V_drewN | apply Kd.V_drew)); exact HO_3.out) (Kd.R_base ho0) hb)
             have n1_ := Aside0.mk (Kd.R_elder' (by (with_reducible repeat (first | apply Kd.R_alloc | apply Kd.R_drewN | apply Kd.R_drew)); exact HO500.out) (Kd.R_base ho0) hb)
             have n2_ := Aside0.mk (Kd.R_lower (Kd.R_new' (Kd.R_newM (M := fun k_ => (w.heap.size ≤ k_)) ho0 (below_size (by repeat (first | (with_reducible first | exact HB.out | apply below_alloc | apply pw_below_drewN | apply below_drew1 | refine below_set ?_ GE492.out | refine below_set ?_ GE496.out) | exact HB.out))) (fun k_ h_ => h_)) (Kd.R_lt (by (with_reducible repeat (first | apply Kd.R_alloc | apply Kd.R_drewN | apply Kd.R_drew)); exact HO500.out))) (below_size (by repeat (first | (with_reducible first | exact HB.out | apply below_alloc | apply pw_below_drewN | apply below_drew1 | refine below_set ?_ GE492.out | refine below_set ?_ GE496.out) | exact HB.out))))
             have n3_ := Aside0.mk (blk_below (g := gb492) (o := .cells #[.int .i64 ((rd_T46 l0 a1).f0), .bool ((rd_T46 l0 a1).f1), .slice (some ad495) ((rd_T46 l0 a1).f2).length c491_2] 46 (0, 0)) (by (with_reducible repeat (first | refine blk_drewN ?_ _ | refine blk_drew ?_ | refine blk_alloc ?_ _)); exact BK492.out) hb)
             have n4_ := Aside0.mk (blk_below (g := gb496) (o := .cells #[.slice A495_0 ((rd_T43 ((rd_T46 l0 a1).f2) x16_2).f0).length c495_0, .slice A495_1 ((rd_T43 ((rd_T46 l0 a1).f2) x16_2).f1).length c495_1, .int .i64 ((rd_T43 ((rd_T46 l0 a1).f2) x16_2).f2), .int .i64 ((rd_T43 ((rd_T46 l0 a1).f2) x16_2).f3), .int .i64 ((rd_T43 ((rd_T46 l0 a1).f2) x16_2).f4.f0), .int .i64 ((rd_T43 ((rd_T46 l0 a1).f2) x16_2).f4.f1), .int .i64 ((rd_T43 ((rd_T46 l0 a1).f2) x16_2).f5.f0), .int .i64 ((rd_T43 ((rd_T46 l0 a1).f2) x16_2).f5.f1), .int .i64 ((rd_T43 ((rd_T46 l0 a1).f2) x16_2).f6.f0), .int .i64 ((rd_T43 ((rd_T46 l0 a1).f2) x16_2).f6.f1)] 43 (0, 0)) (by (with_reducible repeat (first | refine blk_drewN ?_ _ | refine blk_drew ?_ | refine blk_alloc ?_ _)); exact BK496.out) hb)
             have n5_ := Aside0.mk (below_step (by repeat (first | (with_reducible first | exact HB.out | apply below_alloc | apply pw_below_drewN | apply below_drew1 | refine below_set ?_ GE492.out | refine below_set ?_ GE496.out) | exact HB.out)) hb)
             clear HO_3
             clear HO500
             clear BK492
             clear BK496
             clear HB
             have HO_3 := n0_
             have HO500 := n1_
             have HO519 := n2_
             have BK492 := n3_
             have BK496 := n4_
             have HB := n5_
             clear n0_ n1_ n2_ n3_ n4_ n5_
             (try clear hb)
             (try clear hb2)
             (try clear hk)
             (try clear hi)
             (try clear ho0)
             refine hK.out _ _ ⟨(blk_cell BK496.out 0).trans rfl, (blk_cell BK496.out 1).trans rfl, (blk_cell BK496.out 2).trans rfl, (blk_cell BK496.out 3).trans rfl, (blk_cell BK496.out 4).trans rfl, (blk_cell BK496.out 5).trans rfl, (blk_cell BK496.out 6).trans rfl, (blk_cell BK496.out 7).trans rfl, (blk_cell BK496.out 8).trans rfl, (blk_cell BK496.out 9).trans rfl⟩ (fun hHeld => ?_)
             clear hK K
             refine norm_ (a' := ?_) ?_ ?_
             rotate_left
             ·show Act.put _ (some 142) _ = _
              simp only [Act.put, List.setIfInBounds_toArray, List.set_cons_zero, List.set_cons_succ, i64_w, i32_w]
              rfl
             refine pure_ (i := 12) (N := some 12) (v := ?_) (a' := ?_) #[true, true, true, true, true, true, true, true, true, true, true, true, true, false, false] rfl rfl (any_of HT_.out (by kernel_rfl)) (fun _ _ _ h => h) (Or.inl ⟨by rfl, ?_⟩) ?_ ?_
             rotate_left
             ·intro w'
              go_simp
              with_reducible rfl
             rotate_left
             ·simp only [Act.put, List.setIfInBounds_toArray, List.set_cons_zero, List.set_cons_succ, i64_w, i32_w]
              rfl
             refine pure_ (i := 13) (N := some 13) (v := ?_) (a' := ?_) #[true, true, true, true, true, true, true, true, true, true, true, true, true, true, false] rfl rfl (any_of HT_.out (by kernel_rfl)) (fun _ _ _ h => h) (Or.inl ⟨by rfl, ?_⟩) ?_ ?_
             rotate_left
             ·intro w'
              go_simp
              with_reducible rfl
             rotate_left
             ·simp only [Act.put, List.setIfInBounds_toArray, List.set_cons_zero, List.set_cons_succ, i64_w, i32_w]
              rfl
             refine pure_ (i := 14) (N := some 14) (v := ?_) (a' := ?_) #[true, true, true, true, true, true, true, true, true, true, true, true, true, true, true] rfl rfl (any_of HT_.out (by kernel_rfl)) (fun _ _ _ h => h) (Or.inl ⟨by rfl, ?_⟩) ?_ ?_
             rotate_left
             ·intro w'
              go_simp
              with_reducible rfl
             rotate_left
             ·simp only [Act.put, List.setIfInBounds_toArray, List.set_cons_zero, List.set_cons_succ, i64_w, i32_w]
              rfl
             refine done_ (done_of HT_.out (by kernel_rfl)) ?_
             try go_wp2
             go_ret3
             exact ⟨_, by first | rfl | (simp [errW_none, errW_some] <;> rfl) | (simp [*, errW_none, errW_some] <;> rfl), Kd.V_mono (Kd.R_V (by (with_reducible repeat (first | apply Kd.R_alloc | apply Kd.R_drewN | apply Kd.R_drew)); exact Kd.R_mono HO519.out (fun _ hk => hk.1.1))) (fun k_ hk => by first | exact ⟨(.inr (hk.1)), hk.2⟩ | exact (.inr (hk))), by repeat (first | (with_reducible first | exact HB.out | apply below_alloc | apply pw_below_drewN | apply below_drew1 | refine below_set ?_ GE492.out | refine below_set ?_ GE496.out) | exact HB.out)⟩
          ·replace c23 := Bool.eq_false_iff.mpr c23
           subst c23
           have H1 : (foundryref20_done.l0 k2 l0 l2 l3 a4 a5 (wrap64 (x16_2 + 1)) ((rd_T46 l0 a1).f0) ((rd_T46 l0 a1).f1) ((rd_T46 l0 a1).f2)) = some (r1, r2, r3) := by rw [if_neg (show ¬ (false = true) by decide)] at H; exact H
           clear H
           have H := H1
           clear H1
           have H' := Aside0.mk H
           clear H
           have hcz87_0 : wr.cell? ⟨gb492, 0, none⟩ = some (.int .i64 ((rd_T46 l0 a1).f0)) := (blk_cell BK492.out 0).trans rfl
           have hcz87_1 : wr.cell? ⟨gb492, 1, none⟩ = some (.bool ((rd_T46 l0 a1).f1)) := (blk_cell BK492.out 1).trans rfl
           have hcz87_2 : wr.cell? ⟨gb492, 2, none⟩ = some (.slice A491_2 ((rd_T46 l0 a1).f2).length c491_2) := (blk_cell BK492.out 2).trans rfl
           have hfz87_0 := blk_frozen BK492.out 0
           have hfz87_1 := blk_frozen BK492.out 1
           have hfz87_2 := blk_frozen BK492.out 2
           have p495 : 0 ≤ (x16_2 : Int) := of_decide_eq_true (by first | (with_reducible assumption) | assumption)
           have q495 : x16_2 < (((rd_T46 l0 a1).f2).length : Int) := of_decide_eq_true (by first | (with_reducible assumption) | assumption)
           obtain ⟨ad495, A495_0, c495_0, A495_1, c495_1, e495, hx495_0, hx495_1, hx495_2, hx495_3, hx495_4, hx495_5, hx495_6, hx495_7, hx495_8, hx495_9, hl495_0, hi495_0, hl495_1, hi495_1⟩ := at_T43 HR491_2.out x16_2 p495 q495
           cases e495
           replace hx495_0 := (HB.out.cell (World.block_lt_of_cell? w _ hx495_0)).trans hx495_0
           replace hx495_1 := (HB.out.cell (World.block_lt_of_cell? w _ hx495_1)).trans hx495_1
           replace hx495_2 := (HB.out.cell (World.block_lt_of_cell? w _ hx495_2)).trans hx495_2
           replace hx495_3 := (HB.out.cell (World.block_lt_of_cell? w _ hx495_3)).trans hx495_3
           replace hx495_4 := (HB.out.cell (World.block_lt_of_cell? w _ hx495_4)).trans hx495_4
           replace hx495_5 := (HB.out.cell (World.block_lt_of_cell? w _ hx495_5)).trans hx495_5
           replace hx495_6 := (HB.out.cell (World.block_lt_of_cell? w _ hx495_6)).trans hx495_6
           replace hx495_7 := (HB.out.cell (World.block_lt_of_cell? w _ hx495_7)).trans hx495_7
           replace hx495_8 := (HB.out.cell (World.block_lt_of_cell? w _ hx495_8)).trans hx495_8
           replace hx495_9 := (HB.out.cell (World.block_lt_of_cell? w _ hx495_9)).trans hx495_9
           have HR495_0 := Aside0.mk hi495_0
           have HC495_0 := Aside0.mk hl495_0
           clear hi495_0 hl495_0
           have HR495_1 := Aside0.mk hi495_1
           have HC495_1 := Aside0.mk hl495_1
           clear hi495_1 hl495_1
           replace p495 := eq_true p495
           replace q495 := eq_true q495
           go_wp2_with (first | ((with_reducible refine gate_dst (N := 17) rfl ?_); refine box_event ?hg (N := 17) ?hd (cs := #[.slice none 0 0, .slice none 0 0, .int .i64 0, .int .i64 0, .int .i64 0, .int .i64 0, .int .i64 0, .int .i64 0, .int .i64 0, .int .i64 0]) (t := 43) ?hr ?_; (case hd => rfl); (case hg => rfl); (case hr => first | (go_simp; done) | (go_simp; rfl)); intro gb496 hg w88 hbox hb; have n0_ := Aside0.mk (Kd.V_below (Kd.V_elderB (by (with_reducible repeat (first | apply Kd.V_alloc | apply Kd.V_drewN | apply Kd.V_drew)); exact HO_3.out) gb496 (Nat.le_of_eq hg.symm)) hb); have n1_ := Aside0.mk (blk_below (g := gb492) (o := .cells #[.int .i64 ((rd_T46 l0 a1).f0), .bool ((rd_T46 l0 a1).f1), .slice (some ad495) ((rd_T46 l0 a1).f2).length c491_2] 46 (0, 0)) (by (with_reducible repeat (first | refine blk_drewN ?_ _ | refine blk_drew ?_ | refine blk_alloc ?_ _)); exact BK492.out) hb); have n2_ := Aside0.mk (below_step (by repeat (first | (with_reducible first | exact HB.out | apply below_alloc | apply pw_below_drewN | apply below_drew1 | refine below_set ?_ GE492.out) | exact HB.out)) hb); have n3_ := Aside0.mk (hbox); have n4_ := Aside0.mk ((by rw [hg]; exact (below_size (by repeat (first | (with_reducible first | exact HB.out | apply below_alloc | apply pw_below_drewN | apply below_drew1 | refine below_set ?_ GE492.out) | exact HB.out))) : w.heap.size ≤ gb496)); have n5_ := Aside0.mk ((by rw [hg]; exact (below_size (by repeat (first | (with_reducible first | exact HB.out | apply below_alloc | apply pw_below_drewN | apply below_drew1 | refine below_set ?_ GE492.out) | exact HB.out))) : w.heap.size ≤ gb496)); have n6_ := Aside0.mk ((by rw [hg]; exact Nat.ne_of_lt (blk_lt (g := gb492) (o := .cells #[.int .i64 ((rd_T46 l0 a1).f0), .bool ((rd_T46 l0 a1).f1), .slice (some ad495) ((rd_T46 l0 a1).f2).length c491_2] 46 (0, 0)) (by (with_reducible repeat (first | refine blk_drewN ?_ _ | refine blk_drew ?_ | refine blk_alloc ?_ _)); exact BK492.out)) : gb492 ≠ gb496)); have n7_ := Aside0.mk ((by rw [hg]; exact Nat.ne_of_gt (blk_lt (g := gb492) (o := .cells #[.int .i64 ((rd_T46 l0 a1).f0), .bool ((rd_T46 l0 a1).f1), .slice (some ad495) ((rd_T46 l0 a1).f2).length c491_2] 46 (0, 0)) (by (with_reducible repeat (first | refine blk_drewN ?_ _ | refine blk_drew ?_ | refine blk_alloc ?_ _)); exact BK492.out)) : gb496 ≠ gb492)); clear HO_3; clear BK492; clear HB; have HO_3 := n0_; have BK492 := n1_; have HB := n2_; have BK496 := n3_; have GW496 := n4_; have GE496 := n5_; have NB492_496 := n6_; have NB496_492 := n7_; clear n0_ n1_ n2_ n3_ n4_ n5_ n6_ n7_; clear hb hbox hg; have hnb89 := NB496_492.out; have hnc89 := NB492_496.out; have hcz90_0 : w88.cell? ⟨gb496, 0, none⟩ = some (.slice none 0 0) := (blk_cell BK496.out 0).trans rfl; have hcz90_1 : w88.cell? ⟨gb496, 1, none⟩ = some (.slice none 0 0) := (blk_cell BK496.out 1).trans rfl; have hcz90_2 : w88.cell? ⟨gb496, 2, none⟩ = some (.int .i64 0) := (blk_cell BK496.out 2).trans rfl; have hcz90_3 : w88.cell? ⟨gb496, 3, none⟩ = some (.int .i64 0) := (blk_cell BK496.out 3).trans rfl; have hcz90_4 : w88.cell? ⟨gb496, 4, none⟩ = some (.int .i64 0) := (blk_cell BK496.out 4).trans rfl; have hcz90_5 : w88.cell? ⟨gb496, 5, none⟩ = some (.int .i64 0) := (blk_cell BK496.out 5).trans rfl; have hcz90_6 : w88.cell? ⟨gb496, 6, none⟩ = some (.int .i64 0) := (blk_cell BK496.out 6).trans rfl; have hcz90_7 : w88.cell? ⟨gb496, 7, none⟩ = some (.int .i64 0) := (blk_cell BK496.out 7).trans rfl; have hcz90_8 : w88.cell? ⟨gb496, 8, none⟩ = some (.int .i64 0) := (blk_cell BK496.out 8).trans rfl; have hcz90_9 : w88.cell? ⟨gb496, 9, none⟩ = some (.int .i64 0) := (blk_cell BK496.out 9).trans rfl; have hfz90_0 := blk_frozen BK496.out 0; have hfz90_1 := blk_frozen BK496.out 1; have hfz90_2 := blk_frozen BK496.out 2; have hfz90_3 := blk_frozen BK496.out 3; have hfz90_4 := blk_frozen BK496.out 4; have hfz90_5 := blk_frozen BK496.out 5; have hfz90_6 := blk_frozen BK496.out 6; have hfz90_7 := blk_frozen BK496.out 7; have hfz90_8 := blk_frozen BK496.out 8; have hfz90_9 := blk_frozen BK496.out 9; have hcz91_0 : w88.cell? ⟨gb492, 0, none⟩ = some (.int .i64 ((rd_T46 l0 a1).f0)) := (blk_cell BK492.out 0).trans rfl; have hcz91_1 : w88.cell? ⟨gb492, 1, none⟩ = some (.bool ((rd_T46 l0 a1).f1)) := (blk_cell BK492.out 1).trans rfl; have hcz91_2 : w88.cell? ⟨gb492, 2, none⟩ = some (.slice (some ad495) ((rd_T46 l0 a1).f2).length c491_2) := (blk_cell BK492.out 2).trans rfl; have hfz91_0 := blk_frozen BK492.out 0; have hfz91_1 := blk_frozen BK492.out 1; have hfz91_2 := blk_frozen BK492.out 2) | ((with_reducible refine gate_callee (f := 23) rfl ?_); refine goesL_ (some 60) rfl rfl Try.func23 (by kernel_rfl) rfl #[.slice A3 l3.length c3, .slice A2 l2.length c2, .int .i64 a4, .slice A495_0 ((rd_T43 ((rd_T46 l0 a1).f2) x16_2).f0).length c495_0, .bool ((rd_T46 l0 a1).f1)] rfl (by (try simp only [List.map_toArray, List.map_cons, List.map_nil]); first | done | rfl | (simp only [List.length_drop, List.length_take]; rfl)) ?_; (with_reducible refine (foundryref19_Meet.calls k2 _ _ l3 _ _ l2 a4 _ _ ((rd_T43 ((rd_T46 l0 a1).f2) x16_2).f0) ((rd_T46 l0 a1).f1) t497 false _ ?side1 ?side2 ?side3 ?side4 ?side5 ?side6 A22.out).mono ?_); (case side1 => refine (Kd.V_reads' (e := 3) (base := w.heap.size) (ok := fun k_ => ((((P3_ k_ ∨ w.heap.size ≤ k_)) ∧ k_ ≠ gb492) ∧ k_ ≠ gb496)) (n := l3.length) (c := c3) ?_).2.2; exact (by (with_reducible repeat (first | apply Kd.V_alloc | apply Kd.V_drewN | apply Kd.V_drew)); exact (Kd.V_mono (Kd.V_far (p := ⟨gb496, 9, none⟩) (Kd.V_far (p := ⟨gb496, 8, none⟩) (Kd.V_far (p := ⟨gb496, 7, none⟩) (Kd.V_far (p := ⟨gb496, 6, none⟩) (Kd.V_far (p := ⟨gb496, 5, none⟩) (Kd.V_far (p := ⟨gb496, 4, none⟩) (Kd.V_far (p := ⟨gb496, 3, none⟩) (Kd.V_far (p := ⟨gb496, 2, none⟩) (Kd.V_far (p := ⟨gb496, 1, none⟩) (Kd.V_far (p := ⟨gb496, 0, none⟩) (Kd.V_mono HO_3.out (fun k_ hk => (⟨hk, hk.2⟩ : _ ∧ k_ ≠ gb496))) (fun _ hk => hk.2) (.slice A495_0 ((rd_T43 ((rd_T46 l0 a1).f2) x16_2).f0).length c495_0)) (fun _ hk => hk.2) (.slice A495_1 ((rd_T43 ((rd_T46 l0 a1).f2) x16_2).f1).length c495_1)) (fun _ hk => hk.2) (.int .i64 ((rd_T43 ((rd_T46 l0 a1).f2) x16_2).f2))) (fun _ hk => hk.2) (.int .i64 ((rd_T43 ((rd_T46 l0 a1).f2) x16_2).f3))) (fun _ hk => hk.2) (.int .i64 ((rd_T43 ((rd_T46 l0 a1).f2) x16_2).f4.f0))) (fun _ hk => hk.2) (.int .i64 ((rd_T43 ((rd_T46 l0 a1).f2) x16_2).f4.f1))) (fun _ hk => hk.2) (.int .i64 ((rd_T43 ((rd_T46 l0 a1).f2) x16_2).f5.f0))) (fun _ hk => hk.2) (.int .i64 ((rd_T43 ((rd_T46 l0 a1).f2) x16_2).f5.f1))) (fun _ hk => hk.2) (.int .i64 ((rd_T43 ((rd_T46 l0 a1).f2) x16_2).f6.f0))) (fun _ hk => hk.2) (.int .i64 ((rd_T43 ((rd_T46 l0 a1).f2) x16_2).f6.f1))) (fun _ h_ => h_.1)))); (case side2 => exact (Kd.V_reads' HO_3.out).2.1); (case side3 => exact Kd.C_below HR2.out (by repeat (first | (with_reducible first | exact HB.out | apply below_alloc | apply pw_below_drewN | apply below_drew1 | refine below_set ?_ GE492.out | refine below_set ?_ GE496.out) | exact HB.out))); (case side4 => exact HC2.out); (case side5 => exact Kd.C_below HR495_0.out (by repeat (first | (with_reducible first | exact HB.out | apply below_alloc | apply pw_below_drewN | apply below_drew1 | refine below_set ?_ GE492.out | refine below_set ?_ GE496.out) | exact HB.out))); (case side6 => exact HC495_0.out); rintro e w92 ⟨v499, rfl, ho0, hb⟩; refine ⟨_, rfl, ?_⟩; have n0_ := Aside0.mk (Kd.V_elder' (by (with_reducible repeat (first | apply Kd.V_alloc | apply Kd.V_drewN | apply Kd.V_drew)); exact (Kd.V_mono (Kd.V_far (p := ⟨gb496, 9, none⟩) (Kd.V_far (p := ⟨gb496, 8, none⟩) (Kd.V_far (p := ⟨gb496, 7, none⟩) (Kd.V_far (p := ⟨gb496, 6, none⟩) (Kd.V_far (p := ⟨gb496, 5, none⟩) (Kd.V_far (p := ⟨gb496, 4, none⟩) (Kd.V_far (p := ⟨gb496, 3, none⟩) (Kd.V_far (p := ⟨gb496, 2, none⟩) (Kd.V_far (p := ⟨gb496, 1, none⟩) (Kd.V_far (p := ⟨gb496, 0, none⟩) (Kd.V_mono HO_3.out (fun k_ hk => (⟨hk, hk.2⟩ : _ ∧ k_ ≠ gb496))) (fun _ hk => hk.2) (.slice A495_0 ((rd_T43 ((rd_T46 l0 a1).f2) x16_2).f0).length c495_0)) (fun _ hk => hk.2) (.slice A495_1 ((rd_T43 ((rd_T46 l0 a1).f2) x16_2).f1).length c495_1)) (fun _ hk => hk.2) (.int .i64 ((rd_T43 ((rd_T46 l0 a1).f2) x16_2).f2))) (fun _ hk => hk.2) (.int .i64 ((rd_T43 ((rd_T46 l0 a1).f2) x16_2).f3))) (fun _ hk => hk.2) (.int .i64 ((rd_T43 ((rd_T46 l0 a1).f2) x16_2).f4.f0))) (fun _ hk => hk.2) (.int .i64 ((rd_T43 ((rd_T46 l0 a1).f2) x16_2).f4.f1))) (fun _ hk => hk.2) (.int .i64 ((rd_T43 ((rd_T46 l0 a1).f2) x16_2).f5.f0))) (fun _ hk => hk.2) (.int .i64 ((rd_T43 ((rd_T46 l0 a1).f2) x16_2).f5.f1))) (fun _ hk => hk.2) (.int .i64 ((rd_T43 ((rd_T46 l0 a1).f2) x16_2).f6.f0))) (fun _ hk => hk.2) (.int .i64 ((rd_T43 ((rd_T46 l0 a1).f2) x16_2).f6.f1))) (fun _ h_ => h_.1))) (Kd.R_base ho0) hb); have n1_ := Aside0.mk (Kd.R_lower (Kd.R_newM (M := fun k_ => (w.heap.size ≤ k_)) ho0 (below_size (by repeat (first | (with_reducible first | exact HB.out | apply below_alloc | apply pw_below_drewN | apply below_drew1 | refine below_set ?_ GE492.out | refine below_set ?_ GE496.out) | exact HB.out))) (fun k_ h_ => h_)) (below_size (by repeat (first | (with_reducible first | exact HB.out | apply below_alloc | apply pw_below_drewN | apply below_drew1 | refine below_set ?_ GE492.out | refine below_set ?_ GE496.out) | exact HB.out)))); have n2_ := Aside0.mk (blk_below (g := gb492) (o := .cells #[.int .i64 ((rd_T46 l0 a1).f0), .bool ((rd_T46 l0 a1).f1), .slice (some ad495) ((rd_T46 l0 a1).f2).length c491_2] 46 (0, 0)) (by (with_reducible repeat (first | refine blk_drewN ?_ _ | refine blk_drew ?_ | refine blk_alloc ?_ _)); refine blk_far ?_ NB492_496.out _; (with_reducible repeat (first | refine blk_drewN ?_ _ | refine blk_drew ?_ | refine blk_alloc ?_ _)); refine blk_far ?_ NB492_496.out _; (with_reducible repeat (first | refine blk_drewN ?_ _ | refine blk_drew ?_ | refine blk_alloc ?_ _)); refine blk_far ?_ NB492_496.out _; (with_reducible repeat (first | refine blk_drewN ?_ _ | refine blk_drew ?_ | refine blk_alloc ?_ _)); refine blk_far ?_ NB492_496.out _; (with_reducible repeat (first | refine blk_drewN ?_ _ | refine blk_drew ?_ | refine blk_alloc ?_ _)); refine blk_far ?_ NB492_496.out _; (with_reducible repeat (first | refine blk_drewN ?_ _ | refine blk_drew ?_ | refine blk_alloc ?_ _)); refine blk_far ?_ NB492_496.out _; (with_reducible repeat (first | refine blk_drewN ?_ _ | refine blk_drew ?_ | refine blk_alloc ?_ _)); refine blk_far ?_ NB492_496.out _; (with_reducible repeat (first | refine blk_drewN ?_ _ | refine blk_drew ?_ | refine blk_alloc ?_ _)); refine blk_far ?_ NB492_496.out _; (with_reducible repeat (first | refine blk_drewN ?_ _ | refine blk_drew ?_ | refine blk_alloc ?_ _)); refine blk_far ?_ NB492_496.out _; (with_reducible repeat (first | refine blk_drewN ?_ _ | refine blk_drew ?_ | refine blk_alloc ?_ _)); refine blk_far ?_ NB492_496.out _; (with_reducible repeat (first | refine blk_drewN ?_ _ | refine blk_drew ?_ | refine blk_alloc ?_ _)); exact BK492.out) hb); have n3_ := Aside0.mk (blk_below (g := gb496) (o := .cells #[.slice A495_0 ((rd_T43 ((rd_T46 l0 a1).f2) x16_2).f0).length c495_0, .slice A495_1 ((rd_T43 ((rd_T46 l0 a1).f2) x16_2).f1).length c495_1, .int .i64 ((rd_T43 ((rd_T46 l0 a1).f2) x16_2).f2), .int .i64 ((rd_T43 ((rd_T46 l0 a1).f2) x16_2).f3), .int .i64 ((rd_T43 ((rd_T46 l0 a1).f2) x16_2).f4.f0), .int .i64 ((rd_T43 ((rd_T46 l0 a1).f2) x16_2).f4.f1), .int .i64 ((rd_T43 ((rd_T46 l0 a1).f2) x16_2).f5.f0), .int .i64 ((rd_T43 ((rd_T46 l0 a1).f2) x16_2).f5.f1), .int .i64 ((rd_T43 ((rd_T46 l0 a1).f2) x16_2).f6.f0), .int .i64 ((rd_T43 ((rd_T46 l0 a1).f2) x16_2).f6.f1)] 43 (0, 0)) (by (with_reducible repeat (first | refine blk_drewN ?_ _ | refine blk_drew ?_ | refine blk_alloc ?_ _)); refine blk_put (cs := #[.slice A495_0 ((rd_T43 ((rd_T46 l0 a1).f2) x16_2).f0).length c495_0, .slice A495_1 ((rd_T43 ((rd_T46 l0 a1).f2) x16_2).f1).length c495_1, .int .i64 ((rd_T43 ((rd_T46 l0 a1).f2) x16_2).f2), .int .i64 ((rd_T43 ((rd_T46 l0 a1).f2) x16_2).f3), .int .i64 ((rd_T43 ((rd_T46 l0 a1).f2) x16_2).f4.f0), .int .i64 ((rd_T43 ((rd_T46 l0 a1).f2) x16_2).f4.f1), .int .i64 ((rd_T43 ((rd_T46 l0 a1).f2) x16_2).f5.f0), .int .i64 ((rd_T43 ((rd_T46 l0 a1).f2) x16_2).f5.f1), .int .i64 ((rd_T43 ((rd_T46 l0 a1).f2) x16_2).f6.f0), .int .i64 0]) ?_ 9 _ rfl; (with_reducible repeat (first | refine blk_drewN ?_ _ | refine blk_drew ?_ | refine blk_alloc ?_ _)); refine blk_put (cs := #[.slice A495_0 ((rd_T43 ((rd_T46 l0 a1).f2) x16_2).f0).length c495_0, .slice A495_1 ((rd_T43 ((rd_T46 l0 a1).f2) x16_2).f1).length c495_1, .int .i64 ((rd_T43 ((rd_T46 l0 a1).f2) x16_2).f2), .int .i64 ((rd_T43 ((rd_T46 l0 a1).f2) x16_2).f3), .int .i64 ((rd_T43 ((rd_T46 l0 a1).f2) x16_2).f4.f0), .int .i64 ((rd_T43 ((rd_T46 l0 a1).f2) x16_2).f4.f1), .int .i64 ((rd_T43 ((rd_T46 l0 a1).f2) x16_2).f5.f0), .int .i64 ((rd_T43 ((rd_T46 l0 a1).f2) x16_2).f5.f1), .int .i64 0, .int .i64 0]) ?_ 8 _ rfl; (with_reducible repeat (first | refine blk_drewN ?_ _ | refine blk_drew ?_ | refine blk_alloc ?_ _)); refine blk_put (cs := #[.slice A495_0 ((rd_T43 ((rd_T46 l0 a1).f2) x16_2).f0).length c495_0, .slice A495_1 ((rd_T43 ((rd_T46 l0 a1).f2) x16_2).f1).length c495_1, .int .i64 ((rd_T43 ((rd_T46 l0 a1).f2) x16_2).f2), .int .i64 ((rd_T43 ((rd_T46 l0 a1).f2) x16_2).f3), .int .i64 ((rd_T43 ((rd_T46 l0 a1).f2) x16_2).f4.f0), .int .i64 ((rd_T43 ((rd_T46 l0 a1).f2) x16_2).f4.f1), .int .i64 ((rd_T43 ((rd_T46 l0 a1).f2) x16_2).f5.f0), .int .i64 0, .int .i64 0, .int .i64 0]) ?_ 7 _ rfl; (with_reducible repeat (first | refine blk_drewN ?_ _ | refine blk_drew ?_ | refine blk_alloc ?_ _)); refine blk_put (cs := #[.slice A495_0 ((rd_T43 ((rd_T46 l0 a1).f2) x16_2).f0).length c495_0, .slice A495_1 ((rd_T43 ((rd_T46 l0 a1).f2) x16_2).f1).length c495_1, .int .i64 ((rd_T43 ((rd_T46 l0 a1).f2) x16_2).f2), .int .i64 ((rd_T43 ((rd_T46 l0 a1).f2) x16_2).f3), .int .i64 ((rd_T43 ((rd_T46 l0 a1).f2) x16_2).f4.f0), .int .i64 ((rd_T43 ((rd_T46 l0 a1).f2) x16_2).f4.f1), .int .i64 0, .int .i64 0, .int .i64 0, .int .i64 0]) ?_ 6 _ rfl; (with_reducible repeat (first | refine blk_drewN ?_ _ | refine blk_drew ?_ | refine blk_alloc ?_ _)); refine blk_put (cs := #[.slice A495_0 ((rd_T43 ((rd_T46 l0 a1).f2) x16_2).f0).length c495_0, .slice A495_1 ((rd_T43 ((rd_T46 l0 a1).f2) x16_2).f1).length c495_1, .int .i64 ((rd_T43 ((rd_T46 l0 a1).f2) x16_2).f2), .int .i64 ((rd_T43 ((rd_T46 l0 a1).f2) x16_2).f3), .int .i64 ((rd_T43 ((rd_T46 l0 a1).f2) x16_2).f4.f0), .int .i64 0, .int .i64 0, .int .i64 0, .int .i64 0, .int .i64 0]) ?_ 5 _ rfl; (with_reducible repeat (first | refine blk_drewN ?_ _ | refine blk_drew ?_ | refine blk_alloc ?_ _)); refine blk_put (cs := #[.slice A495_0 ((rd_T43 ((rd_T46 l0 a1).f2) x16_2).f0).length c495_0, .slice A495_1 ((rd_T43 ((rd_T46 l0 a1).f2) x16_2).f1).length c495_1, .int .i64 ((rd_T43 ((rd_T46 l0 a1).f2) x16_2).f2), .int .i64 ((rd_T43 ((rd_T46 l0 a1).f2) x16_2).f3), .int .i64 0, .int .i64 0, .int .i64 0, .int .i64 0, .int .i64 0, .int .i64 0]) ?_ 4 _ rfl; (with_reducible repeat (first | refine blk_drewN ?_ _ | refine blk_drew ?_ | refine blk_alloc ?_ _)); refine blk_put (cs := #[.slice A495_0 ((rd_T43 ((rd_T46 l0 a1).f2) x16_2).f0).length c495_0, .slice A495_1 ((rd_T43 ((rd_T46 l0 a1).f2) x16_2).f1).length c495_1, .int .i64 ((rd_T43 ((rd_T46 l0 a1).f2) x16_2).f2), .int .i64 0, .int .i64 0, .int .i64 0, .int .i64 0, .int .i64 0, .int .i64 0, .int .i64 0]) ?_ 3 _ rfl; (with_reducible repeat (first | refine blk_drewN ?_ _ | refine blk_drew ?_ | refine blk_alloc ?_ _)); refine blk_put (cs := #[.slice A495_0 ((rd_T43 ((rd_T46 l0 a1).f2) x16_2).f0).length c495_0, .slice A495_1 ((rd_T43 ((rd_T46 l0 a1).f2) x16_2).f1).length c495_1, .int .i64 0, .int .i64 0, .int .i64 0, .int .i64 0, .int .i64 0, .int .i64 0, .int .i64 0, .int .i64 0]) ?_ 2 _ rfl; (with_reducible repeat (first | refine blk_drewN ?_ _ | refine blk_drew ?_ | refine blk_alloc ?_ _)); refine blk_put (cs := #[.slice A495_0 ((rd_T43 ((rd_T46 l0 a1).f2) x16_2).f0).length c495_0, .slice none 0 0, .int .i64 0, .int .i64 0, .int .i64 0, .int .i64 0, .int .i64 0, .int .i64 0, .int .i64 0, .int .i64 0]) ?_ 1 _ rfl; (with_reducible repeat (first | refine blk_drewN ?_ _ | refine blk_drew ?_ | refine blk_alloc ?_ _)); refine blk_put (cs := #[.slice none 0 0, .slice none 0 0, .int .i64 0, .int .i64 0, .int .i64 0, .int .i64 0, .int .i64 0, .int .i64 0, .int .i64 0, .int .i64 0]) ?_ 0 _ rfl; (with_reducible repeat (first | refine blk_drewN ?_ _ | refine blk_drew ?_ | refine blk_alloc ?_ _)); exact BK496.out) hb); have n4_ := Aside0.mk (below_step (by repeat (first | (with_reducible first | exact HB.out | apply below_alloc | apply pw_below_drewN | apply below_drew1 | refine below_set ?_ GE492.out | refine below_set ?_ GE496.out) | exact HB.out)) hb); clear HO_3; clear BK492; clear BK496; clear HB; have HO_3 := n0_; have HO500 := n1_; have BK492 := n2_; have BK496 := n3_; have HB := n4_; clear n0_ n1_ n2_ n3_ n4_; (try clear hb); (try clear hb2); (try clear hk); (try clear hi); (try clear ho0)))
           go_roundg k2
           case measure => have := HJ8.out; have := HK2.out; omega
           case rel => (try rw [← Nbq12.out]); exact ⟨(wrap64 (x16_2 + 1)), (by first | rfl | (simp; done) | (simp [*]; done)), H', ⟨by have := HJ8.out; have := HK2.out; omega⟩, ⟨by (with_reducible repeat (first | apply Kd.V_alloc | apply Kd.V_drewN | apply Kd.V_drew)); exact Kd.V_mono HO_3.out (fun _ hk => ⟨hk.1.1.1, hk.1.1.2⟩)⟩, ⟨by (with_reducible repeat (first | refine blk_drewN ?_ _ | refine blk_drew ?_ | refine blk_alloc ?_ _)); exact BK492.out⟩, ⟨by repeat (first | (with_reducible first | exact HB.out | apply below_alloc | apply pw_below_drewN | apply below_drew1 | refine below_set ?_ GE492.out | refine below_set ?_ GE496.out) | exact HB.out)⟩⟩
         ·rw [if_neg c21] at H
          exact absurd H (by simp)
        ·rw [if_neg c20] at H
         have c20b0 : decide (x16_2 < (((rd_T46 l0 a1).f2).length : Int)) = false := decide_eq_false c20
         clear c20
         simp only [Option.some.injEq, Prod.mk.injEq] at H
         obtain ⟨rfl, rfl, rfl⟩ := H
         have hcz93_0 : wr.cell? ⟨gb492, 0, none⟩ = some (.int .i64 ((rd_T46 l0 a1).f0)) := (blk_cell BK492.out 0).trans rfl
         have hcz93_1 : wr.cell? ⟨gb492, 1, none⟩ = some (.bool ((rd_T46 l0 a1).f1)) := (blk_cell BK492.out 1).trans rfl
         have hcz93_2 : wr.cell? ⟨gb492, 2, none⟩ = some (.slice A491_2 ((rd_T46 l0 a1).f2).length c491_2) := (blk_cell BK492.out 2).trans rfl
         have hfz93_0 := blk_frozen BK492.out 0
         have hfz93_1 := blk_frozen BK492.out 1
         have hfz93_2 := blk_frozen BK492.out 2
         go_wp2
         go_ret3
         exact ⟨_, by first | rfl | (simp [errW_none, errW_some] <;> rfl) | (simp [*, errW_none, errW_some] <;> rfl), by (with_reducible repeat (first | apply Kd.V_alloc | apply Kd.V_drewN | apply Kd.V_drew)); exact Kd.V_mono HO_3.out (fun _ hk => hk.1), by repeat (first | (with_reducible first | exact HB.out | apply below_alloc | apply pw_below_drewN | apply below_drew1 | refine below_set ?_ GE492.out) | exact HB.out)⟩
  ·rw [if_neg c8] at H
   exact absurd H (by simp)
 ·rw [if_neg c7] at H
  exact absurd H (by simp)

end Go.Proofs.Ytoldahmgjenlaaa.Q
