-- Written by a program of this session, out of the kit's print tool (see NOTES.md: mypr)
import Derived.Test.YtlhgagmghahbhaaQx0
import Derived.Test.YtlhgagmghahbhaaQx1
import Derived.Test.YtlhgagmghahbhaaQx4
import Derived.Test.YtlhgagmghahbhaaQx8
import Derived.Test.YtlhgagmghahbhaaQx14
import Derived.Test.YtlhgagmghahbhaaQx17
namespace Go.Proofs.Ytlhgagmghahbhaa.Q
open Go.RowKit Go.Proofs.YtlhgagmghahbhaaW.PrintWords Go.Proofs.YtlhgagmghahbhaaW.PrintLast Go.Proofs.YtlhgagmghahbhaaW.PrintMore
attribute [local go_sem] max2_int min2_int max_two min_two max_three min_three max_four min_four   -- for this text's walks alone
set_option linter.unusedVariables false
set_option linter.unusedSimpArgs false

/-! ### foundrylaw01_NatSmall: function 13 -/
def foundrylaw01_NatSmall.j0 : Nat → Int → Int → List Int → List Int → Bool → Option (Bool)
 | 0, _, _, _, _, _ => none
 | k + 1, x0, x1, x5, x6, x68 => if x68 = true then (some false) else (if x1 = 0 then (some true) else ((nat_Div.f k x5 x6).bind fun bt590 => ((nat_Small.f k bt590.1).bind fun bt596 => ((nat_Small.f k bt590.2).bind fun bt598 => (if bt596.1 = ((Int.tdiv x0 x1) % 4294967296) then (some (bt598.1 == (IntKind.u64.wrap (Int.tmod x0 x1)))) else (some false))))))
def foundrylaw01_NatSmall.f (k : Nat) (a0 : Int) (a1 : Int) : Option (Bool) := (foundrylaw01_awake.f k).bind fun t572 => (if t572 = true then ((nat_Of.f k (IntKind.u64.wrap (a0))).bind fun t573 => ((nat_Of.f k (IntKind.u64.wrap (a1))).bind fun t576 => ((nat_Add.f k t573 t576).bind fun t579 => ((nat_Small.f k t579).bind fun bt582 => ((nat_Mul.f k t573 t576).bind fun t584 => ((nat_Small.f k t584).bind fun bt587 => (if bt587.2 = true then (if bt582.1 = (IntKind.u64.wrap ((IntKind.u64.wrap (a0)) + (IntKind.u64.wrap (a1)))) then (if bt587.1 = (IntKind.u64.wrap ((IntKind.u64.wrap (a0)) * (IntKind.u64.wrap (a1)))) then ((nat_Cmp.f k t573 t576).bind fun t589 => (foundrylaw01_NatSmall.j0 k a0 a1 t573 t576 ((decide (t589 < 0)) != (decide (a0 < a1))))) else (foundrylaw01_NatSmall.j0 k a0 a1 t573 t576 true)) else (foundrylaw01_NatSmall.j0 k a0 a1 t573 t576 true)) else (foundrylaw01_NatSmall.j0 k a0 a1 t573 t576 true)))))))) else (some false))
theorem foundrylaw01_NatSmall.mono_l : ∀ k, (∀ y0 y1 y2 y3 y4, LeO (foundrylaw01_NatSmall.j0 k y0 y1 y2 y3 y4) (foundrylaw01_NatSmall.j0 (k + 1) y0 y1 y2 y3 y4))
 | 0 => fun _ _ _ _ _ r h => by simp [foundrylaw01_NatSmall.j0] at h
 | k + 1 => by
  have ih0 := foundrylaw01_NatSmall.mono_l k
  ·intro y0 y1 y2 y3 y4
   unfold foundrylaw01_NatSmall.j0
   repeat' first
   | (with_reducible exact ih0 _ _ _ _ _)
   | (with_reducible exact foundrylaw01_awake.mono _)
   | (with_reducible exact nat_Add.mono _ _ _)
   | (with_reducible exact nat_Cmp.mono _ _ _)
   | (with_reducible exact nat_Div.mono _ _ _)
   | (with_reducible exact nat_Mul.mono _ _ _)
   | (with_reducible exact nat_Of.mono _ _)
   | (with_reducible exact nat_Small.mono _ _)
   | (with_reducible exact LeO.refl _)
   | (with_reducible exact LeO.none _)
   | (with_reducible refine LeO.ite ?_ ?_)
   | (with_reducible refine LeO.bind ?_ (fun _ => ?_))
   | exact ih0 _ _ _ _ _
   | exact foundrylaw01_awake.mono _
   | exact nat_Add.mono _ _ _
   | exact nat_Cmp.mono _ _ _
   | exact nat_Div.mono _ _ _
   | exact nat_Mul.mono _ _ _
   | exact nat_Of.mono _ _
   | exact nat_Small.mono _ _
   | exact LeO.none _
   | refine LeO.ite ?_ ?_
   | refine LeO.bind ?_ (fun _ => ?_)
theorem foundrylaw01_NatSmall.mono : ∀ a0 a1 k, LeO (foundrylaw01_NatSmall.f k a0 a1) (foundrylaw01_NatSmall.f (k + 1) a0 a1) := by
 intro a0 a1 k
 have ih0 := foundrylaw01_NatSmall.mono_l k
 unfold foundrylaw01_NatSmall.f
 repeat' first
   | (with_reducible exact ih0 _ _ _ _ _)
   | (with_reducible exact foundrylaw01_awake.mono _)
   | (with_reducible exact nat_Add.mono _ _ _)
   | (with_reducible exact nat_Cmp.mono _ _ _)
   | (with_reducible exact nat_Div.mono _ _ _)
   | (with_reducible exact nat_Mul.mono _ _ _)
   | (with_reducible exact nat_Of.mono _ _)
   | (with_reducible exact nat_Small.mono _ _)
   | (with_reducible exact LeO.refl _)
   | (with_reducible exact LeO.none _)
   | (with_reducible refine LeO.ite ?_ ?_)
   | (with_reducible refine LeO.bind ?_ (fun _ => ?_))
   | exact ih0 _ _ _ _ _
   | exact foundrylaw01_awake.mono _
   | exact nat_Add.mono _ _ _
   | exact nat_Cmp.mono _ _ _
   | exact nat_Div.mono _ _ _
   | exact nat_Mul.mono _ _ _
   | exact nat_Of.mono _ _
   | exact nat_Small.mono _ _
   | exact LeO.none _
   | refine LeO.ite ?_ ?_
   | refine LeO.bind ?_ (fun _ => ?_)
set_option maxHeartbeats 8000000 in
set_option maxRecDepth 100000 in
theorem foundrylaw01_NatSmall.calls (k : Nat) (a0 : Int) (a1 : Int) (r : Bool) (w : World) (h : foundrylaw01_NatSmall.f k a0 a1 = some r) :
  Calls Try.prog 13 #[.int .u32 a0, .int .u32 a1] w fun e w' => e = .returned (.bool r) ∧ Below w.heap.size w w' := by
 have HB := Aside0.mk (Below.refl w.heap.size w)
 have H : ((foundrylaw01_awake.f k).bind fun t572 => (if t572 = true then ((nat_Of.f k (IntKind.u64.wrap (a0))).bind fun t573 => ((nat_Of.f k (IntKind.u64.wrap (a1))).bind fun t576 => ((nat_Add.f k t573 t576).bind fun t579 => ((nat_Small.f k t579).bind fun bt582 => ((nat_Mul.f k t573 t576).bind fun t584 => ((nat_Small.f k t584).bind fun bt587 => (if bt587.2 = true then (if bt582.1 = (IntKind.u64.wrap ((IntKind.u64.wrap (a0)) + (IntKind.u64.wrap (a1)))) then (if bt587.1 = (IntKind.u64.wrap ((IntKind.u64.wrap (a0)) * (IntKind.u64.wrap (a1)))) then ((nat_Cmp.f k t573 t576).bind fun t589 => (foundrylaw01_NatSmall.j0 k a0 a1 t573 t576 ((decide (t589 < 0)) != (decide (a0 < a1))))) else (foundrylaw01_NatSmall.j0 k a0 a1 t573 t576 true)) else (foundrylaw01_NatSmall.j0 k a0 a1 t573 t576 true)) else (foundrylaw01_NatSmall.j0 k a0 a1 t573 t576 true)))))))) else (some false))) = some r := h
 clear h
 replace H := Option.bind_eq_some_iff.mp H
 obtain ⟨t572, A30, H⟩ := H
 replace H : (if t572 = true then ((nat_Of.f k (IntKind.u64.wrap (a0))).bind fun t573 => ((nat_Of.f k (IntKind.u64.wrap (a1))).bind fun t576 => ((nat_Add.f k t573 t576).bind fun t579 => ((nat_Small.f k t579).bind fun bt582 => ((nat_Mul.f k t573 t576).bind fun t584 => ((nat_Small.f k t584).bind fun bt587 => (if bt587.2 = true then (if bt582.1 = (IntKind.u64.wrap ((IntKind.u64.wrap (a0)) + (IntKind.u64.wrap (a1)))) then (if bt587.1 = (IntKind.u64.wrap ((IntKind.u64.wrap (a0)) * (IntKind.u64.wrap (a1)))) then ((nat_Cmp.f k t573 t576).bind fun t589 => (foundrylaw01_NatSmall.j0 k a0 a1 t573 t576 ((decide (t589 < 0)) != (decide (a0 < a1))))) else (foundrylaw01_NatSmall.j0 k a0 a1 t573 t576 true)) else (foundrylaw01_NatSmall.j0 k a0 a1 t573 t576 true)) else (foundrylaw01_NatSmall.j0 k a0 a1 t573 t576 true)))))))) else (some false)) = some r := H
 have A3 := Aside0.mk A30
 clear A30
 by_cases c4 : t572 = true
 ·subst c4
  have H1 : ((nat_Of.f k (IntKind.u64.wrap (a0))).bind fun t573 => ((nat_Of.f k (IntKind.u64.wrap (a1))).bind fun t576 => ((nat_Add.f k t573 t576).bind fun t579 => ((nat_Small.f k t579).bind fun bt582 => ((nat_Mul.f k t573 t576).bind fun t584 => ((nat_Small.f k t584).bind fun bt587 => (if bt587.2 = true then (if bt582.1 = (IntKind.u64.wrap ((IntKind.u64.wrap (a0)) + (IntKind.u64.wrap (a1)))) then (if bt587.1 = (IntKind.u64.wrap ((IntKind.u64.wrap (a0)) * (IntKind.u64.wrap (a1)))) then ((nat_Cmp.f k t573 t576).bind fun t589 => (foundrylaw01_NatSmall.j0 k a0 a1 t573 t576 ((decide (t589 < 0)) != (decide (a0 < a1))))) else (foundrylaw01_NatSmall.j0 k a0 a1 t573 t576 true)) else (foundrylaw01_NatSmall.j0 k a0 a1 t573 t576 true)) else (foundrylaw01_NatSmall.j0 k a0 a1 t573 t576 true)))))))) = some r := by rw [if_pos rfl] at H; exact H
  clear H
  have H := H1
  clear H1
  replace H := Option.bind_eq_some_iff.mp H
  obtain ⟨t573, A50, H⟩ := H
  replace H : ((nat_Of.f k (IntKind.u64.wrap (a1))).bind fun t576 => ((nat_Add.f k t573 t576).bind fun t579 => ((nat_Small.f k t579).bind fun bt582 => ((nat_Mul.f k t573 t576).bind fun t584 => ((nat_Small.f k t584).bind fun bt587 => (if bt587.2 = true then (if bt582.1 = (IntKind.u64.wrap ((IntKind.u64.wrap (a0)) + (IntKind.u64.wrap (a1)))) then (if bt587.1 = (IntKind.u64.wrap ((IntKind.u64.wrap (a0)) * (IntKind.u64.wrap (a1)))) then ((nat_Cmp.f k t573 t576).bind fun t589 => (foundrylaw01_NatSmall.j0 k a0 a1 t573 t576 ((decide (t589 < 0)) != (decide (a0 < a1))))) else (foundrylaw01_NatSmall.j0 k a0 a1 t573 t576 true)) else (foundrylaw01_NatSmall.j0 k a0 a1 t573 t576 true)) else (foundrylaw01_NatSmall.j0 k a0 a1 t573 t576 true))))))) = some r := H
  have A5 := Aside0.mk A50
  clear A50
  replace H := Option.bind_eq_some_iff.mp H
  obtain ⟨t576, A60, H⟩ := H
  replace H : ((nat_Add.f k t573 t576).bind fun t579 => ((nat_Small.f k t579).bind fun bt582 => ((nat_Mul.f k t573 t576).bind fun t584 => ((nat_Small.f k t584).bind fun bt587 => (if bt587.2 = true then (if bt582.1 = (IntKind.u64.wrap ((IntKind.u64.wrap (a0)) + (IntKind.u64.wrap (a1)))) then (if bt587.1 = (IntKind.u64.wrap ((IntKind.u64.wrap (a0)) * (IntKind.u64.wrap (a1)))) then ((nat_Cmp.f k t573 t576).bind fun t589 => (foundrylaw01_NatSmall.j0 k a0 a1 t573 t576 ((decide (t589 < 0)) != (decide (a0 < a1))))) else (foundrylaw01_NatSmall.j0 k a0 a1 t573 t576 true)) else (foundrylaw01_NatSmall.j0 k a0 a1 t573 t576 true)) else (foundrylaw01_NatSmall.j0 k a0 a1 t573 t576 true)))))) = some r := H
  have A6 := Aside0.mk A60
  clear A60
  replace H := Option.bind_eq_some_iff.mp H
  obtain ⟨t579, A70, H⟩ := H
  replace H : ((nat_Small.f k t579).bind fun bt582 => ((nat_Mul.f k t573 t576).bind fun t584 => ((nat_Small.f k t584).bind fun bt587 => (if bt587.2 = true then (if bt582.1 = (IntKind.u64.wrap ((IntKind.u64.wrap (a0)) + (IntKind.u64.wrap (a1)))) then (if bt587.1 = (IntKind.u64.wrap ((IntKind.u64.wrap (a0)) * (IntKind.u64.wrap (a1)))) then ((nat_Cmp.f k t573 t576).bind fun t589 => (foundrylaw01_NatSmall.j0 k a0 a1 t573 t576 ((decide (t589 < 0)) != (decide (a0 < a1))))) else (foundrylaw01_NatSmall.j0 k a0 a1 t573 t576 true)) else (foundrylaw01_NatSmall.j0 k a0 a1 t573 t576 true)) else (foundrylaw01_NatSmall.j0 k a0 a1 t573 t576 true))))) = some r := H
  have A7 := Aside0.mk A70
  clear A70
  replace H := Option.bind_eq_some_iff.mp H
  obtain ⟨⟨t582, t583⟩, A80, H⟩ := H
  replace H : ((nat_Mul.f k t573 t576).bind fun t584 => ((nat_Small.f k t584).bind fun bt587 => (if bt587.2 = true then (if t582 = (IntKind.u64.wrap ((IntKind.u64.wrap (a0)) + (IntKind.u64.wrap (a1)))) then (if bt587.1 = (IntKind.u64.wrap ((IntKind.u64.wrap (a0)) * (IntKind.u64.wrap (a1)))) then ((nat_Cmp.f k t573 t576).bind fun t589 => (foundrylaw01_NatSmall.j0 k a0 a1 t573 t576 ((decide (t589 < 0)) != (decide (a0 < a1))))) else (foundrylaw01_NatSmall.j0 k a0 a1 t573 t576 true)) else (foundrylaw01_NatSmall.j0 k a0 a1 t573 t576 true)) else (foundrylaw01_NatSmall.j0 k a0 a1 t573 t576 true)))) = some r := H
  have A8 := Aside0.mk A80
  clear A80
  replace H := Option.bind_eq_some_iff.mp H
  obtain ⟨t584, A90, H⟩ := H
  replace H : ((nat_Small.f k t584).bind fun bt587 => (if bt587.2 = true then (if t582 = (IntKind.u64.wrap ((IntKind.u64.wrap (a0)) + (IntKind.u64.wrap (a1)))) then (if bt587.1 = (IntKind.u64.wrap ((IntKind.u64.wrap (a0)) * (IntKind.u64.wrap (a1)))) then ((nat_Cmp.f k t573 t576).bind fun t589 => (foundrylaw01_NatSmall.j0 k a0 a1 t573 t576 ((decide (t589 < 0)) != (decide (a0 < a1))))) else (foundrylaw01_NatSmall.j0 k a0 a1 t573 t576 true)) else (foundrylaw01_NatSmall.j0 k a0 a1 t573 t576 true)) else (foundrylaw01_NatSmall.j0 k a0 a1 t573 t576 true))) = some r := H
  have A9 := Aside0.mk A90
  clear A90
  replace H := Option.bind_eq_some_iff.mp H
  obtain ⟨⟨t587, t588⟩, A100, H⟩ := H
  replace H : (if t588 = true then (if t582 = (IntKind.u64.wrap ((IntKind.u64.wrap (a0)) + (IntKind.u64.wrap (a1)))) then (if t587 = (IntKind.u64.wrap ((IntKind.u64.wrap (a0)) * (IntKind.u64.wrap (a1)))) then ((nat_Cmp.f k t573 t576).bind fun t589 => (foundrylaw01_NatSmall.j0 k a0 a1 t573 t576 ((decide (t589 < 0)) != (decide (a0 < a1))))) else (foundrylaw01_NatSmall.j0 k a0 a1 t573 t576 true)) else (foundrylaw01_NatSmall.j0 k a0 a1 t573 t576 true)) else (foundrylaw01_NatSmall.j0 k a0 a1 t573 t576 true)) = some r := H
  have A10 := Aside0.mk A100
  clear A100
  have HC11 := Aside0.mk H
  clear H
  go_enter Try.func13, Try.ntmps13
  go_upto_region 6 with (first | ((with_reducible refine gate_callee (f := 14) rfl ?_); refine goesL_ (some 17) rfl rfl Try.func14 (by kernel_rfl) rfl #[] rfl (by (try simp only [List.map_toArray, List.map_cons, List.map_nil]); first | done | rfl | (simp only [List.length_drop, List.length_take]; rfl)) ?_; (with_reducible refine (foundrylaw01_awake.calls k  true _ A3.out).mono ?_); rintro e w12 ⟨rfl, hb⟩; refine ⟨_, rfl, ?_⟩; have n0_ := Aside0.mk (below_step (by repeat (first | (with_reducible first | exact HB.out | apply below_alloc | apply pw_below_drewN | apply below_drew1) | exact HB.out)) hb); clear HB; have HB := n0_; clear n0_; (try clear hb); (try clear hb2); (try clear hk); (try clear hi)) | ((with_reducible refine gate_callee (f := 23) rfl ?_); refine goesL_ (some 21) rfl rfl Try.func23 (by kernel_rfl) rfl #[.int .u64 (IntKind.u64.wrap (a0))] rfl (by (try simp only [List.map_toArray, List.map_cons, List.map_nil]); first | done | rfl | (simp only [List.length_drop, List.length_take]; rfl)) ?_; (with_reducible refine (nat_Of.calls k (IntKind.u64.wrap (a0)) t573 _ A5.out).mono ?_); rintro e w13 ⟨v574, rfl, ho0, hb⟩; refine ⟨_, rfl, ?_⟩; have n0_ := Aside0.mk (Kd.V_lower (Kd.V_mono (ok' := fun k_ => True) ho0 (fun k_ hk_ => trivial)) (below_size (by repeat (first | (with_reducible first | exact HB.out | apply below_alloc | apply pw_below_drewN | apply below_drew1) | exact HB.out)))); have n1_ := Aside0.mk (below_step (by repeat (first | (with_reducible first | exact HB.out | apply below_alloc | apply pw_below_drewN | apply below_drew1) | exact HB.out)) hb); clear HB; have HO575 := n0_; have HB := n1_; clear n0_ n1_; (try clear hb); (try clear hb2); (try clear hk); (try clear hi); (try clear ho0)) | ((with_reducible refine gate_callee (f := 23) rfl ?_); refine goesL_ (some 24) rfl rfl Try.func23 (by kernel_rfl) rfl #[.int .u64 (IntKind.u64.wrap (a1))] rfl (by (try simp only [List.map_toArray, List.map_cons, List.map_nil]); first | done | rfl | (simp only [List.length_drop, List.length_take]; rfl)) ?_; (with_reducible refine (nat_Of.calls k (IntKind.u64.wrap (a1)) t576 _ A6.out).mono ?_); rintro e w14 ⟨v577, rfl, ho0, hb⟩; refine ⟨_, rfl, ?_⟩; have n0_ := Aside0.mk (Kd.V_below (by (with_reducible repeat (first | apply Kd.V_alloc | apply Kd.V_drewN | apply Kd.V_drew)); exact HO575.out) hb); have n1_ := Aside0.mk (Kd.V_lower (Kd.V_mono (ok' := fun k_ => True) ho0 (fun k_ hk_ => trivial)) (below_size (by repeat (first | (with_reducible first | exact HB.out | apply below_alloc | apply pw_below_drewN | apply below_drew1) | exact HB.out)))); have n2_ := Aside0.mk (below_step (by repeat (first | (with_reducible first | exact HB.out | apply below_alloc | apply pw_below_drewN | apply below_drew1) | exact HB.out)) hb); clear HO575; clear HB; have HO575 := n0_; have HO578 := n1_; have HB := n2_; clear n0_ n1_ n2_; (try clear hb); (try clear hb2); (try clear hk); (try clear hi); (try clear ho0); obtain ⟨Ao15, co15, eo15⟩ := Kd.V_slice HO575.out; subst eo15; obtain ⟨Ao16, co16, eo16⟩ := Kd.V_slice HO578.out; subst eo16) | ((with_reducible refine gate_callee (f := 27) rfl ?_); refine goesL_ (some 28) rfl rfl Try.func27 (by kernel_rfl) rfl #[.slice Ao15 t573.length co15, .slice Ao16 t576.length co16] rfl (by (try simp only [List.map_toArray, List.map_cons, List.map_nil]); first | done | rfl | (simp only [List.length_drop, List.length_take]; rfl)) ?_; (with_reducible refine (nat_Add.calls k _ _ t573 _ _ t576 t579 _ ?side1 ?side2 ?side3 ?side4 A7.out).mono ?_); (case side1 => repeat (first | exact (Kd.V_reads' HO575.out).2.2 | (with_reducible refine Kd.C_alloc ?_ _) | (with_reducible refine Kd.C_drewN ?_ _) | (with_reducible refine Kd.C_drew ?_))); (case side2 => exact (Kd.V_reads' HO575.out).2.1); (case side3 => repeat (first | exact (Kd.V_reads' HO578.out).2.2 | (with_reducible refine Kd.C_alloc ?_ _) | (with_reducible refine Kd.C_drewN ?_ _) | (with_reducible refine Kd.C_drew ?_))); (case side4 => exact (Kd.V_reads' HO578.out).2.1); rintro e w17 ⟨v580, rfl, ho0, hb⟩; refine ⟨_, rfl, ?_⟩; have n0_ := Aside0.mk (Kd.V_below (by (with_reducible repeat (first | apply Kd.V_alloc | apply Kd.V_drewN | apply Kd.V_drew)); exact HO575.out) hb); have n1_ := Aside0.mk (Kd.V_below (by (with_reducible repeat (first | apply Kd.V_alloc | apply Kd.V_drewN | apply Kd.V_drew)); exact HO578.out) hb); have n2_ := Aside0.mk (Kd.V_lower (Kd.V_mono (ok' := fun k_ => True) ho0 (fun k_ hk_ => trivial)) (below_size (by repeat (first | (with_reducible first | exact HB.out | apply below_alloc | apply pw_below_drewN | apply below_drew1) | exact HB.out)))); have n3_ := Aside0.mk (below_step (by repeat (first | (with_reducible first | exact HB.out | apply below_alloc | apply pw_below_drewN | apply below_drew1) | exact HB.out)) hb); clear HO575; clear HO578; clear HB; have HO575 := n0_; have HO578 := n1_; have HO581 := n2_; have HB := n3_; clear n0_ n1_ n2_ n3_; (try clear hb); (try clear hb2); (try clear hk); (try clear hi); (try clear ho0); obtain ⟨Ao18, co18, eo18⟩ := Kd.V_slice HO581.out; subst eo18) | ((with_reducible refine gate_callee (f := 18) rfl ?_); refine goesL_ (some 29) rfl rfl Try.func18 (by kernel_rfl) rfl #[.slice Ao18 t579.length co18] rfl (by (try simp only [List.map_toArray, List.map_cons, List.map_nil]); first | done | rfl | (simp only [List.length_drop, List.length_take]; rfl)) ?_; (with_reducible refine (nat_Small.calls k _ _ t579 t582 t583 _ ?side1 ?side2 A8.out).mono ?_); (case side1 => repeat (first | exact (Kd.V_reads' HO581.out).2.2 | (with_reducible refine Kd.C_alloc ?_ _) | (with_reducible refine Kd.C_drewN ?_ _) | (with_reducible refine Kd.C_drew ?_))); (case side2 => exact (Kd.V_reads' HO581.out).2.1); rintro e w19 ⟨rfl, hb⟩; refine ⟨_, rfl, ?_⟩; have n0_ := Aside0.mk (Kd.V_below (by (with_reducible repeat (first | apply Kd.V_alloc | apply Kd.V_drewN | apply Kd.V_drew)); exact HO575.out) hb); have n1_ := Aside0.mk (Kd.V_below (by (with_reducible repeat (first | apply Kd.V_alloc | apply Kd.V_drewN | apply Kd.V_drew)); exact HO578.out) hb); have n2_ := Aside0.mk (Kd.V_below (by (with_reducible repeat (first | apply Kd.V_alloc | apply Kd.V_drewN | apply Kd.V_drew)); exact HO581.out) hb); have n3_ := Aside0.mk (below_step (by repeat (first | (with_reducible first | exact HB.out | apply below_alloc | apply pw_below_drewN | apply below_drew1) | exact HB.out)) hb); clear HO575; clear HO578; clear HO581; clear HB; have HO575 := n0_; have HO578 := n1_; have HO581 := n2_; have HB := n3_; clear n0_ n1_ n2_ n3_; (try clear hb); (try clear hb2); (try clear hk); (try clear hi)) | ((with_reducible refine gate_callee (f := 25) rfl ?_); refine goesL_ (some 35) rfl rfl Try.func25 (by kernel_rfl) rfl #[.slice Ao15 t573.length co15, .slice Ao16 t576.length co16] rfl (by (try simp only [List.map_toArray, List.map_cons, List.map_nil]); first | done | rfl | (simp only [List.length_drop, List.length_take]; rfl)) ?_; (with_reducible refine (nat_Mul.calls k _ _ t573 _ _ t576 t584 _ ?side1 ?side2 ?side3 ?side4 A9.out).mono ?_); (case side1 => repeat (first | exact (Kd.V_reads' HO575.out).2.2 | (with_reducible refine Kd.C_alloc ?_ _) | (with_reducible refine Kd.C_drewN ?_ _) | (with_reducible refine Kd.C_drew ?_))); (case side2 => exact (Kd.V_reads' HO575.out).2.1); (case side3 => repeat (first | exact (Kd.V_reads' HO578.out).2.2 | (with_reducible refine Kd.C_alloc ?_ _) | (with_reducible refine Kd.C_drewN ?_ _) | (with_reducible refine Kd.C_drew ?_))); (case side4 => exact (Kd.V_reads' HO578.out).2.1); rintro e w20 ⟨v585, rfl, ho0, hb⟩; refine ⟨_, rfl, ?_⟩; have n0_ := Aside0.mk (Kd.V_below (by (with_reducible repeat (first | apply Kd.V_alloc | apply Kd.V_drewN | apply Kd.V_drew)); exact HO575.out) hb); have n1_ := Aside0.mk (Kd.V_below (by (with_reducible repeat (first | apply Kd.V_alloc | apply Kd.V_drewN | apply Kd.V_drew)); exact HO578.out) hb); have n2_ := Aside0.mk (Kd.V_below (by (with_reducible repeat (first | apply Kd.V_alloc | apply Kd.V_drewN | apply Kd.V_drew)); exact HO581.out) hb); have n3_ := Aside0.mk (Kd.V_lower (Kd.V_mono (ok' := fun k_ => True) ho0 (fun k_ hk_ => trivial)) (below_size (by repeat (first | (with_reducible first | exact HB.out | apply below_alloc | apply pw_below_drewN | apply below_drew1) | exact HB.out)))); have n4_ := Aside0.mk (below_step (by repeat (first | (with_reducible first | exact HB.out | apply below_alloc | apply pw_below_drewN | apply below_drew1) | exact HB.out)) hb); clear HO575; clear HO578; clear HO581; clear HB; have HO575 := n0_; have HO578 := n1_; have HO581 := n2_; have HO586 := n3_; have HB := n4_; clear n0_ n1_ n2_ n3_ n4_; (try clear hb); (try clear hb2); (try clear hk); (try clear hi); (try clear ho0); obtain ⟨Ao21, co21, eo21⟩ := Kd.V_slice HO586.out; subst eo21) | ((with_reducible refine gate_callee (f := 18) rfl ?_); refine goesL_ (some 36) rfl rfl Try.func18 (by kernel_rfl) rfl #[.slice Ao21 t584.length co21] rfl (by (try simp only [List.map_toArray, List.map_cons, List.map_nil]); first | done | rfl | (simp only [List.length_drop, List.length_take]; rfl)) ?_; (with_reducible refine (nat_Small.calls k _ _ t584 t587 t588 _ ?side1 ?side2 A10.out).mono ?_); (case side1 => repeat (first | exact (Kd.V_reads' HO586.out).2.2 | (with_reducible refine Kd.C_alloc ?_ _) | (with_reducible refine Kd.C_drewN ?_ _) | (with_reducible refine Kd.C_drew ?_))); (case side2 => exact (Kd.V_reads' HO586.out).2.1); rintro e w22 ⟨rfl, hb⟩; refine ⟨_, rfl, ?_⟩; have n0_ := Aside0.mk (Kd.V_below (by (with_reducible repeat (first | apply Kd.V_alloc | apply Kd.V_drewN | apply Kd.V_drew)); exact HO575.out) hb); have n1_ := Aside0.mk (Kd.V_below (by (with_reducible repeat (first | apply Kd.V_alloc | apply Kd.V_drewN | apply Kd.V_drew)); exact HO578.out) hb); have n2_ := Aside0.mk (Kd.V_below (by (with_reducible repeat (first | apply Kd.V_alloc | apply Kd.V_drewN | apply Kd.V_drew)); exact HO581.out) hb); have n3_ := Aside0.mk (Kd.V_below (by (with_reducible repeat (first | apply Kd.V_alloc | apply Kd.V_drewN | apply Kd.V_drew)); exact HO586.out) hb); have n4_ := Aside0.mk (below_step (by repeat (first | (with_reducible first | exact HB.out | apply below_alloc | apply pw_below_drewN | apply below_drew1) | exact HB.out)) hb); clear HO575; clear HO578; clear HO581; clear HO586; clear HB; have HO575 := n0_; have HO578 := n1_; have HO581 := n2_; have HO586 := n3_; have HB := n4_; clear n0_ n1_ n2_ n3_ n4_; (try clear hb); (try clear hb2); (try clear hk); (try clear hi)))
  (try simp only [Act.put, List.setIfInBounds_toArray, List.set_cons_zero, List.set_cons_succ])
  go_cut [68] (fun v68 wc => ∃ (kq : Nat) (x68_10 : Bool), v68 = .bool x68_10 ∧ Aside0 (foundrylaw01_NatSmall.j0 kq a0 a1 t573 t576 x68_10 = some r) ∧ Aside0 (kq ≤ k) ∧ Aside0 (Kd.V (Kd.int .u32) 46 wc w.heap.size (fun _ => True) (.slice Ao15 t573.length co15) t573) ∧ Aside0 (Kd.V (Kd.int .u32) 46 wc w.heap.size (fun _ => True) (.slice Ao16 t576.length co16) t576) ∧ Aside0 (Below w.heap.size w wc))
  case first =>
   have H := HC11.out
   clear HC11
   by_cases c23 : t588 = true
   ·subst c23
    have H1 : (if t582 = (IntKind.u64.wrap ((IntKind.u64.wrap (a0)) + (IntKind.u64.wrap (a1)))) then (if t587 = (IntKind.u64.wrap ((IntKind.u64.wrap (a0)) * (IntKind.u64.wrap (a1)))) then ((nat_Cmp.f k t573 t576).bind fun t589 => (foundrylaw01_NatSmall.j0 k a0 a1 t573 t576 ((decide (t589 < 0)) != (decide (a0 < a1))))) else (foundrylaw01_NatSmall.j0 k a0 a1 t573 t576 true)) else (foundrylaw01_NatSmall.j0 k a0 a1 t573 t576 true)) = some r := by rw [if_pos rfl] at H; exact H
    clear H
    have H := H1
    clear H1
    by_cases c24 : t582 = (IntKind.u64.wrap ((IntKind.u64.wrap (a0)) + (IntKind.u64.wrap (a1))))
    ·rw [if_pos c24] at H
     have c24b0 : (t582 == (IntKind.u64.wrap ((IntKind.u64.wrap (a0)) + (IntKind.u64.wrap (a1))))) = true := beq_iff_eq.mpr c24
     have c24b1 : (t582 != (IntKind.u64.wrap ((IntKind.u64.wrap (a0)) + (IntKind.u64.wrap (a1))))) = false := bne_eq_false_iff_eq.mpr c24
     clear c24
     (first | rw [c24b0] | (simp only [i64_w, i32_w]; rw [c24b0]) | skip)
     by_cases c25 : t587 = (IntKind.u64.wrap ((IntKind.u64.wrap (a0)) * (IntKind.u64.wrap (a1))))
     ·rw [if_pos c25] at H
      have c25b0 : (t587 == (IntKind.u64.wrap ((IntKind.u64.wrap (a0)) * (IntKind.u64.wrap (a1))))) = true := beq_iff_eq.mpr c25
      have c25b1 : (t587 != (IntKind.u64.wrap ((IntKind.u64.wrap (a0)) * (IntKind.u64.wrap (a1))))) = false := bne_eq_false_iff_eq.mpr c25
      clear c25
      replace H := Option.bind_eq_some_iff.mp H
      obtain ⟨t589, A260, H⟩ := H
      replace H : (foundrylaw01_NatSmall.j0 k a0 a1 t573 t576 ((decide (t589 < 0)) != (decide (a0 < a1)))) = some r := H
      have A26 := Aside0.mk A260
      clear A260
      have H' := Aside0.mk H
      clear H
      go_wp2_with (first | (go_at_call 16; (with_reducible refine (nat_Cmp.calls k _ _ t573 _ _ t576 t589 _ ?side1 ?side2 ?side3 ?side4 A26.out).mono ?_); (case side1 => repeat (first | exact (Kd.V_reads' HO575.out).2.2 | (with_reducible refine Kd.C_alloc ?_ _) | (with_reducible refine Kd.C_drewN ?_ _) | (with_reducible refine Kd.C_drew ?_))); (case side2 => exact (Kd.V_reads' HO575.out).2.1); (case side3 => repeat (first | exact (Kd.V_reads' HO578.out).2.2 | (with_reducible refine Kd.C_alloc ?_ _) | (with_reducible refine Kd.C_drewN ?_ _) | (with_reducible refine Kd.C_drew ?_))); (case side4 => exact (Kd.V_reads' HO578.out).2.1); rintro e w27 ⟨rfl, hb⟩; have n0_ := Aside0.mk (Kd.V_below (by (with_reducible repeat (first | apply Kd.V_alloc | apply Kd.V_drewN | apply Kd.V_drew)); exact HO575.out) hb); have n1_ := Aside0.mk (Kd.V_below (by (with_reducible repeat (first | apply Kd.V_alloc | apply Kd.V_drewN | apply Kd.V_drew)); exact HO578.out) hb); have n2_ := Aside0.mk (Kd.V_below (by (with_reducible repeat (first | apply Kd.V_alloc | apply Kd.V_drewN | apply Kd.V_drew)); exact HO581.out) hb); have n3_ := Aside0.mk (Kd.V_below (by (with_reducible repeat (first | apply Kd.V_alloc | apply Kd.V_drewN | apply Kd.V_drew)); exact HO586.out) hb); have n4_ := Aside0.mk (below_step (by repeat (first | (with_reducible first | exact HB.out | apply below_alloc | apply pw_below_drewN | apply below_drew1) | exact HB.out)) hb); clear HO575; clear HO578; clear HO581; clear HO586; clear HB; have HO575 := n0_; have HO578 := n1_; have HO581 := n2_; have HO586 := n3_; have HB := n4_; clear n0_ n1_ n2_ n3_ n4_; (try clear hb); (try clear hb2); (try clear hk); (try clear hi)))
      go_meet
      case rel => exact ⟨_, (((decide (t589 < 0)) != (decide (a0 < a1)))), (by first | rfl | (simp; done) | (simp [*]; done)), H', ⟨by first | omega | exact Nat.le_refl _⟩, ⟨by (with_reducible repeat (first | apply Kd.V_alloc | apply Kd.V_drewN | apply Kd.V_drew)); exact HO575.out⟩, ⟨by (with_reducible repeat (first | apply Kd.V_alloc | apply Kd.V_drewN | apply Kd.V_drew)); exact HO578.out⟩, ⟨by repeat (first | (with_reducible first | exact HB.out | apply below_alloc | apply pw_below_drewN | apply below_drew1) | exact HB.out)⟩⟩
     ·rw [if_neg c25] at H
      have c25b0 : (t587 == (IntKind.u64.wrap ((IntKind.u64.wrap (a0)) * (IntKind.u64.wrap (a1))))) = false := beq_eq_false_iff_ne.mpr c25
      have c25b1 : (t587 != (IntKind.u64.wrap ((IntKind.u64.wrap (a0)) * (IntKind.u64.wrap (a1))))) = true := bne_iff_ne.mpr c25
      have H' := Aside0.mk H
      clear H
      go_wp2
      go_meet
      case rel => exact ⟨_, (true), (by first | rfl | (simp; done) | (simp [*]; done)), H', ⟨by first | omega | exact Nat.le_refl _⟩, ⟨by (with_reducible repeat (first | apply Kd.V_alloc | apply Kd.V_drewN | apply Kd.V_drew)); exact HO575.out⟩, ⟨by (with_reducible repeat (first | apply Kd.V_alloc | apply Kd.V_drewN | apply Kd.V_drew)); exact HO578.out⟩, ⟨by repeat (first | (with_reducible first | exact HB.out | apply below_alloc | apply pw_below_drewN | apply below_drew1) | exact HB.out)⟩⟩
    ·rw [if_neg c24] at H
     have c24b0 : (t582 == (IntKind.u64.wrap ((IntKind.u64.wrap (a0)) + (IntKind.u64.wrap (a1))))) = false := beq_eq_false_iff_ne.mpr c24
     have c24b1 : (t582 != (IntKind.u64.wrap ((IntKind.u64.wrap (a0)) + (IntKind.u64.wrap (a1))))) = true := bne_iff_ne.mpr c24
     (first | rw [c24b0] | (simp only [i64_w, i32_w]; rw [c24b0]) | skip)
     have H' := Aside0.mk H
     clear H
     go_wp2
     go_meet
     case rel => exact ⟨_, (true), (by first | rfl | (simp; done) | (simp [*]; done)), H', ⟨by first | omega | exact Nat.le_refl _⟩, ⟨by (with_reducible repeat (first | apply Kd.V_alloc | apply Kd.V_drewN | apply Kd.V_drew)); exact HO575.out⟩, ⟨by (with_reducible repeat (first | apply Kd.V_alloc | apply Kd.V_drewN | apply Kd.V_drew)); exact HO578.out⟩, ⟨by repeat (first | (with_reducible first | exact HB.out | apply below_alloc | apply pw_below_drewN | apply below_drew1) | exact HB.out)⟩⟩
   ·replace c23 := Bool.eq_false_iff.mpr c23
    subst c23
    have H1 : (foundrylaw01_NatSmall.j0 k a0 a1 t573 t576 true) = some r := by rw [if_neg (show ¬ (false = true) by decide)] at H; exact H
    clear H
    have H := H1
    clear H1
    have H' := Aside0.mk H
    clear H
    go_wp2
    go_meet
    case rel => exact ⟨_, (true), (by first | rfl | (simp; done) | (simp [*]; done)), H', ⟨by first | omega | exact Nat.le_refl _⟩, ⟨by (with_reducible repeat (first | apply Kd.V_alloc | apply Kd.V_drewN | apply Kd.V_drew)); exact HO575.out⟩, ⟨by (with_reducible repeat (first | apply Kd.V_alloc | apply Kd.V_drewN | apply Kd.V_drew)); exact HO578.out⟩, ⟨by repeat (first | (with_reducible first | exact HB.out | apply below_alloc | apply pw_below_drewN | apply below_drew1) | exact HB.out)⟩⟩
  case rest =>
   clear HC11
   try clear c1
   try clear c2
   try clear p2
   try clear c4
   try clear c13
   try clear c14
   try clear c18
   try clear c23
   try clear c24
   try clear c24b0
   try clear c24b1
   try clear c25
   try clear c25b0
   try clear c25b1
   try clear c27
   obtain ⟨kq, x68_10, rfl, HA, HJ10, HO_5, HO_6, HB⟩ := hcut
   cases kq with
   | zero => exact absurd HA.out (by simp [foundrylaw01_NatSmall.j0])
   | succ kj10 =>
    have H := HA.out
    clear HA
    simp only [foundrylaw01_NatSmall.j0] at H
    by_cases c28 : x68_10 = true
    ·subst c28
     have H1 : (some false) = some r := by rw [if_pos rfl] at H; exact H
     clear H
     have H := H1
     clear H1
     obtain rfl := Option.some.inj H
     go_wp2
     go_ret
     exact ⟨by first | rfl | (simp [errW_none, errW_some] <;> rfl) | (simp [*, errW_none, errW_some] <;> rfl), by repeat (first | (with_reducible first | exact HB.out | apply below_alloc | apply pw_below_drewN | apply below_drew1) | exact HB.out)⟩
    ·replace c28 := Bool.eq_false_iff.mpr c28
     subst c28
     have H1 : (if a1 = 0 then (some true) else ((nat_Div.f kj10 t573 t576).bind fun bt590 => ((nat_Small.f kj10 bt590.1).bind fun bt596 => ((nat_Small.f kj10 bt590.2).bind fun bt598 => (if bt596.1 = ((Int.tdiv a0 a1) % 4294967296) then (some (bt598.1 == (IntKind.u64.wrap (Int.tmod a0 a1)))) else (some false)))))) = some r := by rw [if_neg (show ¬ (false = true) by decide)] at H; exact H
     clear H
     have H := H1
     clear H1
     by_cases c29 : a1 = 0
     ·rw [if_pos c29] at H
      have c29b0 : (a1 == 0) = true := beq_iff_eq.mpr c29
      have c29b1 : (a1 != 0) = false := bne_eq_false_iff_eq.mpr c29
      clear c29
      obtain rfl := Option.some.inj H
      go_wp2
      go_ret
      exact ⟨by first | rfl | (simp [errW_none, errW_some] <;> rfl) | (simp [*, errW_none, errW_some] <;> rfl), by repeat (first | (with_reducible first | exact HB.out | apply below_alloc | apply pw_below_drewN | apply below_drew1) | exact HB.out)⟩
     ·rw [if_neg c29] at H
      have c29b0 : (a1 == 0) = false := beq_eq_false_iff_ne.mpr c29
      have c29b1 : (a1 != 0) = true := bne_iff_ne.mpr c29
      replace H := Option.bind_eq_some_iff.mp H
      obtain ⟨⟨t590, t593⟩, A300, H⟩ := H
      replace H : ((nat_Small.f kj10 t590).bind fun bt596 => ((nat_Small.f kj10 t593).bind fun bt598 => (if bt596.1 = ((Int.tdiv a0 a1) % 4294967296) then (some (bt598.1 == (IntKind.u64.wrap (Int.tmod a0 a1)))) else (some false)))) = some r := H
      have A30 := Aside0.mk A300
      clear A300
      replace H := Option.bind_eq_some_iff.mp H
      obtain ⟨⟨t596, t597⟩, A310, H⟩ := H
      replace H : ((nat_Small.f kj10 t593).bind fun bt598 => (if t596 = ((Int.tdiv a0 a1) % 4294967296) then (some (bt598.1 == (IntKind.u64.wrap (Int.tmod a0 a1)))) else (some false))) = some r := H
      have A31 := Aside0.mk A310
      clear A310
      replace H := Option.bind_eq_some_iff.mp H
      obtain ⟨⟨t598, t599⟩, A320, H⟩ := H
      replace H : (if t596 = ((Int.tdiv a0 a1) % 4294967296) then (some (t598 == (IntKind.u64.wrap (Int.tmod a0 a1)))) else (some false)) = some r := H
      have A32 := Aside0.mk A320
      clear A320
      by_cases c33 : t596 = ((Int.tdiv a0 a1) % 4294967296)
      ·rw [if_pos c33] at H
       have c33b0 : (t596 == ((Int.tdiv a0 a1) % 4294967296)) = true := beq_iff_eq.mpr c33
       have c33b1 : (t596 != ((Int.tdiv a0 a1) % 4294967296)) = false := bne_eq_false_iff_eq.mpr c33
       clear c33
       obtain rfl := Option.some.inj H
       go_wp2_with (first | ((with_reducible refine gate_callee (f := 31) rfl ?_); refine goesL_ (some 74) rfl rfl Try.func31 (by kernel_rfl) rfl #[.slice Ao15 t573.length co15, .slice Ao16 t576.length co16] rfl (by (try simp only [List.map_toArray, List.map_cons, List.map_nil]); first | done | rfl | (simp only [List.length_drop, List.length_take]; rfl)) ?_; (with_reducible refine (nat_Div.calls kj10 (fun k_ => True) _ _ t573 (fun k_ => True) _ _ t576 t590 t593 _ ?side1 ?side2 A30.out).mono ?_); (case side1 => exact HO_5.out); (case side2 => exact HO_6.out); rintro e w34 ⟨v591, v594, rfl, ho0, ho1, hb⟩; refine ⟨_, rfl, ?_⟩; have n0_ := Aside0.mk (Kd.V_below (by (with_reducible repeat (first | apply Kd.V_alloc | apply Kd.V_drewN | apply Kd.V_drew)); exact HO_5.out) hb); have n1_ := Aside0.mk (Kd.V_below (by (with_reducible repeat (first | apply Kd.V_alloc | apply Kd.V_drewN | apply Kd.V_drew)); exact HO_6.out) hb); have n2_ := Aside0.mk (Kd.V_lower (Kd.V_mono (ok' := fun k_ => True) ho0 (fun k_ hk_ => trivial)) (below_size (by repeat (first | (with_reducible first | exact HB.out | apply below_alloc | apply pw_below_drewN | apply below_drew1) | exact HB.out)))); have n3_ := Aside0.mk (Kd.V_lower (Kd.V_mono (ok' := fun k_ => True) ho1 (fun k_ hk_ => trivial)) (below_size (by repeat (first | (with_reducible first | exact HB.out | apply below_alloc | apply pw_below_drewN | apply below_drew1) | exact HB.out)))); have n4_ := Aside0.mk (below_step (by repeat (first | (with_reducible first | exact HB.out | apply below_alloc | apply pw_below_drewN | apply below_drew1) | exact HB.out)) hb); clear HO_5; clear HO_6; clear HB; have HO_5 := n0_; have HO_6 := n1_; have HO592 := n2_; have HO595 := n3_; have HB := n4_; clear n0_ n1_ n2_ n3_ n4_; (try clear hb); (try clear hb2); (try clear hk); (try clear hi); (try clear ho0); (try clear ho1); obtain ⟨Ao35, co35, eo35⟩ := Kd.V_slice HO592.out; subst eo35) | ((with_reducible refine gate_callee (f := 18) rfl ?_); refine goesL_ (some 79) rfl rfl Try.func18 (by kernel_rfl) rfl #[.slice Ao35 t590.length co35] rfl (by (try simp only [List.map_toArray, List.map_cons, List.map_nil]); first | done | rfl | (simp only [List.length_drop, List.length_take]; rfl)) ?_; (with_reducible refine (nat_Small.calls kj10 _ _ t590 t596 t597 _ ?side1 ?side2 A31.out).mono ?_); (case side1 => repeat (first | exact (Kd.V_reads' HO592.out).2.2 | (with_reducible refine Kd.C_alloc ?_ _) | (with_reducible refine Kd.C_drewN ?_ _) | (with_reducible refine Kd.C_drew ?_))); (case side2 => exact (Kd.V_reads' HO592.out).2.1); rintro e w36 ⟨rfl, hb⟩; refine ⟨_, rfl, ?_⟩; have n0_ := Aside0.mk (Kd.V_below (by (with_reducible repeat (first | apply Kd.V_alloc | apply Kd.V_drewN | apply Kd.V_drew)); exact HO_5.out) hb); have n1_ := Aside0.mk (Kd.V_below (by (with_reducible repeat (first | apply Kd.V_alloc | apply Kd.V_drewN | apply Kd.V_drew)); exact HO_6.out) hb); have n2_ := Aside0.mk (Kd.V_below (by (with_reducible repeat (first | apply Kd.V_alloc | apply Kd.V_drewN | apply Kd.V_drew)); exact HO592.out) hb); have n3_ := Aside0.mk (Kd.V_below (by (with_reducible repeat (first | apply Kd.V_alloc | apply Kd.V_drewN | apply Kd.V_drew)); exact HO595.out) hb); have n4_ := Aside0.mk (below_step (by repeat (first | (with_reducible first | exact HB.out | apply below_alloc | apply pw_below_drewN | apply below_drew1) | exact HB.out)) hb); clear HO_5; clear HO_6; clear HO592; clear HO595; clear HB; have HO_5 := n0_; have HO_6 := n1_; have HO592 := n2_; have HO595 := n3_; have HB := n4_; clear n0_ n1_ n2_ n3_ n4_; (try clear hb); (try clear hb2); (try clear hk); (try clear hi); obtain ⟨Ao37, co37, eo37⟩ := Kd.V_slice HO595.out; subst eo37) | ((with_reducible refine gate_callee (f := 18) rfl ?_); refine goesL_ (some 84) rfl rfl Try.func18 (by kernel_rfl) rfl #[.slice Ao37 t593.length co37] rfl (by (try simp only [List.map_toArray, List.map_cons, List.map_nil]); first | done | rfl | (simp only [List.length_drop, List.length_take]; rfl)) ?_; (with_reducible refine (nat_Small.calls kj10 _ _ t593 t598 t599 _ ?side1 ?side2 A32.out).mono ?_); (case side1 => repeat (first | exact (Kd.V_reads' HO595.out).2.2 | (with_reducible refine Kd.C_alloc ?_ _) | (with_reducible refine Kd.C_drewN ?_ _) | (with_reducible refine Kd.C_drew ?_))); (case side2 => exact (Kd.V_reads' HO595.out).2.1); rintro e w38 ⟨rfl, hb⟩; refine ⟨_, rfl, ?_⟩; have n0_ := Aside0.mk (Kd.V_below (by (with_reducible repeat (first | apply Kd.V_alloc | apply Kd.V_drewN | apply Kd.V_drew)); exact HO_5.out) hb); have n1_ := Aside0.mk (Kd.V_below (by (with_reducible repeat (first | apply Kd.V_alloc | apply Kd.V_drewN | apply Kd.V_drew)); exact HO_6.out) hb); have n2_ := Aside0.mk (Kd.V_below (by (with_reducible repeat (first | apply Kd.V_alloc | apply Kd.V_drewN | apply Kd.V_drew)); exact HO592.out) hb); have n3_ := Aside0.mk (Kd.V_below (by (with_reducible repeat (first | apply Kd.V_alloc | apply Kd.V_drewN | apply Kd.V_drew)); exact HO595.out) hb); have n4_ := Aside0.mk (below_step (by repeat (first | (with_reducible first | exact HB.out | apply below_alloc | apply pw_below_drewN | apply below_drew1) | exact HB.out)) hb); clear HO_5; clear HO_6; clear HO592; clear HO595; clear HB; have HO_5 := n0_; have HO_6 := n1_; have HO592 := n2_; have HO595 := n3_; have HB := n4_; clear n0_ n1_ n2_ n3_ n4_; (try clear hb); (try clear hb2); (try clear hk); (try clear hi)))
       go_ret
       exact ⟨by first | rfl | (simp [errW_none, errW_some] <;> rfl) | (simp [*, errW_none, errW_some] <;> rfl), by repeat (first | (with_reducible first | exact HB.out | apply below_alloc | apply pw_below_drewN | apply below_drew1) | exact HB.out)⟩
      ·rw [if_neg c33] at H
       have c33b0 : (t596 == ((Int.tdiv a0 a1) % 4294967296)) = false := beq_eq_false_iff_ne.mpr c33
       have c33b1 : (t596 != ((Int.tdiv a0 a1) % 4294967296)) = true := bne_iff_ne.mpr c33
       obtain rfl := Option.some.inj H
       go_wp2_with (first | ((with_reducible refine gate_callee (f := 31) rfl ?_); refine goesL_ (some 74) rfl rfl Try.func31 (by kernel_rfl) rfl #[.slice Ao15 t573.length co15, .slice Ao16 t576.length co16] rfl (by (try simp only [List.map_toArray, List.map_cons, List.map_nil]); first | done | rfl | (simp only [List.length_drop, List.length_take]; rfl)) ?_; (with_reducible refine (nat_Div.calls kj10 (fun k_ => True) _ _ t573 (fun k_ => True) _ _ t576 t590 t593 _ ?side1 ?side2 A30.out).mono ?_); (case side1 => exact HO_5.out); (case side2 => exact HO_6.out); rintro e w39 ⟨v591, v594, rfl, ho0, ho1, hb⟩; refine ⟨_, rfl, ?_⟩; have n0_ := Aside0.mk (Kd.V_below (by (with_reducible repeat (first | apply Kd.V_alloc | apply Kd.V_drewN | apply Kd.V_drew)); exact HO_5.out) hb); have n1_ := Aside0.mk (Kd.V_below (by (with_reducible repeat (first | apply Kd.V_alloc | apply Kd.V_drewN | apply Kd.V_drew)); exact HO_6.out) hb); have n2_ := Aside0.mk (Kd.V_lower (Kd.V_mono (ok' := fun k_ => True) ho0 (fun k_ hk_ => trivial)) (below_size (by repeat (first | (with_reducible first | exact HB.out | apply below_alloc | apply pw_below_drewN | apply below_drew1) | exact HB.out)))); have n3_ := Aside0.mk (Kd.V_lower (Kd.V_mono (ok' := fun k_ => True) ho1 (fun k_ hk_ => trivial)) (below_size (by repeat (first | (with_reducible first | exact HB.out | apply below_alloc | apply pw_below_drewN | apply below_drew1) | exact HB.out)))); have n4_ := Aside0.mk (below_step (by repeat (first | (with_reducible first | exact HB.out | apply below_alloc | apply pw_below_drewN | apply below_drew1) | exact HB.out)) hb); clear HO_5; clear HO_6; clear HB; have HO_5 := n0_; have HO_6 := n1_; have HO592 := n2_; have HO595 := n3_; have HB := n4_; clear n0_ n1_ n2_ n3_ n4_; (try clear hb); (try clear hb2); (try clear hk); (try clear hi); (try clear ho0); (try clear ho1); obtain ⟨Ao40, co40, eo40⟩ := Kd.V_slice HO592.out; subst eo40) | ((with_reducible refine gate_callee (f := 18) rfl ?_); refine goesL_ (some 79) rfl rfl Try.func18 (by kernel_rfl) rfl #[.slice Ao40 t590.length co40] rfl (by (try simp only [List.map_toArray, List.map_cons, List.map_nil]); first | done | rfl | (simp only [List.length_drop, List.length_take]; rfl)) ?_; (with_reducible refine (nat_Small.calls kj10 _ _ t590 t596 t597 _ ?side1 ?side2 A31.out).mono ?_); (case side1 => repeat (first | exact (Kd.V_reads' HO592.out).2.2 | (with_reducible refine Kd.C_alloc ?_ _) | (with_reducible refine Kd.C_drewN ?_ _) | (with_reducible refine Kd.C_drew ?_))); (case side2 => exact (Kd.V_reads' HO592.out).2.1); rintro e w41 ⟨rfl, hb⟩; refine ⟨_, rfl, ?_⟩; have n0_ := Aside0.mk (Kd.V_below (by (with_reducible repeat (first | apply Kd.V_alloc | apply Kd.V_drewN | apply Kd.V_drew)); exact HO_5.out) hb); have n1_ := Aside0.mk (Kd.V_below (by (with_reducible repeat (first | apply Kd.V_alloc | apply Kd.V_drewN | apply Kd.V_drew)); exact HO_6.out) hb); have n2_ := Aside0.mk (Kd.V_below (by (with_reducible repeat (first | apply Kd.V_alloc | apply Kd.V_drewN | apply Kd.V_drew)); exact HO592.out) hb); have n3_ := Aside0.mk (Kd.V_below (by (with_reducible repeat (first | apply Kd.V_alloc | apply Kd.V_drewN | apply Kd.V_drew)); exact HO595.out) hb); have n4_ := Aside0.mk (below_step (by repeat (first | (with_reducible first | exact HB.out | apply below_alloc | apply pw_below_drewN | apply below_drew1) | exact HB.out)) hb); clear HO_5; clear HO_6; clear HO592; clear HO595; clear HB; have HO_5 := n0_; have HO_6 := n1_; have HO592 := n2_; have HO595 := n3_; have HB := n4_; clear n0_ n1_ n2_ n3_ n4_; (try clear hb); (try clear hb2); (try clear hk); (try clear hi); obtain ⟨Ao42, co42, eo42⟩ := Kd.V_slice HO595.out; subst eo42) | ((with_reducible refine gate_callee (f := 18) rfl ?_); refine goesL_ (some 84) rfl rfl Try.func18 (by kernel_rfl) rfl #[.slice Ao42 t593.length co42] rfl (by (try simp only [List.map_toArray, List.map_cons, List.map_nil]); first | done | rfl | (simp only [List.length_drop, List.length_take]; rfl)) ?_; (with_reducible refine (nat_Small.calls kj10 _ _ t593 t598 t599 _ ?side1 ?side2 A32.out).mono ?_); (case side1 => repeat (first | exact (Kd.V_reads' HO595.out).2.2 | (with_reducible refine Kd.C_alloc ?_ _) | (with_reducible refine Kd.C_drewN ?_ _) | (with_reducible refine Kd.C_drew ?_))); (case side2 => exact (Kd.V_reads' HO595.out).2.1); rintro e w43 ⟨rfl, hb⟩; refine ⟨_, rfl, ?_⟩; have n0_ := Aside0.mk (Kd.V_below (by (with_reducible repeat (first | apply Kd.V_alloc | apply Kd.V_drewN | apply Kd.V_drew)); exact HO_5.out) hb); have n1_ := Aside0.mk (Kd.V_below (by (with_reducible repeat (first | apply Kd.V_alloc | apply Kd.V_drewN | apply Kd.V_drew)); exact HO_6.out) hb); have n2_ := Aside0.mk (Kd.V_below (by (with_reducible repeat (first | apply Kd.V_alloc | apply Kd.V_drewN | apply Kd.V_drew)); exact HO592.out) hb); have n3_ := Aside0.mk (Kd.V_below (by (with_reducible repeat (first | apply Kd.V_alloc | apply Kd.V_drewN | apply Kd.V_drew)); exact HO595.out) hb); have n4_ := Aside0.mk (below_step (by repeat (first | (with_reducible first | exact HB.out | apply below_alloc | apply pw_below_drewN | apply below_drew1) | exact HB.out)) hb); clear HO_5; clear HO_6; clear HO592; clear HO595; clear HB; have HO_5 := n0_; have HO_6 := n1_; have HO592 := n2_; have HO595 := n3_; have HB := n4_; clear n0_ n1_ n2_ n3_ n4_; (try clear hb); (try clear hb2); (try clear hk); (try clear hi)))
       go_ret
       exact ⟨by first | rfl | (simp [errW_none, errW_some] <;> rfl) | (simp [*, errW_none, errW_some] <;> rfl), by repeat (first | (with_reducible first | exact HB.out | apply below_alloc | apply pw_below_drewN | apply below_drew1) | exact HB.out)⟩
 ·replace c4 := Bool.eq_false_iff.mpr c4
  subst c4
  have H1 : (some false) = some r := by rw [if_neg (show ¬ (false = true) by decide)] at H; exact H
  clear H
  have H := H1
  clear H1
  obtain rfl := Option.some.inj H
  go_enter Try.func13, Try.ntmps13
  go_wp2_with (first | ((with_reducible refine gate_callee (f := 14) rfl ?_); refine goesL_ (some 17) rfl rfl Try.func14 (by kernel_rfl) rfl #[] rfl (by (try simp only [List.map_toArray, List.map_cons, List.map_nil]); first | done | rfl | (simp only [List.length_drop, List.length_take]; rfl)) ?_; (with_reducible refine (foundrylaw01_awake.calls k  false _ A3.out).mono ?_); rintro e w44 ⟨rfl, hb⟩; refine ⟨_, rfl, ?_⟩; have n0_ := Aside0.mk (below_step (by repeat (first | (with_reducible first | exact HB.out | apply below_alloc | apply pw_below_drewN | apply below_drew1) | exact HB.out)) hb); clear HB; have HB := n0_; clear n0_; (try clear hb); (try clear hb2); (try clear hk); (try clear hi)))
  go_ret
  exact ⟨by first | rfl | (simp [errW_none, errW_some] <;> rfl) | (simp [*, errW_none, errW_some] <;> rfl), by repeat (first | (with_reducible first | exact HB.out | apply below_alloc | apply pw_below_drewN | apply below_drew1) | exact HB.out)⟩

/-- THE ONE PURE STATEMENT of foundrylaw01_NatSmall: yours. -/
def foundrylaw01_NatSmall.Pure : Prop := ∀ (a0 : Int) (a1 : Int), (Lit.int .u32 a0).wf = true → (Lit.int .u32 a1).wf = true → ∃ k, foundrylaw01_NatSmall.f k a0 a1 = some true
theorem foundrylaw01_NatSmall.walk (P : foundrylaw01_NatSmall.Pure) (a0 : Int) (a1 : Int) (w : World) (w0 : (Lit.int .u32 a0).wf = true) (w1 : (Lit.int .u32 a1).wf = true) :
  Calls Try.prog 13 #[.int .u32 a0, .int .u32 a1] w fun e w' => e = .returned (.bool true) ∧ Below w.heap.size w w' := by
 obtain ⟨k, h⟩ := P a0 a1 w0 w1
 refine (foundrylaw01_NatSmall.calls k a0 a1 true w h).mono ?_
 rintro e w' ⟨rfl, hd⟩
 exact ⟨rfl, hd⟩

end Go.Proofs.Ytlhgagmghahbhaa.Q
