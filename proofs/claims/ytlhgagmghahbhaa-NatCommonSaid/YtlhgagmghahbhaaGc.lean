/- nat.Gcd, walked by hand, in the form of the print. -/
import Derived.Test.YtlhgagmghahbhaaQx0
import Derived.Test.YtlhgagmghahbhaaQx10
import Derived.Test.YtlhgagmghahbhaaQx17
namespace Go.Proofs.Ytlhgagmghahbhaa.Q
open Go.RowKit Go.Proofs.YtlhgagmghahbhaaW.PrintWords Go.Proofs.YtlhgagmghahbhaaW.PrintLast Go.Proofs.YtlhgagmghahbhaaW.PrintMore
attribute [local go_sem] max2_int min2_int max_two min_two max_three min_three max_four min_four
set_option linter.unusedVariables false
set_option linter.unusedSimpArgs false
def nat_Gcd.l0 : Nat → List Int → List Int → Option (List Int)
 | 0, _, _ => none
 | k + 1, x5, x6 => if (x6.length : Int) > 0 then ((nat_Div.f k x5 x6).bind fun bt533 => (nat_Gcd.l0 k x6 bt533.2)) else (some x5)
def nat_Gcd.f (k : Nat) (l0 : List Int) (l1 : List Int) : Option (List Int) := (nat_Trim.f k l0).bind fun t527 => ((nat_Trim.f k l1).bind fun t530 => (nat_Gcd.l0 k t527 t530))
theorem nat_Gcd.mono_l : ∀ k, (∀ y0 y1, LeO (nat_Gcd.l0 k y0 y1) (nat_Gcd.l0 (k + 1) y0 y1))
 | 0 => fun _ _ r h => by simp [nat_Gcd.l0] at h
 | k + 1 => by
  have ih0 := nat_Gcd.mono_l k
  ·intro y0 y1
   unfold nat_Gcd.l0
   repeat' first
   | (with_reducible exact ih0 _ _)
   | (with_reducible exact nat_Div.mono _ _ _)
   | (with_reducible exact nat_Trim.mono _ _)
   | (with_reducible exact LeO.refl _)
   | (with_reducible exact LeO.none _)
   | (with_reducible refine LeO.ite ?_ ?_)
   | (with_reducible refine LeO.bind ?_ (fun _ => ?_))
   | exact ih0 _ _
   | exact nat_Div.mono _ _ _
   | exact nat_Trim.mono _ _
   | exact LeO.none _
   | refine LeO.ite ?_ ?_
   | refine LeO.bind ?_ (fun _ => ?_)
theorem nat_Gcd.mono : ∀ a0 a1 k, LeO (nat_Gcd.f k a0 a1) (nat_Gcd.f (k + 1) a0 a1) := by
 intro a0 a1 k
 have ih0 := nat_Gcd.mono_l k
 unfold nat_Gcd.f
 repeat' first
   | (with_reducible exact ih0 _ _)
   | (with_reducible exact nat_Div.mono _ _ _)
   | (with_reducible exact nat_Trim.mono _ _)
   | (with_reducible exact LeO.refl _)
   | (with_reducible exact LeO.none _)
   | (with_reducible refine LeO.ite ?_ ?_)
   | (with_reducible refine LeO.bind ?_ (fun _ => ?_))
   | exact ih0 _ _
   | exact nat_Div.mono _ _ _
   | exact nat_Trim.mono _ _
   | exact LeO.none _
   | refine LeO.ite ?_ ?_
   | refine LeO.bind ?_ (fun _ => ?_)
set_option maxHeartbeats 8000000 in
set_option maxRecDepth 100000 in
theorem nat_Gcd.calls (k : Nat) (A0 : Option Addr) (c0 : Nat) (l0 : List Int) (A1 : Option Addr) (c1 : Nat) (l1 : List Int) (r : List Int) (w : World) (hr0 : Kd.C (Kd.int .u32) w A0 l0.length l0) (hc0 : l0.length ≤ c0) (hr1 : Kd.C (Kd.int .u32) w A1 l1.length l1) (hc1 : l1.length ≤ c1) (h : nat_Gcd.f k l0 l1 = some r) :
  Calls Try.prog 33 #[.slice A0 l0.length c0, .slice A1 l1.length c1] w fun e w' => ∃ v0_ : Value, e = .returned (v0_) ∧ Kd.V (Kd.int .u32) 46 w' w.heap.size (fun k_ => (w.heap.size ≤ k_)) v0_ r ∧ Below w.heap.size w w' := by
 have HR0 := Aside0.mk hr0
 have HC0 := Aside0.mk hc0
 clear hr0 hc0
 have HR1 := Aside0.mk hr1
 have HC1 := Aside0.mk hc1
 clear hr1 hc1
 have HB := Aside0.mk (Below.refl w.heap.size w)
 have H : ((nat_Trim.f k l0).bind fun t527 => ((nat_Trim.f k l1).bind fun t530 => (nat_Gcd.l0 k t527 t530))) = some r := h
 clear h
 replace H := Option.bind_eq_some_iff.mp H
 obtain ⟨t527, A30, H⟩ := H
 replace H : ((nat_Trim.f k l1).bind fun t530 => (nat_Gcd.l0 k t527 t530)) = some r := H
 have A3 := Aside0.mk A30
 clear A30
 replace H := Option.bind_eq_some_iff.mp H
 obtain ⟨t530, A40, H⟩ := H
 replace H : (nat_Gcd.l0 k t527 t530) = some r := H
 have A4 := Aside0.mk A40
 clear A40
 have H' := Aside0.mk H
 clear H
 go_enter Try.func33, Try.ntmps33
 go_wp2_with (first | ((with_reducible refine gate_callee (f := 21) rfl ?_); refine goesL_ (some 8) rfl rfl Try.func21 (by kernel_rfl) rfl #[.slice A0 l0.length c0] rfl (by (try simp only [List.map_toArray, List.map_cons, List.map_nil]); first | done | rfl) ?_; (with_reducible refine (nat_Trim.calls k _ _ l0 t527 _ ?side1 ?side2 A3.out).mono ?_); (case side1 => repeat (first | exact HR0.out | (with_reducible refine Kd.C_alloc ?_ _) | (with_reducible refine Kd.C_drewN ?_ _) | (with_reducible refine Kd.C_drew ?_))); (case side2 => exact HC0.out); rintro e w5 ⟨v528, rfl, ho0, hb⟩; refine ⟨_, rfl, ?_⟩; have n0_ := Aside0.mk (Kd.R_V (base' := w.heap.size) (Kd.R_mono (ok' := fun k_ => w.heap.size ≤ k_) (Kd.R_bound (Kd.R_lower ho0 (below_size (by repeat (first | (with_reducible first | exact HB.out | apply below_alloc | apply pw_below_drewN | apply below_drew1) | exact HB.out))))) (fun _ h_ => h_.2.1))); have n1_ := Aside0.mk (below_step (by repeat (first | (with_reducible first | exact HB.out | apply below_alloc | apply pw_below_drewN | apply below_drew1) | exact HB.out)) hb); clear HB; have HO5 := n0_; have HB := n1_; clear n0_ n1_ hb ho0) | ((with_reducible refine gate_callee (f := 21) rfl ?_); refine goesL_ (some 10) rfl rfl Try.func21 (by kernel_rfl) rfl #[.slice A1 l1.length c1] rfl (by (try simp only [List.map_toArray, List.map_cons, List.map_nil]); first | done | rfl) ?_; (with_reducible refine (nat_Trim.calls k _ _ l1 t530 _ ?side1 ?side2 A4.out).mono ?_); (case side1 => repeat (first | exact (Kd.C_below HR1.out HB.out) | (with_reducible refine Kd.C_alloc ?_ _) | (with_reducible refine Kd.C_drewN ?_ _) | (with_reducible refine Kd.C_drew ?_))); (case side2 => exact HC1.out); rintro e w6 ⟨v531, rfl, ho0, hb⟩; refine ⟨_, rfl, ?_⟩; have n0_ := Aside0.mk (Kd.V_below (by (with_reducible repeat (first | apply Kd.V_alloc | apply Kd.V_drewN | apply Kd.V_drew)); exact HO5.out) hb); have n2_ := Aside0.mk (Kd.R_V (base' := w.heap.size) (Kd.R_mono (ok' := fun k_ => w.heap.size ≤ k_) (Kd.R_bound (Kd.R_lower ho0 (below_size (by repeat (first | (with_reducible first | exact HB.out | apply below_alloc | apply pw_below_drewN | apply below_drew1) | exact HB.out))))) (fun _ h_ => h_.2.1))); have n1_ := Aside0.mk (below_step (by repeat (first | (with_reducible first | exact HB.out | apply below_alloc | apply pw_below_drewN | apply below_drew1) | exact HB.out)) hb); clear HB HO5; have HO5 := n0_; have HO6 := n2_; have HB := n1_; clear n0_ n1_ n2_ hb ho0))
 go_loopg [0, 1] k (fun kq v0 v1 w' => ∃ (x5_1 : List Int) (x6_1 : List Int), Aside0 (nat_Gcd.l0 kq x5_1 x6_1 = some r) ∧ Aside0 (kq ≤ k) ∧ Aside0 (Kd.V (Kd.int .u32) 46 w' w.heap.size (fun k_ => w.heap.size ≤ k_) v0 x5_1) ∧ Aside0 (Kd.V (Kd.int .u32) 46 w' w.heap.size (fun k_ => w.heap.size ≤ k_) v1 x6_1) ∧ Aside0 (Below w.heap.size w w'))
 case atStart => exact ⟨(t527), (t530), H', ⟨Nat.le_refl _⟩, ⟨by (with_reducible repeat (first | apply Kd.V_alloc | apply Kd.V_drewN | apply Kd.V_drew)); exact HO5.out⟩, ⟨by (with_reducible repeat (first | apply Kd.V_alloc | apply Kd.V_drewN | apply Kd.V_drew)); exact HO6.out⟩, ⟨by repeat (first | (with_reducible first | exact HB.out | apply below_alloc | apply pw_below_drewN | apply below_drew1) | exact HB.out)⟩⟩
 case round =>
  clear H'
  obtain ⟨x5_1, x6_1, HA, HK1, HO_5, HO_6, HB⟩ := hrel
  cases gk with
  | zero => exact absurd HA.out (by simp [nat_Gcd.l0])
  | succ k1 =>
   have H := HA.out
   clear HA
   simp only [nat_Gcd.l0] at H
   obtain ⟨Ao9, co9, eo9⟩ := Kd.V_slice HO_6.out
   subst eo9
   obtain ⟨Ao10, co10, eo10⟩ := Kd.V_slice HO_5.out
   subst eo10
   by_cases c7 : (x6_1.length : Int) > 0
   · rw [if_pos c7] at H
     have c7b0 : decide (0 < (x6_1.length : Int)) = true := decide_eq_true c7
     have c7b1 : decide (0 < x6_1.length) = true := decide_eq_true (by omega)
     clear c7
     replace H := Option.bind_eq_some_iff.mp H
     obtain ⟨⟨t533, t534⟩, A80, H⟩ := H
     replace H : (nat_Gcd.l0 k1 x6_1 t534) = some r := H
     have A8 := Aside0.mk A80
     clear A80
     have H' := Aside0.mk H
     clear H
     go_wp2_with (first | ((with_reducible refine gate_callee (f := 31) rfl ?_); refine goesL_ (some 17) rfl rfl Try.func31 (by kernel_rfl) rfl #[.slice Ao10 x5_1.length co10, .slice Ao9 x6_1.length co9] rfl (by (try simp only [List.map_toArray, List.map_cons, List.map_nil]); first | done | rfl) ?_; (with_reducible refine (nat_Div.calls k1 (fun k_ => w.heap.size ≤ k_) _ _ x5_1 (fun k_ => w.heap.size ≤ k_) _ _ x6_1 t533 t534 _ ?side1 ?side2 A8.out).mono ?_); (case side1 => (with_reducible repeat (first | apply Kd.V_alloc | apply Kd.V_drewN | apply Kd.V_drew)); exact HO_5.out); (case side2 => (with_reducible repeat (first | apply Kd.V_alloc | apply Kd.V_drewN | apply Kd.V_drew)); exact HO_6.out); rintro e w11 ⟨v535, v537, rfl, ho0, ho1, hb⟩; refine ⟨_, rfl, ?_⟩; have n1_ := Aside0.mk (Kd.V_below (by (with_reducible repeat (first | apply Kd.V_alloc | apply Kd.V_drewN | apply Kd.V_drew)); exact HO_6.out) hb); have hsz_ := below_size (by repeat (first | (with_reducible first | exact HB.out | apply below_alloc | apply pw_below_drewN | apply below_drew1) | exact HB.out)); have n3_ := Aside0.mk (Kd.V_mono (ok' := fun k_ => w.heap.size ≤ k_) ho1 (fun k_ hk_ => hk_.elim (fun h_ => h_.elim id id) (fun h_ => Nat.le_trans hsz_ h_))); have n4_ := Aside0.mk (below_step (by repeat (first | (with_reducible first | exact HB.out | apply below_alloc | apply pw_below_drewN | apply below_drew1) | exact HB.out)) hb); clear HO_5 HO_6 HB hsz_; have HO_6 := n1_; have HO538 := n3_; have HB := n4_; clear n1_ n3_ n4_ hb ho0 ho1))
     go_roundg k1
     case measure => have := HK1.out; omega
     case rel => exact ⟨(x6_1), (t534), H', ⟨by have := HK1.out; omega⟩, ⟨by (with_reducible repeat (first | apply Kd.V_alloc | apply Kd.V_drewN | apply Kd.V_drew)); exact HO_6.out⟩, ⟨by (with_reducible repeat (first | apply Kd.V_alloc | apply Kd.V_drewN | apply Kd.V_drew)); exact HO538.out⟩, ⟨by repeat (first | (with_reducible first | exact HB.out | apply below_alloc | apply pw_below_drewN | apply below_drew1) | exact HB.out)⟩⟩
   · rw [if_neg c7] at H
     have c7b0 : decide (0 < (x6_1.length : Int)) = false := decide_eq_false c7
     have c7b1 : decide (0 < x6_1.length) = false := decide_eq_false (by omega)
     clear c7
     obtain rfl := Option.some.inj H
     go_wp2
     go_ret
     exact ⟨_, rfl, by (with_reducible repeat (first | apply Kd.V_alloc | apply Kd.V_drewN | apply Kd.V_drew)); exact HO_5.out, by repeat (first | (with_reducible first | exact HB.out | apply below_alloc | apply pw_below_drewN | apply below_drew1) | exact HB.out)⟩
end Go.Proofs.Ytlhgagmghahbhaa.Q
