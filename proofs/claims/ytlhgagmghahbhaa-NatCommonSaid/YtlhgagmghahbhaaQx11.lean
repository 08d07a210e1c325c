-- Written by a program of this session, out of the kit's print tool (see NOTES.md: mypr)
import Derived.Test.YtlhgagmghahbhaaQx0
import Derived.Test.YtlhgagmghahbhaaQx1
import Derived.Test.YtlhgagmghahbhaaQx10
namespace Go.Proofs.Ytlhgagmghahbhaa.Q
open Go.RowKit Go.Proofs.YtlhgagmghahbhaaW.PrintWords Go.Proofs.YtlhgagmghahbhaaW.PrintLast Go.Proofs.YtlhgagmghahbhaaW.PrintMore
attribute [local go_sem] max2_int min2_int max_two min_two max_three min_three max_four min_four   -- for this text's walks alone
set_option linter.unusedVariables false
set_option linter.unusedSimpArgs false

/-! ### nat_Sub: function 29 -/
def nat_Sub.l0 : Nat → List Int → List Int → Int → Int → Int → Option (List Int)
 | 0, _, _, _, _, _ => none
 | k + 1, x1, x5, x6, x17, x18 => if x18 < x17 then (if x18 < (x1.length : Int) then (if 0 ≤ x18 then (if x18 < (x5.length : Int) then (nat_Sub.l0 k x1 (x5.set (x18 : Int).toNat ((IntKind.u64.wrap ((IntKind.u64.wrap ((IntKind.u64.wrap (rd x5 x18)) - (IntKind.u64.wrap (rd x1 x18)))) - x6)) % 4294967296)) ((IntKind.u64.wrap ((IntKind.u64.wrap ((IntKind.u64.wrap (rd x5 x18)) - (IntKind.u64.wrap (rd x1 x18)))) - x6)) / 9223372036854775808) x17 (wrap64 (x18 + 1))) else (none)) else (none)) else (if 0 ≤ x18 then (if x18 < (x5.length : Int) then (nat_Sub.l0 k x1 (x5.set (x18 : Int).toNat ((IntKind.u64.wrap ((IntKind.u64.wrap ((IntKind.u64.wrap (rd x5 x18)) - 0)) - x6)) % 4294967296)) ((IntKind.u64.wrap ((IntKind.u64.wrap ((IntKind.u64.wrap (rd x5 x18)) - 0)) - x6)) / 9223372036854775808) x17 (wrap64 (x18 + 1))) else (none)) else (none))) else ((nat_trim.f k x5).bind fun t256 => (some t256))
def nat_Sub.f (k : Nat) (l0 : List Int) (l1 : List Int) : Option (List Int) := (nat_Cmp.f k l0 l1).bind fun t247 => (if t247 ≤ 0 then (some ([] : List Int)) else ((nat_Trim.f k l0).bind fun t248 => (nat_Sub.l0 k l1 t248 0 (t248.length : Int) 0)))
theorem nat_Sub.mono_l : ∀ k, (∀ y0 y1 y2 y3 y4, LeO (nat_Sub.l0 k y0 y1 y2 y3 y4) (nat_Sub.l0 (k + 1) y0 y1 y2 y3 y4))
 | 0 => fun _ _ _ _ _ r h => by simp [nat_Sub.l0] at h
 | k + 1 => by
  have ih0 := nat_Sub.mono_l k
  ·intro y0 y1 y2 y3 y4
   unfold nat_Sub.l0
   repeat' first
   | (with_reducible exact ih0 _ _ _ _ _)
   | (with_reducible exact nat_Cmp.mono _ _ _)
   | (with_reducible exact nat_Trim.mono _ _)
   | (with_reducible exact nat_trim.mono _ _)
   | (with_reducible exact LeO.refl _)
   | (with_reducible exact LeO.none _)
   | (with_reducible refine LeO.ite ?_ ?_)
   | (with_reducible refine LeO.bind ?_ (fun _ => ?_))
   | exact ih0 _ _ _ _ _
   | exact nat_Cmp.mono _ _ _
   | exact nat_Trim.mono _ _
   | exact nat_trim.mono _ _
   | exact LeO.none _
   | refine LeO.ite ?_ ?_
   | refine LeO.bind ?_ (fun _ => ?_)
theorem nat_Sub.mono : ∀ a0 a1 k, LeO (nat_Sub.f k a0 a1) (nat_Sub.f (k + 1) a0 a1) := by
 intro a0 a1 k
 have ih0 := nat_Sub.mono_l k
 unfold nat_Sub.f
 repeat' first
   | (with_reducible exact ih0 _ _ _ _ _)
   | (with_reducible exact nat_Cmp.mono _ _ _)
   | (with_reducible exact nat_Trim.mono _ _)
   | (with_reducible exact nat_trim.mono _ _)
   | (with_reducible exact LeO.refl _)
   | (with_reducible exact LeO.none _)
   | (with_reducible refine LeO.ite ?_ ?_)
   | (with_reducible refine LeO.bind ?_ (fun _ => ?_))
   | exact ih0 _ _ _ _ _
   | exact nat_Cmp.mono _ _ _
   | exact nat_Trim.mono _ _
   | exact nat_trim.mono _ _
   | exact LeO.none _
   | refine LeO.ite ?_ ?_
   | refine LeO.bind ?_ (fun _ => ?_)
set_option maxHeartbeats 8000000 in
set_option maxRecDepth 100000 in
theorem nat_Sub.calls (k : Nat) (A0 : Option Addr) (c0 : Nat) (l0 : List Int) (A1 : Option Addr) (c1 : Nat) (l1 : List Int) (r : List Int) (w : World) (hr0 : Kd.C (Kd.int .u32) w A0 l0.length l0) (hc0 : l0.length ≤ c0) (hr1 : Kd.C (Kd.int .u32) w A1 l1.length l1) (hc1 : l1.length ≤ c1) (h : nat_Sub.f k l0 l1 = some r) :
  Calls Try.prog 29 #[.slice A0 l0.length c0, .slice A1 l1.length c1] w fun e w' => ∃ v0_ : Value, e = .returned (v0_) ∧ Kd.V (Kd.int .u32) 46 w' w.heap.size (fun k_ => (w.heap.size ≤ k_)) v0_ r ∧ Below w.heap.size w w' := by
 have HR0 := Aside0.mk hr0
 have HC0 := Aside0.mk hc0
 clear hr0 hc0
 have HR1 := Aside0.mk hr1
 have HC1 := Aside0.mk hc1
 clear hr1 hc1
 have HB := Aside0.mk (Below.refl w.heap.size w)
 have H : ((nat_Cmp.f k l0 l1).bind fun t247 => (if t247 ≤ 0 then (some ([] : List Int)) else ((nat_Trim.f k l0).bind fun t248 => (nat_Sub.l0 k l1 t248 0 (t248.length : Int) 0)))) = some r := h
 clear h
 replace H := Option.bind_eq_some_iff.mp H
 obtain ⟨t247, A30, H⟩ := H
 replace H : (if t247 ≤ 0 then (some ([] : List Int)) else ((nat_Trim.f k l0).bind fun t248 => (nat_Sub.l0 k l1 t248 0 (t248.length : Int) 0))) = some r := H
 have A3 := Aside0.mk A30
 clear A30
 by_cases c4 : t247 ≤ 0
 ·rw [if_pos c4] at H
  have c4b0 : decide (t247 ≤ 0) = true := decide_eq_true c4
  clear c4
  obtain rfl := Option.some.inj H
  go_enter Try.func29, Try.ntmps29
  go_wp2_with (first | ((with_reducible refine gate_callee (f := 16) rfl ?_); refine goesL_ (some 12) rfl rfl Try.func16 (by kernel_rfl) rfl #[.slice A0 l0.length c0, .slice A1 l1.length c1] rfl (by (try simp only [List.map_toArray, List.map_cons, List.map_nil]); first | done | rfl | (simp only [List.length_drop, List.length_take]; rfl)) ?_; (with_reducible refine (nat_Cmp.calls k _ _ l0 _ _ l1 t247 _ ?side1 ?side2 ?side3 ?side4 A3.out).mono ?_); (case side1 => repeat (first | exact HR0.out | (with_reducible refine Kd.C_alloc ?_ _) | (with_reducible refine Kd.C_drewN ?_ _) | (with_reducible refine Kd.C_drew ?_))); (case side2 => exact HC0.out); (case side3 => repeat (first | exact HR1.out | (with_reducible refine Kd.C_alloc ?_ _) | (with_reducible refine Kd.C_drewN ?_ _) | (with_reducible refine Kd.C_drew ?_))); (case side4 => exact HC1.out); rintro e w5 ⟨rfl, hb⟩; refine ⟨_, rfl, ?_⟩; have n0_ := Aside0.mk (below_step (by repeat (first | (with_reducible first | exact HB.out | apply below_alloc | apply pw_below_drewN | apply below_drew1) | exact HB.out)) hb); clear HB; have HB := n0_; clear n0_; (try clear hb); (try clear hb2); (try clear hk); (try clear hi)))
  go_ret
  exact ⟨_, by first | rfl | (simp [errW_none, errW_some] <;> rfl) | (simp [*, errW_none, errW_some] <;> rfl), Kd.V_nil _ _ _ _ _, by repeat (first | (with_reducible first | exact HB.out | apply below_alloc | apply pw_below_drewN | apply below_drew1) | exact HB.out)⟩
 ·rw [if_neg c4] at H
  have c4b0 : decide (t247 ≤ 0) = false := decide_eq_false c4
  clear c4
  replace H := Option.bind_eq_some_iff.mp H
  obtain ⟨t248, A60, H⟩ := H
  replace H : (nat_Sub.l0 k l1 t248 0 (t248.length : Int) 0) = some r := H
  have A6 := Aside0.mk A60
  clear A60
  have H' := Aside0.mk H
  clear H
  go_enter Try.func29, Try.ntmps29
  go_wp2_with (first | ((with_reducible refine gate_callee (f := 16) rfl ?_); refine goesL_ (some 12) rfl rfl Try.func16 (by kernel_rfl) rfl #[.slice A0 l0.length c0, .slice A1 l1.length c1] rfl (by (try simp only [List.map_toArray, List.map_cons, List.map_nil]); first | done | rfl | (simp only [List.length_drop, List.length_take]; rfl)) ?_; (with_reducible refine (nat_Cmp.calls k _ _ l0 _ _ l1 t247 _ ?side1 ?side2 ?side3 ?side4 A3.out).mono ?_); (case side1 => repeat (first | exact HR0.out | (with_reducible refine Kd.C_alloc ?_ _) | (with_reducible refine Kd.C_drewN ?_ _) | (with_reducible refine Kd.C_drew ?_))); (case side2 => exact HC0.out); (case side3 => repeat (first | exact HR1.out | (with_reducible refine Kd.C_alloc ?_ _) | (with_reducible refine Kd.C_drewN ?_ _) | (with_reducible refine Kd.C_drew ?_))); (case side4 => exact HC1.out); rintro e w7 ⟨rfl, hb⟩; refine ⟨_, rfl, ?_⟩; have n0_ := Aside0.mk (below_step (by repeat (first | (with_reducible first | exact HB.out | apply below_alloc | apply pw_below_drewN | apply below_drew1) | exact HB.out)) hb); clear HB; have HB := n0_; clear n0_; (try clear hb); (try clear hb2); (try clear hk); (try clear hi)) | ((with_reducible refine gate_callee (f := 21) rfl ?_); refine goesL_ (some 15) rfl rfl Try.func21 (by kernel_rfl) rfl #[.slice A0 l0.length c0] rfl (by (try simp only [List.map_toArray, List.map_cons, List.map_nil]); first | done | rfl | (simp only [List.length_drop, List.length_take]; rfl)) ?_; (with_reducible refine (nat_Trim.calls k _ _ l0 t248 _ ?side1 ?side2 A6.out).mono ?_); (case side1 => repeat (first | exact (Kd.C_below HR0.out HB.out) | (with_reducible refine Kd.C_alloc ?_ _) | (with_reducible refine Kd.C_drewN ?_ _) | (with_reducible refine Kd.C_drew ?_))); (case side2 => exact HC0.out); rintro e w8 ⟨v249, rfl, ho0, hb⟩; refine ⟨_, rfl, ?_⟩; have n0_ := Aside0.mk (Kd.R_lower (Kd.R_newM (M := fun k_ => (w.heap.size ≤ k_)) ho0 (below_size (by repeat (first | (with_reducible first | exact HB.out | apply below_alloc | apply pw_below_drewN | apply below_drew1) | exact HB.out))) (fun k_ h_ => h_)) (below_size (by repeat (first | (with_reducible first | exact HB.out | apply below_alloc | apply pw_below_drewN | apply below_drew1) | exact HB.out)))); have n1_ := Aside0.mk (below_step (by repeat (first | (with_reducible first | exact HB.out | apply below_alloc | apply pw_below_drewN | apply below_drew1) | exact HB.out)) hb); clear HB; have HO250 := n0_; have HB := n1_; clear n0_ n1_; (try clear hb); (try clear hb2); (try clear hk); (try clear hi); (try clear ho0); obtain ⟨Ao9, co9, eo9⟩ := Kd.R_slice HO250.out; subst eo9))
  go_loopg [6, 18] k (fun kq v6 v18 w' => ∃ (x5_1 : List Int) (x6_1 : Int) (x18_1 : Int), v6 = .int .u64 x6_1 ∧ v18 = .int .i64 x18_1 ∧ Aside0 (nat_Sub.l0 kq l1 x5_1 x6_1 (t248.length : Int) x18_1 = some r) ∧ Aside0 (kq ≤ k) ∧ Aside0 (Kd.R (Kd.int .u32) 46 w' w.heap.size (fun k_ => (w.heap.size ≤ k_)) (.slice Ao9 t248.length co9) x5_1) ∧ Aside0 (Below w.heap.size w w'))
  case atStart => exact ⟨(t248), (0), (0), (by first | rfl | (simp; done) | (simp [*]; done)), (by first | rfl | (simp; done) | (simp [*]; done)), H', ⟨Nat.le_refl _⟩, ⟨by (with_reducible repeat (first | apply Kd.R_alloc | apply Kd.R_drewN | apply Kd.R_drew)); exact Kd.R_mono HO250.out (fun _ hk => hk.1)⟩, ⟨by repeat (first | (with_reducible first | exact HB.out | apply below_alloc | apply pw_below_drewN | apply below_drew1) | exact HB.out)⟩⟩
  case round =>
   clear H'
   try clear c1
   try clear c2
   try clear p2
   try clear c4
   try clear c4b0
   obtain ⟨x5_1, x6_1, x18_1, rfl, rfl, HA, HK1, HO_5, HB⟩ := hrel
   have hl5_1 := (Kd.R_reads' HO_5.out).1
   rw [hl5_1] at HO_5
   (try simp only [hl5_1])
   cases gk with
   | zero => exact absurd HA.out (by simp [nat_Sub.l0])
   | succ k1 =>
    have H := HA.out
    clear HA
    simp only [nat_Sub.l0] at H
    by_cases c10 : x18_1 < (t248.length : Int)
    ·rw [if_pos c10] at H
     have c10b0 : decide (x18_1 < (t248.length : Int)) = true := decide_eq_true c10
     (try (have c10b0l := c10b0; simp only [hl5_1] at c10b0l))
     clear c10
     by_cases c11 : x18_1 < (l1.length : Int)
     ·rw [if_pos c11] at H
      have c11b0 : decide (x18_1 < (l1.length : Int)) = true := decide_eq_true c11
      (try (have c11b0l := c11b0; simp only [hl5_1] at c11b0l))
      clear c11
      by_cases c12 : 0 ≤ x18_1
      ·rw [if_pos c12] at H
       have c12b0 : decide (0 ≤ x18_1) = true := decide_eq_true c12
       clear c12
       by_cases c13 : x18_1 < (x5_1.length : Int)
       ·rw [if_pos c13] at H
        have c13b0 : decide (x18_1 < (x5_1.length : Int)) = true := decide_eq_true c13
        (try (have c13b0l := c13b0; simp only [hl5_1] at c13b0l))
        clear c13
        obtain ⟨y253, hy253⟩ : ∃ y_ : List Int, y_ = (x5_1.set (x18_1 : Int).toNat ((IntKind.u64.wrap ((IntKind.u64.wrap ((IntKind.u64.wrap (rd x5_1 x18_1)) - (IntKind.u64.wrap (rd l1 x18_1)))) - x6_1)) % 4294967296)) := ⟨_, rfl⟩
        replace H : (nat_Sub.l0 k1 l1 y253 ((IntKind.u64.wrap ((IntKind.u64.wrap ((IntKind.u64.wrap (rd x5_1 x18_1)) - (IntKind.u64.wrap (rd l1 x18_1)))) - x6_1)) / 9223372036854775808) (t248.length : Int) (wrap64 (x18_1 + 1))) = some r := by first | (rw [hy253]; with_reducible exact H) | (have H2_ := (Option.bind_some _ _).symm.trans H; rw [hy253]; with_reducible exact H2_) | (have H2_ := (Option.bind_some _ _).symm.trans H; with_reducible exact H2_) | with_reducible exact H | (rw [hy253]; exact H) | exact H
        have Ny253 := Aside0.mk hy253
        clear hy253
        have H' := Aside0.mk H
        clear H
        have p251 : 0 ≤ (x18_1 : Int) := of_decide_eq_true (by first | (with_reducible assumption) | assumption)
        have q251 : x18_1 < (l1.length : Int) := of_decide_eq_true (by first | (with_reducible assumption) | assumption)
        obtain ⟨ad251, e251, hx251_0⟩ := Kd.at_int HR1.out x18_1 p251 q251
        cases e251
        replace hx251_0 := (HB.out.cell (World.block_lt_of_cell? w _ hx251_0)).trans hx251_0
        replace p251 := eq_true p251
        replace q251 := eq_true q251
        have p252 : 0 ≤ (x18_1 : Int) := of_decide_eq_true (by first | (with_reducible assumption) | assumption)
        have q252 : x18_1 < (x5_1.length : Int) := of_decide_eq_true (by first | (with_reducible assumption) | assumption)
        obtain ⟨ad252, e252, hx252_0⟩ := Kd.at_int (Kd.R_reads' HO_5.out).2.2 x18_1 p252 q252
        cases e252
        replace p252 := eq_true p252
        replace q252 := eq_true q252
        have p14 : 0 ≤ (x18_1 : Int) := of_decide_eq_true (by first | (with_reducible assumption) | assumption)
        have q14 : (x18_1 : Int) < ((x5_1.length : Int) : Int) := of_decide_eq_true (by first | (with_reducible assumption) | assumption)
        obtain ⟨go14, co14, eo14, gb14, gl14, cl14, HG14⟩ := Kd.R_form HO_5.out (by omega)
        (first | cases eo14 | (injection eo14 with ea_ en_ ec_; (first | subst ea_ | (injection ea_ with ea_; subst ea_)); subst ec_; clear en_))
        have GB14 := Aside0.mk gb14
        have GG14 := Aside0.mk HG14
        clear gb14 gl14 HG14
        (first | simp only [add_plain] at hx252_0 | skip)
        obtain ⟨hx14_0, hf14_0⟩ := Kd.R_celln 0 HO_5.out (x18_1 : Int) p14 q14
        replace p14 := eq_true p14
        replace q14 := eq_true q14
        have HP15 := Kd.R_putg HO_5.out (x18_1 : Int) ((IntKind.u64.wrap ((IntKind.u64.wrap ((IntKind.u64.wrap (rd x5_1 x18_1)) - (IntKind.u64.wrap (rd l1 x18_1)))) - x6_1)) % 4294967296)
        go_wp2_with (first | ((with_reducible refine gate_store (t := 46) (p := 43) rfl ?_); refine store_event (t := 46) (p := 43) (v := ?vo_w16) (w1 := (wr.setCell ⟨go14, (x18_1 : Int).toNat, none⟩ (.int .u32 ((IntKind.u64.wrap ((IntKind.u64.wrap ((IntKind.u64.wrap (rd x5_1 x18_1)) - (IntKind.u64.wrap (rd l1 x18_1)))) - x6_1)) % 4294967296)))) ?hg ?ho ?hn ?hr ?_; (case ho => rfl); (case hg => rfl); (case hn => rfl); (case hr => first | (go_simp; done) | (go_simp; rfl)); intro w16 hw; have hg : wr.grownBy w16 (some go14) := (by rw [hw]; exact HP15.2); have hp_ : Kd.R (Kd.int .u32) 46 w16 w.heap.size (fun k_ => (w.heap.size ≤ k_)) (.slice (some ⟨go14, 0, none⟩) x5_1.length co9) y253 := (by rw [hw, Ny253.out]; exact HP15.1); clear HP15; have n0_ := Aside0.mk (hp_); have n1_ := Aside0.mk ((by rw [hw]; exact below_set (HB.out) GB14.out : Below w.heap.size w w16)); clear HO_5; clear HB; have HO_5 := n0_; have HB := n1_; clear n0_ n1_; clear hg hw hp_))
        (try simp only [← hl5_1])
        go_roundg k1
        case measure => have := HK1.out; omega
        case rel => exact ⟨(y253), ((IntKind.u64.wrap ((IntKind.u64.wrap ((IntKind.u64.wrap (rd x5_1 x18_1)) - (IntKind.u64.wrap (rd l1 x18_1)))) - x6_1)) / 9223372036854775808), (wrap64 (x18_1 + 1)), (by first | rfl | (simp; done) | (simp [*]; done)), (by first | rfl | (simp; done) | (simp [*]; done)), H', ⟨by have := HK1.out; omega⟩, ⟨by (try simp only [hl5_1]); (with_reducible repeat (first | apply Kd.R_alloc | apply Kd.R_drewN | apply Kd.R_drew)); exact HO_5.out⟩, ⟨by repeat (first | (with_reducible first | exact HB.out | apply below_alloc | apply pw_below_drewN | apply below_drew1) | exact HB.out)⟩⟩
       ·rw [if_neg c13] at H
        exact absurd H (by simp)
      ·rw [if_neg c12] at H
       exact absurd H (by simp)
     ·rw [if_neg c11] at H
      have c11b0 : decide (x18_1 < (l1.length : Int)) = false := decide_eq_false c11
      (try (have c11b0l := c11b0; simp only [hl5_1] at c11b0l))
      clear c11
      by_cases c17 : 0 ≤ x18_1
      ·rw [if_pos c17] at H
       have c17b0 : decide (0 ≤ x18_1) = true := decide_eq_true c17
       clear c17
       by_cases c18 : x18_1 < (x5_1.length : Int)
       ·rw [if_pos c18] at H
        have c18b0 : decide (x18_1 < (x5_1.length : Int)) = true := decide_eq_true c18
        (try (have c18b0l := c18b0; simp only [hl5_1] at c18b0l))
        clear c18
        obtain ⟨y255, hy255⟩ : ∃ y_ : List Int, y_ = (x5_1.set (x18_1 : Int).toNat ((IntKind.u64.wrap ((IntKind.u64.wrap ((IntKind.u64.wrap (rd x5_1 x18_1)) - 0)) - x6_1)) % 4294967296)) := ⟨_, rfl⟩
        replace H : (nat_Sub.l0 k1 l1 y255 ((IntKind.u64.wrap ((IntKind.u64.wrap ((IntKind.u64.wrap (rd x5_1 x18_1)) - 0)) - x6_1)) / 9223372036854775808) (t248.length : Int) (wrap64 (x18_1 + 1))) = some r := by first | (rw [hy255]; with_reducible exact H) | (have H2_ := (Option.bind_some _ _).symm.trans H; rw [hy255]; with_reducible exact H2_) | (have H2_ := (Option.bind_some _ _).symm.trans H; with_reducible exact H2_) | with_reducible exact H | (rw [hy255]; exact H) | exact H
        have Ny255 := Aside0.mk hy255
        clear hy255
        have H' := Aside0.mk H
        clear H
        have p254 : 0 ≤ (x18_1 : Int) := of_decide_eq_true (by first | (with_reducible assumption) | assumption)
        have q254 : x18_1 < (x5_1.length : Int) := of_decide_eq_true (by first | (with_reducible assumption) | assumption)
        obtain ⟨ad254, e254, hx254_0⟩ := Kd.at_int (Kd.R_reads' HO_5.out).2.2 x18_1 p254 q254
        cases e254
        replace p254 := eq_true p254
        replace q254 := eq_true q254
        have p19 : 0 ≤ (x18_1 : Int) := of_decide_eq_true (by first | (with_reducible assumption) | assumption)
        have q19 : (x18_1 : Int) < ((x5_1.length : Int) : Int) := of_decide_eq_true (by first | (with_reducible assumption) | assumption)
        obtain ⟨go19, co19, eo19, gb19, gl19, cl19, HG19⟩ := Kd.R_form HO_5.out (by omega)
        (first | cases eo19 | (injection eo19 with ea_ en_ ec_; (first | subst ea_ | (injection ea_ with ea_; subst ea_)); subst ec_; clear en_))
        have GB19 := Aside0.mk gb19
        have GG19 := Aside0.mk HG19
        clear gb19 gl19 HG19
        (first | simp only [add_plain] at hx254_0 | skip)
        obtain ⟨hx19_0, hf19_0⟩ := Kd.R_celln 0 HO_5.out (x18_1 : Int) p19 q19
        replace p19 := eq_true p19
        replace q19 := eq_true q19
        have HP20 := Kd.R_putg HO_5.out (x18_1 : Int) ((IntKind.u64.wrap ((IntKind.u64.wrap ((IntKind.u64.wrap (rd x5_1 x18_1)) - 0)) - x6_1)) % 4294967296)
        go_wp2_with (first | ((with_reducible refine gate_store (t := 46) (p := 43) rfl ?_); refine store_event (t := 46) (p := 43) (v := ?vo_w21) (w1 := (wr.setCell ⟨go19, (x18_1 : Int).toNat, none⟩ (.int .u32 ((IntKind.u64.wrap ((IntKind.u64.wrap ((IntKind.u64.wrap (rd x5_1 x18_1)) - 0)) - x6_1)) % 4294967296)))) ?hg ?ho ?hn ?hr ?_; (case ho => rfl); (case hg => rfl); (case hn => rfl); (case hr => first | (go_simp; done) | (go_simp; rfl)); intro w21 hw; have hg : wr.grownBy w21 (some go19) := (by rw [hw]; exact HP20.2); have hp_ : Kd.R (Kd.int .u32) 46 w21 w.heap.size (fun k_ => (w.heap.size ≤ k_)) (.slice (some ⟨go19, 0, none⟩) x5_1.length co9) y255 := (by rw [hw, Ny255.out]; exact HP20.1); clear HP20; have n0_ := Aside0.mk (hp_); have n1_ := Aside0.mk ((by rw [hw]; exact below_set (HB.out) GB19.out : Below w.heap.size w w21)); clear HO_5; clear HB; have HO_5 := n0_; have HB := n1_; clear n0_ n1_; clear hg hw hp_))
        (try simp only [← hl5_1])
        go_roundg k1
        case measure => have := HK1.out; omega
        case rel => exact ⟨(y255), ((IntKind.u64.wrap ((IntKind.u64.wrap ((IntKind.u64.wrap (rd x5_1 x18_1)) - 0)) - x6_1)) / 9223372036854775808), (wrap64 (x18_1 + 1)), (by first | rfl | (simp; done) | (simp [*]; done)), (by first | rfl | (simp; done) | (simp [*]; done)), H', ⟨by have := HK1.out; omega⟩, ⟨by (try simp only [hl5_1]); (with_reducible repeat (first | apply Kd.R_alloc | apply Kd.R_drewN | apply Kd.R_drew)); exact HO_5.out⟩, ⟨by repeat (first | (with_reducible first | exact HB.out | apply below_alloc | apply pw_below_drewN | apply below_drew1) | exact HB.out)⟩⟩
       ·rw [if_neg c18] at H
        exact absurd H (by simp)
      ·rw [if_neg c17] at H
       exact absurd H (by simp)
    ·rw [if_neg c10] at H
     have c10b0 : decide (x18_1 < (t248.length : Int)) = false := decide_eq_false c10
     (try (have c10b0l := c10b0; simp only [hl5_1] at c10b0l))
     clear c10
     replace H := Option.bind_eq_some_iff.mp H
     obtain ⟨t256, A220, H⟩ := H
     replace H : (some t256) = some r := H
     have A22 := Aside0.mk A220
     clear A220
     obtain rfl := Option.some.inj H
     go_wp2_with (first | ((with_reducible refine gate_callee (f := 35) rfl ?_); refine goesL_ (some 48) rfl rfl Try.func35 (by kernel_rfl) rfl #[.slice Ao9 x5_1.length co9] rfl (by (try simp only [List.map_toArray, List.map_cons, List.map_nil]); first | done | rfl | (simp only [List.length_drop, List.length_take]; rfl)) ?_; (with_reducible refine (nat_trim.calls k1 (fun k_ => some k_ = (.slice Ao9 x5_1.length co9 : Value).ownBlock) _ _ x5_1 t256 _ ?side1 A22.out).mono ?_); (case side1 => exact Kd.R_V (Kd.R_tight rfl (HO_5.out))); rintro e w23 ⟨v257, rfl, ho0, hb⟩; refine ⟨_, rfl, ?_⟩; have n0_ := Aside0.mk (Kd.R_below (by (with_reducible repeat (first | apply Kd.R_alloc | apply Kd.R_drewN | apply Kd.R_drew)); exact HO_5.out) hb); have n1_ := Aside0.mk (Kd.V_lower (Kd.V_mono (ok' := fun k_ => (w.heap.size ≤ k_)) ho0 (fun k_ hk_ => Or.elim hk_ (fun hs_ => ((HO_5.out).1 k_ hs_.symm)) (fun hn_ => (Nat.le_trans (below_size (by repeat (first | (with_reducible first | exact HB.out | apply below_alloc | apply pw_below_drewN | apply below_drew1) | exact HB.out))) hn_)))) (below_size (by repeat (first | (with_reducible first | exact HB.out | apply below_alloc | apply pw_below_drewN | apply below_drew1) | exact HB.out)))); have n2_ := Aside0.mk (below_step (by repeat (first | (with_reducible first | exact HB.out | apply below_alloc | apply pw_below_drewN | apply below_drew1) | exact HB.out)) hb); clear HO_5; clear HB; have HO_5 := n0_; have HO258 := n1_; have HB := n2_; clear n0_ n1_ n2_; (try clear hb); (try clear hb2); (try clear hk); (try clear hi); (try clear ho0)))
     go_ret
     exact ⟨_, by first | rfl | (simp [errW_none, errW_some] <;> rfl) | (simp [*, errW_none, errW_some] <;> rfl), by (with_reducible repeat (first | apply Kd.V_alloc | apply Kd.V_drewN | apply Kd.V_drew)); exact HO258.out, by repeat (first | (with_reducible first | exact HB.out | apply below_alloc | apply pw_below_drewN | apply below_drew1) | exact HB.out)⟩

end Go.Proofs.Ytlhgagmghahbhaa.Q
