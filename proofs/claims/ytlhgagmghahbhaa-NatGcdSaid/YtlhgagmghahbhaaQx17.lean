-- Written by a program of this session, out of the kit's print tool (see NOTES.md: mypr)
import Derived.Test.YtlhgagmghahbhaaQx0
import Derived.Test.YtlhgagmghahbhaaQx1
import Derived.Test.YtlhgagmghahbhaaQx10
namespace Go.Proofs.Ytlhgagmghahbhaa.Q
open Go.RowKit Go.Proofs.YtlhgagmghahbhaaW.PrintWords Go.Proofs.YtlhgagmghahbhaaW.PrintLast Go.Proofs.YtlhgagmghahbhaaW.PrintMore
attribute [local go_sem] max2_int min2_int max_two min_two max_three min_three max_four min_four   -- for this text's walks alone
set_option linter.unusedVariables false
set_option linter.unusedSimpArgs false

/-! ### nat_Div: function 31 -/
mutual
def nat_Div.l0 : Nat → Int → List Int → List Int → Int → List Int → Int → Int → Int → Option (List Int × List Int)
 | 0, _, _, _, _, _, _, _, _ => none
 | k + 1, x8, x9, x10, x11, x13, x14, x15, x16 => if x16 ≥ 0 then (if 0 ≤ (wrap64 (x16 + x11)) then (if (wrap64 (x16 + x11)) < (x9.length : Int) then (if 0 ≤ (wrap64 ((wrap64 (x16 + x11)) - 1)) then (if (wrap64 ((wrap64 (x16 + x11)) - 1)) < (x9.length : Int) then (if x14 = 0 then (none) else (nat_Div.l1 k x8 x9 x10 x11 x13 x14 x15 x16 (IntKind.u64.wrap (Int.tdiv (Go.bits .or .u64 (IntKind.u64.wrap ((IntKind.u64.wrap (rd x9 (wrap64 (x16 + x11)))) * 4294967296)) (IntKind.u64.wrap (rd x9 (wrap64 ((wrap64 (x16 + x11)) - 1))))) x14)) (Int.tmod (Go.bits .or .u64 (IntKind.u64.wrap ((IntKind.u64.wrap (rd x9 (wrap64 (x16 + x11)))) * 4294967296)) (IntKind.u64.wrap (rd x9 (wrap64 ((wrap64 (x16 + x11)) - 1))))) x14))) else (none)) else (none)) else (none)) else (none)) else (if 0 ≤ x11 then (if (x11 : Int).toNat ≤ 70368744177664 then ((some (List.replicate (x11 : Int).toNat 0 : List Int)).bind fun y450 => (nat_Div.l2 k x8 x9 x13 y450 (y450.length : Int) 0)) else (none)) else (none))
def nat_Div.j3 : Nat → Int → List Int → List Int → Int → List Int → Int → Int → Int → Int → Option (List Int × List Int)
 | 0, _, _, _, _, _, _, _, _, _ => none
 | k + 1, x8, x9, x10, x11, x13, x14, x15, x16, x18 => if 0 ≤ x16 then (if x16 ≤ (wrap64 ((wrap64 (x16 + x11)) + 1)) then (if (wrap64 ((wrap64 (x16 + x11)) + 1)) ≤ (x9.length : Int) then ((nat_lessAt.f k x9 x10 x18 x16 (wrap64 ((wrap64 (x16 + x11)) + 1))).bind fun bt441 => (if bt441.1 = true then ((nat_moreAt.f k bt441.2 x10 x16 (wrap64 ((wrap64 (x16 + x11)) + 1))).bind fun t447 => (if x16 < (x13.length : Int) then (nat_Div.l0 k x8 t447 x10 x11 (x13.set (x16 : Int).toNat ((IntKind.u64.wrap (x18 - 1)) % 4294967296)) x14 x15 (wrap64 (x16 - 1))) else (none))) else (if x16 < (x13.length : Int) then (nat_Div.l0 k x8 bt441.2 x10 x11 (x13.set (x16 : Int).toNat ((x18) % 4294967296)) x14 x15 (wrap64 (x16 - 1))) else (none)))) else (none)) else (none)) else (none)
def nat_Div.l1 : Nat → Int → List Int → List Int → Int → List Int → Int → Int → Int → Int → Int → Option (List Int × List Int)
 | 0, _, _, _, _, _, _, _, _, _, _ => none
 | k + 1, x8, x9, x10, x11, x13, x14, x15, x16, x18, x19 => if x18 ≥ 4294967296 then (nat_Div.j2 k x8 x9 x10 x11 x13 x14 x15 x16 x18 x19 true) else (if 0 ≤ (wrap64 ((wrap64 (x16 + x11)) - 2)) then (if (wrap64 ((wrap64 (x16 + x11)) - 2)) < (x9.length : Int) then (nat_Div.j2 k x8 x9 x10 x11 x13 x14 x15 x16 x18 x19 (decide ((IntKind.u64.wrap (x18 * x15)) > (Go.bits .or .u64 (IntKind.u64.wrap (x19 * 4294967296)) (IntKind.u64.wrap (rd x9 (wrap64 ((wrap64 (x16 + x11)) - 2)))))))) else (none)) else (none))
def nat_Div.j2 : Nat → Int → List Int → List Int → Int → List Int → Int → Int → Int → Int → Int → Bool → Option (List Int × List Int)
 | 0, _, _, _, _, _, _, _, _, _, _, _ => none
 | k + 1, x8, x9, x10, x11, x13, x14, x15, x16, x18, x19, x138 => if x138 = true then (if (IntKind.u64.wrap (x19 + x14)) ≥ 4294967296 then (nat_Div.j3 k x8 x9 x10 x11 x13 x14 x15 x16 (IntKind.u64.wrap (x18 - 1))) else (nat_Div.l1 k x8 x9 x10 x11 x13 x14 x15 x16 (IntKind.u64.wrap (x18 - 1)) (IntKind.u64.wrap (x19 + x14)))) else (nat_Div.j3 k x8 x9 x10 x11 x13 x14 x15 x16 x18)
def nat_Div.l2 : Nat → Int → List Int → List Int → List Int → Int → Int → Option (List Int × List Int)
 | 0, _, _, _, _, _, _ => none
 | k + 1, x8, x9, x13, x20, x175, x176 => if x176 < x175 then (if 0 ≤ (wrap64 (x176 + 1)) then (if (wrap64 (x176 + 1)) < (x9.length : Int) then (if 0 ≤ x176 then (if x176 < (x9.length : Int) then (if 0 ≤ x8 then (if x176 < (x20.length : Int) then (nat_Div.l2 k x8 x9 x13 (x20.set (x176 : Int).toNat ((shr .u64 (Go.bits .or .u64 (IntKind.u64.wrap ((IntKind.u64.wrap (rd x9 (wrap64 (x176 + 1)))) * 4294967296)) (IntKind.u64.wrap (rd x9 x176))) x8) % 4294967296)) x175 (wrap64 (x176 + 1))) else (none)) else (none)) else (none)) else (none)) else (none)) else (none)) else ((nat_trim.f k x13).bind fun t456 => ((nat_trim.f k x20).bind fun t459 => (some (t456, t459))))
end
def nat_Div.f (k : Nat) (l0 : List Int) (l1 : List Int) : Option (List Int × List Int) := (nat_trim.f k l0).bind fun t400 => ((nat_trim.f k l1).bind fun t403 => (if (t403.length : Int) = 0 then (some (([] : List Int), ([] : List Int))) else ((nat_Cmp.f k t400 t403).bind fun t406 => (if t406 < 0 then ((nat_Trim.f k t400).bind fun t407 => (some (([] : List Int), t407))) else (if (t403.length : Int) = 1 then (if 0 < (t403.length : Int) then ((nat_limb.f k t400 (rd t403 0)).bind fun bt411 => ((nat_Of.f k (IntKind.u64.wrap (bt411.2))).bind fun t415 => (some (bt411.1, t415)))) else (none)) else (if 0 ≤ (wrap64 ((t403.length : Int) - 1)) then (if (wrap64 ((t403.length : Int) - 1)) < (t403.length : Int) then ((bits_LeadingZeros32.f (rd t403 (wrap64 ((t403.length : Int) - 1)))).bind fun t419 => ((nat_shl.f k t400 (IntKind.u64.wrap (t419))).bind fun t420 => ((nat_shl.f k t403 (IntKind.u64.wrap (t419))).bind fun t423 => (if 0 ≤ (t403.length : Int) then (if (t403.length : Int) ≤ (t423.length : Int) then ((some (t423.take ((t403.length : Int) : Int).toNat : List Int)).bind fun y426 => (if 0 ≤ (wrap64 ((t420.length : Int) - (y426.length : Int))) then (if (wrap64 ((t420.length : Int) - (y426.length : Int)) : Int).toNat ≤ 70368744177664 then (if 0 ≤ (wrap64 ((y426.length : Int) - 1)) then (if (wrap64 ((y426.length : Int) - 1)) < (y426.length : Int) then (if 0 ≤ (wrap64 ((y426.length : Int) - 2)) then (if (wrap64 ((y426.length : Int) - 2)) < (y426.length : Int) then (nat_Div.l0 k (IntKind.u64.wrap (t419)) t420 y426 (y426.length : Int) (List.replicate (wrap64 ((t420.length : Int) - (y426.length : Int)) : Int).toNat 0) (IntKind.u64.wrap (rd y426 (wrap64 ((y426.length : Int) - 1)))) (IntKind.u64.wrap (rd y426 (wrap64 ((y426.length : Int) - 2)))) (wrap64 ((wrap64 ((t420.length : Int) - (y426.length : Int))) - 1))) else (none)) else (none)) else (none)) else (none)) else (none)) else (none))) else (none)) else (none))))) else (none)) else (none)))))))
theorem nat_Div.mono_l : ∀ k, (∀ y0 y1 y2 y3 y4 y5 y6 y7, LeO (nat_Div.l0 k y0 y1 y2 y3 y4 y5 y6 y7) (nat_Div.l0 (k + 1) y0 y1 y2 y3 y4 y5 y6 y7)) ∧ (∀ y0 y1 y2 y3 y4 y5 y6 y7 y8, LeO (nat_Div.j3 k y0 y1 y2 y3 y4 y5 y6 y7 y8) (nat_Div.j3 (k + 1) y0 y1 y2 y3 y4 y5 y6 y7 y8)) ∧ (∀ y0 y1 y2 y3 y4 y5 y6 y7 y8 y9, LeO (nat_Div.l1 k y0 y1 y2 y3 y4 y5 y6 y7 y8 y9) (nat_Div.l1 (k + 1) y0 y1 y2 y3 y4 y5 y6 y7 y8 y9)) ∧ (∀ y0 y1 y2 y3 y4 y5 y6 y7 y8 y9 y10, LeO (nat_Div.j2 k y0 y1 y2 y3 y4 y5 y6 y7 y8 y9 y10) (nat_Div.j2 (k + 1) y0 y1 y2 y3 y4 y5 y6 y7 y8 y9 y10)) ∧ (∀ y0 y1 y2 y3 y4 y5, LeO (nat_Div.l2 k y0 y1 y2 y3 y4 y5) (nat_Div.l2 (k + 1) y0 y1 y2 y3 y4 y5))
 | 0 => ⟨fun _ _ _ _ _ _ _ _ r h => by simp [nat_Div.l0] at h, fun _ _ _ _ _ _ _ _ _ r h => by simp [nat_Div.j3] at h, fun _ _ _ _ _ _ _ _ _ _ r h => by simp [nat_Div.l1] at h, fun _ _ _ _ _ _ _ _ _ _ _ r h => by simp [nat_Div.j2] at h, fun _ _ _ _ _ _ r h => by simp [nat_Div.l2] at h⟩
 | k + 1 => by
  obtain ⟨ih0, ih1, ih2, ih3, ih4⟩ := nat_Div.mono_l k
  refine ⟨?_, ?_, ?_, ?_, ?_⟩
  ·intro y0 y1 y2 y3 y4 y5 y6 y7
   unfold nat_Div.l0
   repeat' first
   | (with_reducible exact ih0 _ _ _ _ _ _ _ _)
   | (with_reducible exact ih1 _ _ _ _ _ _ _ _ _)
   | (with_reducible exact ih2 _ _ _ _ _ _ _ _ _ _)
   | (with_reducible exact ih3 _ _ _ _ _ _ _ _ _ _ _)
   | (with_reducible exact ih4 _ _ _ _ _ _)
   | (with_reducible exact nat_Cmp.mono _ _ _)
   | (with_reducible exact nat_Of.mono _ _)
   | (with_reducible exact nat_Trim.mono _ _)
   | (with_reducible exact nat_lessAt.mono _ _ _ _ _ _)
   | (with_reducible exact nat_limb.mono _ _ _)
   | (with_reducible exact nat_moreAt.mono _ _ _ _ _)
   | (with_reducible exact nat_shl.mono _ _ _)
   | (with_reducible exact nat_trim.mono _ _)
   | (with_reducible exact LeO.refl _)
   | (with_reducible exact LeO.none _)
   | (with_reducible refine LeO.ite ?_ ?_)
   | (with_reducible refine LeO.bind ?_ (fun _ => ?_))
   | exact ih0 _ _ _ _ _ _ _ _
   | exact ih1 _ _ _ _ _ _ _ _ _
   | exact ih2 _ _ _ _ _ _ _ _ _ _
   | exact ih3 _ _ _ _ _ _ _ _ _ _ _
   | exact ih4 _ _ _ _ _ _
   | exact nat_Cmp.mono _ _ _
   | exact nat_Of.mono _ _
   | exact nat_Trim.mono _ _
   | exact nat_lessAt.mono _ _ _ _ _ _
   | exact nat_limb.mono _ _ _
   | exact nat_moreAt.mono _ _ _ _ _
   | exact nat_shl.mono _ _ _
   | exact nat_trim.mono _ _
   | exact LeO.none _
   | refine LeO.ite ?_ ?_
   | refine LeO.bind ?_ (fun _ => ?_)
  ·intro y0 y1 y2 y3 y4 y5 y6 y7 y8
   unfold nat_Div.j3
   repeat' first
   | (with_reducible exact ih0 _ _ _ _ _ _ _ _)
   | (with_reducible exact ih1 _ _ _ _ _ _ _ _ _)
   | (with_reducible exact ih2 _ _ _ _ _ _ _ _ _ _)
   | (with_reducible exact ih3 _ _ _ _ _ _ _ _ _ _ _)
   | (with_reducible exact ih4 _ _ _ _ _ _)
   | (with_reducible exact nat_Cmp.mono _ _ _)
   | (with_reducible exact nat_Of.mono _ _)
   | (with_reducible exact nat_Trim.mono _ _)
   | (with_reducible exact nat_lessAt.mono _ _ _ _ _ _)
   | (with_reducible exact nat_limb.mono _ _ _)
   | (with_reducible exact nat_moreAt.mono _ _ _ _ _)
   | (with_reducible exact nat_shl.mono _ _ _)
   | (with_reducible exact nat_trim.mono _ _)
   | (with_reducible exact LeO.refl _)
   | (with_reducible exact LeO.none _)
   | (with_reducible refine LeO.ite ?_ ?_)
   | (with_reducible refine LeO.bind ?_ (fun _ => ?_))
   | exact ih0 _ _ _ _ _ _ _ _
   | exact ih1 _ _ _ _ _ _ _ _ _
   | exact ih2 _ _ _ _ _ _ _ _ _ _
   | exact ih3 _ _ _ _ _ _ _ _ _ _ _
   | exact ih4 _ _ _ _ _ _
   | exact nat_Cmp.mono _ _ _
   | exact nat_Of.mono _ _
   | exact nat_Trim.mono _ _
   | exact nat_lessAt.mono _ _ _ _ _ _
   | exact nat_limb.mono _ _ _
   | exact nat_moreAt.mono _ _ _ _ _
   | exact nat_shl.mono _ _ _
   | exact nat_trim.mono _ _
   | exact LeO.none _
   | refine LeO.ite ?_ ?_
   | refine LeO.bind ?_ (fun _ => ?_)
  ·intro y0 y1 y2 y3 y4 y5 y6 y7 y8 y9
   unfold nat_Div.l1
   repeat' first
   | (with_reducible exact ih0 _ _ _ _ _ _ _ _)
   | (with_reducible exact ih1 _ _ _ _ _ _ _ _ _)
   | (with_reducible exact ih2 _ _ _ _ _ _ _ _ _ _)
   | (with_reducible exact ih3 _ _ _ _ _ _ _ _ _ _ _)
   | (with_reducible exact ih4 _ _ _ _ _ _)
   | (with_reducible exact nat_Cmp.mono _ _ _)
   | (with_reducible exact nat_Of.mono _ _)
   | (with_reducible exact nat_Trim.mono _ _)
   | (with_reducible exact nat_lessAt.mono _ _ _ _ _ _)
   | (with_reducible exact nat_limb.mono _ _ _)
   | (with_reducible exact nat_moreAt.mono _ _ _ _ _)
   | (with_reducible exact nat_shl.mono _ _ _)
   | (with_reducible exact nat_trim.mono _ _)
   | (with_reducible exact LeO.refl _)
   | (with_reducible exact LeO.none _)
   | (with_reducible refine LeO.ite ?_ ?_)
   | (with_reducible refine LeO.bind ?_ (fun _ => ?_))
   | exact ih0 _ _ _ _ _ _ _ _
   | exact ih1 _ _ _ _ _ _ _ _ _
   | exact ih2 _ _ _ _ _ _ _ _ _ _
   | exact ih3 _ _ _ _ _ _ _ _ _ _ _
   | exact ih4 _ _ _ _ _ _
   | exact nat_Cmp.mono _ _ _
   | exact nat_Of.mono _ _
   | exact nat_Trim.mono _ _
   | exact nat_lessAt.mono _ _ _ _ _ _
   | exact nat_limb.mono _ _ _
   | exact nat_moreAt.mono _ _ _ _ _
   | exact nat_shl.mono _ _ _
   | exact nat_trim.mono _ _
   | exact LeO.none _
   | refine LeO.ite ?_ ?_
   | refine LeO.bind ?_ (fun _ => ?_)
  ·intro y0 y1 y2 y3 y4 y5 y6 y7 y8 y9 y10
   unfold nat_Div.j2
   repeat' first
   | (with_reducible exact ih0 _ _ _ _ _ _ _ _)
   | (with_reducible exact ih1 _ _ _ _ _ _ _ _ _)
   | (with_reducible exact ih2 _ _ _ _ _ _ _ _ _ _)
   | (with_reducible exact ih3 _ _ _ _ _ _ _ _ _ _ _)
   | (with_reducible exact ih4 _ _ _ _ _ _)
   | (with_reducible exact nat_Cmp.mono _ _ _)
   | (with_reducible exact nat_Of.mono _ _)
   | (with_reducible exact nat_Trim.mono _ _)
   | (with_reducible exact nat_lessAt.mono _ _ _ _ _ _)
   | (with_reducible exact nat_limb.mono _ _ _)
   | (with_reducible exact nat_moreAt.mono _ _ _ _ _)
   | (with_reducible exact nat_shl.mono _ _ _)
   | (with_reducible exact nat_trim.mono _ _)
   | (with_reducible exact LeO.refl _)
   | (with_reducible exact LeO.none _)
   | (with_reducible refine LeO.ite ?_ ?_)
   | (with_reducible refine LeO.bind ?_ (fun _ => ?_))
   | exact ih0 _ _ _ _ _ _ _ _
   | exact ih1 _ _ _ _ _ _ _ _ _
   | exact ih2 _ _ _ _ _ _ _ _ _ _
   | exact ih3 _ _ _ _ _ _ _ _ _ _ _
   | exact ih4 _ _ _ _ _ _
   | exact nat_Cmp.mono _ _ _
   | exact nat_Of.mono _ _
   | exact nat_Trim.mono _ _
   | exact nat_lessAt.mono _ _ _ _ _ _
   | exact nat_limb.mono _ _ _
   | exact nat_moreAt.mono _ _ _ _ _
   | exact nat_shl.mono _ _ _
   | exact nat_trim.mono _ _
   | exact LeO.none _
   | refine LeO.ite ?_ ?_
   | refine LeO.bind ?_ (fun _ => ?_)
  ·intro y0 y1 y2 y3 y4 y5
   unfold nat_Div.l2
   repeat' first
   | (with_reducible exact ih0 _ _ _ _ _ _ _ _)
   | (with_reducible exact ih1 _ _ _ _ _ _ _ _ _)
   | (with_reducible exact ih2 _ _ _ _ _ _ _ _ _ _)
   | (with_reducible exact ih3 _ _ _ _ _ _ _ _ _ _ _)
   | (with_reducible exact ih4 _ _ _ _ _ _)
   | (with_reducible exact nat_Cmp.mono _ _ _)
   | (with_reducible exact nat_Of.mono _ _)
   | (with_reducible exact nat_Trim.mono _ _)
   | (with_reducible exact nat_lessAt.mono _ _ _ _ _ _)
   | (with_reducible exact nat_limb.mono _ _ _)
   | (with_reducible exact nat_moreAt.mono _ _ _ _ _)
   | (with_reducible exact nat_shl.mono _ _ _)
   | (with_reducible exact nat_trim.mono _ _)
   | (with_reducible exact LeO.refl _)
   | (with_reducible exact LeO.none _)
   | (with_reducible refine LeO.ite ?_ ?_)
   | (with_reducible refine LeO.bind ?_ (fun _ => ?_))
   | exact ih0 _ _ _ _ _ _ _ _
   | exact ih1 _ _ _ _ _ _ _ _ _
   | exact ih2 _ _ _ _ _ _ _ _ _ _
   | exact ih3 _ _ _ _ _ _ _ _ _ _ _
   | exact ih4 _ _ _ _ _ _
   | exact nat_Cmp.mono _ _ _
   | exact nat_Of.mono _ _
   | exact nat_Trim.mono _ _
   | exact nat_lessAt.mono _ _ _ _ _ _
   | exact nat_limb.mono _ _ _
   | exact nat_moreAt.mono _ _ _ _ _
   | exact nat_shl.mono _ _ _
   | exact nat_trim.mono _ _
   | exact LeO.none _
   | refine LeO.ite ?_ ?_
   | refine LeO.bind ?_ (fun _ => ?_)
theorem nat_Div.mono : ∀ a0 a1 k, LeO (nat_Div.f k a0 a1) (nat_Div.f (k + 1) a0 a1) := by
 intro a0 a1 k
 obtain ⟨ih0, ih1, ih2, ih3, ih4⟩ := nat_Div.mono_l k
 unfold nat_Div.f
 repeat' first
   | (with_reducible exact ih0 _ _ _ _ _ _ _ _)
   | (with_reducible exact ih1 _ _ _ _ _ _ _ _ _)
   | (with_reducible exact ih2 _ _ _ _ _ _ _ _ _ _)
   | (with_reducible exact ih3 _ _ _ _ _ _ _ _ _ _ _)
   | (with_reducible exact ih4 _ _ _ _ _ _)
   | (with_reducible exact nat_Cmp.mono _ _ _)
   | (with_reducible exact nat_Of.mono _ _)
   | (with_reducible exact nat_Trim.mono _ _)
   | (with_reducible exact nat_lessAt.mono _ _ _ _ _ _)
   | (with_reducible exact nat_limb.mono _ _ _)
   | (with_reducible exact nat_moreAt.mono _ _ _ _ _)
   | (with_reducible exact nat_shl.mono _ _ _)
   | (with_reducible exact nat_trim.mono _ _)
   | (with_reducible exact LeO.refl _)
   | (with_reducible exact LeO.none _)
   | (with_reducible refine LeO.ite ?_ ?_)
   | (with_reducible refine LeO.bind ?_ (fun _ => ?_))
   | exact ih0 _ _ _ _ _ _ _ _
   | exact ih1 _ _ _ _ _ _ _ _ _
   | exact ih2 _ _ _ _ _ _ _ _ _ _
   | exact ih3 _ _ _ _ _ _ _ _ _ _ _
   | exact ih4 _ _ _ _ _ _
   | exact nat_Cmp.mono _ _ _
   | exact nat_Of.mono _ _
   | exact nat_Trim.mono _ _
   | exact nat_lessAt.mono _ _ _ _ _ _
   | exact nat_limb.mono _ _ _
   | exact nat_moreAt.mono _ _ _ _ _
   | exact nat_shl.mono _ _ _
   | exact nat_trim.mono _ _
   | exact LeO.none _
   | refine LeO.ite ?_ ?_
   | refine LeO.bind ?_ (fun _ => ?_)
def nat_Div.T10 : Bool × List (List Nat × List Nat) := (true, [([], []), ([], []), ([0, 1], [0, 1]), ([], []), ([], []), ([3, 4, 2], [3, 4]), ([], []), ([6], [6]), ([5, 7], [5, 7]), ([2, 5, 0, 1, 2], [2]), ([8, 9, 0, 1, 2, 3, 4, 5, 6, 7, 8, 9], [8])])
def nat_Div.B10 : List Nat := [0, 0, 3, 0, 0, 31, 0, 64, 255, 63, 1023]
theorem nat_Div.tab10 : rtab .any (opsOf Try.f31 10) = nat_Div.T10 := by kernel_rfl
theorem nat_Div.bits10 : waitsOk nat_Div.T10.2 nat_Div.B10 = true := by kernel_rfl
def nat_Div.T13 : Bool × List (List Nat × List Nat) := (true, [([], []), ([], []), ([1], [1]), ([0, 2], [0, 2]), ([3], [3]), ([4], [4]), ([], []), ([], []), ([7], [7]), ([6, 8], [6, 8]), ([9], [9]), ([10], [10]), ([5, 0, 1, 2, 3, 4, 5], [5]), ([11, 12, 0, 1, 2, 3, 4, 5, 6, 7, 8, 9, 10, 11, 12], [11])])
def nat_Div.B13 : List Nat := [0, 0, 2, 7, 15, 31, 0, 0, 128, 448, 960, 1984, 63, 8191]
theorem nat_Div.tab13 : rtab .any (opsOf Try.f31 13) = nat_Div.T13 := by kernel_rfl
theorem nat_Div.bits13 : waitsOk nat_Div.T13.2 nat_Div.B13 = true := by kernel_rfl
def nat_Div.T17 : Bool × List (List Nat × List Nat) := (true, [([], []), ([], []), ([], []), ([1, 2], [1, 2]), ([0, 3], [0, 3]), ([4], [4]), ([5], [5]), ([6], [6]), ([], []), ([], []), ([], []), ([9, 10], [9, 10]), ([11], [11]), ([8, 12], [8, 12]), ([13], [13]), ([14], [14]), ([7, 15], [7, 15]), ([16, 0, 1, 2, 3, 4, 5, 6, 7, 8, 9, 10, 11, 12, 13, 14, 15, 16], [16])])
def nat_Div.B17 : List Nat := [0, 0, 0, 6, 15, 31, 63, 127, 0, 0, 0, 1536, 3584, 7936, 16128, 32512, 65535, 131071]
theorem nat_Div.tab17 : rtab .any (opsOf Try.f31 17) = nat_Div.T17 := by kernel_rfl
theorem nat_Div.bits17 : waitsOk nat_Div.T17.2 nat_Div.B17 = true := by kernel_rfl
def nat_Div.T18 : Bool × List (List Nat × List Nat) := (true, [([], []), ([], []), ([0, 1], [0, 1]), ([], []), ([], []), ([3, 4], [3, 4]), ([2, 0, 1, 2], [2]), ([5, 6, 0, 1, 2, 3, 4, 5, 6], [5])])
def nat_Div.B18 : List Nat := [0, 0, 3, 0, 0, 24, 7, 127]
theorem nat_Div.tab18 : rtab .any (opsOf Try.f31 18) = nat_Div.T18 := by kernel_rfl
theorem nat_Div.bits18 : waitsOk nat_Div.T18.2 nat_Div.B18 = true := by kernel_rfl
def nat_Div.T31 : Bool × List (List Nat × List Nat) := (true, [([], []), ([], []), ([], []), ([], []), ([3], [3]), ([2, 4], [2, 4]), ([5], [5]), ([6], [6]), ([7], [7]), ([], []), ([], []), ([9, 10], [9, 10]), ([11], [11]), ([12], [12]), ([8, 13], [8, 13]), ([], []), ([14, 15], [14, 15]), ([16], [16]), ([0, 1, 0, 1, 2, 3, 4, 5, 6, 7, 8, 9, 10, 11, 12, 13, 14, 15, 16, 17], [0, 1]), ([18, 17, 0, 1, 2, 3, 4, 5, 6, 7, 8, 9, 10, 11, 12, 13, 14, 15, 16, 17], [17, 18])])
def nat_Div.B31 : List Nat := [0, 0, 0, 0, 8, 28, 60, 124, 252, 0, 0, 1536, 3584, 7680, 16380, 0, 65532, 131068, 262143, 524287]
theorem nat_Div.tab31 : rtab .any (opsOf Try.f31 31) = nat_Div.T31 := by kernel_rfl
theorem nat_Div.bits31 : waitsOk nat_Div.T31.2 nat_Div.B31 = true := by kernel_rfl
set_option maxHeartbeats 8000000 in
set_option maxRecDepth 100000 in
theorem nat_Div.calls (k : Nat) (P0_ : Nat → Prop) (A0 : Option Addr) (c0 : Nat) (l0 : List Int) (P1_ : Nat → Prop) (A1 : Option Addr) (c1 : Nat) (l1 : List Int) (r1 : List Int) (r2 : List Int) (w : World) (hs0 : Kd.V (Kd.int .u32) 46 w w.heap.size (fun k_ => P0_ k_) (.slice A0 l0.length c0) l0) (hs1 : Kd.V (Kd.int .u32) 46 w w.heap.size (fun k_ => P1_ k_) (.slice A1 l1.length c1) l1) (h : nat_Div.f k l0 l1 = some (r1, r2)) :
  Calls Try.prog 31 #[.slice A0 l0.length c0, .slice A1 l1.length c1] w fun e w' => ∃ v0_ v1_ : Value, e = .returned (.tuple #[v0_, v1_]) ∧ Kd.V (Kd.int .u32) 46 w' w.heap.size (fun k_ => ((P0_ k_ ∨ P1_ k_) ∨ w.heap.size ≤ k_)) v0_ r1 ∧ Kd.V (Kd.int .u32) 46 w' w.heap.size (fun k_ => ((P0_ k_ ∨ P1_ k_) ∨ w.heap.size ≤ k_)) v1_ r2 ∧ Below w.heap.size w w' := by
 have HO0 := Aside0.mk (show Kd.V (Kd.int .u32) 46 w w.heap.size (fun k_ => ((P0_ k_ ∨ P1_ k_) ∨ w.heap.size ≤ k_)) (.slice A0 l0.length c0) l0 from Kd.V_mono hs0 (fun k_ hk => .inl (.inl hk)))
 have HO1 := Aside0.mk (show Kd.V (Kd.int .u32) 46 w w.heap.size (fun k_ => ((P0_ k_ ∨ P1_ k_) ∨ w.heap.size ≤ k_)) (.slice A1 l1.length c1) l1 from Kd.V_mono hs1 (fun k_ hk => .inl (.inr hk)))
 have HB := Aside0.mk (Below.refl w.heap.size w)
 have H : ((nat_trim.f k l0).bind fun t400 => ((nat_trim.f k l1).bind fun t403 => (if (t403.length : Int) = 0 then (some (([] : List Int), ([] : List Int))) else ((nat_Cmp.f k t400 t403).bind fun t406 => (if t406 < 0 then ((nat_Trim.f k t400).bind fun t407 => (some (([] : List Int), t407))) else (if (t403.length : Int) = 1 then (if 0 < (t403.length : Int) then ((nat_limb.f k t400 (rd t403 0)).bind fun bt411 => ((nat_Of.f k (IntKind.u64.wrap (bt411.2))).bind fun t415 => (some (bt411.1, t415)))) else (none)) else (if 0 ≤ (wrap64 ((t403.length : Int) - 1)) then (if (wrap64 ((t403.length : Int) - 1)) < (t403.length : Int) then ((bits_LeadingZeros32.f (rd t403 (wrap64 ((t403.length : Int) - 1)))).bind fun t419 => ((nat_shl.f k t400 (IntKind.u64.wrap (t419))).bind fun t420 => ((nat_shl.f k t403 (IntKind.u64.wrap (t419))).bind fun t423 => (if 0 ≤ (t403.length : Int) then (if (t403.length : Int) ≤ (t423.length : Int) then ((some (t423.take ((t403.length : Int) : Int).toNat : List Int)).bind fun y426 => (if 0 ≤ (wrap64 ((t420.length : Int) - (y426.length : Int))) then (if (wrap64 ((t420.length : Int) - (y426.length : Int)) : Int).toNat ≤ 70368744177664 then (if 0 ≤ (wrap64 ((y426.length : Int) - 1)) then (if (wrap64 ((y426.length : Int) - 1)) < (y426.length : Int) then (if 0 ≤ (wrap64 ((y426.length : Int) - 2)) then (if (wrap64 ((y426.length : Int) - 2)) < (y426.length : Int) then (nat_Div.l0 k (IntKind.u64.wrap (t419)) t420 y426 (y426.length : Int) (List.replicate (wrap64 ((t420.length : Int) - (y426.length : Int)) : Int).toNat 0) (IntKind.u64.wrap (rd y426 (wrap64 ((y426.length : Int) - 1)))) (IntKind.u64.wrap (rd y426 (wrap64 ((y426.length : Int) - 2)))) (wrap64 ((wrap64 ((t420.length : Int) - (y426.length : Int))) - 1))) else (none)) else (none)) else (none)) else (none)) else (none)) else (none))) else (none)) else (none))))) else (none)) else (none)))))))) = some (r1, r2) := h
 clear h
 replace H := Option.bind_eq_some_iff.mp H
 obtain ⟨t400, A30, H⟩ := H
 replace H : ((nat_trim.f k l1).bind fun t403 => (if (t403.length : Int) = 0 then (some (([] : List Int), ([] : List Int))) else ((nat_Cmp.f k t400 t403).bind fun t406 => (if t406 < 0 then ((nat_Trim.f k t400).bind fun t407 => (some (([] : List Int), t407))) else (if (t403.length : Int) = 1 then (if 0 < (t403.length : Int) then ((nat_limb.f k t400 (rd t403 0)).bind fun bt411 => ((nat_Of.f k (IntKind.u64.wrap (bt411.2))).bind fun t415 => (some (bt411.1, t415)))) else (none)) else (if 0 ≤ (wrap64 ((t403.length : Int) - 1)) then (if (wrap64 ((t403.length : Int) - 1)) < (t403.length : Int) then ((bits_LeadingZeros32.f (rd t403 (wrap64 ((t403.length : Int) - 1)))).bind fun t419 => ((nat_shl.f k t400 (IntKind.u64.wrap (t419))).bind fun t420 => ((nat_shl.f k t403 (IntKind.u64.wrap (t419))).bind fun t423 => (if 0 ≤ (t403.length : Int) then (if (t403.length : Int) ≤ (t423.length : Int) then ((some (t423.take ((t403.length : Int) : Int).toNat : List Int)).bind fun y426 => (if 0 ≤ (wrap64 ((t420.length : Int) - (y426.length : Int))) then (if (wrap64 ((t420.length : Int) - (y426.length : Int)) : Int).toNat ≤ 70368744177664 then (if 0 ≤ (wrap64 ((y426.length : Int) - 1)) then (if (wrap64 ((y426.length : Int) - 1)) < (y426.length : Int) then (if 0 ≤ (wrap64 ((y426.length : Int) - 2)) then (if (wrap64 ((y426.length : Int) - 2)) < (y426.length : Int) then (nat_Div.l0 k (IntKind.u64.wrap (t419)) t420 y426 (y426.length : Int) (List.replicate (wrap64 ((t420.length : Int) - (y426.length : Int)) : Int).toNat 0) (IntKind.u64.wrap (rd y426 (wrap64 ((y426.length : Int) - 1)))) (IntKind.u64.wrap (rd y426 (wrap64 ((y426.length : Int) - 2)))) (wrap64 ((wrap64 ((t420.length : Int) - (y426.length : Int))) - 1))) else (none)) else (none)) else (none)) else (none)) else (none)) else (none))) else (none)) else (none))))) else (none)) else (none))))))) = some (r1, r2) := H
 have A3 := Aside0.mk A30
 clear A30
 replace H := Option.bind_eq_some_iff.mp H
 obtain ⟨t403, A40, H⟩ := H
 replace H : (if (t403.length : Int) = 0 then (some (([] : List Int), ([] : List Int))) else ((nat_Cmp.f k t400 t403).bind fun t406 => (if t406 < 0 then ((nat_Trim.f k t400).bind fun t407 => (some (([] : List Int), t407))) else (if (t403.length : Int) = 1 then (if 0 < (t403.length : Int) then ((nat_limb.f k t400 (rd t403 0)).bind fun bt411 => ((nat_Of.f k (IntKind.u64.wrap (bt411.2))).bind fun t415 => (some (bt411.1, t415)))) else (none)) else (if 0 ≤ (wrap64 ((t403.length : Int) - 1)) then (if (wrap64 ((t403.length : Int) - 1)) < (t403.length : Int) then ((bits_LeadingZeros32.f (rd t403 (wrap64 ((t403.length : Int) - 1)))).bind fun t419 => ((nat_shl.f k t400 (IntKind.u64.wrap (t419))).bind fun t420 => ((nat_shl.f k t403 (IntKind.u64.wrap (t419))).bind fun t423 => (if 0 ≤ (t403.length : Int) then (if (t403.length : Int) ≤ (t423.length : Int) then ((some (t423.take ((t403.length : Int) : Int).toNat : List Int)).bind fun y426 => (if 0 ≤ (wrap64 ((t420.length : Int) - (y426.length : Int))) then (if (wrap64 ((t420.length : Int) - (y426.length : Int)) : Int).toNat ≤ 70368744177664 then (if 0 ≤ (wrap64 ((y426.length : Int) - 1)) then (if (wrap64 ((y426.length : Int) - 1)) < (y426.length : Int) then (if 0 ≤ (wrap64 ((y426.length : Int) - 2)) then (if (wrap64 ((y426.length : Int) - 2)) < (y426.length : Int) then (nat_Div.l0 k (IntKind.u64.wrap (t419)) t420 y426 (y426.length : Int) (List.replicate (wrap64 ((t420.length : Int) - (y426.length : Int)) : Int).toNat 0) (IntKind.u64.wrap (rd y426 (wrap64 ((y426.length : Int) - 1)))) (IntKind.u64.wrap (rd y426 (wrap64 ((y426.length : Int) - 2)))) (wrap64 ((wrap64 ((t420.length : Int) - (y426.length : Int))) - 1))) else (none)) else (none)) else (none)) else (none)) else (none)) else (none))) else (none)) else (none))))) else (none)) else (none)))))) = some (r1, r2) := H
 have A4 := Aside0.mk A40
 clear A40
 by_cases c5 : (t403.length : Int) = 0
 ·rw [if_pos c5] at H
  have c5b0 : ((t403.length : Int) == 0) = true := beq_iff_eq.mpr c5
  have c5b1 : ((t403.length : Int) != 0) = false := bne_eq_false_iff_eq.mpr c5
  clear c5
  simp only [Option.some.injEq, Prod.mk.injEq] at H
  obtain ⟨rfl, rfl⟩ := H
  go_enter Try.func31, Try.ntmps31
  go_wp2_with (first | ((with_reducible refine gate_callee (f := 35) rfl ?_); refine goesL_ (some 23) rfl rfl Try.func35 (by kernel_rfl) rfl #[.slice A0 l0.length c0] rfl (by (try simp only [List.map_toArray, List.map_cons, List.map_nil]); first | done | rfl | (simp only [List.length_drop, List.length_take]; rfl)) ?_; (with_reducible refine (nat_trim.calls k (fun k_ => ((P0_ k_ ∨ P1_ k_) ∨ w.heap.size ≤ k_)) _ _ l0 t400 _ ?side1 A3.out).mono ?_); (case side1 => exact HO0.out); rintro e w6 ⟨v401, rfl, ho0, hb⟩; refine ⟨_, rfl, ?_⟩; have n0_ := Aside0.mk (Kd.V_below (by (with_reducible repeat (first | apply Kd.V_alloc | apply Kd.V_drewN | apply Kd.V_drew)); exact HO0.out) hb); have n1_ := Aside0.mk (Kd.V_below (by (with_reducible repeat (first | apply Kd.V_alloc | apply Kd.V_drewN | apply Kd.V_drew)); exact HO1.out) hb); have n2_ := Aside0.mk (Kd.V_lower (Kd.V_mono (ok' := fun k_ => ((P0_ k_ ∨ P1_ k_) ∨ w.heap.size ≤ k_)) ho0 (fun k_ hk_ => Or.elim hk_ (fun hs_ => hs_) (fun hn_ => (.inr (Nat.le_trans (below_size (by repeat (first | (with_reducible first | exact HB.out | apply below_alloc | apply pw_below_drewN | apply below_drew1) | exact HB.out))) hn_))))) (below_size (by repeat (first | (with_reducible first | exact HB.out | apply below_alloc | apply pw_below_drewN | apply below_drew1) | exact HB.out)))); have n3_ := Aside0.mk (below_step (by repeat (first | (with_reducible first | exact HB.out | apply below_alloc | apply pw_below_drewN | apply below_drew1) | exact HB.out)) hb); clear HO0; clear HO1; clear HB; have HO0 := n0_; have HO1 := n1_; have HO402 := n2_; have HB := n3_; clear n0_ n1_ n2_ n3_; (try clear hb); (try clear hb2); (try clear hk); (try clear hi); (try clear ho0)) | ((with_reducible refine gate_callee (f := 35) rfl ?_); refine goesL_ (some 25) rfl rfl Try.func35 (by kernel_rfl) rfl #[.slice A1 l1.length c1] rfl (by (try simp only [List.map_toArray, List.map_cons, List.map_nil]); first | done | rfl | (simp only [List.length_drop, List.length_take]; rfl)) ?_; (with_reducible refine (nat_trim.calls k (fun k_ => ((P0_ k_ ∨ P1_ k_) ∨ w.heap.size ≤ k_)) _ _ l1 t403 _ ?side1 A4.out).mono ?_); (case side1 => exact HO1.out); rintro e w7 ⟨v404, rfl, ho0, hb⟩; refine ⟨_, rfl, ?_⟩; have n0_ := Aside0.mk (Kd.V_below (by (with_reducible repeat (first | apply Kd.V_alloc | apply Kd.V_drewN | apply Kd.V_drew)); exact HO0.out) hb); have n1_ := Aside0.mk (Kd.V_below (by (with_reducible repeat (first | apply Kd.V_alloc | apply Kd.V_drewN | apply Kd.V_drew)); exact HO1.out) hb); have n2_ := Aside0.mk (Kd.V_below (by (with_reducible repeat (first | apply Kd.V_alloc | apply Kd.V_drewN | apply Kd.V_drew)); exact HO402.out) hb); have n3_ := Aside0.mk (Kd.V_lower (Kd.V_mono (ok' := fun k_ => ((P0_ k_ ∨ P1_ k_) ∨ w.heap.size ≤ k_)) ho0 (fun k_ hk_ => Or.elim hk_ (fun hs_ => hs_) (fun hn_ => (.inr (Nat.le_trans (below_size (by repeat (first | (with_reducible first | exact HB.out | apply below_alloc | apply pw_below_drewN | apply below_drew1) | exact HB.out))) hn_))))) (below_size (by repeat (first | (with_reducible first | exact HB.out | apply below_alloc | apply pw_below_drewN | apply below_drew1) | exact HB.out)))); have n4_ := Aside0.mk (below_step (by repeat (first | (with_reducible first | exact HB.out | apply below_alloc | apply pw_below_drewN | apply below_drew1) | exact HB.out)) hb); clear HO0; clear HO1; clear HO402; clear HB; have HO0 := n0_; have HO1 := n1_; have HO402 := n2_; have HO405 := n3_; have HB := n4_; clear n0_ n1_ n2_ n3_ n4_; (try clear hb); (try clear hb2); (try clear hk); (try clear hi); (try clear ho0); obtain ⟨Ao8, co8, eo8⟩ := Kd.V_slice HO405.out; subst eo8))
  go_ret2
  exact ⟨_, _, by first | rfl | (simp [errW_none, errW_some] <;> rfl) | (simp [*, errW_none, errW_some] <;> rfl), Kd.V_nil _ _ _ _ _, Kd.V_nil _ _ _ _ _, by repeat (first | (with_reducible first | exact HB.out | apply below_alloc | apply pw_below_drewN | apply below_drew1) | exact HB.out)⟩
 ·rw [if_neg c5] at H
  have c5b0 : ((t403.length : Int) == 0) = false := beq_eq_false_iff_ne.mpr c5
  have c5b1 : ((t403.length : Int) != 0) = true := bne_iff_ne.mpr c5
  have c5b2 : ¬ (t403 = []) := fun h_ => c5 (by rw [h_]; rfl)
  replace H := Option.bind_eq_some_iff.mp H
  obtain ⟨t406, A90, H⟩ := H
  replace H : (if t406 < 0 then ((nat_Trim.f k t400).bind fun t407 => (some (([] : List Int), t407))) else (if (t403.length : Int) = 1 then (if 0 < (t403.length : Int) then ((nat_limb.f k t400 (rd t403 0)).bind fun bt411 => ((nat_Of.f k (IntKind.u64.wrap (bt411.2))).bind fun t415 => (some (bt411.1, t415)))) else (none)) else (if 0 ≤ (wrap64 ((t403.length : Int) - 1)) then (if (wrap64 ((t403.length : Int) - 1)) < (t403.length : Int) then ((bits_LeadingZeros32.f (rd t403 (wrap64 ((t403.length : Int) - 1)))).bind fun t419 => ((nat_shl.f k t400 (IntKind.u64.wrap (t419))).bind fun t420 => ((nat_shl.f k t403 (IntKind.u64.wrap (t419))).bind fun t423 => (if 0 ≤ (t403.length : Int) then (if (t403.length : Int) ≤ (t423.length : Int) then ((some (t423.take ((t403.length : Int) : Int).toNat : List Int)).bind fun y426 => (if 0 ≤ (wrap64 ((t420.length : Int) - (y426.length : Int))) then (if (wrap64 ((t420.length : Int) - (y426.length : Int)) : Int).toNat ≤ 70368744177664 then (if 0 ≤ (wrap64 ((y426.length : Int) - 1)) then (if (wrap64 ((y426.length : Int) - 1)) < (y426.length : Int) then (if 0 ≤ (wrap64 ((y426.length : Int) - 2)) then (if (wrap64 ((y426.length : Int) - 2)) < (y426.length : Int) then (nat_Div.l0 k (IntKind.u64.wrap (t419)) t420 y426 (y426.length : Int) (List.replicate (wrap64 ((t420.length : Int) - (y426.length : Int)) : Int).toNat 0) (IntKind.u64.wrap (rd y426 (wrap64 ((y426.length : Int) - 1)))) (IntKind.u64.wrap (rd y426 (wrap64 ((y426.length : Int) - 2)))) (wrap64 ((wrap64 ((t420.length : Int) - (y426.length : Int))) - 1))) else (none)) else (none)) else (none)) else (none)) else (none)) else (none))) else (none)) else (none))))) else (none)) else (none)))) = some (r1, r2) := H
  have A9 := Aside0.mk A90
  clear A90
  by_cases c10 : t406 < 0
  ·rw [if_pos c10] at H
   have c10b0 : decide (t406 < 0) = true := decide_eq_true c10
   clear c10
   replace H := Option.bind_eq_some_iff.mp H
   obtain ⟨t407, A110, H⟩ := H
   replace H : (some (([] : List Int), t407)) = some (r1, r2) := H
   have A11 := Aside0.mk A110
   clear A110
   simp only [Option.some.injEq, Prod.mk.injEq] at H
   obtain ⟨rfl, rfl⟩ := H
   go_enter Try.func31, Try.ntmps31
   go_wp2_with (first | ((with_reducible refine gate_callee (f := 35) rfl ?_); refine goesL_ (some 23) rfl rfl Try.func35 (by kernel_rfl) rfl #[.slice A0 l0.length c0] rfl (by (try simp only [List.map_toArray, List.map_cons, List.map_nil]); first | done | rfl | (simp only [List.length_drop, List.length_take]; rfl)) ?_; (with_reducible refine (nat_trim.calls k (fun k_ => ((P0_ k_ ∨ P1_ k_) ∨ w.heap.size ≤ k_)) _ _ l0 t400 _ ?side1 A3.out).mono ?_); (case side1 => exact HO0.out); rintro e w12 ⟨v401, rfl, ho0, hb⟩; refine ⟨_, rfl, ?_⟩; have n0_ := Aside0.mk (Kd.V_below (by (with_reducible repeat (first | apply Kd.V_alloc | apply Kd.V_drewN | apply Kd.V_drew)); exact HO0.out) hb); have n1_ := Aside0.mk (Kd.V_below (by (with_reducible repeat (first | apply Kd.V_alloc | apply Kd.V_drewN | apply Kd.V_drew)); exact HO1.out) hb); have n2_ := Aside0.mk (Kd.V_lower (Kd.V_mono (ok' := fun k_ => ((P0_ k_ ∨ P1_ k_) ∨ w.heap.size ≤ k_)) ho0 (fun k_ hk_ => Or.elim hk_ (fun hs_ => hs_) (fun hn_ => (.inr (Nat.le_trans (below_size (by repeat (first | (with_reducible first | exact HB.out | apply below_alloc | apply pw_below_drewN | apply below_drew1) | exact HB.out))) hn_))))) (below_size (by repeat (first | (with_reducible first | exact HB.out | apply below_alloc | apply pw_below_drewN | apply below_drew1) | exact HB.out)))); have n3_ := Aside0.mk (below_step (by repeat (first | (with_reducible first | exact HB.out | apply below_alloc | apply pw_below_drewN | apply below_drew1) | exact HB.out)) hb); clear HO0; clear HO1; clear HB; have HO0 := n0_; have HO1 := n1_; have HO402 := n2_; have HB := n3_; clear n0_ n1_ n2_ n3_; (try clear hb); (try clear hb2); (try clear hk); (try clear hi); (try clear ho0)) | ((with_reducible refine gate_callee (f := 35) rfl ?_); refine goesL_ (some 25) rfl rfl Try.func35 (by kernel_rfl) rfl #[.slice A1 l1.length c1] rfl (by (try simp only [List.map_toArray, List.map_cons, List.map_nil]); first | done | rfl | (simp only [List.length_drop, List.length_take]; rfl)) ?_; (with_reducible refine (nat_trim.calls k (fun k_ => ((P0_ k_ ∨ P1_ k_) ∨ w.heap.size ≤ k_)) _ _ l1 t403 _ ?side1 A4.out).mono ?_); (case side1 => exact HO1.out); rintro e w13 ⟨v404, rfl, ho0, hb⟩; refine ⟨_, rfl, ?_⟩; have n0_ := Aside0.mk (Kd.V_below (by (with_reducible repeat (first | apply Kd.V_alloc | apply Kd.V_drewN | apply Kd.V_drew)); exact HO0.out) hb); have n1_ := Aside0.mk (Kd.V_below (by (with_reducible repeat (first | apply Kd.V_alloc | apply Kd.V_drewN | apply Kd.V_drew)); exact HO1.out) hb); have n2_ := Aside0.mk (Kd.V_below (by (with_reducible repeat (first | apply Kd.V_alloc | apply Kd.V_drewN | apply Kd.V_drew)); exact HO402.out) hb); have n3_ := Aside0.mk (Kd.V_lower (Kd.V_mono (ok' := fun k_ => ((P0_ k_ ∨ P1_ k_) ∨ w.heap.size ≤ k_)) ho0 (fun k_ hk_ => Or.elim hk_ (fun hs_ => hs_) (fun hn_ => (.inr (Nat.le_trans (below_size (by repeat (first | (with_reducible first | exact HB.out | apply below_alloc | apply pw_below_drewN | apply below_drew1) | exact HB.out))) hn_))))) (below_size (by repeat (first | (with_reducible first | exact HB.out | apply below_alloc | apply pw_below_drewN | apply below_drew1) | exact HB.out)))); have n4_ := Aside0.mk (below_step (by repeat (first | (with_reducible first | exact HB.out | apply below_alloc | apply pw_below_drewN | apply below_drew1) | exact HB.out)) hb); clear HO0; clear HO1; clear HO402; clear HB; have HO0 := n0_; have HO1 := n1_; have HO402 := n2_; have HO405 := n3_; have HB := n4_; clear n0_ n1_ n2_ n3_ n4_; (try clear hb); (try clear hb2); (try clear hk); (try clear hi); (try clear ho0); obtain ⟨Ao14, co14, eo14⟩ := Kd.V_slice HO405.out; subst eo14; obtain ⟨Ao15, co15, eo15⟩ := Kd.V_slice HO402.out; subst eo15) | ((with_reducible refine gate_callee (f := 16) rfl ?_); refine goesL_ (some 33) rfl rfl Try.func16 (by kernel_rfl) rfl #[.slice Ao15 t400.length co15, .slice Ao14 t403.length co14] rfl (by (try simp only [List.map_toArray, List.map_cons, List.map_nil]); first | done | rfl | (simp only [List.length_drop, List.length_take]; rfl)) ?_; (with_reducible refine (nat_Cmp.calls k _ _ t400 _ _ t403 t406 _ ?side1 ?side2 ?side3 ?side4 A9.out).mono ?_); (case side1 => repeat (first | exact (Kd.V_reads' HO402.out).2.2 | (with_reducible refine Kd.C_alloc ?_ _) | (with_reducible refine Kd.C_drewN ?_ _) | (with_reducible refine Kd.C_drew ?_))); (case side2 => exact (Kd.V_reads' HO402.out).2.1); (case side3 => repeat (first | exact (Kd.V_reads' HO405.out).2.2 | (with_reducible refine Kd.C_alloc ?_ _) | (with_reducible refine Kd.C_drewN ?_ _) | (with_reducible refine Kd.C_drew ?_))); (case side4 => exact (Kd.V_reads' HO405.out).2.1); rintro e w16 ⟨rfl, hb⟩; refine ⟨_, rfl, ?_⟩; have n0_ := Aside0.mk (Kd.V_below (by (with_reducible repeat (first | apply Kd.V_alloc | apply Kd.V_drewN | apply Kd.V_drew)); exact HO0.out) hb); have n1_ := Aside0.mk (Kd.V_below (by (with_reducible repeat (first | apply Kd.V_alloc | apply Kd.V_drewN | apply Kd.V_drew)); exact HO1.out) hb); have n2_ := Aside0.mk (Kd.V_below (by (with_reducible repeat (first | apply Kd.V_alloc | apply Kd.V_drewN | apply Kd.V_drew)); exact HO402.out) hb); have n3_ := Aside0.mk (Kd.V_below (by (with_reducible repeat (first | apply Kd.V_alloc | apply Kd.V_drewN | apply Kd.V_drew)); exact HO405.out) hb); have n4_ := Aside0.mk (below_step (by repeat (first | (with_reducible first | exact HB.out | apply below_alloc | apply pw_below_drewN | apply below_drew1) | exact HB.out)) hb); clear HO0; clear HO1; clear HO402; clear HO405; clear HB; have HO0 := n0_; have HO1 := n1_; have HO402 := n2_; have HO405 := n3_; have HB := n4_; clear n0_ n1_ n2_ n3_ n4_; (try clear hb); (try clear hb2); (try clear hk); (try clear hi)) | ((with_reducible refine gate_callee (f := 21) rfl ?_); refine goesL_ (some 36) rfl rfl Try.func21 (by kernel_rfl) rfl #[.slice Ao15 t400.length co15] rfl (by (try simp only [List.map_toArray, List.map_cons, List.map_nil]); first | done | rfl | (simp only [List.length_drop, List.length_take]; rfl)) ?_; (with_reducible refine (nat_Trim.calls k _ _ t400 t407 _ ?side1 ?side2 A11.out).mono ?_); (case side1 => repeat (first | exact (Kd.V_reads' HO402.out).2.2 | (with_reducible refine Kd.C_alloc ?_ _) | (with_reducible refine Kd.C_drewN ?_ _) | (with_reducible refine Kd.C_drew ?_))); (case side2 => exact (Kd.V_reads' HO402.out).2.1); rintro e w17 ⟨v408, rfl, ho0, hb⟩; refine ⟨_, rfl, ?_⟩; have n0_ := Aside0.mk (Kd.V_elder' (by (with_reducible repeat (first | apply Kd.V_alloc | apply Kd.V_drewN | apply Kd.V_drew)); exact HO0.out) (Kd.R_base ho0) hb); have n1_ := Aside0.mk (Kd.V_elder' (by (with_reducible repeat (first | apply Kd.V_alloc | apply Kd.V_drewN | apply Kd.V_drew)); exact HO1.out) (Kd.R_base ho0) hb); have n2_ := Aside0.mk (Kd.V_elder' (by (with_reducible repeat (first | apply Kd.V_alloc | apply Kd.V_drewN | apply Kd.V_drew)); exact HO402.out) (Kd.R_base ho0) hb); have n3_ := Aside0.mk (Kd.V_elder' (by (with_reducible repeat (first | apply Kd.V_alloc | apply Kd.V_drewN | apply Kd.V_drew)); exact HO405.out) (Kd.R_base ho0) hb); have n4_ := Aside0.mk (Kd.R_lower (Kd.R_newM (M := fun k_ => (w.heap.size ≤ k_)) ho0 (below_size (by repeat (first | (with_reducible first | exact HB.out | apply below_alloc | apply pw_below_drewN | apply below_drew1) | exact HB.out))) (fun k_ h_ => h_)) (below_size (by repeat (first | (with_reducible first | exact HB.out | apply below_alloc | apply pw_below_drewN | apply below_drew1) | exact HB.out)))); have n5_ := Aside0.mk (below_step (by repeat (first | (with_reducible first | exact HB.out | apply below_alloc | apply pw_below_drewN | apply below_drew1) | exact HB.out)) hb); clear HO0; clear HO1; clear HO402; clear HO405; clear HB; have HO0 := n0_; have HO1 := n1_; have HO402 := n2_; have HO405 := n3_; have HO409 := n4_; have HB := n5_; clear n0_ n1_ n2_ n3_ n4_ n5_; (try clear hb); (try clear hb2); (try clear hk); (try clear hi); (try clear ho0)))
   go_ret2
   exact ⟨_, _, by first | rfl | (simp [errW_none, errW_some] <;> rfl) | (simp [*, errW_none, errW_some] <;> rfl), Kd.V_nil _ _ _ _ _, Kd.V_mono (Kd.R_V (by (with_reducible repeat (first | apply Kd.R_alloc | apply Kd.R_drewN | apply Kd.R_drew)); exact Kd.R_mono HO409.out (fun _ hk => hk.1))) (fun k_ hk => by first | exact ⟨(.inr (hk.1)), hk.2⟩ | exact (.inr (hk))), by repeat (first | (with_reducible first | exact HB.out | apply below_alloc | apply pw_below_drewN | apply below_drew1) | exact HB.out)⟩
  ·rw [if_neg c10] at H
   have c10b0 : decide (t406 < 0) = false := decide_eq_false c10
   clear c10
   by_cases c18 : (t403.length : Int) = 1
   ·rw [if_pos c18] at H
    have c18b0 : ((t403.length : Int) == 1) = true := beq_iff_eq.mpr c18
    have c18b1 : ((t403.length : Int) != 1) = false := bne_eq_false_iff_eq.mpr c18
    clear c18
    by_cases c19 : 0 < (t403.length : Int)
    ·rw [if_pos c19] at H
     have c19b0 : decide (0 < (t403.length : Int)) = true := decide_eq_true c19
     have c19b1 : decide (0 < t403.length) = true := decide_eq_true (by omega)
     clear c19
     replace H := Option.bind_eq_some_iff.mp H
     obtain ⟨⟨t411, t414⟩, A200, H⟩ := H
     replace H : ((nat_Of.f k (IntKind.u64.wrap (t414))).bind fun t415 => (some (t411, t415))) = some (r1, r2) := H
     have A20 := Aside0.mk A200
     clear A200
     replace H := Option.bind_eq_some_iff.mp H
     obtain ⟨t415, A210, H⟩ := H
     replace H : (some (t411, t415)) = some (r1, r2) := H
     have A21 := Aside0.mk A210
     clear A210
     simp only [Option.some.injEq, Prod.mk.injEq] at H
     obtain ⟨rfl, rfl⟩ := H
     go_enter Try.func31, Try.ntmps31
     go_wp2_with (first | ((with_reducible refine gate_callee (f := 35) rfl ?_); refine goesL_ (some 23) rfl rfl Try.func35 (by kernel_rfl) rfl #[.slice A0 l0.length c0] rfl (by (try simp only [List.map_toArray, List.map_cons, List.map_nil]); first | done | rfl | (simp only [List.length_drop, List.length_take]; rfl)) ?_; (with_reducible refine (nat_trim.calls k (fun k_ => ((P0_ k_ ∨ P1_ k_) ∨ w.heap.size ≤ k_)) _ _ l0 t400 _ ?side1 A3.out).mono ?_); (case side1 => exact HO0.out); rintro e w22 ⟨v401, rfl, ho0, hb⟩; refine ⟨_, rfl, ?_⟩; have n0_ := Aside0.mk (Kd.V_below (by (with_reducible repeat (first | apply Kd.V_alloc | apply Kd.V_drewN | apply Kd.V_drew)); exact HO0.out) hb); have n1_ := Aside0.mk (Kd.V_below (by (with_reducible repeat (first | apply Kd.V_alloc | apply Kd.V_drewN | apply Kd.V_drew)); exact HO1.out) hb); have n2_ := Aside0.mk (Kd.V_lower (Kd.V_mono (ok' := fun k_ => ((P0_ k_ ∨ P1_ k_) ∨ w.heap.size ≤ k_)) ho0 (fun k_ hk_ => Or.elim hk_ (fun hs_ => hs_) (fun hn_ => (.inr (Nat.le_trans (below_size (by repeat (first | (with_reducible first | exact HB.out | apply below_alloc | apply pw_below_drewN | apply below_drew1) | exact HB.out))) hn_))))) (below_size (by repeat (first | (with_reducible first | exact HB.out | apply below_alloc | apply pw_below_drewN | apply below_drew1) | exact HB.out)))); have n3_ := Aside0.mk (below_step (by repeat (first | (with_reducible first | exact HB.out | apply below_alloc | apply pw_below_drewN | apply below_drew1) | exact HB.out)) hb); clear HO0; clear HO1; clear HB; have HO0 := n0_; have HO1 := n1_; have HO402 := n2_; have HB := n3_; clear n0_ n1_ n2_ n3_; (try clear hb); (try clear hb2); (try clear hk); (try clear hi); (try clear ho0)) | ((with_reducible refine gate_callee (f := 35) rfl ?_); refine goesL_ (some 25) rfl rfl Try.func35 (by kernel_rfl) rfl #[.slice A1 l1.length c1] rfl (by (try simp only [List.map_toArray, List.map_cons, List.map_nil]); first | done | rfl | (simp only [List.length_drop, List.length_take]; rfl)) ?_; (with_reducible refine (nat_trim.calls k (fun k_ => ((P0_ k_ ∨ P1_ k_) ∨ w.heap.size ≤ k_)) _ _ l1 t403 _ ?side1 A4.out).mono ?_); (case side1 => exact HO1.out); rintro e w23 ⟨v404, rfl, ho0, hb⟩; refine ⟨_, rfl, ?_⟩; have n0_ := Aside0.mk (Kd.V_below (by (with_reducible repeat (first | apply Kd.V_alloc | apply Kd.V_drewN | apply Kd.V_drew)); exact HO0.out) hb); have n1_ := Aside0.mk (Kd.V_below (by (with_reducible repeat (first | apply Kd.V_alloc | apply Kd.V_drewN | apply Kd.V_drew)); exact HO1.out) hb); have n2_ := Aside0.mk (Kd.V_below (by (with_reducible repeat (first | apply Kd.V_alloc | apply Kd.V_drewN | apply Kd.V_drew)); exact HO402.out) hb); have n3_ := Aside0.mk (Kd.V_lower (Kd.V_mono (ok' := fun k_ => ((P0_ k_ ∨ P1_ k_) ∨ w.heap.size ≤ k_)) ho0 (fun k_ hk_ => Or.elim hk_ (fun hs_ => hs_) (fun hn_ => (.inr (Nat.le_trans (below_size (by repeat (first | (with_reducible first | exact HB.out | apply below_alloc | apply pw_below_drewN | apply below_drew1) | exact HB.out))) hn_))))) (below_size (by repeat (first | (with_reducible first | exact HB.out | apply below_alloc | apply pw_below_drewN | apply below_drew1) | exact HB.out)))); have n4_ := Aside0.mk (below_step (by repeat (first | (with_reducible first | exact HB.out | apply below_alloc | apply pw_below_drewN | apply below_drew1) | exact HB.out)) hb); clear HO0; clear HO1; clear HO402; clear HB; have HO0 := n0_; have HO1 := n1_; have HO402 := n2_; have HO405 := n3_; have HB := n4_; clear n0_ n1_ n2_ n3_ n4_; (try clear hb); (try clear hb2); (try clear hk); (try clear hi); (try clear ho0); obtain ⟨Ao24, co24, eo24⟩ := Kd.V_slice HO405.out; subst eo24; obtain ⟨Ao25, co25, eo25⟩ := Kd.V_slice HO402.out; subst eo25) | ((with_reducible refine gate_callee (f := 16) rfl ?_); refine goesL_ (some 33) rfl rfl Try.func16 (by kernel_rfl) rfl #[.slice Ao25 t400.length co25, .slice Ao24 t403.length co24] rfl (by (try simp only [List.map_toArray, List.map_cons, List.map_nil]); first | done | rfl | (simp only [List.length_drop, List.length_take]; rfl)) ?_; (with_reducible refine (nat_Cmp.calls k _ _ t400 _ _ t403 t406 _ ?side1 ?side2 ?side3 ?side4 A9.out).mono ?_); (case side1 => repeat (first | exact (Kd.V_reads' HO402.out).2.2 | (with_reducible refine Kd.C_alloc ?_ _) | (with_reducible refine Kd.C_drewN ?_ _) | (with_reducible refine Kd.C_drew ?_))); (case side2 => exact (Kd.V_reads' HO402.out).2.1); (case side3 => repeat (first | exact (Kd.V_reads' HO405.out).2.2 | (with_reducible refine Kd.C_alloc ?_ _) | (with_reducible refine Kd.C_drewN ?_ _) | (with_reducible refine Kd.C_drew ?_))); (case side4 => exact (Kd.V_reads' HO405.out).2.1); rintro e w26 ⟨rfl, hb⟩; refine ⟨_, rfl, ?_⟩; have n0_ := Aside0.mk (Kd.V_below (by (with_reducible repeat (first | apply Kd.V_alloc | apply Kd.V_drewN | apply Kd.V_drew)); exact HO0.out) hb); have n1_ := Aside0.mk (Kd.V_below (by (with_reducible repeat (first | apply Kd.V_alloc | apply Kd.V_drewN | apply Kd.V_drew)); exact HO1.out) hb); have n2_ := Aside0.mk (Kd.V_below (by (with_reducible repeat (first | apply Kd.V_alloc | apply Kd.V_drewN | apply Kd.V_drew)); exact HO402.out) hb); have n3_ := Aside0.mk (Kd.V_below (by (with_reducible repeat (first | apply Kd.V_alloc | apply Kd.V_drewN | apply Kd.V_drew)); exact HO405.out) hb); have n4_ := Aside0.mk (below_step (by repeat (first | (with_reducible first | exact HB.out | apply below_alloc | apply pw_below_drewN | apply below_drew1) | exact HB.out)) hb); clear HO0; clear HO1; clear HO402; clear HO405; clear HB; have HO0 := n0_; have HO1 := n1_; have HO402 := n2_; have HO405 := n3_; have HB := n4_; clear n0_ n1_ n2_ n3_ n4_; (try clear hb); (try clear hb2); (try clear hk); (try clear hi); have p410 : 0 ≤ (0 : Int) := (by omega); have q410 : 0 < (t403.length : Int) := of_decide_eq_true (by first | (with_reducible assumption) | assumption); obtain ⟨ad410, e410, hx410_0⟩ := Kd.at_int (Kd.V_reads' HO405.out).2.2 0 p410 q410; cases e410; have qi410 : (0 < t403.length) = True := eq_true (by omega); (try rw [show ((0 : Int)).toNat = 0 from rfl] at hx410_0); (try rw [Addr.add_zero'] at hx410_0); replace p410 := eq_true p410; replace q410 := eq_true q410) | ((with_reducible refine gate_callee (f := 40) rfl ?_); refine goesL_ (some 46) rfl rfl Try.func40 (by kernel_rfl) rfl #[.slice Ao25 t400.length co25, .int .u32 (rd t403 0)] rfl (by (try simp only [List.map_toArray, List.map_cons, List.map_nil]); first | done | rfl | (simp only [List.length_drop, List.length_take]; rfl)) ?_; (with_reducible refine (nat_limb.calls k _ _ t400 (rd t403 0) t411 t414 _ ?side1 ?side2 A20.out).mono ?_); (case side1 => repeat (first | exact (Kd.V_reads' HO402.out).2.2 | (with_reducible refine Kd.C_alloc ?_ _) | (with_reducible refine Kd.C_drewN ?_ _) | (with_reducible refine Kd.C_drew ?_))); (case side2 => exact (Kd.V_reads' HO402.out).2.1); rintro e w27 ⟨v412, rfl, ho0, hb⟩; refine ⟨_, rfl, ?_⟩; have n0_ := Aside0.mk (Kd.V_below (by (with_reducible repeat (first | apply Kd.V_alloc | apply Kd.V_drewN | apply Kd.V_drew)); exact HO0.out) hb); have n1_ := Aside0.mk (Kd.V_below (by (with_reducible repeat (first | apply Kd.V_alloc | apply Kd.V_drewN | apply Kd.V_drew)); exact HO1.out) hb); have n2_ := Aside0.mk (Kd.V_below (by (with_reducible repeat (first | apply Kd.V_alloc | apply Kd.V_drewN | apply Kd.V_drew)); exact HO402.out) hb); have n3_ := Aside0.mk (Kd.V_below (by (with_reducible repeat (first | apply Kd.V_alloc | apply Kd.V_drewN | apply Kd.V_drew)); exact HO405.out) hb); have n4_ := Aside0.mk (Kd.V_lower (Kd.V_mono (ok' := fun k_ => ((P0_ k_ ∨ P1_ k_) ∨ w.heap.size ≤ k_)) ho0 (fun k_ hk_ => (.inr (Nat.le_trans (below_size (by repeat (first | (with_reducible first | exact HB.out | apply below_alloc | apply pw_below_drewN | apply below_drew1) | exact HB.out))) hk_)))) (below_size (by repeat (first | (with_reducible first | exact HB.out | apply below_alloc | apply pw_below_drewN | apply below_drew1) | exact HB.out)))); have n5_ := Aside0.mk (below_step (by repeat (first | (with_reducible first | exact HB.out | apply below_alloc | apply pw_below_drewN | apply below_drew1) | exact HB.out)) hb); clear HO0; clear HO1; clear HO402; clear HO405; clear HB; have HO0 := n0_; have HO1 := n1_; have HO402 := n2_; have HO405 := n3_; have HO413 := n4_; have HB := n5_; clear n0_ n1_ n2_ n3_ n4_ n5_; (try clear hb); (try clear hb2); (try clear hk); (try clear hi); (try clear ho0)) | ((with_reducible refine gate_callee (f := 23) rfl ?_); refine goesL_ (some 52) rfl rfl Try.func23 (by kernel_rfl) rfl #[.int .u64 (IntKind.u64.wrap (t414))] rfl (by (try simp only [List.map_toArray, List.map_cons, List.map_nil]); first | done | rfl | (simp only [List.length_drop, List.length_take]; rfl)) ?_; (with_reducible refine (nat_Of.calls k (IntKind.u64.wrap (t414)) t415 _ A21.out).mono ?_); rintro e w28 ⟨v416, rfl, ho0, hb⟩; refine ⟨_, rfl, ?_⟩; have n0_ := Aside0.mk (Kd.V_below (by (with_reducible repeat (first | apply Kd.V_alloc | apply Kd.V_drewN | apply Kd.V_drew)); exact HO0.out) hb); have n1_ := Aside0.mk (Kd.V_below (by (with_reducible repeat (first | apply Kd.V_alloc | apply Kd.V_drewN | apply Kd.V_drew)); exact HO1.out) hb); have n2_ := Aside0.mk (Kd.V_below (by (with_reducible repeat (first | apply Kd.V_alloc | apply Kd.V_drewN | apply Kd.V_drew)); exact HO402.out) hb); have n3_ := Aside0.mk (Kd.V_below (by (with_reducible repeat (first | apply Kd.V_alloc | apply Kd.V_drewN | apply Kd.V_drew)); exact HO405.out) hb); have n4_ := Aside0.mk (Kd.V_below (by (with_reducible repeat (first | apply Kd.V_alloc | apply Kd.V_drewN | apply Kd.V_drew)); exact HO413.out) hb); have n5_ := Aside0.mk (Kd.V_lower (Kd.V_mono (ok' := fun k_ => ((P0_ k_ ∨ P1_ k_) ∨ w.heap.size ≤ k_)) ho0 (fun k_ hk_ => (.inr (Nat.le_trans (below_size (by repeat (first | (with_reducible first | exact HB.out | apply below_alloc | apply pw_below_drewN | apply below_drew1) | exact HB.out))) hk_)))) (below_size (by repeat (first | (with_reducible first | exact HB.out | apply below_alloc | apply pw_below_drewN | apply below_drew1) | exact HB.out)))); have n6_ := Aside0.mk (below_step (by repeat (first | (with_reducible first | exact HB.out | apply below_alloc | apply pw_below_drewN | apply below_drew1) | exact HB.out)) hb); clear HO0; clear HO1; clear HO402; clear HO405; clear HO413; clear HB; have HO0 := n0_; have HO1 := n1_; have HO402 := n2_; have HO405 := n3_; have HO413 := n4_; have HO417 := n5_; have HB := n6_; clear n0_ n1_ n2_ n3_ n4_ n5_ n6_; (try clear hb); (try clear hb2); (try clear hk); (try clear hi); (try clear ho0)))
     go_ret2
     exact ⟨_, _, by first | rfl | (simp [errW_none, errW_some] <;> rfl) | (simp [*, errW_none, errW_some] <;> rfl), by (with_reducible repeat (first | apply Kd.V_alloc | apply Kd.V_drewN | apply Kd.V_drew)); exact HO413.out, by (with_reducible repeat (first | apply Kd.V_alloc | apply Kd.V_drewN | apply Kd.V_drew)); exact HO417.out, by repeat (first | (with_reducible first | exact HB.out | apply below_alloc | apply pw_below_drewN | apply below_drew1) | exact HB.out)⟩
    ·rw [if_neg c19] at H
     exact absurd H (by simp)
   ·rw [if_neg c18] at H
    have c18b0 : ((t403.length : Int) == 1) = false := beq_eq_false_iff_ne.mpr c18
    have c18b1 : ((t403.length : Int) != 1) = true := bne_iff_ne.mpr c18
    obtain ⟨ji29, hji29⟩ : ∃ j_ : Int, (wrap64 ((t403.length : Int) - 1)) = j_ := ⟨_, rfl⟩
    replace H : (if 0 ≤ (ji29) then (if (ji29) < (t403.length : Int) then ((bits_LeadingZeros32.f (rd t403 (ji29))).bind fun t419 => ((nat_shl.f k t400 (IntKind.u64.wrap (t419))).bind fun t420 => ((nat_shl.f k t403 (IntKind.u64.wrap (t419))).bind fun t423 => (if 0 ≤ (t403.length : Int) then (if (t403.length : Int) ≤ (t423.length : Int) then ((some (t423.take ((t403.length : Int) : Int).toNat : List Int)).bind fun y426 => (if 0 ≤ (wrap64 ((t420.length : Int) - (y426.length : Int))) then (if (wrap64 ((t420.length : Int) - (y426.length : Int)) : Int).toNat ≤ 70368744177664 then (if 0 ≤ (wrap64 ((y426.length : Int) - 1)) then (if (wrap64 ((y426.length : Int) - 1)) < (y426.length : Int) then (if 0 ≤ (wrap64 ((y426.length : Int) - 2)) then (if (wrap64 ((y426.length : Int) - 2)) < (y426.length : Int) then (nat_Div.l0 k (IntKind.u64.wrap (t419)) t420 y426 (y426.length : Int) (List.replicate (wrap64 ((t420.length : Int) - (y426.length : Int)) : Int).toNat 0) (IntKind.u64.wrap (rd y426 (wrap64 ((y426.length : Int) - 1)))) (IntKind.u64.wrap (rd y426 (wrap64 ((y426.length : Int) - 2)))) (wrap64 ((wrap64 ((t420.length : Int) - (y426.length : Int))) - 1))) else (none)) else (none)) else (none)) else (none)) else (none)) else (none))) else (none)) else (none))))) else (none)) else (none)) = some (r1, r2) := by first | (rw [hji29] at H; exact H) | (simp only [hji29] at H ⊢; exact H)
    (try rw [hji29] at A3)
    (try rw [hji29] at A4)
    (try rw [hji29] at A9)
    have hji29w : (IntKind.i64.wrap ((t403.length : Int) - 1)) = ji29 := (i64_w _).trans hji29
    by_cases c30 : 0 ≤ (ji29)
    ·rw [if_pos c30] at H
     have c30b0 : decide (0 ≤ (ji29)) = true := decide_eq_true c30
     clear c30
     by_cases c31 : (ji29) < (t403.length : Int)
     ·rw [if_pos c31] at H
      have c31b0 : decide ((ji29) < (t403.length : Int)) = true := decide_eq_true c31
      clear c31
      replace H := Option.bind_eq_some_iff.mp H
      obtain ⟨t419, A320, H⟩ := H
      replace H : ((nat_shl.f k t400 (IntKind.u64.wrap (t419))).bind fun t420 => ((nat_shl.f k t403 (IntKind.u64.wrap (t419))).bind fun t423 => (if 0 ≤ (t403.length : Int) then (if (t403.length : Int) ≤ (t423.length : Int) then ((some (t423.take ((t403.length : Int) : Int).toNat : List Int)).bind fun y426 => (if 0 ≤ (wrap64 ((t420.length : Int) - (y426.length : Int))) then (if (wrap64 ((t420.length : Int) - (y426.length : Int)) : Int).toNat ≤ 70368744177664 then (if 0 ≤ (wrap64 ((y426.length : Int) - 1)) then (if (wrap64 ((y426.length : Int) - 1)) < (y426.length : Int) then (if 0 ≤ (wrap64 ((y426.length : Int) - 2)) then (if (wrap64 ((y426.length : Int) - 2)) < (y426.length : Int) then (nat_Div.l0 k (IntKind.u64.wrap (t419)) t420 y426 (y426.length : Int) (List.replicate (wrap64 ((t420.length : Int) - (y426.length : Int)) : Int).toNat 0) (IntKind.u64.wrap (rd y426 (wrap64 ((y426.length : Int) - 1)))) (IntKind.u64.wrap (rd y426 (wrap64 ((y426.length : Int) - 2)))) (wrap64 ((wrap64 ((t420.length : Int) - (y426.length : Int))) - 1))) else (none)) else (none)) else (none)) else (none)) else (none)) else (none))) else (none)) else (none)))) = some (r1, r2) := H
      have A32 := Aside0.mk A320
      clear A320
      replace H := Option.bind_eq_some_iff.mp H
      obtain ⟨t420, A330, H⟩ := H
      replace H : ((nat_shl.f k t403 (IntKind.u64.wrap (t419))).bind fun t423 => (if 0 ≤ (t403.length : Int) then (if (t403.length : Int) ≤ (t423.length : Int) then ((some (t423.take ((t403.length : Int) : Int).toNat : List Int)).bind fun y426 => (if 0 ≤ (wrap64 ((t420.length : Int) - (y426.length : Int))) then (if (wrap64 ((t420.length : Int) - (y426.length : Int)) : Int).toNat ≤ 70368744177664 then (if 0 ≤ (wrap64 ((y426.length : Int) - 1)) then (if (wrap64 ((y426.length : Int) - 1)) < (y426.length : Int) then (if 0 ≤ (wrap64 ((y426.length : Int) - 2)) then (if (wrap64 ((y426.length : Int) - 2)) < (y426.length : Int) then (nat_Div.l0 k (IntKind.u64.wrap (t419)) t420 y426 (y426.length : Int) (List.replicate (wrap64 ((t420.length : Int) - (y426.length : Int)) : Int).toNat 0) (IntKind.u64.wrap (rd y426 (wrap64 ((y426.length : Int) - 1)))) (IntKind.u64.wrap (rd y426 (wrap64 ((y426.length : Int) - 2)))) (wrap64 ((wrap64 ((t420.length : Int) - (y426.length : Int))) - 1))) else (none)) else (none)) else (none)) else (none)) else (none)) else (none))) else (none)) else (none))) = some (r1, r2) := H
      have A33 := Aside0.mk A330
      clear A330
      replace H := Option.bind_eq_some_iff.mp H
      obtain ⟨t423, A340, H⟩ := H
      replace H : (if 0 ≤ (t403.length : Int) then (if (t403.length : Int) ≤ (t423.length : Int) then ((some (t423.take ((t403.length : Int) : Int).toNat : List Int)).bind fun y426 => (if 0 ≤ (wrap64 ((t420.length : Int) - (y426.length : Int))) then (if (wrap64 ((t420.length : Int) - (y426.length : Int)) : Int).toNat ≤ 70368744177664 then (if 0 ≤ (wrap64 ((y426.length : Int) - 1)) then (if (wrap64 ((y426.length : Int) - 1)) < (y426.length : Int) then (if 0 ≤ (wrap64 ((y426.length : Int) - 2)) then (if (wrap64 ((y426.length : Int) - 2)) < (y426.length : Int) then (nat_Div.l0 k (IntKind.u64.wrap (t419)) t420 y426 (y426.length : Int) (List.replicate (wrap64 ((t420.length : Int) - (y426.length : Int)) : Int).toNat 0) (IntKind.u64.wrap (rd y426 (wrap64 ((y426.length : Int) - 1)))) (IntKind.u64.wrap (rd y426 (wrap64 ((y426.length : Int) - 2)))) (wrap64 ((wrap64 ((t420.length : Int) - (y426.length : Int))) - 1))) else (none)) else (none)) else (none)) else (none)) else (none)) else (none))) else (none)) else (none)) = some (r1, r2) := H
      have A34 := Aside0.mk A340
      clear A340
      by_cases c35 : 0 ≤ (t403.length : Int)
      ·rw [if_pos c35] at H
       have c35b0 := eq_true c35
       have c35b1 : decide (0 ≤ (t403.length : Int)) = true := decide_eq_true c35
       clear c35
       by_cases c36 : (t403.length : Int) ≤ (t423.length : Int)
       ·rw [if_pos c36] at H
        have c36b0 := eq_true c36
        have c36b1 : decide ((t403.length : Int) ≤ (t423.length : Int)) = true := decide_eq_true c36
        clear c36
        obtain ⟨y426, hy426⟩ : ∃ y_ : List Int, y_ = (t423.take ((t403.length : Int) : Int).toNat) := ⟨_, rfl⟩
        replace H : (if 0 ≤ (wrap64 ((t420.length : Int) - (y426.length : Int))) then (if (wrap64 ((t420.length : Int) - (y426.length : Int)) : Int).toNat ≤ 70368744177664 then (if 0 ≤ (wrap64 ((y426.length : Int) - 1)) then (if (wrap64 ((y426.length : Int) - 1)) < (y426.length : Int) then (if 0 ≤ (wrap64 ((y426.length : Int) - 2)) then (if (wrap64 ((y426.length : Int) - 2)) < (y426.length : Int) then (nat_Div.l0 k (IntKind.u64.wrap (t419)) t420 y426 (y426.length : Int) (List.replicate (wrap64 ((t420.length : Int) - (y426.length : Int)) : Int).toNat 0) (IntKind.u64.wrap (rd y426 (wrap64 ((y426.length : Int) - 1)))) (IntKind.u64.wrap (rd y426 (wrap64 ((y426.length : Int) - 2)))) (wrap64 ((wrap64 ((t420.length : Int) - (y426.length : Int))) - 1))) else (none)) else (none)) else (none)) else (none)) else (none)) else (none)) = some (r1, r2) := by first | (rw [hy426]; with_reducible exact H) | (have H2_ := (Option.bind_some _ _).symm.trans H; rw [hy426]; with_reducible exact H2_) | (have H2_ := (Option.bind_some _ _).symm.trans H; with_reducible exact H2_) | with_reducible exact H | (rw [hy426]; exact H) | exact H
        have Ny426 := Aside0.mk hy426
        clear hy426
        obtain ⟨ji37, hji37⟩ : ∃ j_ : Int, (wrap64 ((t420.length : Int) - (y426.length : Int))) = j_ := ⟨_, rfl⟩
        replace H : (if 0 ≤ (ji37) then (if (ji37 : Int).toNat ≤ 70368744177664 then (if 0 ≤ (wrap64 ((y426.length : Int) - 1)) then (if (wrap64 ((y426.length : Int) - 1)) < (y426.length : Int) then (if 0 ≤ (wrap64 ((y426.length : Int) - 2)) then (if (wrap64 ((y426.length : Int) - 2)) < (y426.length : Int) then (nat_Div.l0 k (IntKind.u64.wrap (t419)) t420 y426 (y426.length : Int) (List.replicate (ji37 : Int).toNat 0) (IntKind.u64.wrap (rd y426 (wrap64 ((y426.length : Int) - 1)))) (IntKind.u64.wrap (rd y426 (wrap64 ((y426.length : Int) - 2)))) (wrap64 ((ji37) - 1))) else (none)) else (none)) else (none)) else (none)) else (none)) else (none)) = some (r1, r2) := by first | (rw [hji37] at H; exact H) | (simp only [hji37] at H ⊢; exact H)
        (try rw [hji37] at A3)
        (try rw [hji37] at A4)
        (try rw [hji37] at A9)
        (try rw [hji37] at A32)
        (try rw [hji37] at A33)
        (try rw [hji37] at A34)
        have hji37w : (IntKind.i64.wrap ((t420.length : Int) - (y426.length : Int))) = ji37 := (i64_w _).trans hji37
        by_cases c38 : 0 ≤ (ji37)
        ·rw [if_pos c38] at H
         have c38b0 := eq_true c38
         have c38b1 : decide (0 ≤ (ji37)) = true := decide_eq_true c38
         clear c38
         by_cases c39 : (ji37 : Int).toNat ≤ 70368744177664
         ·rw [if_pos c39] at H
          have c39b0 := eq_true c39
          have c39b1 : decide ((ji37 : Int).toNat ≤ 70368744177664) = true := decide_eq_true c39
          clear c39
          obtain ⟨y429, hy429⟩ : ∃ y_ : List Int, y_ = (List.replicate (ji37 : Int).toNat 0) := ⟨_, rfl⟩
          replace H : (if 0 ≤ (wrap64 ((y426.length : Int) - 1)) then (if (wrap64 ((y426.length : Int) - 1)) < (y426.length : Int) then (if 0 ≤ (wrap64 ((y426.length : Int) - 2)) then (if (wrap64 ((y426.length : Int) - 2)) < (y426.length : Int) then (nat_Div.l0 k (IntKind.u64.wrap (t419)) t420 y426 (y426.length : Int) y429 (IntKind.u64.wrap (rd y426 (wrap64 ((y426.length : Int) - 1)))) (IntKind.u64.wrap (rd y426 (wrap64 ((y426.length : Int) - 2)))) (wrap64 ((ji37) - 1))) else (none)) else (none)) else (none)) else (none)) = some (r1, r2) := by first | (rw [hy429]; with_reducible exact H) | (have H2_ := (Option.bind_some _ _).symm.trans H; rw [hy429]; with_reducible exact H2_) | (have H2_ := (Option.bind_some _ _).symm.trans H; with_reducible exact H2_) | with_reducible exact H | (rw [hy429]; exact H) | exact H
          have Ny429 := Aside0.mk hy429
          clear hy429
          obtain ⟨ji40, hji40⟩ : ∃ j_ : Int, (wrap64 ((y426.length : Int) - 1)) = j_ := ⟨_, rfl⟩
          replace H : (if 0 ≤ (ji40) then (if (ji40) < (y426.length : Int) then (if 0 ≤ (wrap64 ((y426.length : Int) - 2)) then (if (wrap64 ((y426.length : Int) - 2)) < (y426.length : Int) then (nat_Div.l0 k (IntKind.u64.wrap (t419)) t420 y426 (y426.length : Int) y429 (IntKind.u64.wrap (rd y426 (ji40))) (IntKind.u64.wrap (rd y426 (wrap64 ((y426.length : Int) - 2)))) (wrap64 ((ji37) - 1))) else (none)) else (none)) else (none)) else (none)) = some (r1, r2) := by first | (rw [hji40] at H; exact H) | (simp only [hji40] at H ⊢; exact H)
          (try rw [hji40] at A3)
          (try rw [hji40] at A4)
          (try rw [hji40] at A9)
          (try rw [hji40] at A32)
          (try rw [hji40] at A33)
          (try rw [hji40] at A34)
          have hji40w : (IntKind.i64.wrap ((y426.length : Int) - 1)) = ji40 := (i64_w _).trans hji40
          by_cases c41 : 0 ≤ (ji40)
          ·rw [if_pos c41] at H
           have c41b0 : decide (0 ≤ (ji40)) = true := decide_eq_true c41
           clear c41
           by_cases c42 : (ji40) < (y426.length : Int)
           ·rw [if_pos c42] at H
            have c42b0 : decide ((ji40) < (y426.length : Int)) = true := decide_eq_true c42
            clear c42
            obtain ⟨ji43, hji43⟩ : ∃ j_ : Int, (wrap64 ((y426.length : Int) - 2)) = j_ := ⟨_, rfl⟩
            replace H : (if 0 ≤ (ji43) then (if (ji43) < (y426.length : Int) then (nat_Div.l0 k (IntKind.u64.wrap (t419)) t420 y426 (y426.length : Int) y429 (IntKind.u64.wrap (rd y426 (ji40))) (IntKind.u64.wrap (rd y426 (ji43))) (wrap64 ((ji37) - 1))) else (none)) else (none)) = some (r1, r2) := by first | (rw [hji43] at H; exact H) | (simp only [hji43] at H ⊢; exact H)
            (try rw [hji43] at A3)
            (try rw [hji43] at A4)
            (try rw [hji43] at A9)
            (try rw [hji43] at A32)
            (try rw [hji43] at A33)
            (try rw [hji43] at A34)
            have hji43w : (IntKind.i64.wrap ((y426.length : Int) - 2)) = ji43 := (i64_w _).trans hji43
            by_cases c44 : 0 ≤ (ji43)
            ·rw [if_pos c44] at H
             have c44b0 : decide (0 ≤ (ji43)) = true := decide_eq_true c44
             clear c44
             by_cases c45 : (ji43) < (y426.length : Int)
             ·rw [if_pos c45] at H
              have c45b0 : decide ((ji43) < (y426.length : Int)) = true := decide_eq_true c45
              clear c45
              have H' := Aside0.mk H
              clear H
              go_enter Try.func31, Try.ntmps31
              try go_wp2_with (first | ((with_reducible refine gate_callee (f := 35) rfl ?_); refine goesL_ (some 23) rfl rfl Try.func35 (by kernel_rfl) rfl #[.slice A0 l0.length c0] rfl (by (try simp only [List.map_toArray, List.map_cons, List.map_nil]); first | done | rfl | (simp only [List.length_drop, List.length_take]; rfl)) ?_; (with_reducible refine (nat_trim.calls k (fun k_ => ((P0_ k_ ∨ P1_ k_) ∨ w.heap.size ≤ k_)) _ _ l0 t400 _ ?side1 A3.out).mono ?_); (case side1 => exact HO0.out); rintro e w46 ⟨v401, rfl, ho0, hb⟩; refine ⟨_, rfl, ?_⟩; have n0_ := Aside0.mk (Kd.V_below (by (with_reducible repeat (first | apply Kd.V_alloc | apply Kd.V_drewN | apply Kd.V_drew)); exact HO0.out) hb); have n1_ := Aside0.mk (Kd.V_below (by (with_reducible repeat (first | apply Kd.V_alloc | apply Kd.V_drewN | apply Kd.V_drew)); exact HO1.out) hb); have n2_ := Aside0.mk (Kd.V_lower (Kd.V_mono (ok' := fun k_ => ((P0_ k_ ∨ P1_ k_) ∨ w.heap.size ≤ k_)) ho0 (fun k_ hk_ => Or.elim hk_ (fun hs_ => hs_) (fun hn_ => (.inr (Nat.le_trans (below_size (by repeat (first | (with_reducible first | exact HB.out | apply below_alloc | apply pw_below_drewN | apply below_drew1) | exact HB.out))) hn_))))) (below_size (by repeat (first | (with_reducible first | exact HB.out | apply below_alloc | apply pw_below_drewN | apply below_drew1) | exact HB.out)))); have n3_ := Aside0.mk (below_step (by repeat (first | (with_reducible first | exact HB.out | apply below_alloc | apply pw_below_drewN | apply below_drew1) | exact HB.out)) hb); clear HO0; clear HO1; clear HB; have HO0 := n0_; have HO1 := n1_; have HO402 := n2_; have HB := n3_; clear n0_ n1_ n2_ n3_; (try clear hb); (try clear hb2); (try clear hk); (try clear hi); (try clear ho0)) | ((with_reducible refine gate_callee (f := 35) rfl ?_); refine goesL_ (some 25) rfl rfl Try.func35 (by kernel_rfl) rfl #[.slice A1 l1.length c1] rfl (by (try simp only [List.map_toArray, List.map_cons, List.map_nil]); first | done | rfl | (simp only [List.length_drop, List.length_take]; rfl)) ?_; (with_reducible refine (nat_trim.calls k (fun k_ => ((P0_ k_ ∨ P1_ k_) ∨ w.heap.size ≤ k_)) _ _ l1 t403 _ ?side1 A4.out).mono ?_); (case side1 => exact HO1.out); rintro e w47 ⟨v404, rfl, ho0, hb⟩; refine ⟨_, rfl, ?_⟩; have n0_ := Aside0.mk (Kd.V_below (by (with_reducible repeat (first | apply Kd.V_alloc | apply Kd.V_drewN | apply Kd.V_drew)); exact HO0.out) hb); have n1_ := Aside0.mk (Kd.V_below (by (with_reducible repeat (first | apply Kd.V_alloc | apply Kd.V_drewN | apply Kd.V_drew)); exact HO1.out) hb); have n2_ := Aside0.mk (Kd.V_below (by (with_reducible repeat (first | apply Kd.V_alloc | apply Kd.V_drewN | apply Kd.V_drew)); exact HO402.out) hb); have n3_ := Aside0.mk (Kd.V_lower (Kd.V_mono (ok' := fun k_ => ((P0_ k_ ∨ P1_ k_) ∨ w.heap.size ≤ k_)) ho0 (fun k_ hk_ => Or.elim hk_ (fun hs_ => hs_) (fun hn_ => (.inr (Nat.le_trans (below_size (by repeat (first | (with_reducible first | exact HB.out | apply below_alloc | apply pw_below_drewN | apply below_drew1) | exact HB.out))) hn_))))) (below_size (by repeat (first | (with_reducible first | exact HB.out | apply below_alloc | apply pw_below_drewN | apply below_drew1) | exact HB.out)))); have n4_ := Aside0.mk (below_step (by repeat (first | (with_reducible first | exact HB.out | apply below_alloc | apply pw_below_drewN | apply below_drew1) | exact HB.out)) hb); clear HO0; clear HO1; clear HO402; clear HB; have HO0 := n0_; have HO1 := n1_; have HO402 := n2_; have HO405 := n3_; have HB := n4_; clear n0_ n1_ n2_ n3_ n4_; (try clear hb); (try clear hb2); (try clear hk); (try clear hi); (try clear ho0); obtain ⟨Ao48, co48, eo48⟩ := Kd.V_slice HO405.out; subst eo48; obtain ⟨Ao49, co49, eo49⟩ := Kd.V_slice HO402.out; subst eo49) | ((with_reducible refine gate_callee (f := 16) rfl ?_); refine goesL_ (some 33) rfl rfl Try.func16 (by kernel_rfl) rfl #[.slice Ao49 t400.length co49, .slice Ao48 t403.length co48] rfl (by (try simp only [List.map_toArray, List.map_cons, List.map_nil]); first | done | rfl | (simp only [List.length_drop, List.length_take]; rfl)) ?_; (with_reducible refine (nat_Cmp.calls k _ _ t400 _ _ t403 t406 _ ?side1 ?side2 ?side3 ?side4 A9.out).mono ?_); (case side1 => repeat (first | exact (Kd.V_reads' HO402.out).2.2 | (with_reducible refine Kd.C_alloc ?_ _) | (with_reducible refine Kd.C_drewN ?_ _) | (with_reducible refine Kd.C_drew ?_))); (case side2 => exact (Kd.V_reads' HO402.out).2.1); (case side3 => repeat (first | exact (Kd.V_reads' HO405.out).2.2 | (with_reducible refine Kd.C_alloc ?_ _) | (with_reducible refine Kd.C_drewN ?_ _) | (with_reducible refine Kd.C_drew ?_))); (case side4 => exact (Kd.V_reads' HO405.out).2.1); rintro e w50 ⟨rfl, hb⟩; refine ⟨_, rfl, ?_⟩; have n0_ := Aside0.mk (Kd.V_below (by (with_reducible repeat (first | apply Kd.V_alloc | apply Kd.V_drewN | apply Kd.V_drew)); exact HO0.out) hb); have n1_ := Aside0.mk (Kd.V_below (by (with_reducible repeat (first | apply Kd.V_alloc | apply Kd.V_drewN | apply Kd.V_drew)); exact HO1.out) hb); have n2_ := Aside0.mk (Kd.V_below (by (with_reducible repeat (first | apply Kd.V_alloc | apply Kd.V_drewN | apply Kd.V_drew)); exact HO402.out) hb); have n3_ := Aside0.mk (Kd.V_below (by (with_reducible repeat (first | apply Kd.V_alloc | apply Kd.V_drewN | apply Kd.V_drew)); exact HO405.out) hb); have n4_ := Aside0.mk (below_step (by repeat (first | (with_reducible first | exact HB.out | apply below_alloc | apply pw_below_drewN | apply below_drew1) | exact HB.out)) hb); clear HO0; clear HO1; clear HO402; clear HO405; clear HB; have HO0 := n0_; have HO1 := n1_; have HO402 := n2_; have HO405 := n3_; have HB := n4_; clear n0_ n1_ n2_ n3_ n4_; (try clear hb); (try clear hb2); (try clear hk); (try clear hi); have p418 : 0 ≤ ((ji29) : Int) := of_decide_eq_true (by first | (with_reducible assumption) | assumption); have q418 : (ji29) < (t403.length : Int) := of_decide_eq_true (by first | (with_reducible assumption) | assumption); obtain ⟨ad418, e418, hx418_0⟩ := Kd.at_int (Kd.V_reads' HO405.out).2.2 (ji29) p418 q418; cases e418; replace p418 := eq_true p418; replace q418 := eq_true q418) | ((with_reducible refine gate_callee (f := 41) rfl ?_); refine goesL_ (some 59) rfl rfl Try.func41 (by kernel_rfl) rfl #[.int .u32 (rd t403 (ji29))] rfl (by (try simp only [List.map_toArray, List.map_cons, List.map_nil]); first | done | (simp only [hji29]; rfl) | rfl | (simp only [List.length_drop, List.length_take]; rfl)) ?_; (with_reducible refine (bits_LeadingZeros32.calls (rd t403 (ji29)) t419 _ A32.out).mono ?_); rintro e w' ⟨rfl, ⟨nd, rfl⟩⟩; refine ⟨_, rfl, ?_⟩))
              (try (rw [drewN_self w50]; generalize hq_ : World.drewN w50 _ = w50; have n0_ : Aside0 (Kd.V (Kd.int .u32) 46 w50 w.heap.size (fun k_ => ((P0_ k_ ∨ P1_ k_) ∨ w.heap.size ≤ k_)) (.slice A0 l0.length c0) l0) := ⟨by rw [← hq_]; exact (by (with_reducible repeat (first | apply Kd.V_alloc | apply Kd.V_drewN | apply Kd.V_drew)); exact HO0.out)⟩; have n1_ : Aside0 (Kd.V (Kd.int .u32) 46 w50 w.heap.size (fun k_ => ((P0_ k_ ∨ P1_ k_) ∨ w.heap.size ≤ k_)) (.slice A1 l1.length c1) l1) := ⟨by rw [← hq_]; exact (by (with_reducible repeat (first | apply Kd.V_alloc | apply Kd.V_drewN | apply Kd.V_drew)); exact HO1.out)⟩; have n2_ : Aside0 (Kd.V (Kd.int .u32) 46 w50 w.heap.size (fun k_ => ((P0_ k_ ∨ P1_ k_) ∨ w.heap.size ≤ k_)) (.slice Ao49 t400.length co49) t400) := ⟨by rw [← hq_]; exact (by (with_reducible repeat (first | apply Kd.V_alloc | apply Kd.V_drewN | apply Kd.V_drew)); exact HO402.out)⟩; have n3_ : Aside0 (Kd.V (Kd.int .u32) 46 w50 w.heap.size (fun k_ => ((P0_ k_ ∨ P1_ k_) ∨ w.heap.size ≤ k_)) (.slice (some ad418) t403.length co48) t403) := ⟨by rw [← hq_]; exact (by (with_reducible repeat (first | apply Kd.V_alloc | apply Kd.V_drewN | apply Kd.V_drew)); exact HO405.out)⟩; have n4_ : Aside0 (Below w.heap.size w w50) := ⟨by rw [← hq_]; exact (by repeat (first | (with_reducible first | exact HB.out | apply below_alloc | apply pw_below_drewN | apply below_drew1) | exact HB.out))⟩; clear HO0 HO1 HO402 HO405 HB hq_; have HO0 := n0_; have HO1 := n1_; have HO402 := n2_; have HO405 := n3_; have HB := n4_; clear n0_ n1_ n2_ n3_ n4_))
              have n0_ := Aside0.mk (Kd.V_drew HO0.out)
              have n1_ := Aside0.mk (Kd.V_drew HO1.out)
              have n2_ := Aside0.mk (Kd.V_drew HO402.out)
              have n3_ := Aside0.mk (Kd.V_drew HO405.out)
              have n4_ := Aside0.mk (below_drew1 HB.out)
              clear HO0
              clear HO1
              clear HO402
              clear HO405
              clear HB
              have HO0 := n0_
              have HO1 := n1_
              have HO402 := n2_
              have HO405 := n3_
              have HB := n4_
              clear n0_ n1_ n2_ n3_ n4_
              refine start_ (n := 11) (S := fun w' => True) (ds := []) #[false, false, false, false, false, false, false, false, false, false, false] (by kernel_rfl) rfl rfl trivial (fun hHeld => ?_); refine with_tabW nat_Div.tab10 nat_Div.bits10 (fun HT_ HW_ => ?_)
              generalize w50.drew = w51 at HO0 HO1 HO402 HO405 HB hHeld ⊢
              refine pure_ (i := 0) (N := some 61) (v := ?_) (a' := ?_) #[true, false, false, false, false, false, false, false, false, false, false] rfl rfl (any_of HT_.out (by kernel_rfl)) (fun _ _ _ h => h) (Or.inl ⟨by rfl, ?_⟩) ?_ ?_
              rotate_left
              ·intro w'
               go_simp
               with_reducible rfl
              rotate_left
              ·simp only [Act.put, List.setIfInBounds_toArray, List.set_cons_zero, List.set_cons_succ, i64_w, i32_w]
               rfl
              refine pure_ (i := 1) (N := some 62) (v := ?_) (a' := ?_) #[true, true, false, false, false, false, false, false, false, false, false] rfl rfl (any_of HT_.out (by kernel_rfl)) (fun _ _ _ h => h) (Or.inl ⟨by rfl, ?_⟩) ?_ ?_
              rotate_left
              ·intro w'
               go_simp
               with_reducible rfl
              rotate_left
              ·simp only [Act.put, List.setIfInBounds_toArray, List.set_cons_zero, List.set_cons_succ, i64_w, i32_w]
               rfl
              refine pure_ (i := 3) (N := some 64) (v := ?_) (a' := ?_) #[true, true, false, true, false, false, false, false, false, false, false] rfl rfl (any_of HT_.out (by kernel_rfl)) (fun _ _ _ h => h) (Or.inl ⟨by rfl, ?_⟩) ?_ ?_
              rotate_left
              ·intro w'
               go_simp
               with_reducible rfl
              rotate_left
              ·simp only [Act.put, List.setIfInBounds_toArray, List.set_cons_zero, List.set_cons_succ, i64_w, i32_w]
               rfl
              refine pure_ (i := 4) (N := some 65) (v := ?_) (a' := ?_) #[true, true, false, true, true, false, false, false, false, false, false] rfl rfl (any_of HT_.out (by kernel_rfl)) (fun _ _ _ h => h) (Or.inl ⟨by rfl, ?_⟩) ?_ ?_
              rotate_left
              ·intro w'
               go_simp
               with_reducible rfl
              rotate_left
              ·simp only [Act.put, List.setIfInBounds_toArray, List.set_cons_zero, List.set_cons_succ, i64_w, i32_w]
               rfl
              refine pure_ (i := 6) (N := some 67) (v := ?_) (a' := ?_) #[true, true, false, true, true, false, true, false, false, false, false] rfl rfl (any_of HT_.out (by kernel_rfl)) (fun _ _ _ h => h) (Or.inl ⟨by rfl, ?_⟩) ?_ ?_
              rotate_left
              ·intro w'
               go_simp
               with_reducible rfl
              rotate_left
              ·simp only [Act.put, List.setIfInBounds_toArray, List.set_cons_zero, List.set_cons_succ, i64_w, i32_w]
               rfl
              refine pure_ (i := 7) (N := some 68) (v := ?_) (a' := ?_) #[true, true, false, true, true, false, true, true, false, false, false] rfl rfl (any_of HT_.out (by kernel_rfl)) (fun _ _ _ h => h) (Or.inl ⟨by rfl, ?_⟩) ?_ ?_
              rotate_left
              ·intro w'
               go_simp
               with_reducible rfl
              rotate_left
              ·simp only [Act.put, List.setIfInBounds_toArray, List.set_cons_zero, List.set_cons_succ, i64_w, i32_w]
               rfl
              refine one_ (i := 2) (N := some 63) #[true, true, true, true, true, false, true, true, false, false, false] rfl rfl (one_of HT_.out (by kernel_rfl)) (by decide) (fun K hK => ?_)
              refine goes_ Try.func42 (by kernel_rfl) rfl #[.slice Ao49 t400.length co49, .int .u64 (IntKind.u64.wrap (t419))] (by rfl) rfl rfl (by (try simp only [List.map_toArray, List.map_cons, List.map_nil]); first | done | rfl | (simp only [List.length_drop, List.length_take]; rfl)) ?_
              with_reducible refine (nat_shl.calls k _ _ t400 (IntKind.u64.wrap (t419)) t420 _ ?side1 ?side2 A33.out).mono ?_
              (case side1 => repeat (first | exact (Kd.V_reads' HO402.out).2.2 | (with_reducible refine Kd.C_alloc ?_ _) | (with_reducible refine Kd.C_drewN ?_ _) | (with_reducible refine Kd.C_drew ?_)))
              (case side2 => exact (Kd.V_reads' HO402.out).2.1)
              rintro e w52 ⟨v421, rfl, ho0, hb⟩
              refine ⟨_, rfl, ?_⟩
              have n0_ := Aside0.mk (Kd.V_elder' (by (with_reducible repeat (first | apply Kd.V_alloc | apply Kd.V_drewN | apply Kd.V_drew)); exact HO0.out) (Kd.R_base ho0) hb)
              have n1_ := Aside0.mk (Kd.V_elder' (by (with_reducible repeat (first | apply Kd.V_alloc | apply Kd.V_drewN | apply Kd.V_drew)); exact HO1.out) (Kd.R_base ho0) hb)
              have n2_ := Aside0.mk (Kd.V_elder' (by (with_reducible repeat (first | apply Kd.V_alloc | apply Kd.V_drewN | apply Kd.V_drew)); exact HO402.out) (Kd.R_base ho0) hb)
              have n3_ := Aside0.mk (Kd.V_elder' (by (with_reducible repeat (first | apply Kd.V_alloc | apply Kd.V_drewN | apply Kd.V_drew)); exact HO405.out) (Kd.R_base ho0) hb)
              have n4_ := Aside0.mk (Kd.R_lower (Kd.R_newM (M := fun k_ => (w.heap.size ≤ k_)) ho0 (below_size (by repeat (first | (with_reducible first | exact HB.out | apply below_alloc | apply pw_below_drewN | apply below_drew1) | exact HB.out))) (fun k_ h_ => h_)) (below_size (by repeat (first | (with_reducible first | exact HB.out | apply below_alloc | apply pw_below_drewN | apply below_drew1) | exact HB.out))))
              have n5_ := Aside0.mk (below_step (by repeat (first | (with_reducible first | exact HB.out | apply below_alloc | apply pw_below_drewN | apply below_drew1) | exact HB.out)) hb)
              clear HO0
              clear HO1
              clear HO402
              clear HO405
              clear HB
              have HO0 := n0_
              have HO1 := n1_
              have HO402 := n2_
              have HO405 := n3_
              have HO422 := n4_
              have HB := n5_
              clear n0_ n1_ n2_ n3_ n4_ n5_
              (try clear hb)
              (try clear hb2)
              (try clear hk)
              (try clear hi)
              (try clear ho0)
              refine hK.out _ _ trivial (fun hHeld => ?_)
              clear hK K
              refine norm_ (a' := ?_) ?_ ?_
              rotate_left
              ·show Act.put _ (some 63) _ = _
               simp only [Act.put, List.setIfInBounds_toArray, List.set_cons_zero, List.set_cons_succ, i64_w, i32_w]
               rfl
              refine one_ (i := 5) (N := some 66) #[true, true, true, true, true, true, true, true, false, false, false] rfl rfl (one_of HT_.out (by kernel_rfl)) (by decide) (fun K hK => ?_)
              refine goes_ Try.func42 (by kernel_rfl) rfl #[.slice (some ad418) t403.length co48, .int .u64 (IntKind.u64.wrap (t419))] (by rfl) rfl rfl (by (try simp only [List.map_toArray, List.map_cons, List.map_nil]); first | done | rfl | (simp only [List.length_drop, List.length_take]; rfl)) ?_
              with_reducible refine (nat_shl.calls k _ _ t403 (IntKind.u64.wrap (t419)) t423 _ ?side1 ?side2 A34.out).mono ?_
              (case side1 => repeat (first | exact (Kd.V_reads' HO405.out).2.2 | (with_reducible refine Kd.C_alloc ?_ _) | (with_reducible refine Kd.C_drewN ?_ _) | (with_reducible refine Kd.C_drew ?_)))
              (case side2 => exact (Kd.V_reads' HO405.out).2.1)
              rintro e w53 ⟨v424, rfl, ho0, hb⟩
              refine ⟨_, rfl, ?_⟩
              have n0_ := Aside0.mk (Kd.V_elder' (by (with_reducible repeat (first | apply Kd.V_alloc | apply Kd.V_drewN | apply Kd.V_drew)); exact HO0.out) (Kd.R_base ho0) hb)
              have n1_ := Aside0.mk (Kd.V_elder' (by (with_reducible repeat (first | apply Kd.V_alloc | apply Kd.V_drewN | apply Kd.V_drew)); exact HO1.out) (Kd.R_base ho0) hb)
              have n2_ := Aside0.mk (Kd.V_elder' (by (with_reducible repeat (first | apply Kd.V_alloc | apply Kd.V_drewN | apply Kd.V_drew)); exact HO402.out) (Kd.R_base ho0) hb)
              have n3_ := Aside0.mk (Kd.V_elder' (by (with_reducible repeat (first | apply Kd.V_alloc | apply Kd.V_drewN | apply Kd.V_drew)); exact HO405.out) (Kd.R_base ho0) hb)
              have n4_ := Aside0.mk (Kd.R_elder' (by (with_reducible repeat (first | apply Kd.R_alloc | apply Kd.R_drewN | apply Kd.R_drew)); exact HO422.out) (Kd.R_base ho0) hb)
              have n5_ := Aside0.mk (Kd.R_lower (Kd.R_new' (Kd.R_newM (M := fun k_ => (w.heap.size ≤ k_)) ho0 (below_size (by repeat (first | (with_reducible first | exact HB.out | apply below_alloc | apply pw_below_drewN | apply below_drew1) | exact HB.out))) (fun k_ h_ => h_)) (Kd.R_lt (by (with_reducible repeat (first | apply Kd.R_alloc | apply Kd.R_drewN | apply Kd.R_drew)); exact HO422.out))) (below_size (by repeat (first | (with_reducible first | exact HB.out | apply below_alloc | apply pw_below_drewN | apply below_drew1) | exact HB.out))))
              have n6_ := Aside0.mk (below_step (by repeat (first | (with_reducible first | exact HB.out | apply below_alloc | apply pw_below_drewN | apply below_drew1) | exact HB.out)) hb)
              clear HO0
              clear HO1
              clear HO402
              clear HO405
              clear HO422
              clear HB
              have HO0 := n0_
              have HO1 := n1_
              have HO402 := n2_
              have HO405 := n3_
              have HO422 := n4_
              have HO425 := n5_
              have HB := n6_
              clear n0_ n1_ n2_ n3_ n4_ n5_ n6_
              (try clear hb)
              (try clear hb2)
              (try clear hk)
              (try clear hi)
              (try clear ho0)
              obtain ⟨Ao54, co54, eo54⟩ := Kd.R_slice HO425.out
              (first | subst eo54 | (injection eo54 with f1_ f2_ f3_; have f4_ := f1_.symm; have f5_ := f3_.symm; clear f1_ f2_ f3_; subst f4_; subst f5_))
              have q55 : ((t403.length : Int) : Int) ≤ ((t423.length : Int) : Int) := of_decide_eq_true (by first | (with_reducible assumption) | assumption)
              obtain ⟨i055, hi055, _, hsz55, _⟩ := info_parts info46
              have hcut55 := cut_to (P := Try.prog) 32 46 .i64 Try.underlying32 hi055 Ao54 t423.length co54 (t403.length : Int) (of_decide_eq_true (by first | (with_reducible assumption) | assumption)) q55 (Kd.R_reads' HO425.out).2.1
              have hr55 := Kd.R_take (m := ((t403.length : Int) : Int).toNat) HO425.out (by omega)
              have hy55 : y426.length = ((t403.length : Int) : Int).toNat := (by rw [Ny426.out, List.length_take]; omega)
              rw [← Ny426.out] at hr55
              rw [← hy55] at hr55 hcut55
              clear hy55 hi055 hsz55 HO425
              have HO428 := Aside0.mk hr55
              clear hr55
              replace q55 := eq_true q55
              refine hK.out _ _ trivial (fun hHeld => ?_)
              clear hK K
              refine norm_ (a' := ?_) ?_ ?_
              rotate_left
              ·show Act.put _ (some 66) _ = _
               simp only [Act.put, List.setIfInBounds_toArray, List.set_cons_zero, List.set_cons_succ, i64_w, i32_w]
               rfl
              refine pure_ (i := 8) (N := some 69) (v := ?_) (a' := ?_) #[true, true, true, true, true, true, true, true, true, false, false] rfl rfl (any_of HT_.out (by kernel_rfl)) (fun _ _ _ h => h) (Or.inl ⟨by rfl, ?_⟩) ?_ ?_
              rotate_left
              ·intro w'
               go_simp
               with_reducible rfl
              rotate_left
              ·simp only [Act.put, List.setIfInBounds_toArray, List.set_cons_zero, List.set_cons_succ, i64_w, i32_w]
               rfl
              refine pure_ (i := 9) (N := some 9) (v := ?_) (a' := ?_) #[true, true, true, true, true, true, true, true, true, true, false] rfl rfl (any_of HT_.out (by kernel_rfl)) (fun _ _ _ h => h) (Or.inl ⟨by rfl, ?_⟩) ?_ ?_
              rotate_left
              ·intro w'
               go_simp
               with_reducible rfl
              rotate_left
              ·simp only [Act.put, List.setIfInBounds_toArray, List.set_cons_zero, List.set_cons_succ, i64_w, i32_w]
               rfl
              refine pure_ (i := 10) (N := some 10) (v := ?_) (a' := ?_) #[true, true, true, true, true, true, true, true, true, true, true] rfl rfl (any_of HT_.out (by kernel_rfl)) (fun _ _ _ h => h) (Or.inl ⟨by rfl, ?_⟩) ?_ ?_
              rotate_left
              ·intro w'
               go_simp
               with_reducible rfl
              rotate_left
              ·simp only [Act.put, List.setIfInBounds_toArray, List.set_cons_zero, List.set_cons_succ, i64_w, i32_w]
               rfl
              refine done_ (done_of HT_.out (by kernel_rfl)) ?_
              obtain ⟨Ao56, co56, eo56⟩ := Kd.R_slice HO422.out
              subst eo56
              try go_wp2_with (first | ((with_reducible refine gate_dst (N := 78) rfl ?_); refine Kd.R_make (Kd.int .u32) _ 46 rfl (N := 78) rfl 32 _ _ rfl ji37 rfl rfl Try.underlying32 (.int .u32 0) 4 info46 rfl (by decide) (by omega) 0 (ok := fun _ => True) (okp := fun _ => True) rfl (fun _ hk => hk) trivial (of_decide_eq_true (by first | (with_reducible assumption) | assumption)) (Nat.le_trans (Nat.mul_le_mul_right _ (of_decide_eq_true (by first | (with_reducible assumption) | assumption) : ji37.toNat ≤ 70368744177664)) (by omega)) (Below.refl _ _) (Nat.le_refl _) ?_; intro v430 w57 ho58 hb hg_ hnew_; clear hg_ hnew_; (first | rw [← Ny429.out] at ho58 | (simp only [Int.reduceToNat] at ho58; rw [← Ny429.out] at ho58)); have n0_ := Aside0.mk (Kd.V_elder' (by (with_reducible repeat (first | apply Kd.V_alloc | apply Kd.V_drewN | apply Kd.V_drew)); exact HO0.out) (Kd.R_base ho58) hb); have n1_ := Aside0.mk (Kd.V_elder' (by (with_reducible repeat (first | apply Kd.V_alloc | apply Kd.V_drewN | apply Kd.V_drew)); exact HO1.out) (Kd.R_base ho58) hb); have n2_ := Aside0.mk (Kd.V_elder' (by (with_reducible repeat (first | apply Kd.V_alloc | apply Kd.V_drewN | apply Kd.V_drew)); exact HO402.out) (Kd.R_base ho58) hb); have n3_ := Aside0.mk (Kd.V_elder' (by (with_reducible repeat (first | apply Kd.V_alloc | apply Kd.V_drewN | apply Kd.V_drew)); exact HO405.out) (Kd.R_base ho58) hb); have n4_ := Aside0.mk (Kd.R_elder' (by (with_reducible repeat (first | apply Kd.R_alloc | apply Kd.R_drewN | apply Kd.R_drew)); exact HO422.out) (Kd.R_base ho58) hb); have n5_ := Aside0.mk (Kd.R_elder' (by (with_reducible repeat (first | apply Kd.R_alloc | apply Kd.R_drewN | apply Kd.R_drew)); exact HO428.out) (Kd.R_base ho58) hb); have n6_ := Aside0.mk (Kd.R_lower (Kd.R_new' (Kd.R_new' (Kd.R_newM (M := fun k_ => (w.heap.size ≤ k_)) ho58 (below_size (by repeat (first | (with_reducible first | exact HB.out | apply below_alloc | apply pw_below_drewN | apply below_drew1) | exact HB.out))) (fun k_ h_ => h_)) (Kd.R_lt (by (with_reducible repeat (first | apply Kd.R_alloc | apply Kd.R_drewN | apply Kd.R_drew)); exact HO422.out))) (Kd.R_lt (by (with_reducible repeat (first | apply Kd.R_alloc | apply Kd.R_drewN | apply Kd.R_drew)); exact HO428.out))) (below_size (by repeat (first | (with_reducible first | exact HB.out | apply below_alloc | apply pw_below_drewN | apply below_drew1) | exact HB.out)))); have n7_ := Aside0.mk (below_step (by repeat (first | (with_reducible first | exact HB.out | apply below_alloc | apply pw_below_drewN | apply below_drew1) | exact HB.out)) hb); clear HO0; clear HO1; clear HO402; clear HO405; clear HO422; clear HO428; clear HB; have HO0 := n0_; have HO1 := n1_; have HO402 := n2_; have HO405 := n3_; have HO422 := n4_; have HO428 := n5_; have HO431 := n6_; have HB := n7_; clear n0_ n1_ n2_ n3_ n4_ n5_ n6_ n7_; clear hb ho58))
              have n0_ := Aside0.mk (Kd.V_drew HO0.out)
              have n1_ := Aside0.mk (Kd.V_drew HO1.out)
              have n2_ := Aside0.mk (Kd.V_drew HO402.out)
              have n3_ := Aside0.mk (Kd.V_drew HO405.out)
              have n4_ := Aside0.mk (Kd.R_drew HO422.out)
              have n5_ := Aside0.mk (Kd.R_drew HO428.out)
              have n6_ := Aside0.mk (Kd.R_drew HO431.out)
              have n7_ := Aside0.mk (below_drew1 HB.out)
              clear HO0
              clear HO1
              clear HO402
              clear HO405
              clear HO422
              clear HO428
              clear HO431
              clear HB
              have HO0 := n0_
              have HO1 := n1_
              have HO402 := n2_
              have HO405 := n3_
              have HO422 := n4_
              have HO428 := n5_
              have HO431 := n6_
              have HB := n7_
              clear n0_ n1_ n2_ n3_ n4_ n5_ n6_ n7_
              have p432 : 0 ≤ ((ji40) : Int) := of_decide_eq_true (by first | (with_reducible assumption) | assumption)
              have q432 : (ji40) < (y426.length : Int) := of_decide_eq_true (by first | (with_reducible assumption) | assumption)
              obtain ⟨ad432, e432, hx432_0⟩ := Kd.at_int (Kd.R_reads' HO428.out).2.2 (ji40) p432 q432
              cases e432
              replace p432 := eq_true p432
              replace q432 := eq_true q432
              have p433 : 0 ≤ ((ji43) : Int) := of_decide_eq_true (by first | (with_reducible assumption) | assumption)
              have q433 : (ji43) < (y426.length : Int) := of_decide_eq_true (by first | (with_reducible assumption) | assumption)
              obtain ⟨ad433, e433, hx433_0⟩ := Kd.at_int (Kd.R_reads' HO428.out).2.2 (ji43) p433 q433
              obtain rfl : ad432 = ad433 := (by injection e433)
              replace p433 := eq_true p433
              replace q433 := eq_true q433
              refine start_ (n := 14) (S := fun w' => w'.cell? (ad432.add ((ji40)).toNat) = some (.int .u32 (rd y426 (ji40))) ∧ w'.cell? (ad432.add ((ji43)).toNat) = some (.int .u32 (rd y426 (ji43)))) (ds := []) #[false, false, false, false, false, false, false, false, false, false, false, false, false, false] (by kernel_rfl) rfl rfl ⟨hx432_0, hx433_0⟩ (fun hHeld => ?_); refine with_tabW nat_Div.tab13 nat_Div.bits13 (fun HT_ HW_ => ?_)
              generalize w57.drew = w59 at HO0 HO1 HO402 HO405 HO422 HO428 HO431 HB hx432_0 hx433_0 hHeld ⊢
              refine pure_ (i := 0) (N := some 79) (v := ?_) (a' := ?_) #[true, false, false, false, false, false, false, false, false, false, false, false, false, false] rfl rfl (any_of HT_.out (by kernel_rfl)) (fun _ _ _ h => h) (Or.inl ⟨by rfl, ?_⟩) ?_ ?_
              rotate_left
              ·intro w'
               go_simp
               with_reducible rfl
              rotate_left
              ·simp only [Act.put, List.setIfInBounds_toArray, List.set_cons_zero, List.set_cons_succ, i64_w, i32_w]
               rfl
              refine pure_ (i := 1) (N := some 80) (v := ?_) (a' := ?_) #[true, true, false, false, false, false, false, false, false, false, false, false, false, false] rfl rfl (any_of HT_.out (by kernel_rfl)) (fun _ _ _ h => h) (Or.inl ⟨by rfl, ?_⟩) ?_ ?_
              rotate_left
              ·intro w'
               go_simp
               with_reducible rfl
              rotate_left
              ·simp only [Act.put, List.setIfInBounds_toArray, List.set_cons_zero, List.set_cons_succ, i64_w, i32_w]
               rfl
              refine pure_ (i := 2) (N := some 81) (v := ?_) (a' := ?_) #[true, true, true, false, false, false, false, false, false, false, false, false, false, false] rfl rfl (any_of HT_.out (by kernel_rfl)) (fun _ _ _ h => h) (Or.inl ⟨by rfl, ?_⟩) ?_ ?_
              rotate_left
              ·intro w'
               go_simp
               with_reducible rfl
              rotate_left
              ·simp only [Act.put, List.setIfInBounds_toArray, List.set_cons_zero, List.set_cons_succ, i64_w, i32_w]
               rfl
              refine pure_ (i := 3) (N := some 82) (v := ?_) (a' := ?_) #[true, true, true, true, false, false, false, false, false, false, false, false, false, false] rfl rfl (any_of HT_.out (by kernel_rfl)) (fun _ _ _ h => h) (Or.inl ⟨by rfl, ?_⟩) ?_ ?_
              rotate_left
              ·intro w'
               go_simp
               with_reducible rfl
              rotate_left
              ·simp only [Act.put, List.setIfInBounds_toArray, List.set_cons_zero, List.set_cons_succ, i64_w, i32_w]
               rfl
              refine pure_ (i := 6) (N := some 85) (v := ?_) (a' := ?_) #[true, true, true, true, false, false, true, false, false, false, false, false, false, false] rfl rfl (any_of HT_.out (by kernel_rfl)) (fun _ _ _ h => h) (Or.inl ⟨by rfl, ?_⟩) ?_ ?_
              rotate_left
              ·intro w'
               go_simp
               with_reducible rfl
              rotate_left
              ·simp only [Act.put, List.setIfInBounds_toArray, List.set_cons_zero, List.set_cons_succ, i64_w, i32_w]
               rfl
              refine pure_ (i := 7) (N := some 86) (v := ?_) (a' := ?_) #[true, true, true, true, false, false, true, true, false, false, false, false, false, false] rfl rfl (any_of HT_.out (by kernel_rfl)) (fun _ _ _ h => h) (Or.inl ⟨by rfl, ?_⟩) ?_ ?_
              rotate_left
              ·intro w'
               go_simp
               with_reducible rfl
              rotate_left
              ·simp only [Act.put, List.setIfInBounds_toArray, List.set_cons_zero, List.set_cons_succ, i64_w, i32_w]
               rfl
              refine pure_ (i := 8) (N := some 87) (v := ?_) (a' := ?_) #[true, true, true, true, false, false, true, true, true, false, false, false, false, false] rfl rfl (any_of HT_.out (by kernel_rfl)) (fun _ _ _ h => h) (Or.inl ⟨by rfl, ?_⟩) ?_ ?_
              rotate_left
              ·intro w'
               go_simp
               with_reducible rfl
              rotate_left
              ·simp only [Act.put, List.setIfInBounds_toArray, List.set_cons_zero, List.set_cons_succ, i64_w, i32_w]
               rfl
              refine pure_ (i := 9) (N := some 88) (v := ?_) (a' := ?_) #[true, true, true, true, false, false, true, true, true, true, false, false, false, false] rfl rfl (any_of HT_.out (by kernel_rfl)) (fun _ _ _ h => h) (Or.inl ⟨by rfl, ?_⟩) ?_ ?_
              rotate_left
              ·intro w'
               go_simp
               with_reducible rfl
              rotate_left
              ·simp only [Act.put, List.setIfInBounds_toArray, List.set_cons_zero, List.set_cons_succ, i64_w, i32_w]
               rfl
              refine take_ (i := 4) (N := some 83) (v := ?_) (a' := ?_) #[true, true, true, true, true, false, true, true, true, true, false, false, false, false] rfl rfl (take_ofW HT_.out HW_.out (by kernel_rfl)) (fun _ _ _ h => h) (Or.inl ⟨by rfl, ?_⟩) hHeld ?_ ?_
              rotate_left
              ·rintro w' ⟨s0, s1⟩
               go_simp
               with_reducible rfl
              rotate_left
              ·simp only [Act.put, List.setIfInBounds_toArray, List.set_cons_zero, List.set_cons_succ, i64_w, i32_w]
               rfl
              refine pure_ (i := 5) (N := some 84) (v := ?_) (a' := ?_) #[true, true, true, true, true, true, true, true, true, true, false, false, false, false] rfl rfl (any_of HT_.out (by kernel_rfl)) (fun _ _ _ h => h) (Or.inl ⟨by rfl, ?_⟩) ?_ ?_
              rotate_left
              ·intro w'
               go_simp
               with_reducible rfl
              rotate_left
              ·simp only [Act.put, List.setIfInBounds_toArray, List.set_cons_zero, List.set_cons_succ, i64_w, i32_w]
               rfl
              refine pure_ (i := 12) (N := some 14) (v := ?_) (a' := ?_) #[true, true, true, true, true, true, true, true, true, true, false, false, true, false] rfl rfl (any_of HT_.out (by kernel_rfl)) (fun _ _ _ h => h) (Or.inl ⟨by rfl, ?_⟩) ?_ ?_
              rotate_left
              ·intro w'
               go_simp
               with_reducible rfl
              rotate_left
              ·simp only [Act.put, List.setIfInBounds_toArray, List.set_cons_zero, List.set_cons_succ, i64_w, i32_w]
               rfl
              refine take_ (i := 10) (N := some 89) (v := ?_) (a' := ?_) #[true, true, true, true, true, true, true, true, true, true, true, false, true, false] rfl rfl (take_ofW HT_.out HW_.out (by kernel_rfl)) (fun _ _ _ h => h) (Or.inl ⟨by rfl, ?_⟩) hHeld ?_ ?_
              rotate_left
              ·rintro w' ⟨s0, s1⟩
               go_simp
               with_reducible rfl
              rotate_left
              ·simp only [Act.put, List.setIfInBounds_toArray, List.set_cons_zero, List.set_cons_succ, i64_w, i32_w]
               rfl
              refine pure_ (i := 11) (N := some 90) (v := ?_) (a' := ?_) #[true, true, true, true, true, true, true, true, true, true, true, true, true, false] rfl rfl (any_of HT_.out (by kernel_rfl)) (fun _ _ _ h => h) (Or.inl ⟨by rfl, ?_⟩) ?_ ?_
              rotate_left
              ·intro w'
               go_simp
               with_reducible rfl
              rotate_left
              ·simp only [Act.put, List.setIfInBounds_toArray, List.set_cons_zero, List.set_cons_succ, i64_w, i32_w]
               rfl
              refine pure_ (i := 13) (N := some 15) (v := ?_) (a' := ?_) #[true, true, true, true, true, true, true, true, true, true, true, true, true, true] rfl rfl (any_of HT_.out (by kernel_rfl)) (fun _ _ _ h => h) (Or.inl ⟨by rfl, ?_⟩) ?_ ?_
              rotate_left
              ·intro w'
               go_simp
               with_reducible rfl
              rotate_left
              ·simp only [Act.put, List.setIfInBounds_toArray, List.set_cons_zero, List.set_cons_succ, i64_w, i32_w]
               rfl
              refine done_ (done_of HT_.out (by kernel_rfl)) ?_
              try go_wp2
              go_loopg [16] k (fun kq v16 w' => ∃ (x9_1 : List Int) (x13_1 : List Int) (x16_1 : Int), v16 = .int .i64 x16_1 ∧ Aside0 (nat_Div.l0 kq (IntKind.u64.wrap (t419)) x9_1 y426 (y426.length : Int) x13_1 (IntKind.u64.wrap (rd y426 (ji40))) (IntKind.u64.wrap (rd y426 (ji43))) x16_1 = some (r1, r2)) ∧ Aside0 (kq ≤ k) ∧ Aside0 (Kd.R (Kd.int .u32) 46 w' w.heap.size (fun k_ => (w.heap.size ≤ k_) ∧ some k_ ≠ ((.slice (some ad432) y426.length co54) : Value).ownBlock ∧ some k_ ≠ (v430 : Value).ownBlock) (.slice Ao56 t420.length co56) x9_1) ∧ Aside0 (Kd.R (Kd.int .u32) 46 w' w.heap.size (fun k_ => (w.heap.size ≤ k_) ∧ some k_ ≠ ((.slice Ao56 t420.length co56) : Value).ownBlock ∧ some k_ ≠ (v430 : Value).ownBlock) (.slice (some ad432) y426.length co54) y426) ∧ Aside0 (Kd.R (Kd.int .u32) 46 w' w.heap.size (fun k_ => (w.heap.size ≤ k_) ∧ some k_ ≠ ((.slice Ao56 t420.length co56) : Value).ownBlock ∧ some k_ ≠ ((.slice (some ad432) y426.length co54) : Value).ownBlock) v430 x13_1) ∧ Aside0 (Below w.heap.size w w'))
              case atStart => exact ⟨(t420), (y429), (wrap64 ((ji37) - 1)), (by first | rfl | (simp; done) | (simp only [← hji37] <;> (first | rfl | simp)) | (simp [*]; done)), H', ⟨Nat.le_refl _⟩, ⟨by (with_reducible repeat (first | apply Kd.R_alloc | apply Kd.R_drewN | apply Kd.R_drew)); exact Kd.R_mono HO422.out (fun _ hk => ⟨hk.1.1.1, ⟨hk.1.2, hk.2⟩⟩)⟩, ⟨by (with_reducible repeat (first | apply Kd.R_alloc | apply Kd.R_drewN | apply Kd.R_drew)); exact Kd.R_mono HO428.out (fun _ hk => ⟨hk.1.1.1, ⟨hk.1.2, hk.2⟩⟩)⟩, ⟨by (with_reducible repeat (first | apply Kd.R_alloc | apply Kd.R_drewN | apply Kd.R_drew)); exact Kd.R_mono HO431.out (fun _ hk => ⟨hk.1.1.1, ⟨hk.1.2, hk.2⟩⟩)⟩, ⟨by repeat (first | (with_reducible first | exact HB.out | apply below_alloc | apply pw_below_drewN | apply below_drew1) | exact HB.out)⟩⟩
              case round =>
               clear H'
               try clear c1
               try clear c2
               try clear p2
               try clear c3
               try clear c4
               try clear p4
               try clear q4
               try clear hx4
               try clear qi4
               try clear c5
               try clear c5b0
               try clear c5b1
               try clear c5b2
               try clear q5
               try clear p6
               try clear c10
               try clear c10b0
               try clear c16
               try clear c18
               try clear c18b0
               try clear c18b1
               try clear c19
               try clear c19b0
               try clear c19b1
               try clear c21
               try clear c23
               try clear c30
               try clear c30b0
               try clear c31
               try clear c31b0
               try clear c35
               try clear c35b0
               try clear c35b1
               try clear c36
               try clear c36b0
               try clear c36b1
               try clear c38
               try clear c38b0
               try clear c38b1
               try clear c39
               try clear c39b0
               try clear c39b1
               try clear c40
               try clear c41
               try clear c41b0
               try clear p41
               try clear q41
               try clear hx41
               try clear qi41
               try clear c42
               try clear c42b0
               try clear p43
               try clear q43
               try clear hx43
               try clear c44
               try clear c44b0
               try clear c45
               try clear c45b0
               try clear q55
               try clear hx410_0
               try clear hx418_0
               try clear hx432_0
               try clear hx433_0
               try clear p410
               try clear p418
               try clear p432
               try clear p433
               try clear q410
               try clear q418
               try clear q432
               try clear q433
               try clear q55
               try clear hji29
               try clear hji29w
               try clear hji37
               try clear hji37w
               try clear hji40
               try clear hji40w
               try clear hji43
               try clear hji43w
               obtain ⟨x9_1, x13_1, x16_1, rfl, HA, HK1, HO_9, HO_10, HO_13, HB⟩ := hrel
               have hl9_1 := (Kd.R_reads' HO_9.out).1
               rw [hl9_1] at HO_9
               (try simp only [hl9_1])
               (try simp only [hl9_1] at HO_10)
               (try simp only [hl9_1] at HO_13)
               cases gk with
               | zero => exact absurd HA.out (by simp [nat_Div.l0])
               | succ k1 =>
                have H := HA.out
                clear HA
                simp only [nat_Div.l0] at H
                by_cases c60 : x16_1 ≥ 0
                ·rw [if_pos c60] at H
                 have c60b0 : decide (0 ≤ x16_1) = true := decide_eq_true c60
                 clear c60
                 obtain ⟨ji61, hji61⟩ : ∃ j_ : Int, (wrap64 (x16_1 + (y426.length : Int))) = j_ := ⟨_, rfl⟩
                 replace H : (if 0 ≤ (ji61) then (if (ji61) < (x9_1.length : Int) then (if 0 ≤ (wrap64 ((ji61) - 1)) then (if (wrap64 ((ji61) - 1)) < (x9_1.length : Int) then (if (IntKind.u64.wrap (rd y426 (ji40))) = 0 then (none) else (nat_Div.l1 k1 (IntKind.u64.wrap (t419)) x9_1 y426 (y426.length : Int) x13_1 (IntKind.u64.wrap (rd y426 (ji40))) (IntKind.u64.wrap (rd y426 (ji43))) x16_1 (IntKind.u64.wrap (Int.tdiv (Go.bits .or .u64 (IntKind.u64.wrap ((IntKind.u64.wrap (rd x9_1 (ji61))) * 4294967296)) (IntKind.u64.wrap (rd x9_1 (wrap64 ((ji61) - 1))))) (IntKind.u64.wrap (rd y426 (ji40))))) (Int.tmod (Go.bits .or .u64 (IntKind.u64.wrap ((IntKind.u64.wrap (rd x9_1 (ji61))) * 4294967296)) (IntKind.u64.wrap (rd x9_1 (wrap64 ((ji61) - 1))))) (IntKind.u64.wrap (rd y426 (ji40)))))) else (none)) else (none)) else (none)) else (none)) = some (r1, r2) := by first | (rw [hji61] at H; exact H) | (simp only [hji61] at H ⊢; exact H)
                 have hji61w : (IntKind.i64.wrap (x16_1 + (y426.length : Int))) = ji61 := (i64_w _).trans hji61
                 by_cases c62 : 0 ≤ (ji61)
                 ·rw [if_pos c62] at H
                  have c62b0 : decide (0 ≤ (ji61)) = true := decide_eq_true c62
                  clear c62
                  by_cases c63 : (ji61) < (x9_1.length : Int)
                  ·rw [if_pos c63] at H
                   have c63b0 : decide ((ji61) < (x9_1.length : Int)) = true := decide_eq_true c63
                   (try (have c63b0l := c63b0; simp only [hl9_1] at c63b0l))
                   clear c63
                   obtain ⟨ji64, hji64⟩ : ∃ j_ : Int, (wrap64 ((ji61) - 1)) = j_ := ⟨_, rfl⟩
                   replace H : (if 0 ≤ (ji64) then (if (ji64) < (x9_1.length : Int) then (if (IntKind.u64.wrap (rd y426 (ji40))) = 0 then (none) else (nat_Div.l1 k1 (IntKind.u64.wrap (t419)) x9_1 y426 (y426.length : Int) x13_1 (IntKind.u64.wrap (rd y426 (ji40))) (IntKind.u64.wrap (rd y426 (ji43))) x16_1 (IntKind.u64.wrap (Int.tdiv (Go.bits .or .u64 (IntKind.u64.wrap ((IntKind.u64.wrap (rd x9_1 (ji61))) * 4294967296)) (IntKind.u64.wrap (rd x9_1 (ji64)))) (IntKind.u64.wrap (rd y426 (ji40))))) (Int.tmod (Go.bits .or .u64 (IntKind.u64.wrap ((IntKind.u64.wrap (rd x9_1 (ji61))) * 4294967296)) (IntKind.u64.wrap (rd x9_1 (ji64)))) (IntKind.u64.wrap (rd y426 (ji40)))))) else (none)) else (none)) = some (r1, r2) := by first | (rw [hji64] at H; exact H) | (simp only [hji64] at H ⊢; exact H)
                   have hji64w : (IntKind.i64.wrap ((ji61) - 1)) = ji64 := (i64_w _).trans hji64
                   by_cases c65 : 0 ≤ (ji64)
                   ·rw [if_pos c65] at H
                    have c65b0 : decide (0 ≤ (ji64)) = true := decide_eq_true c65
                    clear c65
                    by_cases c66 : (ji64) < (x9_1.length : Int)
                    ·rw [if_pos c66] at H
                     have c66b0 : decide ((ji64) < (x9_1.length : Int)) = true := decide_eq_true c66
                     (try (have c66b0l := c66b0; simp only [hl9_1] at c66b0l))
                     clear c66
                     by_cases c67 : (IntKind.u64.wrap (rd y426 (ji40))) = 0
                     ·rw [if_pos c67] at H
                      exact absurd H (by simp)
                     ·rw [if_neg c67] at H
                      have c67b0 : ((IntKind.u64.wrap (rd y426 (ji40))) == 0) = false := beq_eq_false_iff_ne.mpr c67
                      have c67b1 : ((IntKind.u64.wrap (rd y426 (ji40))) != 0) = true := bne_iff_ne.mpr c67
                      have HC68 := Aside0.mk H
                      clear H
                      try go_wp2
                      have n0_ := Aside0.mk (Kd.R_drew HO_9.out)
                      have n1_ := Aside0.mk (Kd.R_drew HO_10.out)
                      have n2_ := Aside0.mk (Kd.R_drew HO_13.out)
                      have n3_ := Aside0.mk (below_drew1 HB.out)
                      clear HO_9
                      clear HO_10
                      clear HO_13
                      clear HB
                      have HO_9 := n0_
                      have HO_10 := n1_
                      have HO_13 := n2_
                      have HB := n3_
                      clear n0_ n1_ n2_ n3_
                      have p434 : 0 ≤ ((ji61) : Int) := of_decide_eq_true (by first | (with_reducible assumption) | assumption)
                      have q434 : (ji61) < (x9_1.length : Int) := of_decide_eq_true (by first | (with_reducible assumption) | assumption)
                      obtain ⟨ad434, e434, hx434_0⟩ := Kd.at_int (Kd.R_reads' HO_9.out).2.2 (ji61) p434 q434
                      cases e434
                      replace p434 := eq_true p434
                      replace q434 := eq_true q434
                      have p435 : 0 ≤ ((ji64) : Int) := of_decide_eq_true (by first | (with_reducible assumption) | assumption)
                      have q435 : (ji64) < (x9_1.length : Int) := of_decide_eq_true (by first | (with_reducible assumption) | assumption)
                      obtain ⟨ad435, e435, hx435_0⟩ := Kd.at_int (Kd.R_reads' HO_9.out).2.2 (ji64) p435 q435
                      obtain rfl : ad434 = ad435 := (by injection e435)
                      replace p435 := eq_true p435
                      replace q435 := eq_true q435
                      refine start_ (n := 18) (S := fun w' => w'.cell? (ad434.add ((ji61)).toNat) = some (.int .u32 (rd x9_1 (ji61))) ∧ w'.cell? (ad434.add ((ji64)).toNat) = some (.int .u32 (rd x9_1 (ji64)))) (ds := []) #[false, false, false, false, false, false, false, false, false, false, false, false, false, false, false, false, false, false] (by kernel_rfl) rfl rfl ⟨hx434_0, hx435_0⟩ (fun hHeld => ?_); refine with_tabW nat_Div.tab17 nat_Div.bits17 (fun HT_ HW_ => ?_)
                      generalize wr.drew = w69 at HO_9 HO_10 HO_13 HB hx434_0 hx435_0 hHeld ⊢
                      refine pure_ (i := 0) (N := some 97) (v := ?_) (a' := ?_) #[true, false, false, false, false, false, false, false, false, false, false, false, false, false, false, false, false, false] rfl rfl (any_of HT_.out (by kernel_rfl)) (fun _ _ _ h => h) (Or.inl ⟨by rfl, ?_⟩) ?_ ?_
                      rotate_left
                      ·intro w'
                       go_simp
                       with_reducible rfl
                      rotate_left
                      ·simp only [Act.put, List.setIfInBounds_toArray, List.set_cons_zero, List.set_cons_succ, i64_w, i32_w]
                       rfl
                      refine pure_ (i := 1) (N := some 98) (v := ?_) (a' := ?_) #[true, true, false, false, false, false, false, false, false, false, false, false, false, false, false, false, false, false] rfl rfl (any_of HT_.out (by kernel_rfl)) (fun _ _ _ h => h) (Or.inl ⟨by rfl, ?_⟩) ?_ ?_
                      rotate_left
                      ·intro w'
                       go_simp
                       with_reducible rfl
                      rotate_left
                      ·simp only [Act.put, List.setIfInBounds_toArray, List.set_cons_zero, List.set_cons_succ, i64_w, i32_w]
                       rfl
                      refine pure_ (i := 2) (N := some 99) (v := ?_) (a' := ?_) #[true, true, true, false, false, false, false, false, false, false, false, false, false, false, false, false, false, false] rfl rfl (any_of HT_.out (by kernel_rfl)) (fun _ _ _ h => h) (Or.inl ⟨by rfl, ?_⟩) ?_ ?_
                      rotate_left
                      ·intro w'
                       go_simp
                       with_reducible rfl
                      rotate_left
                      ·simp only [Act.put, List.setIfInBounds_toArray, List.set_cons_zero, List.set_cons_succ, i64_w, i32_w]
                       rfl
                      refine pure_ (i := 3) (N := some 100) (v := ?_) (a' := ?_) #[true, true, true, true, false, false, false, false, false, false, false, false, false, false, false, false, false, false] rfl rfl (any_of HT_.out (by kernel_rfl)) (fun _ _ _ h => h) (Or.inl ⟨by rfl, ?_⟩) ?_ ?_
                      rotate_left
                      ·intro w'
                       go_simp
                       with_reducible rfl
                      rotate_left
                      ·simp only [Act.put, List.setIfInBounds_toArray, List.set_cons_zero, List.set_cons_succ, i64_w, i32_w]
                       rfl
                      refine pure_ (i := 4) (N := some 101) (v := ?_) (a' := ?_) #[true, true, true, true, true, false, false, false, false, false, false, false, false, false, false, false, false, false] rfl rfl (any_of HT_.out (by kernel_rfl)) (fun _ _ _ h => h) (Or.inl ⟨by rfl, ?_⟩) ?_ ?_
                      rotate_left
                      ·intro w'
                       go_simp
                       with_reducible rfl
                      rotate_left
                      ·simp only [Act.put, List.setIfInBounds_toArray, List.set_cons_zero, List.set_cons_succ, i64_w, i32_w]
                       rfl
                      refine pure_ (i := 8) (N := some 105) (v := ?_) (a' := ?_) #[true, true, true, true, true, false, false, false, true, false, false, false, false, false, false, false, false, false] rfl rfl (any_of HT_.out (by kernel_rfl)) (fun _ _ _ h => h) (Or.inl ⟨by rfl, ?_⟩) ?_ ?_
                      rotate_left
                      ·intro w'
                       go_simp
                       with_reducible rfl
                      rotate_left
                      ·simp only [Act.put, List.setIfInBounds_toArray, List.set_cons_zero, List.set_cons_succ, i64_w, i32_w]
                       rfl
                      refine pure_ (i := 9) (N := some 106) (v := ?_) (a' := ?_) #[true, true, true, true, true, false, false, false, true, true, false, false, false, false, false, false, false, false] rfl rfl (any_of HT_.out (by kernel_rfl)) (fun _ _ _ h => h) (Or.inl ⟨by rfl, ?_⟩) ?_ ?_
                      rotate_left
                      ·intro w'
                       go_simp
                       with_reducible rfl
                      rotate_left
                      ·simp only [Act.put, List.setIfInBounds_toArray, List.set_cons_zero, List.set_cons_succ, i64_w, i32_w]
                       rfl
                      refine pure_ (i := 10) (N := some 107) (v := ?_) (a' := ?_) #[true, true, true, true, true, false, false, false, true, true, true, false, false, false, false, false, false, false] rfl rfl (any_of HT_.out (by kernel_rfl)) (fun _ _ _ h => h) (Or.inl ⟨by rfl, ?_⟩) ?_ ?_
                      rotate_left
                      ·intro w'
                       go_simp
                       with_reducible rfl
                      rotate_left
                      ·simp only [Act.put, List.setIfInBounds_toArray, List.set_cons_zero, List.set_cons_succ, i64_w, i32_w]
                       rfl
                      refine pure_ (i := 11) (N := some 108) (v := ?_) (a' := ?_) #[true, true, true, true, true, false, false, false, true, true, true, true, false, false, false, false, false, false] rfl rfl (any_of HT_.out (by kernel_rfl)) (fun _ _ _ h => h) (Or.inl ⟨by rfl, ?_⟩) ?_ ?_
                      rotate_left
                      ·intro w'
                       go_simp
                       with_reducible rfl
                      rotate_left
                      ·simp only [Act.put, List.setIfInBounds_toArray, List.set_cons_zero, List.set_cons_succ, i64_w, i32_w]
                       rfl
                      refine pure_ (i := 12) (N := some 109) (v := ?_) (a' := ?_) #[true, true, true, true, true, false, false, false, true, true, true, true, true, false, false, false, false, false] rfl rfl (any_of HT_.out (by kernel_rfl)) (fun _ _ _ h => h) (Or.inl ⟨by rfl, ?_⟩) ?_ ?_
                      rotate_left
                      ·intro w'
                       go_simp
                       with_reducible rfl
                      rotate_left
                      ·simp only [Act.put, List.setIfInBounds_toArray, List.set_cons_zero, List.set_cons_succ, i64_w, i32_w]
                       rfl
                      refine pure_ (i := 13) (N := some 110) (v := ?_) (a' := ?_) #[true, true, true, true, true, false, false, false, true, true, true, true, true, true, false, false, false, false] rfl rfl (any_of HT_.out (by kernel_rfl)) (fun _ _ _ h => h) (Or.inl ⟨by rfl, ?_⟩) ?_ ?_
                      rotate_left
                      ·intro w'
                       go_simp
                       with_reducible rfl
                      rotate_left
                      ·simp only [Act.put, List.setIfInBounds_toArray, List.set_cons_zero, List.set_cons_succ, i64_w, i32_w]
                       rfl
                      refine take_ (i := 5) (N := some 102) (v := ?_) (a' := ?_) #[true, true, true, true, true, true, false, false, true, true, true, true, true, true, false, false, false, false] rfl rfl (take_ofW HT_.out HW_.out (by kernel_rfl)) (fun _ _ _ h => h) (Or.inl ⟨by rfl, ?_⟩) hHeld ?_ ?_
                      rotate_left
                      ·rintro w' ⟨s0, s1⟩
                       go_simp
                       with_reducible rfl
                      rotate_left
                      ·simp only [Act.put, List.setIfInBounds_toArray, List.set_cons_zero, List.set_cons_succ, i64_w, i32_w]
                       rfl
                      refine pure_ (i := 6) (N := some 103) (v := ?_) (a' := ?_) #[true, true, true, true, true, true, true, false, true, true, true, true, true, true, false, false, false, false] rfl rfl (any_of HT_.out (by kernel_rfl)) (fun _ _ _ h => h) (Or.inl ⟨by rfl, ?_⟩) ?_ ?_
                      rotate_left
                      ·intro w'
                       go_simp
                       with_reducible rfl
                      rotate_left
                      ·simp only [Act.put, List.setIfInBounds_toArray, List.set_cons_zero, List.set_cons_succ, i64_w, i32_w]
                       rfl
                      refine pure_ (i := 7) (N := some 104) (v := ?_) (a' := ?_) #[true, true, true, true, true, true, true, true, true, true, true, true, true, true, false, false, false, false] rfl rfl (any_of HT_.out (by kernel_rfl)) (fun _ _ _ h => h) (Or.inl ⟨by rfl, ?_⟩) ?_ ?_
                      rotate_left
                      ·intro w'
                       go_simp
                       with_reducible rfl
                      rotate_left
                      ·simp only [Act.put, List.setIfInBounds_toArray, List.set_cons_zero, List.set_cons_succ, i64_w, i32_w]
                       rfl
                      refine take_ (i := 14) (N := some 111) (v := ?_) (a' := ?_) #[true, true, true, true, true, true, true, true, true, true, true, true, true, true, true, false, false, false] rfl rfl (take_ofW HT_.out HW_.out (by kernel_rfl)) (fun _ _ _ h => h) (Or.inl ⟨by rfl, ?_⟩) hHeld ?_ ?_
                      rotate_left
                      ·rintro w' ⟨s0, s1⟩
                       go_simp
                       with_reducible rfl
                      rotate_left
                      ·simp only [Act.put, List.setIfInBounds_toArray, List.set_cons_zero, List.set_cons_succ, i64_w, i32_w]
                       rfl
                      refine pure_ (i := 15) (N := some 112) (v := ?_) (a' := ?_) #[true, true, true, true, true, true, true, true, true, true, true, true, true, true, true, true, false, false] rfl rfl (any_of HT_.out (by kernel_rfl)) (fun _ _ _ h => h) (Or.inl ⟨by rfl, ?_⟩) ?_ ?_
                      rotate_left
                      ·intro w'
                       go_simp
                       with_reducible rfl
                      rotate_left
                      ·simp only [Act.put, List.setIfInBounds_toArray, List.set_cons_zero, List.set_cons_succ, i64_w, i32_w]
                       rfl
                      refine pure_ (i := 16) (N := some 113) (v := ?_) (a' := ?_) #[true, true, true, true, true, true, true, true, true, true, true, true, true, true, true, true, true, false] rfl rfl (any_of HT_.out (by kernel_rfl)) (fun _ _ _ h => h) (Or.inl ⟨by rfl, ?_⟩) ?_ ?_
                      rotate_left
                      ·intro w'
                       go_simp
                       with_reducible rfl
                      rotate_left
                      ·simp only [Act.put, List.setIfInBounds_toArray, List.set_cons_zero, List.set_cons_succ, i64_w, i32_w]
                       rfl
                      refine pure_ (i := 17) (N := some 17) (v := ?_) (a' := ?_) #[true, true, true, true, true, true, true, true, true, true, true, true, true, true, true, true, true, true] rfl rfl (any_of HT_.out (by kernel_rfl)) (fun _ _ _ h => h) (Or.inl ⟨by rfl, ?_⟩) ?_ ?_
                      rotate_left
                      ·intro w'
                       go_simp
                       with_reducible rfl
                      rotate_left
                      ·simp only [Act.put, List.setIfInBounds_toArray, List.set_cons_zero, List.set_cons_succ, i64_w, i32_w]
                       rfl
                      refine done_ (done_of HT_.out (by kernel_rfl)) ?_
                      try go_wp2
                      have n0_ := Aside0.mk (Kd.R_drew HO_9.out)
                      have n1_ := Aside0.mk (Kd.R_drew HO_10.out)
                      have n2_ := Aside0.mk (Kd.R_drew HO_13.out)
                      have n3_ := Aside0.mk (below_drew1 HB.out)
                      clear HO_9
                      clear HO_10
                      clear HO_13
                      clear HB
                      have HO_9 := n0_
                      have HO_10 := n1_
                      have HO_13 := n2_
                      have HB := n3_
                      clear n0_ n1_ n2_ n3_
                      refine start_ (n := 8) (S := fun w' => True) (ds := []) #[false, false, false, false, false, false, false, false] (by kernel_rfl) rfl rfl trivial (fun hHeld => ?_); refine with_tabW nat_Div.tab18 nat_Div.bits18 (fun HT_ HW_ => ?_)
                      generalize w69.drew = w70 at HO_9 HO_10 HO_13 HB hHeld ⊢
                      refine pure_ (i := 0) (N := some 114) (v := ?_) (a' := ?_) #[true, false, false, false, false, false, false, false] rfl rfl (any_of HT_.out (by kernel_rfl)) (fun _ _ _ h => h) (Or.inl ⟨by rfl, ?_⟩) ?_ ?_
                      rotate_left
                      ·intro w'
                       go_simp
                       with_reducible rfl
                      rotate_left
                      ·simp only [Act.put, List.setIfInBounds_toArray, List.set_cons_zero, List.set_cons_succ, i64_w, i32_w]
                       rfl
                      refine pure_ (i := 1) (N := some 115) (v := ?_) (a' := ?_) #[true, true, false, false, false, false, false, false] rfl rfl (any_of HT_.out (by kernel_rfl)) (fun _ _ _ h => h) (Or.inl ⟨by rfl, ?_⟩) ?_ ?_
                      rotate_left
                      ·intro w'
                       go_simp
                       with_reducible rfl
                      rotate_left
                      ·simp only [Act.put, List.setIfInBounds_toArray, List.set_cons_zero, List.set_cons_succ, i64_w, i32_w]
                       rfl
                      refine pure_ (i := 2) (N := some 116) (v := ?_) (a' := ?_) #[true, true, true, false, false, false, false, false] rfl rfl (any_of HT_.out (by kernel_rfl)) (fun _ _ _ h => h) (Or.inl ⟨by rfl, ?_⟩) ?_ ?_
                      rotate_left
                      ·intro w'
                       go_simp
                       with_reducible rfl
                      rotate_left
                      ·simp only [Act.put, List.setIfInBounds_toArray, List.set_cons_zero, List.set_cons_succ, i64_w, i32_w]
                       rfl
                      refine pure_ (i := 3) (N := some 117) (v := ?_) (a' := ?_) #[true, true, true, true, false, false, false, false] rfl rfl (any_of HT_.out (by kernel_rfl)) (fun _ _ _ h => h) (Or.inl ⟨by rfl, ?_⟩) ?_ ?_
                      rotate_left
                      ·intro w'
                       go_simp
                       with_reducible rfl
                      rotate_left
                      ·simp only [Act.put, List.setIfInBounds_toArray, List.set_cons_zero, List.set_cons_succ, i64_w, i32_w]
                       rfl
                      refine pure_ (i := 4) (N := some 118) (v := ?_) (a' := ?_) #[true, true, true, true, true, false, false, false] rfl rfl (any_of HT_.out (by kernel_rfl)) (fun _ _ _ h => h) (Or.inl ⟨by rfl, ?_⟩) ?_ ?_
                      rotate_left
                      ·intro w'
                       go_simp
                       with_reducible rfl
                      rotate_left
                      ·simp only [Act.put, List.setIfInBounds_toArray, List.set_cons_zero, List.set_cons_succ, i64_w, i32_w]
                       rfl
                      refine pure_ (i := 5) (N := some 119) (v := ?_) (a' := ?_) #[true, true, true, true, true, true, false, false] rfl rfl (any_of HT_.out (by kernel_rfl)) (fun _ _ _ h => h) (Or.inl ⟨by rfl, ?_⟩) ?_ ?_
                      rotate_left
                      ·intro w'
                       go_simp
                       with_reducible rfl
                      rotate_left
                      ·simp only [Act.put, List.setIfInBounds_toArray, List.set_cons_zero, List.set_cons_succ, i64_w, i32_w]
                       rfl
                      refine pure_ (i := 6) (N := some 18) (v := ?_) (a' := ?_) #[true, true, true, true, true, true, true, false] rfl rfl (any_of HT_.out (by kernel_rfl)) (fun _ _ _ h => h) (Or.inl ⟨by rfl, ?_⟩) ?_ ?_
                      rotate_left
                      ·intro w'
                       go_simp
                       with_reducible rfl
                      rotate_left
                      ·simp only [Act.put, List.setIfInBounds_toArray, List.set_cons_zero, List.set_cons_succ, i64_w, i32_w]
                       rfl
                      refine pure_ (i := 7) (N := some 19) (v := ?_) (a' := ?_) #[true, true, true, true, true, true, true, true] rfl rfl (any_of HT_.out (by kernel_rfl)) (fun _ _ _ h => h) (Or.inl ⟨by rfl, ?_⟩) ?_ ?_
                      rotate_left
                      ·intro w'
                       go_simp
                       with_reducible rfl
                      rotate_left
                      ·simp only [Act.put, List.setIfInBounds_toArray, List.set_cons_zero, List.set_cons_succ, i64_w, i32_w]
                       rfl
                      refine done_ (done_of HT_.out (by kernel_rfl)) ?_
                      go_upto_block 3 with (fail)
                      go_cut [18] (fun v18 wc => ∃ (kq : Nat) (x18_67 : Int), v18 = .int .u64 x18_67 ∧ Aside0 (nat_Div.j3 kq (IntKind.u64.wrap (t419)) x9_1 y426 (y426.length : Int) x13_1 (IntKind.u64.wrap (rd y426 (ji40))) (IntKind.u64.wrap (rd y426 (ji43))) x16_1 x18_67 = some (r1, r2)) ∧ Aside0 (kq ≤ k1) ∧ Aside0 (Kd.R (Kd.int .u32) 46 wc w.heap.size (fun k_ => (w.heap.size ≤ k_) ∧ some k_ ≠ ((.slice (some ad432) y426.length co54) : Value).ownBlock ∧ some k_ ≠ (v430 : Value).ownBlock) (.slice (some ad434) x9_1.length co56) x9_1) ∧ Aside0 (Kd.R (Kd.int .u32) 46 wc w.heap.size (fun k_ => (w.heap.size ≤ k_) ∧ some k_ ≠ ((.slice (some ad434) x9_1.length co56) : Value).ownBlock ∧ some k_ ≠ (v430 : Value).ownBlock) (.slice (some ad432) y426.length co54) y426) ∧ Aside0 (Kd.R (Kd.int .u32) 46 wc w.heap.size (fun k_ => (w.heap.size ≤ k_) ∧ some k_ ≠ ((.slice (some ad434) x9_1.length co56) : Value).ownBlock ∧ some k_ ≠ ((.slice (some ad432) y426.length co54) : Value).ownBlock) v430 x13_1) ∧ Aside0 (Below w.heap.size w wc))
                      case first =>
                       have H := HC68.out
                       clear HC68
                       have H' := Aside0.mk H
                       clear H
                       go_wp2
                       go_loopg [18, 19] k1 (fun kq v18 v19 w' => ∃ (x18_2 : Int) (x19_2 : Int), v18 = .int .u64 x18_2 ∧ v19 = .int .u64 x19_2 ∧ Aside0 (nat_Div.l1 kq (IntKind.u64.wrap (t419)) x9_1 y426 (y426.length : Int) x13_1 (IntKind.u64.wrap (rd y426 (ji40))) (IntKind.u64.wrap (rd y426 (ji43))) x16_1 x18_2 x19_2 = some (r1, r2)) ∧ Aside0 (kq ≤ k1) ∧ Aside0 (Kd.R (Kd.int .u32) 46 w' w.heap.size (fun k_ => (w.heap.size ≤ k_) ∧ some k_ ≠ ((.slice (some ad432) y426.length co54) : Value).ownBlock ∧ some k_ ≠ (v430 : Value).ownBlock) (.slice (some ad434) x9_1.length co56) x9_1) ∧ Aside0 (Kd.R (Kd.int .u32) 46 w' w.heap.size (fun k_ => (w.heap.size ≤ k_) ∧ some k_ ≠ ((.slice (some ad434) x9_1.length co56) : Value).ownBlock ∧ some k_ ≠ (v430 : Value).ownBlock) (.slice (some ad432) y426.length co54) y426) ∧ Aside0 (Kd.R (Kd.int .u32) 46 w' w.heap.size (fun k_ => (w.heap.size ≤ k_) ∧ some k_ ≠ ((.slice (some ad434) x9_1.length co56) : Value).ownBlock ∧ some k_ ≠ ((.slice (some ad432) y426.length co54) : Value).ownBlock) v430 x13_1) ∧ Aside0 (Below w.heap.size w w'))
                       case atStart => exact ⟨(IntKind.u64.wrap (Int.tdiv (Go.bits .or .u64 (IntKind.u64.wrap ((IntKind.u64.wrap (rd x9_1 (ji61))) * 4294967296)) (IntKind.u64.wrap (rd x9_1 (ji64)))) (IntKind.u64.wrap (rd y426 (ji40))))), (Int.tmod (Go.bits .or .u64 (IntKind.u64.wrap ((IntKind.u64.wrap (rd x9_1 (ji61))) * 4294967296)) (IntKind.u64.wrap (rd x9_1 (ji64)))) (IntKind.u64.wrap (rd y426 (ji40)))), (by first | rfl | (simp; done) | (simp only [← hji40, ← hji61, ← hji64] <;> (first | rfl | simp)) | (simp [*]; done)), (by first | rfl | (simp; done) | (simp only [← hji40, ← hji61, ← hji64] <;> (first | rfl | simp)) | (simp [*]; done)), H', ⟨Nat.le_refl _⟩, ⟨by (try simp only [hl9_1]); (with_reducible repeat (first | apply Kd.R_alloc | apply Kd.R_drewN | apply Kd.R_drew)); exact HO_9.out⟩, ⟨by (try simp only [hl9_1]); (with_reducible repeat (first | apply Kd.R_alloc | apply Kd.R_drewN | apply Kd.R_drew)); exact HO_10.out⟩, ⟨by (try simp only [hl9_1]); (with_reducible repeat (first | apply Kd.R_alloc | apply Kd.R_drewN | apply Kd.R_drew)); exact HO_13.out⟩, ⟨by repeat (first | (with_reducible first | exact HB.out | apply below_alloc | apply pw_below_drewN | apply below_drew1) | exact HB.out)⟩⟩
                       case round =>
                        clear H'
                        try clear c1
                        try clear c2
                        try clear p2
                        try clear c3
                        try clear c4
                        try clear p4
                        try clear q4
                        try clear hx4
                        try clear qi4
                        try clear c5
                        try clear c5b0
                        try clear c5b1
                        try clear c5b2
                        try clear q5
                        try clear c6
                        try clear p6
                        try clear c10
                        try clear c10b0
                        try clear c16
                        try clear c18
                        try clear c18b0
                        try clear c18b1
                        try clear c19
                        try clear c19b0
                        try clear c19b1
                        try clear c21
                        try clear c23
                        try clear c30
                        try clear c30b0
                        try clear c31
                        try clear c31b0
                        try clear c35
                        try clear c35b0
                        try clear c35b1
                        try clear c36
                        try clear c36b0
                        try clear c36b1
                        try clear c38
                        try clear c38b0
                        try clear c38b1
                        try clear c39
                        try clear c39b0
                        try clear c39b1
                        try clear c40
                        try clear c41
                        try clear c41b0
                        try clear p41
                        try clear q41
                        try clear hx41
                        try clear qi41
                        try clear c42
                        try clear c42b0
                        try clear p43
                        try clear q43
                        try clear hx43
                        try clear c44
                        try clear c44b0
                        try clear c45
                        try clear c45b0
                        try clear q55
                        try clear c60
                        try clear c60b0
                        try clear c62
                        try clear c62b0
                        try clear c63
                        try clear c63b0
                        try clear p64
                        try clear c65
                        try clear c65b0
                        try clear c66
                        try clear c66b0
                        try clear c67
                        try clear c67b0
                        try clear c67b1
                        try clear hx410_0
                        try clear hx418_0
                        try clear hx432_0
                        try clear hx433_0
                        try clear hx434_0
                        try clear hx435_0
                        try clear p2
                        try clear p4
                        try clear p41
                        try clear p410
                        try clear p418
                        try clear p43
                        try clear p432
                        try clear p433
                        try clear p434
                        try clear p435
                        try clear p6
                        try clear q4
                        try clear q41
                        try clear q410
                        try clear q418
                        try clear q43
                        try clear q432
                        try clear q433
                        try clear q434
                        try clear q435
                        try clear q5
                        try clear q55
                        try clear hji29
                        try clear hji29w
                        try clear hji37
                        try clear hji37w
                        try clear hji40
                        try clear hji40w
                        try clear hji43
                        try clear hji43w
                        try clear hji61
                        try clear hji61w
                        try clear hji64
                        try clear hji64w
                        obtain ⟨x18_2, x19_2, rfl, rfl, HA, HK2, HO_9, HO_10, HO_13, HB⟩ := hrel
                        cases gk with
                        | zero => exact absurd HA.out (by simp [nat_Div.l1])
                        | succ k2 =>
                         have H := HA.out
                         clear HA
                         simp only [nat_Div.l1] at H
                         have HC71 := Aside0.mk H
                         clear H
                         go_upto_region 19 with (fail)
                         go_cut [138] (fun v138 wc => ∃ (kq : Nat) (x138_70 : Bool), v138 = .bool x138_70 ∧ Aside0 (nat_Div.j2 kq (IntKind.u64.wrap (t419)) x9_1 y426 (y426.length : Int) x13_1 (IntKind.u64.wrap (rd y426 (ji40))) (IntKind.u64.wrap (rd y426 (ji43))) x16_1 x18_2 x19_2 x138_70 = some (r1, r2)) ∧ Aside0 (kq ≤ k2) ∧ Aside0 (Kd.R (Kd.int .u32) 46 wc w.heap.size (fun k_ => (w.heap.size ≤ k_) ∧ some k_ ≠ ((.slice (some ad432) y426.length co54) : Value).ownBlock ∧ some k_ ≠ (v430 : Value).ownBlock) (.slice (some ad434) x9_1.length co56) x9_1) ∧ Aside0 (Kd.R (Kd.int .u32) 46 wc w.heap.size (fun k_ => (w.heap.size ≤ k_) ∧ some k_ ≠ ((.slice (some ad434) x9_1.length co56) : Value).ownBlock ∧ some k_ ≠ (v430 : Value).ownBlock) (.slice (some ad432) y426.length co54) y426) ∧ Aside0 (Kd.R (Kd.int .u32) 46 wc w.heap.size (fun k_ => (w.heap.size ≤ k_) ∧ some k_ ≠ ((.slice (some ad434) x9_1.length co56) : Value).ownBlock ∧ some k_ ≠ ((.slice (some ad432) y426.length co54) : Value).ownBlock) v430 x13_1) ∧ Aside0 (Below w.heap.size w wc))
                         case first =>
                          have H := HC71.out
                          clear HC71
                          by_cases c72 : x18_2 ≥ 4294967296
                          ·rw [if_pos c72] at H
                           have c72b0 : decide (4294967296 ≤ x18_2) = true := decide_eq_true c72
                           clear c72
                           (first | rw [c72b0] | (simp only [i64_w, i32_w]; rw [c72b0]) | skip)
                           have H' := Aside0.mk H
                           clear H
                           go_wp2
                           go_meet
                           case rel => exact ⟨_, (true), (by first | rfl | (simp; done) | (simp [*]; done)), H', ⟨by have := HK1.out; have := HK2.out; first | omega | exact Nat.le_refl _⟩, ⟨by (try simp only [hl9_1]); (with_reducible repeat (first | apply Kd.R_alloc | apply Kd.R_drewN | apply Kd.R_drew)); exact HO_9.out⟩, ⟨by (try simp only [hl9_1]); (with_reducible repeat (first | apply Kd.R_alloc | apply Kd.R_drewN | apply Kd.R_drew)); exact HO_10.out⟩, ⟨by (try simp only [hl9_1]); (with_reducible repeat (first | apply Kd.R_alloc | apply Kd.R_drewN | apply Kd.R_drew)); exact HO_13.out⟩, ⟨by repeat (first | (with_reducible first | exact HB.out | apply below_alloc | apply pw_below_drewN | apply below_drew1) | exact HB.out)⟩⟩
                          ·rw [if_neg c72] at H
                           have c72b0 : decide (4294967296 ≤ x18_2) = false := decide_eq_false c72
                           clear c72
                           (first | rw [c72b0] | (simp only [i64_w, i32_w]; rw [c72b0]) | skip)
                           obtain ⟨ji73, hji73⟩ : ∃ j_ : Int, (wrap64 ((wrap64 (x16_1 + (y426.length : Int))) - 2)) = j_ := ⟨_, rfl⟩
                           replace H : (if 0 ≤ (ji73) then (if (ji73) < (x9_1.length : Int) then (nat_Div.j2 k2 (IntKind.u64.wrap (t419)) x9_1 y426 (y426.length : Int) x13_1 (IntKind.u64.wrap (rd y426 (ji40))) (IntKind.u64.wrap (rd y426 (ji43))) x16_1 x18_2 x19_2 (decide ((IntKind.u64.wrap (x18_2 * (IntKind.u64.wrap (rd y426 (ji43))))) > (Go.bits .or .u64 (IntKind.u64.wrap (x19_2 * 4294967296)) (IntKind.u64.wrap (rd x9_1 (ji73))))))) else (none)) else (none)) = some (r1, r2) := by first | (rw [hji73] at H; exact H) | (simp only [hji73] at H ⊢; exact H)
                           have hji73w : (IntKind.i64.wrap ((wrap64 (x16_1 + (y426.length : Int))) - 2)) = ji73 := (i64_w _).trans hji73
                           by_cases c74 : 0 ≤ (ji73)
                           ·rw [if_pos c74] at H
                            have c74b0 : decide (0 ≤ (ji73)) = true := decide_eq_true c74
                            clear c74
                            by_cases c75 : (ji73) < (x9_1.length : Int)
                            ·rw [if_pos c75] at H
                             have c75b0 : decide ((ji73) < (x9_1.length : Int)) = true := decide_eq_true c75
                             (try (have c75b0l := c75b0; simp only [hl9_1] at c75b0l))
                             clear c75
                             have H' := Aside0.mk H
                             clear H
                             have p436 : 0 ≤ ((ji73) : Int) := of_decide_eq_true (by first | (with_reducible assumption) | assumption)
                             have q436 : (ji73) < (x9_1.length : Int) := of_decide_eq_true (by first | (with_reducible assumption) | assumption)
                             obtain ⟨ad436, e436, hx436_0⟩ := Kd.at_int (Kd.R_reads' HO_9.out).2.2 (ji73) p436 q436
                             obtain rfl : ad434 = ad436 := (by injection e436)
                             replace p436 := eq_true p436
                             replace q436 := eq_true q436
                             go_wp2
                             go_meet
                             case rel => exact ⟨_, (decide ((IntKind.u64.wrap (x18_2 * (IntKind.u64.wrap (rd y426 (ji43))))) > (Go.bits .or .u64 (IntKind.u64.wrap (x19_2 * 4294967296)) (IntKind.u64.wrap (rd x9_1 (ji73)))))), (by first | rfl | (simp; done) | (simp only [← hji43, ← hji73] <;> (first | rfl | simp)) | (simp [*]; done)), H', ⟨by have := HK1.out; have := HK2.out; first | omega | exact Nat.le_refl _⟩, ⟨by (try simp only [hl9_1]); (with_reducible repeat (first | apply Kd.R_alloc | apply Kd.R_drewN | apply Kd.R_drew)); exact HO_9.out⟩, ⟨by (try simp only [hl9_1]); (with_reducible repeat (first | apply Kd.R_alloc | apply Kd.R_drewN | apply Kd.R_drew)); exact HO_10.out⟩, ⟨by (try simp only [hl9_1]); (with_reducible repeat (first | apply Kd.R_alloc | apply Kd.R_drewN | apply Kd.R_drew)); exact HO_13.out⟩, ⟨by repeat (first | (with_reducible first | exact HB.out | apply below_alloc | apply pw_below_drewN | apply below_drew1) | exact HB.out)⟩⟩
                            ·rw [if_neg c75] at H
                             exact absurd H (by simp)
                           ·rw [if_neg c74] at H
                            exact absurd H (by simp)
                         case rest =>
                          clear HC71
                          try clear c1
                          try clear c2
                          try clear p2
                          try clear c3
                          try clear c4
                          try clear p4
                          try clear q4
                          try clear hx4
                          try clear qi4
                          try clear c5
                          try clear c5b0
                          try clear c5b1
                          try clear c5b2
                          try clear q5
                          try clear c6
                          try clear p6
                          try clear c7
                          try clear c10
                          try clear c10b0
                          try clear c16
                          try clear c18
                          try clear c18b0
                          try clear c18b1
                          try clear c19
                          try clear c19b0
                          try clear c19b1
                          try clear c21
                          try clear c23
                          try clear c30
                          try clear c30b0
                          try clear c31
                          try clear c31b0
                          try clear c35
                          try clear c35b0
                          try clear c35b1
                          try clear c36
                          try clear c36b0
                          try clear c36b1
                          try clear c38
                          try clear c38b0
                          try clear c38b1
                          try clear c39
                          try clear c39b0
                          try clear c39b1
                          try clear c40
                          try clear c41
                          try clear c41b0
                          try clear p41
                          try clear q41
                          try clear hx41
                          try clear qi41
                          try clear c42
                          try clear c42b0
                          try clear p43
                          try clear q43
                          try clear hx43
                          try clear c44
                          try clear c44b0
                          try clear c45
                          try clear c45b0
                          try clear q55
                          try clear c60
                          try clear c60b0
                          try clear c62
                          try clear c62b0
                          try clear c63
                          try clear c63b0
                          try clear p64
                          try clear c65
                          try clear c65b0
                          try clear c66
                          try clear c66b0
                          try clear c67
                          try clear c67b0
                          try clear c67b1
                          try clear c72
                          try clear c72b0
                          try clear c74
                          try clear c74b0
                          try clear c75
                          try clear c75b0
                          try clear hx410_0
                          try clear hx418_0
                          try clear hx432_0
                          try clear hx433_0
                          try clear hx434_0
                          try clear hx435_0
                          try clear hx436_0
                          try clear p2
                          try clear p4
                          try clear p41
                          try clear p410
                          try clear p418
                          try clear p43
                          try clear p432
                          try clear p433
                          try clear p434
                          try clear p435
                          try clear p436
                          try clear p6
                          try clear p64
                          try clear q4
                          try clear q41
                          try clear q410
                          try clear q418
                          try clear q43
                          try clear q432
                          try clear q433
                          try clear q434
                          try clear q435
                          try clear q436
                          try clear q5
                          try clear q55
                          try clear hji29
                          try clear hji29w
                          try clear hji37
                          try clear hji37w
                          try clear hji40
                          try clear hji40w
                          try clear hji43
                          try clear hji43w
                          try clear hji61
                          try clear hji61w
                          try clear hji64
                          try clear hji64w
                          try clear hji73
                          try clear hji73w
                          obtain ⟨kq, x138_70, rfl, HA, HJ70, HO_9, HO_10, HO_13, HB⟩ := hcut
                          cases kq with
                          | zero => exact absurd HA.out (by simp [nat_Div.j2])
                          | succ kj70 =>
                           have H := HA.out
                           clear HA
                           simp only [nat_Div.j2] at H
                           by_cases c76 : x138_70 = true
                           ·subst c76
                            have H1 : (if (IntKind.u64.wrap (x19_2 + (IntKind.u64.wrap (rd y426 (ji40))))) ≥ 4294967296 then (nat_Div.j3 kj70 (IntKind.u64.wrap (t419)) x9_1 y426 (y426.length : Int) x13_1 (IntKind.u64.wrap (rd y426 (ji40))) (IntKind.u64.wrap (rd y426 (ji43))) x16_1 (IntKind.u64.wrap (x18_2 - 1))) else (nat_Div.l1 kj70 (IntKind.u64.wrap (t419)) x9_1 y426 (y426.length : Int) x13_1 (IntKind.u64.wrap (rd y426 (ji40))) (IntKind.u64.wrap (rd y426 (ji43))) x16_1 (IntKind.u64.wrap (x18_2 - 1)) (IntKind.u64.wrap (x19_2 + (IntKind.u64.wrap (rd y426 (ji40))))))) = some (r1, r2) := by rw [if_pos rfl] at H; exact H
                            clear H
                            have H := H1
                            clear H1
                            by_cases c77 : (IntKind.u64.wrap (x19_2 + (IntKind.u64.wrap (rd y426 (ji40))))) ≥ 4294967296
                            ·rw [if_pos c77] at H
                             have c77b0 : decide (4294967296 ≤ (IntKind.u64.wrap (x19_2 + (IntKind.u64.wrap (rd y426 (ji40)))))) = true := decide_eq_true c77
                             clear c77
                             have H' := Aside0.mk H
                             clear H
                             go_wp2
                             go_meet
                             case rel => exact ⟨_, (IntKind.u64.wrap (x18_2 - 1)), (by first | rfl | (simp; done) | (simp [*]; done)), H', ⟨by have := HK1.out; have := HK2.out; have := HJ70.out; first | omega | exact Nat.le_refl _⟩, ⟨by (try simp only [hl9_1]); (with_reducible repeat (first | apply Kd.R_alloc | apply Kd.R_drewN | apply Kd.R_drew)); exact HO_9.out⟩, ⟨by (try simp only [hl9_1]); (with_reducible repeat (first | apply Kd.R_alloc | apply Kd.R_drewN | apply Kd.R_drew)); exact HO_10.out⟩, ⟨by (try simp only [hl9_1]); (with_reducible repeat (first | apply Kd.R_alloc | apply Kd.R_drewN | apply Kd.R_drew)); exact HO_13.out⟩, ⟨by repeat (first | (with_reducible first | exact HB.out | apply below_alloc | apply pw_below_drewN | apply below_drew1) | exact HB.out)⟩⟩
                            ·rw [if_neg c77] at H
                             have c77b0 : decide (4294967296 ≤ (IntKind.u64.wrap (x19_2 + (IntKind.u64.wrap (rd y426 (ji40)))))) = false := decide_eq_false c77
                             clear c77
                             have H' := Aside0.mk H
                             clear H
                             go_wp2
                             go_roundg kj70
                             case measure => have := HK1.out; have := HK2.out; have := HJ70.out; omega
                             case rel => exact ⟨(IntKind.u64.wrap (x18_2 - 1)), (IntKind.u64.wrap (x19_2 + (IntKind.u64.wrap (rd y426 (ji40))))), (by first | rfl | (simp; done) | (simp [*]; done)), (by first | rfl | (simp; done) | (simp only [← hji40] <;> (first | rfl | simp)) | (simp [*]; done)), H', ⟨by have := HK1.out; have := HK2.out; have := HJ70.out; omega⟩, ⟨by (try simp only [hl9_1]); (with_reducible repeat (first | apply Kd.R_alloc | apply Kd.R_drewN | apply Kd.R_drew)); exact HO_9.out⟩, ⟨by (try simp only [hl9_1]); (with_reducible repeat (first | apply Kd.R_alloc | apply Kd.R_drewN | apply Kd.R_drew)); exact HO_10.out⟩, ⟨by (try simp only [hl9_1]); (with_reducible repeat (first | apply Kd.R_alloc | apply Kd.R_drewN | apply Kd.R_drew)); exact HO_13.out⟩, ⟨by repeat (first | (with_reducible first | exact HB.out | apply below_alloc | apply pw_below_drewN | apply below_drew1) | exact HB.out)⟩⟩
                           ·replace c76 := Bool.eq_false_iff.mpr c76
                            subst c76
                            have H1 : (nat_Div.j3 kj70 (IntKind.u64.wrap (t419)) x9_1 y426 (y426.length : Int) x13_1 (IntKind.u64.wrap (rd y426 (ji40))) (IntKind.u64.wrap (rd y426 (ji43))) x16_1 x18_2) = some (r1, r2) := by rw [if_neg (show ¬ (false = true) by decide)] at H; exact H
                            clear H
                            have H := H1
                            clear H1
                            have H' := Aside0.mk H
                            clear H
                            go_wp2
                            go_meet
                            case rel => exact ⟨_, (x18_2), (by first | rfl | (simp; done) | (simp [*]; done)), H', ⟨by have := HK1.out; have := HK2.out; have := HJ70.out; first | omega | exact Nat.le_refl _⟩, ⟨by (try simp only [hl9_1]); (with_reducible repeat (first | apply Kd.R_alloc | apply Kd.R_drewN | apply Kd.R_drew)); exact HO_9.out⟩, ⟨by (try simp only [hl9_1]); (with_reducible repeat (first | apply Kd.R_alloc | apply Kd.R_drewN | apply Kd.R_drew)); exact HO_10.out⟩, ⟨by (try simp only [hl9_1]); (with_reducible repeat (first | apply Kd.R_alloc | apply Kd.R_drewN | apply Kd.R_drew)); exact HO_13.out⟩, ⟨by repeat (first | (with_reducible first | exact HB.out | apply below_alloc | apply pw_below_drewN | apply below_drew1) | exact HB.out)⟩⟩
                      case rest =>
                       clear HC68
                       try clear c1
                       try clear c2
                       try clear p2
                       try clear c3
                       try clear c4
                       try clear p4
                       try clear q4
                       try clear hx4
                       try clear qi4
                       try clear c5
                       try clear c5b0
                       try clear c5b1
                       try clear c5b2
                       try clear q5
                       try clear c6
                       try clear p6
                       try clear c7
                       try clear c10
                       try clear c10b0
                       try clear c16
                       try clear c18
                       try clear c18b0
                       try clear c18b1
                       try clear c19
                       try clear c19b0
                       try clear c19b1
                       try clear c21
                       try clear c23
                       try clear c30
                       try clear c30b0
                       try clear c31
                       try clear c31b0
                       try clear c35
                       try clear c35b0
                       try clear c35b1
                       try clear c36
                       try clear c36b0
                       try clear c36b1
                       try clear c38
                       try clear c38b0
                       try clear c38b1
                       try clear c39
                       try clear c39b0
                       try clear c39b1
                       try clear c40
                       try clear c41
                       try clear c41b0
                       try clear p41
                       try clear q41
                       try clear hx41
                       try clear qi41
                       try clear c42
                       try clear c42b0
                       try clear p43
                       try clear q43
                       try clear hx43
                       try clear c44
                       try clear c44b0
                       try clear c45
                       try clear c45b0
                       try clear q55
                       try clear c60
                       try clear c60b0
                       try clear c62
                       try clear c62b0
                       try clear c63
                       try clear c63b0
                       try clear p64
                       try clear c65
                       try clear c65b0
                       try clear c66
                       try clear c66b0
                       try clear c67
                       try clear c67b0
                       try clear c67b1
                       try clear c72
                       try clear c72b0
                       try clear c74
                       try clear c74b0
                       try clear c75
                       try clear c75b0
                       try clear c76
                       try clear c77
                       try clear c77b0
                       try clear hx410_0
                       try clear hx418_0
                       try clear hx432_0
                       try clear hx433_0
                       try clear hx434_0
                       try clear hx435_0
                       try clear hx436_0
                       try clear p2
                       try clear p4
                       try clear p41
                       try clear p410
                       try clear p418
                       try clear p43
                       try clear p432
                       try clear p433
                       try clear p434
                       try clear p435
                       try clear p436
                       try clear p6
                       try clear p64
                       try clear q4
                       try clear q41
                       try clear q410
                       try clear q418
                       try clear q43
                       try clear q432
                       try clear q433
                       try clear q434
                       try clear q435
                       try clear q436
                       try clear q5
                       try clear q55
                       try clear hji29
                       try clear hji29w
                       try clear hji37
                       try clear hji37w
                       try clear hji40
                       try clear hji40w
                       try clear hji43
                       try clear hji43w
                       try clear hji61
                       try clear hji61w
                       try clear hji64
                       try clear hji64w
                       try clear hji73
                       try clear hji73w
                       obtain ⟨kq, x18_67, rfl, HA, HJ67, HO_9, HO_10, HO_13, HB⟩ := hcut
                       cases kq with
                       | zero => exact absurd HA.out (by simp [nat_Div.j3])
                       | succ kj67 =>
                        have H := HA.out
                        clear HA
                        simp only [nat_Div.j3] at H
                        by_cases c78 : 0 ≤ x16_1
                        ·rw [if_pos c78] at H
                         have c78b0 := eq_true c78
                         have c78b1 : decide (0 ≤ x16_1) = true := decide_eq_true c78
                         clear c78
                         by_cases c79 : x16_1 ≤ (wrap64 ((wrap64 (x16_1 + (y426.length : Int))) + 1))
                         ·rw [if_pos c79] at H
                          have c79b0 := eq_true c79
                          have c79b1 : decide (x16_1 ≤ (wrap64 ((wrap64 (x16_1 + (y426.length : Int))) + 1))) = true := decide_eq_true c79
                          by_cases c80 : (wrap64 ((wrap64 (x16_1 + (y426.length : Int))) + 1)) ≤ (x9_1.length : Int)
                          ·rw [if_pos c80] at H
                           have c80b0 := eq_true c80
                           have c80b1 : decide ((wrap64 ((wrap64 (x16_1 + (y426.length : Int))) + 1)) ≤ (x9_1.length : Int)) = true := decide_eq_true c80
                           obtain ⟨y437, hy437⟩ : ∃ y_ : List Int, y_ = ((x9_1.take ((wrap64 ((wrap64 (x16_1 + (y426.length : Int))) + 1)) : Int).toNat).drop (x16_1 : Int).toNat) := ⟨_, rfl⟩
                           replace H : ((nat_lessAt.f kj67 x9_1 y426 x18_67 x16_1 (wrap64 ((wrap64 (x16_1 + (y426.length : Int))) + 1))).bind fun bt441 => (if bt441.1 = true then ((nat_moreAt.f kj67 bt441.2 y426 x16_1 (wrap64 ((wrap64 (x16_1 + (y426.length : Int))) + 1))).bind fun t447 => (if x16_1 < (x13_1.length : Int) then (nat_Div.l0 kj67 (IntKind.u64.wrap (t419)) t447 y426 (y426.length : Int) (x13_1.set (x16_1 : Int).toNat ((IntKind.u64.wrap (x18_67 - 1)) % 4294967296)) (IntKind.u64.wrap (rd y426 (ji40))) (IntKind.u64.wrap (rd y426 (ji43))) (wrap64 (x16_1 - 1))) else (none))) else (if x16_1 < (x13_1.length : Int) then (nat_Div.l0 kj67 (IntKind.u64.wrap (t419)) bt441.2 y426 (y426.length : Int) (x13_1.set (x16_1 : Int).toNat ((x18_67) % 4294967296)) (IntKind.u64.wrap (rd y426 (ji40))) (IntKind.u64.wrap (rd y426 (ji43))) (wrap64 (x16_1 - 1))) else (none)))) = some (r1, r2) := by first | (rw [hy437]; with_reducible exact H) | (have H2_ := (Option.bind_some _ _).symm.trans H; rw [hy437]; with_reducible exact H2_) | (have H2_ := (Option.bind_some _ _).symm.trans H; with_reducible exact H2_) | with_reducible exact H | (rw [hy437]; exact H) | exact H
                           have Ny437 := Aside0.mk hy437
                           clear hy437
                           replace H := Option.bind_eq_some_iff.mp H
                           obtain ⟨⟨t441, t442⟩, A810, H⟩ := H
                           replace H : (if t441 = true then ((nat_moreAt.f kj67 t442 y426 x16_1 (wrap64 ((wrap64 (x16_1 + (y426.length : Int))) + 1))).bind fun t447 => (if x16_1 < (x13_1.length : Int) then (nat_Div.l0 kj67 (IntKind.u64.wrap (t419)) t447 y426 (y426.length : Int) (x13_1.set (x16_1 : Int).toNat ((IntKind.u64.wrap (x18_67 - 1)) % 4294967296)) (IntKind.u64.wrap (rd y426 (ji40))) (IntKind.u64.wrap (rd y426 (ji43))) (wrap64 (x16_1 - 1))) else (none))) else (if x16_1 < (x13_1.length : Int) then (nat_Div.l0 kj67 (IntKind.u64.wrap (t419)) t442 y426 (y426.length : Int) (x13_1.set (x16_1 : Int).toNat ((x18_67) % 4294967296)) (IntKind.u64.wrap (rd y426 (ji40))) (IntKind.u64.wrap (rd y426 (ji43))) (wrap64 (x16_1 - 1))) else (none))) = some (r1, r2) := H
                           have A81 := Aside0.mk A810
                           clear A810
                           by_cases c82 : t441 = true
                           ·subst c82
                            have H1 : ((nat_moreAt.f kj67 t442 y426 x16_1 (wrap64 ((wrap64 (x16_1 + (y426.length : Int))) + 1))).bind fun t447 => (if x16_1 < (x13_1.length : Int) then (nat_Div.l0 kj67 (IntKind.u64.wrap (t419)) t447 y426 (y426.length : Int) (x13_1.set (x16_1 : Int).toNat ((IntKind.u64.wrap (x18_67 - 1)) % 4294967296)) (IntKind.u64.wrap (rd y426 (ji40))) (IntKind.u64.wrap (rd y426 (ji43))) (wrap64 (x16_1 - 1))) else (none))) = some (r1, r2) := by rw [if_pos rfl] at H; exact H
                            clear H
                            have H := H1
                            clear H1
                            have c83b0 := eq_true (of_decide_eq_true (by first | (with_reducible assumption) | assumption) : 0 ≤ x16_1)
                            have c84b0 := eq_true (of_decide_eq_true (by first | (with_reducible assumption) | assumption) : x16_1 ≤ (wrap64 ((wrap64 (x16_1 + (y426.length : Int))) + 1)))
                            have c85b0 := eq_true (of_decide_eq_true (by first | (with_reducible assumption) | assumption) : (wrap64 ((wrap64 (x16_1 + (y426.length : Int))) + 1)) ≤ (x9_1.length : Int))
                            obtain ⟨y443, hy443⟩ : ∃ y_ : List Int, y_ = ((t442.take ((wrap64 ((wrap64 (x16_1 + (y426.length : Int))) + 1)) : Int).toNat).drop (x16_1 : Int).toNat) := ⟨_, rfl⟩
                            replace H : ((nat_moreAt.f kj67 t442 y426 x16_1 (wrap64 ((wrap64 (x16_1 + (y426.length : Int))) + 1))).bind fun t447 => (if x16_1 < (x13_1.length : Int) then (nat_Div.l0 kj67 (IntKind.u64.wrap (t419)) t447 y426 (y426.length : Int) (x13_1.set (x16_1 : Int).toNat ((IntKind.u64.wrap (x18_67 - 1)) % 4294967296)) (IntKind.u64.wrap (rd y426 (ji40))) (IntKind.u64.wrap (rd y426 (ji43))) (wrap64 (x16_1 - 1))) else (none))) = some (r1, r2) := by first | (rw [hy443]; with_reducible exact H) | (have H2_ := (Option.bind_some _ _).symm.trans H; rw [hy443]; with_reducible exact H2_) | (have H2_ := (Option.bind_some _ _).symm.trans H; with_reducible exact H2_) | with_reducible exact H | (rw [hy443]; exact H) | exact H
                            have Ny443 := Aside0.mk hy443
                            clear hy443
                            replace H := Option.bind_eq_some_iff.mp H
                            obtain ⟨t447, A860, H⟩ := H
                            replace H : (if x16_1 < (x13_1.length : Int) then (nat_Div.l0 kj67 (IntKind.u64.wrap (t419)) t447 y426 (y426.length : Int) (x13_1.set (x16_1 : Int).toNat ((IntKind.u64.wrap (x18_67 - 1)) % 4294967296)) (IntKind.u64.wrap (rd y426 (ji40))) (IntKind.u64.wrap (rd y426 (ji43))) (wrap64 (x16_1 - 1))) else (none)) = some (r1, r2) := H
                            have A86 := Aside0.mk A860
                            clear A860
                            by_cases c87 : x16_1 < (x13_1.length : Int)
                            ·rw [if_pos c87] at H
                             have c87b0 : decide (x16_1 < (x13_1.length : Int)) = true := decide_eq_true c87
                             (try (have c87b0l := c87b0; simp only [hl9_1] at c87b0l))
                             clear c87
                             obtain ⟨y448, hy448⟩ : ∃ y_ : List Int, y_ = (x13_1.set (x16_1 : Int).toNat ((IntKind.u64.wrap (x18_67 - 1)) % 4294967296)) := ⟨_, rfl⟩
                             replace H : (nat_Div.l0 kj67 (IntKind.u64.wrap (t419)) t447 y426 (y426.length : Int) y448 (IntKind.u64.wrap (rd y426 (ji40))) (IntKind.u64.wrap (rd y426 (ji43))) (wrap64 (x16_1 - 1))) = some (r1, r2) := by first | (rw [hy448]; with_reducible exact H) | (have H2_ := (Option.bind_some _ _).symm.trans H; rw [hy448]; with_reducible exact H2_) | (have H2_ := (Option.bind_some _ _).symm.trans H; with_reducible exact H2_) | with_reducible exact H | (rw [hy448]; exact H) | exact H
                             have Ny448 := Aside0.mk hy448
                             clear hy448
                             have H' := Aside0.mk H
                             clear H
                             have q89 : ((wrap64 ((wrap64 (x16_1 + (y426.length : Int))) + 1)) : Int) ≤ ((x9_1.length : Int) : Int) := of_decide_eq_true (by first | (with_reducible assumption) | assumption)
                             obtain ⟨i089, hi089, _, hsz89, _⟩ := info_parts info46
                             have hroom89 : x9_1.length ≤ co56 := (Kd.R_reads' HO_9.out).2.1
                             have hC89 : Kd.C (Kd.int .u32) _ (some ad434) x9_1.length x9_1 := (Kd.R_reads' HO_9.out).2.2
                             have ql89 : (x16_1 : Int) ≤ ((wrap64 ((wrap64 (x16_1 + (y426.length : Int))) + 1)) : Int) := of_decide_eq_true (by first | (with_reducible assumption) | assumption)
                             have q089 : (0 : Int) ≤ (x16_1 : Int) := of_decide_eq_true (by first | (with_reducible assumption) | assumption)
                             have hcut89 := cut_mid (P := Try.prog) 32 46 .i64 .i64 Try.underlying32 hi089 1 hsz89 (some ad434) x9_1.length co56 x16_1 (wrap64 ((wrap64 (x16_1 + (y426.length : Int))) + 1)) q089 ql89 q89 hroom89
                             have hr89 := Kd.C_mid (lo := (x16_1 : Int).toNat) (hi := ((wrap64 ((wrap64 (x16_1 + (y426.length : Int))) + 1)) : Int).toNat) (c := co56) hC89 (by omega) (by omega) hroom89
                             obtain ⟨A89, hA89⟩ : ∃ A1, A1 = (if co56 = (x16_1 : Int).toNat then (some ad434) else ((some ad434) : Option Addr).map (·.add ((x16_1 : Int).toNat * 1))) := ⟨_, rfl⟩
                             obtain ⟨c89, hc89⟩ : ∃ c1, c1 = co56 - (x16_1 : Int).toNat := ⟨_, rfl⟩
                             have hy89 : y437.length = ((wrap64 ((wrap64 (x16_1 + (y426.length : Int))) + 1)) : Int).toNat - (x16_1 : Int).toNat := (by rw [Ny437.out, List.length_drop, List.length_take] <;> omega)
                             rw [show ((x9_1).take ((wrap64 ((wrap64 (x16_1 + (y426.length : Int))) + 1)) : Int).toNat).drop (x16_1 : Int).toNat = y437 from Ny437.out.symm] at hr89
                             replace hr89 : Kd.C (Kd.int .u32) _ A89 y437.length y437 := (by rw [hA89]; exact hr89)
                             rw [← hy89, ← hA89, ← hc89] at hcut89
                             have HR440 := Aside0.mk hr89
                             have HC440 := Aside0.mk (show y437.length ≤ c89 from by rw [hy89, hc89]; exact Nat.sub_le_sub_right (Nat.le_trans (by omega) hroom89) _)
                             clear hr89 hC89 hroom89 hi089 hsz89 hc89
                             have KY89 := Aside0.mk hy89
                             have KA89 := Aside0.mk hA89
                             clear hy89 hA89
                             have KL89 := Aside0.mk (show ((wrap64 ((wrap64 (x16_1 + (y426.length : Int))) + 1)) : Int).toNat ≤ x9_1.length from by omega)
                             have KM89 := Aside0.mk (show (x16_1 : Int).toNat ≤ ((wrap64 ((wrap64 (x16_1 + (y426.length : Int))) + 1)) : Int).toNat from by omega)
                             replace q89 := eq_true q89
                             go_wp2_with (first | ((with_reducible refine gate_callee (f := 43) rfl ?_); refine goesL_ (some 155) rfl rfl Try.func43 (by kernel_rfl) rfl #[.slice A89 y437.length c89, .slice (some ad432) y426.length co54, .int .u64 x18_67] rfl (by (try simp only [List.map_toArray, List.map_cons, List.map_nil]); first | done | rfl | (simp only [List.length_drop, List.length_take]; rfl)) ?_; (with_reducible refine (nat_lessAt.calls kj67 (fun k_ => some k_ = (.slice (some ad434) x9_1.length co56 : Value).ownBlock) (.slice (some ad434) x9_1.length co56) x9_1 _ _ y426 x18_67 x16_1 (wrap64 ((wrap64 (x16_1 + (y426.length : Int))) + 1)) true t442 w _ ?side1 ?side2 ?side3 ?side4 A81.out).mono ?_); (case side1 => repeat (first | (with_reducible first | exact HB.out | apply below_alloc | apply pw_below_drewN | apply below_drew1) | exact HB.out)); (case side2 => exact Kd.R_tight rfl HO_9.out); (case side3 => exact Kd.C_kept_own (HO_10.out) (fun k_ hk_ hs_ => (hk_.2.1) hs_)); (case side4 => exact (Kd.R_reads' HO_10.out).2.1); rintro e w90 ⟨rfl, hy0, hb, hkp⟩; refine ⟨_, rfl, ?_⟩; have n0_ := Aside0.mk (Kd.R_reok rfl hy0 (fun k_ e_ => HO_9.out.1 k_ e_)); have n1_ := Aside0.mk (Kd.R_mono (ok' := fun k_ => (w.heap.size ≤ k_) ∧ some k_ ≠ (.slice (some ad434) x9_1.length co56 : Value).ownBlock ∧ some k_ ≠ (v430 : Value).ownBlock) (Kd.R_keptB (HO_10.out) hkp (fun k_ hk_ hs_ => (hk_.2.1) hs_)) (fun k_ hk_ => ⟨hk_.1.1, hk_.1.2.1, hk_.1.2.2⟩)); have n2_ := Aside0.mk (Kd.R_mono (ok' := fun k_ => (w.heap.size ≤ k_) ∧ some k_ ≠ (.slice (some ad434) x9_1.length co56 : Value).ownBlock ∧ some k_ ≠ (.slice (some ad432) y426.length co54 : Value).ownBlock) (Kd.R_keptB (HO_13.out) hkp (fun k_ hk_ hs_ => (hk_.2.1) hs_)) (fun k_ hk_ => ⟨hk_.1.1, hk_.1.2.1, hk_.1.2.2⟩)); have n3_ := Aside0.mk (hb); clear HO_9; clear HO_10; clear HO_13; clear HB; have HO_9 := n0_; have HO_10 := n1_; have HO_13 := n2_; have HB := n3_; clear n0_ n1_ n2_ n3_; (try clear hb); (try clear hkp); (try clear hy0); (try clear hcut89); have hlx91 := (Kd.R_reads' HO_9.out).1; have q91 : ((wrap64 ((wrap64 (x16_1 + (y426.length : Int))) + 1)) : Int) ≤ ((x9_1.length : Int) : Int) := of_decide_eq_true (by first | (with_reducible assumption) | assumption); obtain ⟨i091, hi091, _, hsz91, _⟩ := info_parts info46; have hroom91 : x9_1.length ≤ co56 := (Kd.R_reads' HO_9.out).2.1; have hroomc91 : t442.length ≤ co56 := (by rw [← hlx91]; exact hroom91); have hC91 : Kd.C (Kd.int .u32) _ (some ad434) t442.length t442 := (Kd.R_reads' HO_9.out).2.2; have ql91 : (x16_1 : Int) ≤ ((wrap64 ((wrap64 (x16_1 + (y426.length : Int))) + 1)) : Int) := of_decide_eq_true (by first | (with_reducible assumption) | assumption); have q091 : (0 : Int) ≤ (x16_1 : Int) := of_decide_eq_true (by first | (with_reducible assumption) | assumption); have hcut91 := cut_mid (P := Try.prog) 32 46 .i64 .i64 Try.underlying32 hi091 1 hsz91 (some ad434) x9_1.length co56 x16_1 (wrap64 ((wrap64 (x16_1 + (y426.length : Int))) + 1)) q091 ql91 q91 hroom91; have hr91 := Kd.C_mid (lo := (x16_1 : Int).toNat) (hi := ((wrap64 ((wrap64 (x16_1 + (y426.length : Int))) + 1)) : Int).toNat) (c := co56) hC91 (by omega) (by omega) hroomc91; obtain ⟨A91, hA91⟩ : ∃ A1, A1 = (if co56 = (x16_1 : Int).toNat then (some ad434) else ((some ad434) : Option Addr).map (·.add ((x16_1 : Int).toNat * 1))) := ⟨_, rfl⟩; obtain ⟨c91, hc91⟩ : ∃ c1, c1 = co56 - (x16_1 : Int).toNat := ⟨_, rfl⟩; have hy91 : y443.length = ((wrap64 ((wrap64 (x16_1 + (y426.length : Int))) + 1)) : Int).toNat - (x16_1 : Int).toNat := (by rw [Ny443.out, List.length_drop, List.length_take] <;> omega); rw [show ((t442).take ((wrap64 ((wrap64 (x16_1 + (y426.length : Int))) + 1)) : Int).toNat).drop (x16_1 : Int).toNat = y443 from Ny443.out.symm] at hr91; replace hr91 : Kd.C (Kd.int .u32) _ A91 y443.length y443 := (by rw [hA91]; exact hr91); rw [← hy91, ← hA91, ← hc91] at hcut91; have HR446 := Aside0.mk hr91; have HC446 := Aside0.mk (show y443.length ≤ c91 from by rw [hy91, hc91]; exact Nat.sub_le_sub_right (Nat.le_trans (by omega) hroom91) _); clear hr91 hC91 hroom91 hi091 hsz91 hc91 hroomc91; have KY91 := Aside0.mk hy91; have KA91 := Aside0.mk hA91; clear hy91 hA91; have KE91 := Aside0.mk hlx91; have KL91 := Aside0.mk (show ((wrap64 ((wrap64 (x16_1 + (y426.length : Int))) + 1)) : Int).toNat ≤ t442.length from by omega); have KM91 := Aside0.mk (show (x16_1 : Int).toNat ≤ ((wrap64 ((wrap64 (x16_1 + (y426.length : Int))) + 1)) : Int).toNat from by omega); clear hlx91; replace q91 := eq_true q91) | ((with_reducible refine gate_callee (f := 44) rfl ?_); refine goesL_ (some 166) rfl rfl Try.func44 (by kernel_rfl) rfl #[.slice A91 y443.length c91, .slice (some ad432) y426.length co54] rfl (by (try simp only [List.map_toArray, List.map_cons, List.map_nil]); first | done | rfl | (simp only [List.length_drop, List.length_take]; rfl)) ?_; (with_reducible refine (nat_moreAt.calls kj67 (fun k_ => some k_ = (.slice (some ad434) x9_1.length co56 : Value).ownBlock) (.slice (some ad434) x9_1.length co56) t442 _ _ y426 x16_1 (wrap64 ((wrap64 (x16_1 + (y426.length : Int))) + 1)) t447 w _ ?side1 ?side2 ?side3 ?side4 A86.out).mono ?_); (case side1 => repeat (first | (with_reducible first | exact HB.out | apply below_alloc | apply pw_below_drewN | apply below_drew1) | exact HB.out)); (case side2 => exact Kd.R_tight rfl HO_9.out); (case side3 => exact Kd.C_kept_own (HO_10.out) (fun k_ hk_ hs_ => (hk_.2.1) hs_)); (case side4 => exact (Kd.R_reads' HO_10.out).2.1); rintro e w92 ⟨rfl, hy0, hb, hkp⟩; refine ⟨_, rfl, ?_⟩; have n0_ := Aside0.mk (Kd.R_reok rfl hy0 (fun k_ e_ => HO_9.out.1 k_ e_)); have n1_ := Aside0.mk (Kd.R_mono (ok' := fun k_ => (w.heap.size ≤ k_) ∧ some k_ ≠ (.slice (some ad434) x9_1.length co56 : Value).ownBlock ∧ some k_ ≠ (v430 : Value).ownBlock) (Kd.R_keptB (HO_10.out) hkp (fun k_ hk_ hs_ => (hk_.2.1) hs_)) (fun k_ hk_ => ⟨hk_.1.1, hk_.1.2.1, hk_.1.2.2⟩)); have n2_ := Aside0.mk (Kd.R_mono (ok' := fun k_ => (w.heap.size ≤ k_) ∧ some k_ ≠ (.slice (some ad434) x9_1.length co56 : Value).ownBlock ∧ some k_ ≠ (.slice (some ad432) y426.length co54 : Value).ownBlock) (Kd.R_keptB (HO_13.out) hkp (fun k_ hk_ hs_ => (hk_.2.1) hs_)) (fun k_ hk_ => ⟨hk_.1.1, hk_.1.2.1, hk_.1.2.2⟩)); have n3_ := Aside0.mk (hb); clear HO_9; clear HO_10; clear HO_13; clear HB; have HO_9 := n0_; have HO_10 := n1_; have HO_13 := n2_; have HB := n3_; clear n0_ n1_ n2_ n3_; (try clear hb); (try clear hkp); (try clear hy0); (try clear hcut91); have p88 : 0 ≤ (x16_1 : Int) := of_decide_eq_true (by first | (with_reducible assumption) | assumption); have q88 : (x16_1 : Int) < ((x13_1.length : Int) : Int) := of_decide_eq_true (by first | (with_reducible assumption) | assumption); obtain ⟨go88, co88, eo88, gb88, gl88, cl88, HG88⟩ := Kd.R_form HO_13.out (by omega); (first | cases eo88 | (injection eo88 with ea_ en_ ec_; (first | subst ea_ | (injection ea_ with ea_; subst ea_)); subst ec_; clear en_)); have GB88 := Aside0.mk gb88; have GG88 := Aside0.mk HG88; clear gb88 gl88 HG88; obtain ⟨hx88_0, hf88_0⟩ := Kd.R_celln 0 HO_13.out (x16_1 : Int) p88 q88; replace p88 := eq_true p88; replace q88 := eq_true q88; obtain ⟨hy93_, hz93_⟩ := Kd.R_celln 0 HO_13.out (x16_1 : Int) (of_decide_eq_true (by first | (with_reducible assumption) | assumption)) (of_decide_eq_true (by first | (with_reducible assumption) | assumption)); have HP93 := Kd.R_putg HO_13.out (x16_1 : Int) ((IntKind.u64.wrap (x18_67 - 1)) % 4294967296)) | ((with_reducible refine gate_store (t := 46) (p := 171) rfl ?_); refine store_event (t := 46) (p := 171) (v := ?vo_w94) (w1 := (w92.setCell ⟨go88, (x16_1 : Int).toNat, none⟩ (.int .u32 ((IntKind.u64.wrap (x18_67 - 1)) % 4294967296)))) ?hg ?ho ?hn ?hr ?_; (case ho => rfl); (case hg => rfl); (case hn => rfl); (case hr => first | (go_simp; done) | (go_simp; rfl)); intro w94 hw; have hg : w92.grownBy w94 (some go88) := (by rw [hw]; exact HP93.2); have hp_ : Kd.R (Kd.int .u32) 46 w94 w.heap.size (fun k_ => (w.heap.size ≤ k_) ∧ some k_ ≠ (.slice (some ad434) x9_1.length co56 : Value).ownBlock ∧ some k_ ≠ (.slice (some ad432) y426.length co54 : Value).ownBlock) (.slice (some ⟨go88, 0, none⟩) x13_1.length co88) y448 := (by rw [hw, Ny448.out]; exact HP93.1); clear HP93; have n0_ := Aside0.mk (Kd.R_after (v := (.slice (some ⟨go88, 0, none⟩) x13_1.length co88)) (v1 := (.slice (some ⟨go88, 0, none⟩) x13_1.length co88)) (ok := (fun k_ => (w.heap.size ≤ k_) ∧ some k_ ≠ (.slice (some ad432) y426.length co54 : Value).ownBlock)) (by (with_reducible repeat (first | apply Kd.R_alloc | apply Kd.R_drewN | apply Kd.R_drew)); exact Kd.R_mono HO_9.out (fun _ hk => ⟨⟨hk.1, hk.2.1⟩, hk.2.2⟩)) hg (.inl rfl)); have n1_ := Aside0.mk (Kd.R_after (v := (.slice (some ⟨go88, 0, none⟩) x13_1.length co88)) (v1 := (.slice (some ⟨go88, 0, none⟩) x13_1.length co88)) (ok := (fun k_ => (w.heap.size ≤ k_) ∧ some k_ ≠ (.slice (some ad434) x9_1.length co56 : Value).ownBlock)) (by (with_reducible repeat (first | apply Kd.R_alloc | apply Kd.R_drewN | apply Kd.R_drew)); exact Kd.R_mono HO_10.out (fun _ hk => ⟨⟨hk.1, hk.2.1⟩, hk.2.2⟩)) hg (.inl rfl)); have n2_ := Aside0.mk (hp_); have n3_ := Aside0.mk ((by rw [hw]; exact below_set (HB.out) GB88.out : Below w.heap.size w w94)); clear HO_9; clear HO_10; clear HO_13; clear HB; have HO_9 := n0_; have HO_10 := n1_; have HO_13 := n2_; have HB := n3_; clear n0_ n1_ n2_ n3_; clear hg hw hp_))
                             (try simp only [← hl9_1])
                             go_roundg kj67
                             case measure => have := HK1.out; have := HJ67.out; omega
                             case rel => exact ⟨(t447), (y448), (wrap64 (x16_1 - 1)), (by first | rfl | (simp; done) | (simp [*]; done)), H', ⟨by have := HK1.out; have := HJ67.out; omega⟩, ⟨by (try simp only [hl9_1]); (with_reducible repeat (first | apply Kd.R_alloc | apply Kd.R_drewN | apply Kd.R_drew)); exact Kd.R_mono HO_9.out (fun _ hk => ⟨hk.1.1, ⟨hk.1.2, hk.2⟩⟩)⟩, ⟨by (try simp only [hl9_1]); (with_reducible repeat (first | apply Kd.R_alloc | apply Kd.R_drewN | apply Kd.R_drew)); exact Kd.R_mono HO_10.out (fun _ hk => ⟨hk.1.1, ⟨hk.1.2, hk.2⟩⟩)⟩, ⟨by (try simp only [hl9_1]); (with_reducible repeat (first | apply Kd.R_alloc | apply Kd.R_drewN | apply Kd.R_drew)); exact HO_13.out⟩, ⟨by repeat (first | (with_reducible first | exact HB.out | apply below_alloc | apply pw_below_drewN | apply below_drew1) | exact HB.out)⟩⟩
                            ·rw [if_neg c87] at H
                             exact absurd H (by simp)
                           ·replace c82 := Bool.eq_false_iff.mpr c82
                            subst c82
                            have H1 : (if x16_1 < (x13_1.length : Int) then (nat_Div.l0 kj67 (IntKind.u64.wrap (t419)) t442 y426 (y426.length : Int) (x13_1.set (x16_1 : Int).toNat ((x18_67) % 4294967296)) (IntKind.u64.wrap (rd y426 (ji40))) (IntKind.u64.wrap (rd y426 (ji43))) (wrap64 (x16_1 - 1))) else (none)) = some (r1, r2) := by rw [if_neg (show ¬ (false = true) by decide)] at H; exact H
                            clear H
                            have H := H1
                            clear H1
                            by_cases c95 : x16_1 < (x13_1.length : Int)
                            ·rw [if_pos c95] at H
                             have c95b0 : decide (x16_1 < (x13_1.length : Int)) = true := decide_eq_true c95
                             (try (have c95b0l := c95b0; simp only [hl9_1] at c95b0l))
                             clear c95
                             obtain ⟨y449, hy449⟩ : ∃ y_ : List Int, y_ = (x13_1.set (x16_1 : Int).toNat ((x18_67) % 4294967296)) := ⟨_, rfl⟩
                             replace H : (nat_Div.l0 kj67 (IntKind.u64.wrap (t419)) t442 y426 (y426.length : Int) y449 (IntKind.u64.wrap (rd y426 (ji40))) (IntKind.u64.wrap (rd y426 (ji43))) (wrap64 (x16_1 - 1))) = some (r1, r2) := by first | (rw [hy449]; with_reducible exact H) | (have H2_ := (Option.bind_some _ _).symm.trans H; rw [hy449]; with_reducible exact H2_) | (have H2_ := (Option.bind_some _ _).symm.trans H; with_reducible exact H2_) | with_reducible exact H | (rw [hy449]; exact H) | exact H
                             have Ny449 := Aside0.mk hy449
                             clear hy449
                             have H' := Aside0.mk H
                             clear H
                             have q97 : ((wrap64 ((wrap64 (x16_1 + (y426.length : Int))) + 1)) : Int) ≤ ((x9_1.length : Int) : Int) := of_decide_eq_true (by first | (with_reducible assumption) | assumption)
                             obtain ⟨i097, hi097, _, hsz97, _⟩ := info_parts info46
                             have hroom97 : x9_1.length ≤ co56 := (Kd.R_reads' HO_9.out).2.1
                             have hC97 : Kd.C (Kd.int .u32) _ (some ad434) x9_1.length x9_1 := (Kd.R_reads' HO_9.out).2.2
                             have ql97 : (x16_1 : Int) ≤ ((wrap64 ((wrap64 (x16_1 + (y426.length : Int))) + 1)) : Int) := of_decide_eq_true (by first | (with_reducible assumption) | assumption)
                             have q097 : (0 : Int) ≤ (x16_1 : Int) := of_decide_eq_true (by first | (with_reducible assumption) | assumption)
                             have hcut97 := cut_mid (P := Try.prog) 32 46 .i64 .i64 Try.underlying32 hi097 1 hsz97 (some ad434) x9_1.length co56 x16_1 (wrap64 ((wrap64 (x16_1 + (y426.length : Int))) + 1)) q097 ql97 q97 hroom97
                             have hr97 := Kd.C_mid (lo := (x16_1 : Int).toNat) (hi := ((wrap64 ((wrap64 (x16_1 + (y426.length : Int))) + 1)) : Int).toNat) (c := co56) hC97 (by omega) (by omega) hroom97
                             obtain ⟨A97, hA97⟩ : ∃ A1, A1 = (if co56 = (x16_1 : Int).toNat then (some ad434) else ((some ad434) : Option Addr).map (·.add ((x16_1 : Int).toNat * 1))) := ⟨_, rfl⟩
                             obtain ⟨c97, hc97⟩ : ∃ c1, c1 = co56 - (x16_1 : Int).toNat := ⟨_, rfl⟩
                             have hy97 : y437.length = ((wrap64 ((wrap64 (x16_1 + (y426.length : Int))) + 1)) : Int).toNat - (x16_1 : Int).toNat := (by rw [Ny437.out, List.length_drop, List.length_take] <;> omega)
                             rw [show ((x9_1).take ((wrap64 ((wrap64 (x16_1 + (y426.length : Int))) + 1)) : Int).toNat).drop (x16_1 : Int).toNat = y437 from Ny437.out.symm] at hr97
                             replace hr97 : Kd.C (Kd.int .u32) _ A97 y437.length y437 := (by rw [hA97]; exact hr97)
                             rw [← hy97, ← hA97, ← hc97] at hcut97
                             have HR440 := Aside0.mk hr97
                             have HC440 := Aside0.mk (show y437.length ≤ c97 from by rw [hy97, hc97]; exact Nat.sub_le_sub_right (Nat.le_trans (by omega) hroom97) _)
                             clear hr97 hC97 hroom97 hi097 hsz97 hc97
                             have KY97 := Aside0.mk hy97
                             have KA97 := Aside0.mk hA97
                             clear hy97 hA97
                             have KL97 := Aside0.mk (show ((wrap64 ((wrap64 (x16_1 + (y426.length : Int))) + 1)) : Int).toNat ≤ x9_1.length from by omega)
                             have KM97 := Aside0.mk (show (x16_1 : Int).toNat ≤ ((wrap64 ((wrap64 (x16_1 + (y426.length : Int))) + 1)) : Int).toNat from by omega)
                             replace q97 := eq_true q97
                             go_wp2_with (first | ((with_reducible refine gate_callee (f := 43) rfl ?_); refine goesL_ (some 155) rfl rfl Try.func43 (by kernel_rfl) rfl #[.slice A97 y437.length c97, .slice (some ad432) y426.length co54, .int .u64 x18_67] rfl (by (try simp only [List.map_toArray, List.map_cons, List.map_nil]); first | done | rfl | (simp only [List.length_drop, List.length_take]; rfl)) ?_; (with_reducible refine (nat_lessAt.calls kj67 (fun k_ => some k_ = (.slice (some ad434) x9_1.length co56 : Value).ownBlock) (.slice (some ad434) x9_1.length co56) x9_1 _ _ y426 x18_67 x16_1 (wrap64 ((wrap64 (x16_1 + (y426.length : Int))) + 1)) false t442 w _ ?side1 ?side2 ?side3 ?side4 A81.out).mono ?_); (case side1 => repeat (first | (with_reducible first | exact HB.out | apply below_alloc | apply pw_below_drewN | apply below_drew1) | exact HB.out)); (case side2 => exact Kd.R_tight rfl HO_9.out); (case side3 => exact Kd.C_kept_own (HO_10.out) (fun k_ hk_ hs_ => (hk_.2.1) hs_)); (case side4 => exact (Kd.R_reads' HO_10.out).2.1); rintro e w98 ⟨rfl, hy0, hb, hkp⟩; refine ⟨_, rfl, ?_⟩; have n0_ := Aside0.mk (Kd.R_reok rfl hy0 (fun k_ e_ => HO_9.out.1 k_ e_)); have n1_ := Aside0.mk (Kd.R_mono (ok' := fun k_ => (w.heap.size ≤ k_) ∧ some k_ ≠ (.slice (some ad434) x9_1.length co56 : Value).ownBlock ∧ some k_ ≠ (v430 : Value).ownBlock) (Kd.R_keptB (HO_10.out) hkp (fun k_ hk_ hs_ => (hk_.2.1) hs_)) (fun k_ hk_ => ⟨hk_.1.1, hk_.1.2.1, hk_.1.2.2⟩)); have n2_ := Aside0.mk (Kd.R_mono (ok' := fun k_ => (w.heap.size ≤ k_) ∧ some k_ ≠ (.slice (some ad434) x9_1.length co56 : Value).ownBlock ∧ some k_ ≠ (.slice (some ad432) y426.length co54 : Value).ownBlock) (Kd.R_keptB (HO_13.out) hkp (fun k_ hk_ hs_ => (hk_.2.1) hs_)) (fun k_ hk_ => ⟨hk_.1.1, hk_.1.2.1, hk_.1.2.2⟩)); have n3_ := Aside0.mk (hb); clear HO_9; clear HO_10; clear HO_13; clear HB; have HO_9 := n0_; have HO_10 := n1_; have HO_13 := n2_; have HB := n3_; clear n0_ n1_ n2_ n3_; (try clear hb); (try clear hkp); (try clear hy0); (try clear hcut97); have p96 : 0 ≤ (x16_1 : Int) := of_decide_eq_true (by first | (with_reducible assumption) | assumption); have q96 : (x16_1 : Int) < ((x13_1.length : Int) : Int) := of_decide_eq_true (by first | (with_reducible assumption) | assumption); obtain ⟨go96, co96, eo96, gb96, gl96, cl96, HG96⟩ := Kd.R_form HO_13.out (by omega); (first | cases eo96 | (injection eo96 with ea_ en_ ec_; (first | subst ea_ | (injection ea_ with ea_; subst ea_)); subst ec_; clear en_)); have GB96 := Aside0.mk gb96; have GG96 := Aside0.mk HG96; clear gb96 gl96 HG96; obtain ⟨hx96_0, hf96_0⟩ := Kd.R_celln 0 HO_13.out (x16_1 : Int) p96 q96; replace p96 := eq_true p96; replace q96 := eq_true q96; obtain ⟨hy99_, hz99_⟩ := Kd.R_celln 0 HO_13.out (x16_1 : Int) (of_decide_eq_true (by first | (with_reducible assumption) | assumption)) (of_decide_eq_true (by first | (with_reducible assumption) | assumption)); have HP99 := Kd.R_putg HO_13.out (x16_1 : Int) ((x18_67) % 4294967296)) | ((with_reducible refine gate_store (t := 46) (p := 171) rfl ?_); refine store_event (t := 46) (p := 171) (v := ?vo_w100) (w1 := (w98.setCell ⟨go96, (x16_1 : Int).toNat, none⟩ (.int .u32 ((x18_67) % 4294967296)))) ?hg ?ho ?hn ?hr ?_; (case ho => rfl); (case hg => rfl); (case hn => rfl); (case hr => first | (go_simp; done) | (go_simp; rfl)); intro w100 hw; have hg : w98.grownBy w100 (some go96) := (by rw [hw]; exact HP99.2); have hp_ : Kd.R (Kd.int .u32) 46 w100 w.heap.size (fun k_ => (w.heap.size ≤ k_) ∧ some k_ ≠ (.slice (some ad434) x9_1.length co56 : Value).ownBlock ∧ some k_ ≠ (.slice (some ad432) y426.length co54 : Value).ownBlock) (.slice (some ⟨go96, 0, none⟩) x13_1.length co96) y449 := (by rw [hw, Ny449.out]; exact HP99.1); clear HP99; have n0_ := Aside0.mk (Kd.R_after (v := (.slice (some ⟨go96, 0, none⟩) x13_1.length co96)) (v1 := (.slice (some ⟨go96, 0, none⟩) x13_1.length co96)) (ok := (fun k_ => (w.heap.size ≤ k_) ∧ some k_ ≠ (.slice (some ad432) y426.length co54 : Value).ownBlock)) (by (with_reducible repeat (first | apply Kd.R_alloc | apply Kd.R_drewN | apply Kd.R_drew)); exact Kd.R_mono HO_9.out (fun _ hk => ⟨⟨hk.1, hk.2.1⟩, hk.2.2⟩)) hg (.inl rfl)); have n1_ := Aside0.mk (Kd.R_after (v := (.slice (some ⟨go96, 0, none⟩) x13_1.length co96)) (v1 := (.slice (some ⟨go96, 0, none⟩) x13_1.length co96)) (ok := (fun k_ => (w.heap.size ≤ k_) ∧ some k_ ≠ (.slice (some ad434) x9_1.length co56 : Value).ownBlock)) (by (with_reducible repeat (first | apply Kd.R_alloc | apply Kd.R_drewN | apply Kd.R_drew)); exact Kd.R_mono HO_10.out (fun _ hk => ⟨⟨hk.1, hk.2.1⟩, hk.2.2⟩)) hg (.inl rfl)); have n2_ := Aside0.mk (hp_); have n3_ := Aside0.mk ((by rw [hw]; exact below_set (HB.out) GB96.out : Below w.heap.size w w100)); clear HO_9; clear HO_10; clear HO_13; clear HB; have HO_9 := n0_; have HO_10 := n1_; have HO_13 := n2_; have HB := n3_; clear n0_ n1_ n2_ n3_; clear hg hw hp_))
                             (try simp only [← hl9_1])
                             go_roundg kj67
                             case measure => have := HK1.out; have := HJ67.out; omega
                             case rel => exact ⟨(t442), (y449), (wrap64 (x16_1 - 1)), (by first | rfl | (simp; done) | (simp [*]; done)), H', ⟨by have := HK1.out; have := HJ67.out; omega⟩, ⟨by (try simp only [hl9_1]); (with_reducible repeat (first | apply Kd.R_alloc | apply Kd.R_drewN | apply Kd.R_drew)); exact Kd.R_mono HO_9.out (fun _ hk => ⟨hk.1.1, ⟨hk.1.2, hk.2⟩⟩)⟩, ⟨by (try simp only [hl9_1]); (with_reducible repeat (first | apply Kd.R_alloc | apply Kd.R_drewN | apply Kd.R_drew)); exact Kd.R_mono HO_10.out (fun _ hk => ⟨hk.1.1, ⟨hk.1.2, hk.2⟩⟩)⟩, ⟨by (try simp only [hl9_1]); (with_reducible repeat (first | apply Kd.R_alloc | apply Kd.R_drewN | apply Kd.R_drew)); exact HO_13.out⟩, ⟨by repeat (first | (with_reducible first | exact HB.out | apply below_alloc | apply pw_below_drewN | apply below_drew1) | exact HB.out)⟩⟩
                            ·rw [if_neg c95] at H
                             exact absurd H (by simp)
                          ·rw [if_neg c80] at H
                           exact absurd H (by simp)
                         ·rw [if_neg c79] at H
                          exact absurd H (by simp)
                        ·rw [if_neg c78] at H
                         exact absurd H (by simp)
                    ·rw [if_neg c66] at H
                     exact absurd H (by simp)
                   ·rw [if_neg c65] at H
                    exact absurd H (by simp)
                  ·rw [if_neg c63] at H
                   exact absurd H (by simp)
                 ·rw [if_neg c62] at H
                  exact absurd H (by simp)
                ·rw [if_neg c60] at H
                 have c60b0 : decide (0 ≤ x16_1) = false := decide_eq_false c60
                 clear c60
                 by_cases c101 : 0 ≤ (y426.length : Int)
                 ·rw [if_pos c101] at H
                  have c101b0 := eq_true c101
                  have c101b1 : decide (0 ≤ (y426.length : Int)) = true := decide_eq_true c101
                  clear c101
                  by_cases c102 : ((y426.length : Int) : Int).toNat ≤ 70368744177664
                  ·rw [if_pos c102] at H
                   have c102b0 := eq_true c102
                   have c102b1 : decide (((y426.length : Int) : Int).toNat ≤ 70368744177664) = true := decide_eq_true c102
                   clear c102
                   obtain ⟨y450, hy450⟩ : ∃ y_ : List Int, y_ = (List.replicate ((y426.length : Int) : Int).toNat 0) := ⟨_, rfl⟩
                   replace H : (nat_Div.l2 k1 (IntKind.u64.wrap (t419)) x9_1 x13_1 y450 (y450.length : Int) 0) = some (r1, r2) := by first | (rw [hy450]; with_reducible exact H) | (have H2_ := (Option.bind_some _ _).symm.trans H; rw [hy450]; with_reducible exact H2_) | (have H2_ := (Option.bind_some _ _).symm.trans H; with_reducible exact H2_) | with_reducible exact H | (rw [hy450]; exact H) | exact H
                   have Ny450 := Aside0.mk hy450
                   clear hy450
                   have H' := Aside0.mk H
                   clear H
                   go_wp2_with (first | ((with_reducible refine gate_dst (N := 173) rfl ?_); refine Kd.R_make (Kd.int .u32) _ 46 rfl (N := 173) rfl 32 _ _ rfl (y426.length : Int) rfl rfl Try.underlying32 (.int .u32 0) 4 info46 rfl (by decide) (by omega) 0 (ok := fun _ => True) (okp := fun _ => True) rfl (fun _ hk => hk) trivial (of_decide_eq_true (by first | (with_reducible assumption) | assumption)) (Nat.le_trans (Nat.mul_le_mul_right _ (of_decide_eq_true (by first | (with_reducible assumption) | assumption) : (y426.length : Int).toNat ≤ 70368744177664)) (by omega)) (Below.refl _ _) (Nat.le_refl _) ?_; intro v451 w103 ho104 hb hg_ hnew_; clear hg_ hnew_; (first | rw [← Ny450.out] at ho104 | (simp only [Int.reduceToNat] at ho104; rw [← Ny450.out] at ho104)); have n0_ := Aside0.mk (Kd.R_elder' (by (with_reducible repeat (first | apply Kd.R_alloc | apply Kd.R_drewN | apply Kd.R_drew)); exact HO_9.out) (Kd.R_base ho104) hb); have n1_ := Aside0.mk (Kd.R_elder' (by (with_reducible repeat (first | apply Kd.R_alloc | apply Kd.R_drewN | apply Kd.R_drew)); exact HO_10.out) (Kd.R_base ho104) hb); have n2_ := Aside0.mk (Kd.R_elder' (by (with_reducible repeat (first | apply Kd.R_alloc | apply Kd.R_drewN | apply Kd.R_drew)); exact HO_13.out) (Kd.R_base ho104) hb); have n3_ := Aside0.mk (Kd.R_lower (Kd.R_new' (Kd.R_new' (Kd.R_new' (Kd.R_newM (M := fun k_ => (w.heap.size ≤ k_)) ho104 (below_size (by repeat (first | (with_reducible first | exact HB.out | apply below_alloc | apply pw_below_drewN | apply below_drew1) | exact HB.out))) (fun k_ h_ => h_)) (Kd.R_lt (by (with_reducible repeat (first | apply Kd.R_alloc | apply Kd.R_drewN | apply Kd.R_drew)); exact HO_9.out))) (Kd.R_lt (by (with_reducible repeat (first | apply Kd.R_alloc | apply Kd.R_drewN | apply Kd.R_drew)); exact HO_10.out))) (Kd.R_lt (by (with_reducible repeat (first | apply Kd.R_alloc | apply Kd.R_drewN | apply Kd.R_drew)); exact HO_13.out))) (below_size (by repeat (first | (with_reducible first | exact HB.out | apply below_alloc | apply pw_below_drewN | apply below_drew1) | exact HB.out)))); have n4_ := Aside0.mk (below_step (by repeat (first | (with_reducible first | exact HB.out | apply below_alloc | apply pw_below_drewN | apply below_drew1) | exact HB.out)) hb); clear HO_9; clear HO_10; clear HO_13; clear HB; have HO_9 := n0_; have HO_10 := n1_; have HO_13 := n2_; have HO452 := n3_; have HB := n4_; clear n0_ n1_ n2_ n3_ n4_; clear hb ho104; obtain ⟨Ao105, co105, eo105⟩ := Kd.R_slice HO452.out; subst eo105))
                   go_loopg [176] k1 (fun kq v176 w' => ∃ (x20_2 : List Int) (x176_2 : Int), v176 = .int .i64 x176_2 ∧ Aside0 (nat_Div.l2 kq (IntKind.u64.wrap (t419)) x9_1 x13_1 x20_2 (y450.length : Int) x176_2 = some (r1, r2)) ∧ Aside0 (kq ≤ k1) ∧ Aside0 (Kd.R (Kd.int .u32) 46 w' w.heap.size (fun k_ => (w.heap.size ≤ k_) ∧ some k_ ≠ (v430 : Value).ownBlock ∧ some k_ ≠ ((.slice Ao105 y450.length co105) : Value).ownBlock) (.slice Ao56 x9_1.length co56) x9_1) ∧ Aside0 (Kd.R (Kd.int .u32) 46 w' w.heap.size (fun k_ => (w.heap.size ≤ k_) ∧ some k_ ≠ ((.slice Ao56 x9_1.length co56) : Value).ownBlock ∧ some k_ ≠ ((.slice Ao105 y450.length co105) : Value).ownBlock) v430 x13_1) ∧ Aside0 (Kd.R (Kd.int .u32) 46 w' w.heap.size (fun k_ => (w.heap.size ≤ k_) ∧ some k_ ≠ ((.slice Ao56 x9_1.length co56) : Value).ownBlock ∧ some k_ ≠ (v430 : Value).ownBlock) (.slice Ao105 y450.length co105) x20_2) ∧ Aside0 (Below w.heap.size w w'))
                   case atStart => exact ⟨(y450), (0), (by first | rfl | (simp; done) | (simp [*]; done)), H', ⟨Nat.le_refl _⟩, ⟨by (try simp only [hl9_1]); (with_reducible repeat (first | apply Kd.R_alloc | apply Kd.R_drewN | apply Kd.R_drew)); exact Kd.R_mono HO_9.out (fun _ hk => ⟨hk.1.1, ⟨hk.1.2.2, hk.2⟩⟩)⟩, ⟨by (try simp only [hl9_1]); (with_reducible repeat (first | apply Kd.R_alloc | apply Kd.R_drewN | apply Kd.R_drew)); exact Kd.R_mono HO_13.out (fun _ hk => ⟨hk.1.1, ⟨hk.1.2.1, hk.2⟩⟩)⟩, ⟨by (try simp only [hl9_1]); (with_reducible repeat (first | apply Kd.R_alloc | apply Kd.R_drewN | apply Kd.R_drew)); exact Kd.R_mono HO452.out (fun _ hk => ⟨hk.1.1.1.1, ⟨hk.1.1.2, hk.2⟩⟩)⟩, ⟨by repeat (first | (with_reducible first | exact HB.out | apply below_alloc | apply pw_below_drewN | apply below_drew1) | exact HB.out)⟩⟩
                   case round =>
                    clear H'
                    try clear c1
                    try clear c2
                    try clear p2
                    try clear c3
                    try clear c4
                    try clear p4
                    try clear q4
                    try clear hx4
                    try clear qi4
                    try clear c5
                    try clear c5b0
                    try clear c5b1
                    try clear c5b2
                    try clear q5
                    try clear c6
                    try clear p6
                    try clear c7
                    try clear c8
                    try clear p8
                    try clear q8
                    try clear hx8
                    try clear hf8
                    try clear c9
                    try clear p9
                    try clear q9
                    try clear hx9
                    try clear hf9
                    try clear c10
                    try clear c10b0
                    try clear c16
                    try clear c18
                    try clear c18b0
                    try clear c18b1
                    try clear c19
                    try clear c19b0
                    try clear c19b1
                    try clear c21
                    try clear c23
                    try clear c30
                    try clear c30b0
                    try clear c31
                    try clear c31b0
                    try clear c35
                    try clear c35b0
                    try clear c35b1
                    try clear c36
                    try clear c36b0
                    try clear c36b1
                    try clear c38
                    try clear c38b0
                    try clear c38b1
                    try clear c39
                    try clear c39b0
                    try clear c39b1
                    try clear c40
                    try clear c41
                    try clear c41b0
                    try clear p41
                    try clear q41
                    try clear hx41
                    try clear qi41
                    try clear c42
                    try clear c42b0
                    try clear c43
                    try clear p43
                    try clear q43
                    try clear hx43
                    try clear c44
                    try clear c44b0
                    try clear c45
                    try clear c45b0
                    try clear q55
                    try clear c60
                    try clear c60b0
                    try clear c62
                    try clear c62b0
                    try clear c63
                    try clear c63b0
                    try clear p64
                    try clear c65
                    try clear c65b0
                    try clear c66
                    try clear c66b0
                    try clear c67
                    try clear c67b0
                    try clear c67b1
                    try clear c72
                    try clear c72b0
                    try clear c74
                    try clear c74b0
                    try clear c75
                    try clear c75b0
                    try clear c76
                    try clear c77
                    try clear c77b0
                    try clear c78
                    try clear c78b0
                    try clear c78b1
                    try clear c79
                    try clear c79b0
                    try clear c79b1
                    try clear c80
                    try clear c80b0
                    try clear c80b1
                    try clear c82
                    try clear c83
                    try clear c83b0
                    try clear c84
                    try clear c84b0
                    try clear c85
                    try clear c85b0
                    try clear c87
                    try clear c87b0
                    try clear p88
                    try clear q88
                    try clear hx88
                    try clear hf88
                    try clear c89
                    try clear q89
                    try clear c91
                    try clear q91
                    try clear c95
                    try clear c95b0
                    try clear p96
                    try clear q96
                    try clear hx96
                    try clear hf96
                    try clear c97
                    try clear q97
                    try clear c101
                    try clear c101b0
                    try clear c101b1
                    try clear c102
                    try clear c102b0
                    try clear c102b1
                    try clear hx410_0
                    try clear hx418_0
                    try clear hx432_0
                    try clear hx433_0
                    try clear hx434_0
                    try clear hx435_0
                    try clear hx436_0
                    try clear hx88_0
                    try clear hx96_0
                    try clear p2
                    try clear p4
                    try clear p41
                    try clear p410
                    try clear p418
                    try clear p43
                    try clear p432
                    try clear p433
                    try clear p434
                    try clear p435
                    try clear p436
                    try clear p6
                    try clear p64
                    try clear p88
                    try clear p96
                    try clear q089
                    try clear q091
                    try clear q097
                    try clear q4
                    try clear q41
                    try clear q410
                    try clear q418
                    try clear q43
                    try clear q432
                    try clear q433
                    try clear q434
                    try clear q435
                    try clear q436
                    try clear q5
                    try clear q55
                    try clear q88
                    try clear q89
                    try clear q91
                    try clear q96
                    try clear q97
                    try clear hji29
                    try clear hji29w
                    try clear hji37
                    try clear hji37w
                    try clear hji40
                    try clear hji40w
                    try clear hji43
                    try clear hji43w
                    try clear hji61
                    try clear hji61w
                    try clear hji64
                    try clear hji64w
                    try clear hji73
                    try clear hji73w
                    obtain ⟨x20_2, x176_2, rfl, HA, HK2, HO_9, HO_13, HO_20, HB⟩ := hrel
                    have hl20_2 := (Kd.R_reads' HO_20.out).1
                    rw [hl20_2] at HO_20
                    (try simp only [hl20_2])
                    (try simp only [hl20_2] at HO_9)
                    (try simp only [hl20_2] at HO_13)
                    cases gk with
                    | zero => exact absurd HA.out (by simp [nat_Div.l2])
                    | succ k2 =>
                     have H := HA.out
                     clear HA
                     simp only [nat_Div.l2] at H
                     by_cases c106 : x176_2 < (y450.length : Int)
                     ·rw [if_pos c106] at H
                      have c106b0 : decide (x176_2 < (y450.length : Int)) = true := decide_eq_true c106
                      (try (have c106b0l := c106b0; simp only [hl9_1, hl20_2] at c106b0l))
                      clear c106
                      obtain ⟨ji107, hji107⟩ : ∃ j_ : Int, (wrap64 (x176_2 + 1)) = j_ := ⟨_, rfl⟩
                      replace H : (if 0 ≤ (ji107) then (if (ji107) < (x9_1.length : Int) then (if 0 ≤ x176_2 then (if x176_2 < (x9_1.length : Int) then (if 0 ≤ (IntKind.u64.wrap (t419)) then (if x176_2 < (x20_2.length : Int) then (nat_Div.l2 k2 (IntKind.u64.wrap (t419)) x9_1 x13_1 (x20_2.set (x176_2 : Int).toNat ((shr .u64 (Go.bits .or .u64 (IntKind.u64.wrap ((IntKind.u64.wrap (rd x9_1 (ji107))) * 4294967296)) (IntKind.u64.wrap (rd x9_1 x176_2))) (IntKind.u64.wrap (t419))) % 4294967296)) (y450.length : Int) ji107) else (none)) else (none)) else (none)) else (none)) else (none)) else (none)) = some (r1, r2) := by first | (rw [hji107] at H; exact H) | (simp only [hji107] at H ⊢; exact H)
                      have hji107w : (IntKind.i64.wrap (x176_2 + 1)) = ji107 := (i64_w _).trans hji107
                      by_cases c108 : 0 ≤ (ji107)
                      ·rw [if_pos c108] at H
                       have c108b0 : decide (0 ≤ (ji107)) = true := decide_eq_true c108
                       clear c108
                       by_cases c109 : (ji107) < (x9_1.length : Int)
                       ·rw [if_pos c109] at H
                        have c109b0 : decide ((ji107) < (x9_1.length : Int)) = true := decide_eq_true c109
                        (try (have c109b0l := c109b0; simp only [hl9_1, hl20_2] at c109b0l))
                        clear c109
                        by_cases c110 : 0 ≤ x176_2
                        ·rw [if_pos c110] at H
                         have c110b0 : decide (0 ≤ x176_2) = true := decide_eq_true c110
                         clear c110
                         by_cases c111 : x176_2 < (x9_1.length : Int)
                         ·rw [if_pos c111] at H
                          have c111b0 : decide (x176_2 < (x9_1.length : Int)) = true := decide_eq_true c111
                          (try (have c111b0l := c111b0; simp only [hl9_1, hl20_2] at c111b0l))
                          clear c111
                          by_cases c112 : 0 ≤ (IntKind.u64.wrap (t419))
                          ·rw [if_pos c112] at H
                           have c112b0 := eq_true c112
                           have c112b1 : decide (0 ≤ (IntKind.u64.wrap (t419))) = true := decide_eq_true c112
                           clear c112
                           obtain ⟨ji113, hji113⟩ : ∃ j_ : Int, (shr .u64 (Go.bits .or .u64 (IntKind.u64.wrap ((IntKind.u64.wrap (rd x9_1 (ji107))) * 4294967296)) (IntKind.u64.wrap (rd x9_1 x176_2))) (IntKind.u64.wrap (t419))) = j_ := ⟨_, rfl⟩
                           replace H : (if x176_2 < (x20_2.length : Int) then (nat_Div.l2 k2 (IntKind.u64.wrap (t419)) x9_1 x13_1 (x20_2.set (x176_2 : Int).toNat ((ji113) % 4294967296)) (y450.length : Int) ji107) else (none)) = some (r1, r2) := by first | (rw [hji113] at H; exact H) | (simp only [hji113] at H ⊢; exact H)
                           have hji113_ : ((Go.bits .or .u64 (IntKind.u64.wrap ((IntKind.u64.wrap (rd x9_1 (ji107))) * 4294967296)) (IntKind.u64.wrap (rd x9_1 x176_2))) / 2 ^ min (IntKind.u64.wrap (t419)).toNat 64) = ji113 := hji113
                           have hji113z : (IntKind.u64.wrap (t419)) ≤ 64 → ((Go.bits .or .u64 (IntKind.u64.wrap ((IntKind.u64.wrap (rd x9_1 (ji107))) * 4294967296)) (IntKind.u64.wrap (rd x9_1 x176_2))) / 2 ^ (IntKind.u64.wrap (t419)).toNat) = ji113 := shr_small hji113
                           by_cases c114 : x176_2 < (x20_2.length : Int)
                           ·rw [if_pos c114] at H
                            have c114b0 : decide (x176_2 < (x20_2.length : Int)) = true := decide_eq_true c114
                            (try (have c114b0l := c114b0; simp only [hl9_1, hl20_2] at c114b0l))
                            clear c114
                            obtain ⟨y455, hy455⟩ : ∃ y_ : List Int, y_ = (x20_2.set (x176_2 : Int).toNat ((ji113) % 4294967296)) := ⟨_, rfl⟩
                            replace H : (nat_Div.l2 k2 (IntKind.u64.wrap (t419)) x9_1 x13_1 y455 (y450.length : Int) ji107) = some (r1, r2) := by first | (rw [hy455]; with_reducible exact H) | (have H2_ := (Option.bind_some _ _).symm.trans H; rw [hy455]; with_reducible exact H2_) | (have H2_ := (Option.bind_some _ _).symm.trans H; with_reducible exact H2_) | with_reducible exact H | (rw [hy455]; exact H) | exact H
                            have Ny455 := Aside0.mk hy455
                            clear hy455
                            have H' := Aside0.mk H
                            clear H
                            try go_wp2
                            have n0_ := Aside0.mk (Kd.R_drew HO_9.out)
                            have n1_ := Aside0.mk (Kd.R_drew HO_13.out)
                            have n2_ := Aside0.mk (Kd.R_drew HO_20.out)
                            have n3_ := Aside0.mk (below_drew1 HB.out)
                            clear HO_9
                            clear HO_13
                            clear HO_20
                            clear HB
                            have HO_9 := n0_
                            have HO_13 := n1_
                            have HO_20 := n2_
                            have HB := n3_
                            clear n0_ n1_ n2_ n3_
                            have p453 : 0 ≤ ((ji107) : Int) := of_decide_eq_true (by first | (with_reducible assumption) | assumption)
                            have q453 : (ji107) < (x9_1.length : Int) := of_decide_eq_true (by first | (with_reducible assumption) | assumption)
                            obtain ⟨ad453, e453, hx453_0⟩ := Kd.at_int (Kd.R_reads' HO_9.out).2.2 (ji107) p453 q453
                            cases e453
                            replace p453 := eq_true p453
                            replace q453 := eq_true q453
                            have p454 : 0 ≤ (x176_2 : Int) := of_decide_eq_true (by first | (with_reducible assumption) | assumption)
                            have q454 : x176_2 < (x9_1.length : Int) := of_decide_eq_true (by first | (with_reducible assumption) | assumption)
                            obtain ⟨ad454, e454, hx454_0⟩ := Kd.at_int (Kd.R_reads' HO_9.out).2.2 x176_2 p454 q454
                            obtain rfl : ad453 = ad454 := (by injection e454)
                            replace p454 := eq_true p454
                            replace q454 := eq_true q454
                            have p115 : 0 ≤ (x176_2 : Int) := of_decide_eq_true (by first | (with_reducible assumption) | assumption)
                            have q115 : (x176_2 : Int) < ((x20_2.length : Int) : Int) := of_decide_eq_true (by first | (with_reducible assumption) | assumption)
                            obtain ⟨go115, co115, eo115, gb115, gl115, cl115, HG115⟩ := Kd.R_form HO_20.out (by omega)
                            (first | cases eo115 | (injection eo115 with ea_ en_ ec_; (first | subst ea_ | (injection ea_ with ea_; subst ea_)); subst ec_; clear en_))
                            have GB115 := Aside0.mk gb115
                            have GG115 := Aside0.mk HG115
                            clear gb115 gl115 HG115
                            obtain ⟨hx115_0, hf115_0⟩ := Kd.R_celln 0 HO_20.out (x176_2 : Int) p115 q115
                            replace p115 := eq_true p115
                            replace q115 := eq_true q115
                            have HP117 := Kd.R_putn HO_20.out (x176_2 : Int) ((ji113) % 4294967296)
                            rw [← Ny455.out] at HP117
                            have HQ117 := Aside0.mk HP117
                            clear HP117
                            refine start_ (n := 20) (S := fun w' => w'.cell? (ad453.add ((ji107)).toNat) = some (.int .u32 (rd x9_1 (ji107))) ∧ w'.cell? (ad453.add (x176_2).toNat) = some (.int .u32 (rd x9_1 x176_2))) (ds := [19]) #[false, false, false, false, false, false, false, false, false, false, false, false, false, false, false, false, false, false, false, false] (by kernel_rfl) rfl rfl ⟨hx453_0, hx454_0⟩ (fun hHeld => ?_); refine with_tabW nat_Div.tab31 nat_Div.bits31 (fun HT_ HW_ => ?_)
                            generalize wr.drew = w116 at HO_9 HO_13 HO_20 HB GG115 HQ117 hf115_0 hx115_0 hx453_0 hx454_0 hHeld ⊢
                            refine pure_ (i := 0) (N := some 179) (v := ?_) (a' := ?_) #[true, false, false, false, false, false, false, false, false, false, false, false, false, false, false, false, false, false, false, false] rfl rfl (any_of HT_.out (by kernel_rfl)) (fun _ _ _ h => h) (Or.inl ⟨by rfl, ?_⟩) ?_ ?_
                            rotate_left
                            ·intro w'
                             go_simp
                             with_reducible rfl
                            rotate_left
                            ·simp only [Act.put, List.setIfInBounds_toArray, List.set_cons_zero, List.set_cons_succ, i64_w, i32_w]
                             rfl
                            refine pure_ (i := 1) (N := some 180) (v := ?_) (a' := ?_) #[true, true, false, false, false, false, false, false, false, false, false, false, false, false, false, false, false, false, false, false] rfl rfl (any_of HT_.out (by kernel_rfl)) (fun _ _ _ h => h) (Or.inl ⟨by rfl, ?_⟩) ?_ ?_
                            rotate_left
                            ·intro w'
                             go_simp
                             with_reducible rfl
                            rotate_left
                            ·simp only [Act.put, List.setIfInBounds_toArray, List.set_cons_zero, List.set_cons_succ, i64_w, i32_w]
                             rfl
                            refine pure_ (i := 2) (N := some 181) (v := ?_) (a' := ?_) #[true, true, true, false, false, false, false, false, false, false, false, false, false, false, false, false, false, false, false, false] rfl rfl (any_of HT_.out (by kernel_rfl)) (fun _ _ _ h => h) (Or.inl ⟨by rfl, ?_⟩) ?_ ?_
                            rotate_left
                            ·intro w'
                             go_simp
                             with_reducible rfl
                            rotate_left
                            ·simp only [Act.put, List.setIfInBounds_toArray, List.set_cons_zero, List.set_cons_succ, i64_w, i32_w]
                             rfl
                            refine pure_ (i := 3) (N := some 182) (v := ?_) (a' := ?_) #[true, true, true, true, false, false, false, false, false, false, false, false, false, false, false, false, false, false, false, false] rfl rfl (any_of HT_.out (by kernel_rfl)) (fun _ _ _ h => h) (Or.inl ⟨by rfl, ?_⟩) ?_ ?_
                            rotate_left
                            ·intro w'
                             go_simp
                             with_reducible rfl
                            rotate_left
                            ·simp only [Act.put, List.setIfInBounds_toArray, List.set_cons_zero, List.set_cons_succ, i64_w, i32_w]
                             rfl
                            refine pure_ (i := 4) (N := some 183) (v := ?_) (a' := ?_) #[true, true, true, true, true, false, false, false, false, false, false, false, false, false, false, false, false, false, false, false] rfl rfl (any_of HT_.out (by kernel_rfl)) (fun _ _ _ h => h) (Or.inl ⟨by rfl, ?_⟩) ?_ ?_
                            rotate_left
                            ·intro w'
                             go_simp
                             with_reducible rfl
                            rotate_left
                            ·simp only [Act.put, List.setIfInBounds_toArray, List.set_cons_zero, List.set_cons_succ, i64_w, i32_w]
                             rfl
                            refine pure_ (i := 5) (N := some 184) (v := ?_) (a' := ?_) #[true, true, true, true, true, true, false, false, false, false, false, false, false, false, false, false, false, false, false, false] rfl rfl (any_of HT_.out (by kernel_rfl)) (fun _ _ _ h => h) (Or.inl ⟨by rfl, ?_⟩) ?_ ?_
                            rotate_left
                            ·intro w'
                             go_simp
                             with_reducible rfl
                            rotate_left
                            ·simp only [Act.put, List.setIfInBounds_toArray, List.set_cons_zero, List.set_cons_succ, i64_w, i32_w]
                             rfl
                            refine pure_ (i := 9) (N := some 188) (v := ?_) (a' := ?_) #[true, true, true, true, true, true, false, false, false, true, false, false, false, false, false, false, false, false, false, false] rfl rfl (any_of HT_.out (by kernel_rfl)) (fun _ _ _ h => h) (Or.inl ⟨by rfl, ?_⟩) ?_ ?_
                            rotate_left
                            ·intro w'
                             go_simp
                             with_reducible rfl
                            rotate_left
                            ·simp only [Act.put, List.setIfInBounds_toArray, List.set_cons_zero, List.set_cons_succ, i64_w, i32_w]
                             rfl
                            refine pure_ (i := 10) (N := some 189) (v := ?_) (a' := ?_) #[true, true, true, true, true, true, false, false, false, true, true, false, false, false, false, false, false, false, false, false] rfl rfl (any_of HT_.out (by kernel_rfl)) (fun _ _ _ h => h) (Or.inl ⟨by rfl, ?_⟩) ?_ ?_
                            rotate_left
                            ·intro w'
                             go_simp
                             with_reducible rfl
                            rotate_left
                            ·simp only [Act.put, List.setIfInBounds_toArray, List.set_cons_zero, List.set_cons_succ, i64_w, i32_w]
                             rfl
                            refine pure_ (i := 11) (N := some 190) (v := ?_) (a' := ?_) #[true, true, true, true, true, true, false, false, false, true, true, true, false, false, false, false, false, false, false, false] rfl rfl (any_of HT_.out (by kernel_rfl)) (fun _ _ _ h => h) (Or.inl ⟨by rfl, ?_⟩) ?_ ?_
                            rotate_left
                            ·intro w'
                             go_simp
                             with_reducible rfl
                            rotate_left
                            ·simp only [Act.put, List.setIfInBounds_toArray, List.set_cons_zero, List.set_cons_succ, i64_w, i32_w]
                             rfl
                            refine pure_ (i := 15) (N := some 194) (v := ?_) (a' := ?_) #[true, true, true, true, true, true, false, false, false, true, true, true, false, false, false, true, false, false, false, false] rfl rfl (any_of HT_.out (by kernel_rfl)) (fun _ _ _ h => h) (Or.inl ⟨by rfl, ?_⟩) ?_ ?_
                            rotate_left
                            ·intro w'
                             go_simp
                             with_reducible rfl
                            rotate_left
                            ·simp only [Act.put, List.setIfInBounds_toArray, List.set_cons_zero, List.set_cons_succ, i64_w, i32_w]
                             rfl
                            refine take_ (i := 6) (N := some 185) (v := ?_) (a' := ?_) #[true, true, true, true, true, true, true, false, false, true, true, true, false, false, false, true, false, false, false, false] rfl rfl (take_ofW HT_.out HW_.out (by kernel_rfl)) (fun _ _ _ h => h) (Or.inl ⟨by rfl, ?_⟩) hHeld ?_ ?_
                            rotate_left
                            ·rintro w' ⟨s0, s1⟩
                             go_simp
                             with_reducible rfl
                            rotate_left
                            ·simp only [Act.put, List.setIfInBounds_toArray, List.set_cons_zero, List.set_cons_succ, i64_w, i32_w]
                             rfl
                            refine pure_ (i := 7) (N := some 186) (v := ?_) (a' := ?_) #[true, true, true, true, true, true, true, true, false, true, true, true, false, false, false, true, false, false, false, false] rfl rfl (any_of HT_.out (by kernel_rfl)) (fun _ _ _ h => h) (Or.inl ⟨by rfl, ?_⟩) ?_ ?_
                            rotate_left
                            ·intro w'
                             go_simp
                             with_reducible rfl
                            rotate_left
                            ·simp only [Act.put, List.setIfInBounds_toArray, List.set_cons_zero, List.set_cons_succ, i64_w, i32_w]
                             rfl
                            refine pure_ (i := 8) (N := some 187) (v := ?_) (a' := ?_) #[true, true, true, true, true, true, true, true, true, true, true, true, false, false, false, true, false, false, false, false] rfl rfl (any_of HT_.out (by kernel_rfl)) (fun _ _ _ h => h) (Or.inl ⟨by rfl, ?_⟩) ?_ ?_
                            rotate_left
                            ·intro w'
                             go_simp
                             with_reducible rfl
                            rotate_left
                            ·simp only [Act.put, List.setIfInBounds_toArray, List.set_cons_zero, List.set_cons_succ, i64_w, i32_w]
                             rfl
                            refine take_ (i := 12) (N := some 191) (v := ?_) (a' := ?_) #[true, true, true, true, true, true, true, true, true, true, true, true, true, false, false, true, false, false, false, false] rfl rfl (take_ofW HT_.out HW_.out (by kernel_rfl)) (fun _ _ _ h => h) (Or.inl ⟨by rfl, ?_⟩) hHeld ?_ ?_
                            rotate_left
                            ·rintro w' ⟨s0, s1⟩
                             go_simp
                             with_reducible rfl
                            rotate_left
                            ·simp only [Act.put, List.setIfInBounds_toArray, List.set_cons_zero, List.set_cons_succ, i64_w, i32_w]
                             rfl
                            refine pure_ (i := 13) (N := some 192) (v := ?_) (a' := ?_) #[true, true, true, true, true, true, true, true, true, true, true, true, true, true, false, true, false, false, false, false] rfl rfl (any_of HT_.out (by kernel_rfl)) (fun _ _ _ h => h) (Or.inl ⟨by rfl, ?_⟩) ?_ ?_
                            rotate_left
                            ·intro w'
                             go_simp
                             with_reducible rfl
                            rotate_left
                            ·simp only [Act.put, List.setIfInBounds_toArray, List.set_cons_zero, List.set_cons_succ, i64_w, i32_w]
                             rfl
                            refine pure_ (i := 14) (N := some 193) (v := ?_) (a' := ?_) #[true, true, true, true, true, true, true, true, true, true, true, true, true, true, true, true, false, false, false, false] rfl rfl (any_of HT_.out (by kernel_rfl)) (fun _ _ _ h => h) (Or.inl ⟨by rfl, ?_⟩) ?_ ?_
                            rotate_left
                            ·intro w'
                             go_simp
                             with_reducible rfl
                            rotate_left
                            ·simp only [Act.put, List.setIfInBounds_toArray, List.set_cons_zero, List.set_cons_succ, i64_w, i32_w]
                             rfl
                            refine pure_ (i := 16) (N := some 195) (v := ?_) (a' := ?_) #[true, true, true, true, true, true, true, true, true, true, true, true, true, true, true, true, true, false, false, false] rfl rfl (any_of HT_.out (by kernel_rfl)) (fun _ _ _ h => h) (Or.inl ⟨by rfl, ?_⟩) ?_ ?_
                            rotate_left
                            ·intro w'
                             go_simp
                             with_reducible rfl
                            rotate_left
                            ·simp only [Act.put, List.setIfInBounds_toArray, List.set_cons_zero, List.set_cons_succ, i64_w, i32_w]
                             rfl
                            refine pure_ (i := 17) (N := some 196) (v := ?_) (a' := ?_) #[true, true, true, true, true, true, true, true, true, true, true, true, true, true, true, true, true, true, false, false] rfl rfl (any_of HT_.out (by kernel_rfl)) (fun _ _ _ h => h) (Or.inl ⟨by rfl, ?_⟩) ?_ ?_
                            rotate_left
                            ·intro w'
                             go_simp
                             with_reducible rfl
                            rotate_left
                            ·simp only [Act.put, List.setIfInBounds_toArray, List.set_cons_zero, List.set_cons_succ, i64_w, i32_w]
                             rfl
                            refine pure_ (i := 18) (N := some 197) (v := ?_) (a' := ?_) #[true, true, true, true, true, true, true, true, true, true, true, true, true, true, true, true, true, true, true, false] rfl rfl (any_of HT_.out (by kernel_rfl)) (fun _ _ _ h => h) (Or.inl ⟨by rfl, ?_⟩) ?_ ?_
                            rotate_left
                            ·intro w'
                             go_simp
                             with_reducible rfl
                            rotate_left
                            ·simp only [Act.put, List.setIfInBounds_toArray, List.set_cons_zero, List.set_cons_succ, i64_w, i32_w]
                             rfl
                            refine last_ (i := 19) (N := none) #[true, true, true, true, true, true, true, true, true, true, true, true, true, true, true, true, true, true, true, true] rfl rfl (one_of HT_.out (by kernel_rfl)) (by decide) (fun K hK => ?_)
                            refine skip_ (w1 := ?_) (by rfl) rfl ?_ ?_
                            rotate_left
                            ·go_simp
                             rfl
                            refine hK.out _ _ ?_
                            clear hK K
                            refine done_ (done_of HT_.out (by kernel_rfl)) ?_
                            try go_wp2
                            (try simp only [← hl20_2])
                            go_roundg k2
                            case measure => have := HK1.out; have := HK2.out; omega
                            case rel => exact ⟨(y455), (ji107), (by first | rfl | (simp; done) | (simp only [← hji107] <;> (first | rfl | simp)) | (simp [*]; done)), H', ⟨by have := HK1.out; have := HK2.out; omega⟩, ⟨by (try simp only [hl9_1]); (try simp only [hl20_2]); (with_reducible repeat (first | apply Kd.R_alloc | apply Kd.R_drewN | apply Kd.R_drew)); exact Kd.R_mono (Kd.R_far (p := ⟨go115, (x176_2 : Int).toNat, none⟩) (Kd.R_mono HO_9.out (fun k_ hk => (⟨hk, fun e_ => hk.2.2 (by rw [e_]; rfl)⟩ : _ ∧ k_ ≠ go115))) (fun _ hk => hk.2) (.int .u32 ((ji113) % 4294967296))) (fun _ hk => ⟨hk.1.1, ⟨hk.1.2.1, hk.1.2.2⟩⟩)⟩, ⟨by (try simp only [hl9_1]); (try simp only [hl20_2]); (with_reducible repeat (first | apply Kd.R_alloc | apply Kd.R_drewN | apply Kd.R_drew)); exact Kd.R_mono (Kd.R_far (p := ⟨go115, (x176_2 : Int).toNat, none⟩) (Kd.R_mono HO_13.out (fun k_ hk => (⟨hk, fun e_ => hk.2.2 (by rw [e_]; rfl)⟩ : _ ∧ k_ ≠ go115))) (fun _ hk => hk.2) (.int .u32 ((ji113) % 4294967296))) (fun _ hk => ⟨hk.1.1, ⟨hk.1.2.1, hk.1.2.2⟩⟩)⟩, ⟨by (try simp only [hl9_1]); (try simp only [hl20_2]); (with_reducible repeat (first | apply Kd.R_alloc | apply Kd.R_drewN | apply Kd.R_drew)); exact HQ117.out⟩, ⟨by repeat (first | (with_reducible first | exact HB.out | apply below_alloc | apply pw_below_drewN | apply below_drew1 | refine below_set ?_ GB115.out) | exact HB.out)⟩⟩
                           ·rw [if_neg c114] at H
                            exact absurd H (by simp)
                          ·rw [if_neg c112] at H
                           exact absurd H (by simp)
                         ·rw [if_neg c111] at H
                          exact absurd H (by simp)
                        ·rw [if_neg c110] at H
                         exact absurd H (by simp)
                       ·rw [if_neg c109] at H
                        exact absurd H (by simp)
                      ·rw [if_neg c108] at H
                       exact absurd H (by simp)
                     ·rw [if_neg c106] at H
                      have c106b0 : decide (x176_2 < (y450.length : Int)) = false := decide_eq_false c106
                      (try (have c106b0l := c106b0; simp only [hl9_1, hl20_2] at c106b0l))
                      clear c106
                      replace H := Option.bind_eq_some_iff.mp H
                      obtain ⟨t456, A1180, H⟩ := H
                      replace H : ((nat_trim.f k2 x20_2).bind fun t459 => (some (t456, t459))) = some (r1, r2) := H
                      have A118 := Aside0.mk A1180
                      clear A1180
                      replace H := Option.bind_eq_some_iff.mp H
                      obtain ⟨t459, A1190, H⟩ := H
                      replace H : (some (t456, t459)) = some (r1, r2) := H
                      have A119 := Aside0.mk A1190
                      clear A1190
                      simp only [Option.some.injEq, Prod.mk.injEq] at H
                      obtain ⟨rfl, rfl⟩ := H
                      obtain ⟨Ao120, co120, eo120⟩ := Kd.R_slice HO_13.out
                      subst eo120
                      go_wp2_with (first | ((with_reducible refine gate_callee (f := 35) rfl ?_); refine goesL_ (some 200) rfl rfl Try.func35 (by kernel_rfl) rfl #[.slice Ao120 x13_1.length co120] rfl (by (try simp only [List.map_toArray, List.map_cons, List.map_nil]); first | done | rfl | (simp only [List.length_drop, List.length_take]; rfl)) ?_; (with_reducible refine (nat_trim.calls k2 (fun k_ => some k_ = (.slice Ao120 x13_1.length co120 : Value).ownBlock) _ _ x13_1 t456 _ ?side1 A118.out).mono ?_); (case side1 => exact Kd.R_V (Kd.R_tight rfl (HO_13.out))); rintro e w121 ⟨v457, rfl, ho0, hb⟩; refine ⟨_, rfl, ?_⟩; have n0_ := Aside0.mk (Kd.R_below (by (with_reducible repeat (first | apply Kd.R_alloc | apply Kd.R_drewN | apply Kd.R_drew)); exact HO_9.out) hb); have n1_ := Aside0.mk (Kd.R_below (by (with_reducible repeat (first | apply Kd.R_alloc | apply Kd.R_drewN | apply Kd.R_drew)); exact HO_13.out) hb); have n2_ := Aside0.mk (Kd.R_below (by (with_reducible repeat (first | apply Kd.R_alloc | apply Kd.R_drewN | apply Kd.R_drew)); exact HO_20.out) hb); have n3_ := Aside0.mk (Kd.V_lower (Kd.V_mono (ok' := fun k_ => ((P0_ k_ ∨ P1_ k_) ∨ w.heap.size ≤ k_) ∧ some k_ ≠ (.slice Ao56 x9_1.length co56 : Value).ownBlock ∧ some k_ ≠ (.slice Ao105 x20_2.length co105 : Value).ownBlock) ho0 (fun k_ hk_ => ⟨Or.elim hk_ (fun hs_ => (.inr (((HO_13.out).1 k_ hs_.symm).1))) (fun hn_ => (.inr (Nat.le_trans (below_size (by repeat (first | (with_reducible first | exact HB.out | apply below_alloc | apply pw_below_drewN | apply below_drew1) | exact HB.out))) hn_))), Or.elim hk_ (fun hs_ => ((HO_13.out).1 k_ hs_.symm).2.1) (fun hn_ => (Kd.fresh' (Kd.R_lt (by (with_reducible repeat (first | apply Kd.R_alloc | apply Kd.R_drewN | apply Kd.R_drew)); exact HO_9.out)) k_ hn_)), Or.elim hk_ (fun hs_ => ((HO_13.out).1 k_ hs_.symm).2.2) (fun hn_ => (Kd.fresh' (Kd.R_lt (by (with_reducible repeat (first | apply Kd.R_alloc | apply Kd.R_drewN | apply Kd.R_drew)); exact HO_20.out)) k_ hn_))⟩)) (below_size (by repeat (first | (with_reducible first | exact HB.out | apply below_alloc | apply pw_below_drewN | apply below_drew1) | exact HB.out)))); have n4_ := Aside0.mk (below_step (by repeat (first | (with_reducible first | exact HB.out | apply below_alloc | apply pw_below_drewN | apply below_drew1) | exact HB.out)) hb); clear HO_9; clear HO_13; clear HO_20; clear HB; have HO_9 := n0_; have HO_13 := n1_; have HO_20 := n2_; have HO458 := n3_; have HB := n4_; clear n0_ n1_ n2_ n3_ n4_; (try clear hb); (try clear hb2); (try clear hk); (try clear hi); (try clear ho0)) | ((with_reducible refine gate_callee (f := 35) rfl ?_); refine goesL_ (some 202) rfl rfl Try.func35 (by kernel_rfl) rfl #[.slice Ao105 x20_2.length co105] rfl (by (try simp only [List.map_toArray, List.map_cons, List.map_nil]); first | done | rfl | (simp only [List.length_drop, List.length_take]; rfl)) ?_; (with_reducible refine (nat_trim.calls k2 (fun k_ => some k_ = (.slice Ao105 x20_2.length co105 : Value).ownBlock) _ _ x20_2 t459 _ ?side1 A119.out).mono ?_); (case side1 => exact Kd.R_V (Kd.R_tight rfl (HO_20.out))); rintro e w122 ⟨v460, rfl, ho0, hb⟩; refine ⟨_, rfl, ?_⟩; have n0_ := Aside0.mk (Kd.R_below (by (with_reducible repeat (first | apply Kd.R_alloc | apply Kd.R_drewN | apply Kd.R_drew)); exact HO_9.out) hb); have n1_ := Aside0.mk (Kd.R_below (by (with_reducible repeat (first | apply Kd.R_alloc | apply Kd.R_drewN | apply Kd.R_drew)); exact HO_13.out) hb); have n2_ := Aside0.mk (Kd.R_below (by (with_reducible repeat (first | apply Kd.R_alloc | apply Kd.R_drewN | apply Kd.R_drew)); exact HO_20.out) hb); have n3_ := Aside0.mk (Kd.V_below (by (with_reducible repeat (first | apply Kd.V_alloc | apply Kd.V_drewN | apply Kd.V_drew)); exact HO458.out) hb); have n4_ := Aside0.mk (Kd.V_lower (Kd.V_mono (ok' := fun k_ => ((P0_ k_ ∨ P1_ k_) ∨ w.heap.size ≤ k_) ∧ some k_ ≠ (.slice Ao56 x9_1.length co56 : Value).ownBlock ∧ some k_ ≠ (.slice Ao120 x13_1.length co120 : Value).ownBlock) ho0 (fun k_ hk_ => ⟨Or.elim hk_ (fun hs_ => (.inr (((HO_20.out).1 k_ hs_.symm).1))) (fun hn_ => (.inr (Nat.le_trans (below_size (by repeat (first | (with_reducible first | exact HB.out | apply below_alloc | apply pw_below_drewN | apply below_drew1) | exact HB.out))) hn_))), Or.elim hk_ (fun hs_ => ((HO_20.out).1 k_ hs_.symm).2.1) (fun hn_ => (Kd.fresh' (Kd.R_lt (by (with_reducible repeat (first | apply Kd.R_alloc | apply Kd.R_drewN | apply Kd.R_drew)); exact HO_9.out)) k_ hn_)), Or.elim hk_ (fun hs_ => ((HO_20.out).1 k_ hs_.symm).2.2) (fun hn_ => (Kd.fresh' (Kd.R_lt (by (with_reducible repeat (first | apply Kd.R_alloc | apply Kd.R_drewN | apply Kd.R_drew)); exact HO_13.out)) k_ hn_))⟩)) (below_size (by repeat (first | (with_reducible first | exact HB.out | apply below_alloc | apply pw_below_drewN | apply below_drew1) | exact HB.out)))); have n5_ := Aside0.mk (below_step (by repeat (first | (with_reducible first | exact HB.out | apply below_alloc | apply pw_below_drewN | apply below_drew1) | exact HB.out)) hb); clear HO_9; clear HO_13; clear HO_20; clear HO458; clear HB; have HO_9 := n0_; have HO_13 := n1_; have HO_20 := n2_; have HO458 := n3_; have HO461 := n4_; have HB := n5_; clear n0_ n1_ n2_ n3_ n4_ n5_; (try clear hb); (try clear hb2); (try clear hk); (try clear hi); (try clear ho0)))
                      go_ret2
                      exact ⟨_, _, by first | rfl | (simp [errW_none, errW_some] <;> rfl) | (simp only [← hji29, ← hji37, ← hji40, ← hji43]; first | rfl | (simp [errW_none, errW_some] <;> rfl)) | (simp [*, errW_none, errW_some] <;> rfl), by (with_reducible repeat (first | apply Kd.V_alloc | apply Kd.V_drewN | apply Kd.V_drew)); exact Kd.V_mono HO458.out (fun _ hk => hk.1), by (with_reducible repeat (first | apply Kd.V_alloc | apply Kd.V_drewN | apply Kd.V_drew)); exact Kd.V_mono HO461.out (fun _ hk => hk.1), by repeat (first | (with_reducible first | exact HB.out | apply below_alloc | apply pw_below_drewN | apply below_drew1) | exact HB.out)⟩
                  ·rw [if_neg c102] at H
                   exact absurd H (by simp)
                 ·rw [if_neg c101] at H
                  exact absurd H (by simp)
             ·rw [if_neg c45] at H
              exact absurd H (by simp)
            ·rw [if_neg c44] at H
             exact absurd H (by simp)
           ·rw [if_neg c42] at H
            exact absurd H (by simp)
          ·rw [if_neg c41] at H
           exact absurd H (by simp)
         ·rw [if_neg c39] at H
          exact absurd H (by simp)
        ·rw [if_neg c38] at H
         exact absurd H (by simp)
       ·rw [if_neg c36] at H
        exact absurd H (by simp)
      ·rw [if_neg c35] at H
       exact absurd H (by simp)
     ·rw [if_neg c31] at H
      exact absurd H (by simp)
    ·rw [if_neg c30] at H
     exact absurd H (by simp)

end Go.Proofs.Ytlhgagmghahbhaa.Q
