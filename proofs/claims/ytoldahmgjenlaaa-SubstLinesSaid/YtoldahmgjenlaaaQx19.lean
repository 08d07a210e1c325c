-- Written by a program of this session, out of the kit's print tool (see NOTES.md: mypr)
import Derived.Test.YtoldahmgjenlaaaQx0
import Derived.Test.YtoldahmgjenlaaaQx2
import Derived.Test.YtoldahmgjenlaaaG2
namespace Go.Proofs.Ytoldahmgjenlaaa.Q
open Go.RowKit Go.Proofs.YtoldahmgjenlaaaW.PrintWords Go.Proofs.YtoldahmgjenlaaaW.PrintLast Go.Proofs.YtoldahmgjenlaaaW.PrintMore
attribute [local go_sem] max2_int min2_int max_two min_two max_three min_three max_four min_four   -- for this text's walks alone
set_option linter.unusedVariables false
set_option linter.unusedSimpArgs false

/-! ### subst_one: function 39 -/
mutual
def subst_one.j0 : Nat → List (S46) → List Bool → List Int → Int → Int → Bool → Int → Bool → List (S43) → Option (List Int × Int × Bool)
 | 0, _, _, _, _, _, _, _, _, _ => none
 | k + 1, x0, x2, x3, x4, x5, x35, x245000, x245001, x245002 => if x35 = true then (some (x3, x4, false)) else (subst_one.l0 k x0 x2 x3 x4 x5 x245002 (x245002.length : Int) 0 x245000 x245001 x245002)
def subst_one.l0 : Nat → List (S46) → List Bool → List Int → Int → Int → List (S43) → Int → Int → Int → Bool → List (S43) → Option (List Int × Int × Bool)
 | 0, _, _, _, _, _, _, _, _, _, _, _ => none
 | k + 1, x0, x2, x3, x4, x5, x39, x40, x41, x245000, x245001, x245002 => if x41 < x40 then (if 0 ≤ x41 then (if x41 < (x39.length : Int) then ((classes_Meet.f k x3 x2 x4 ((rd_T43 x39 x41).f0) x245001).bind fun bt249 => (if bt249.2 = true then (if x245000 = 1 then (subst_one.j2 k x0 x2 x3 x4 x5 bt249.1 x245000 (x245000 == 1) ((rd_T43 x39 x41).f0) ((rd_T43 x39 x41).f1) ((rd_T43 x39 x41).f2) ((rd_T43 x39 x41).f3) ((rd_T43 x39 x41).f4.f0) ((rd_T43 x39 x41).f4.f1) ((rd_T43 x39 x41).f5.f0) ((rd_T43 x39 x41).f5.f1) ((rd_T43 x39 x41).f6.f0) ((rd_T43 x39 x41).f6.f1)) else (subst_one.j2 k x0 x2 x3 x4 x5 bt249.1 x245000 (x245000 == 2) ((rd_T43 x39 x41).f0) ((rd_T43 x39 x41).f1) ((rd_T43 x39 x41).f2) ((rd_T43 x39 x41).f3) ((rd_T43 x39 x41).f4.f0) ((rd_T43 x39 x41).f4.f1) ((rd_T43 x39 x41).f5.f0) ((rd_T43 x39 x41).f5.f1) ((rd_T43 x39 x41).f6.f0) ((rd_T43 x39 x41).f6.f1))) else (subst_one.l0 k x0 x2 x3 x4 x5 x39 x40 (wrap64 (x41 + 1)) x245000 x245001 x245002))) else (none)) else (none)) else (some (x3, x4, false))
def subst_one.j2 : Nat → List (S46) → List Bool → List Int → Int → Int → List Int → Int → Bool → List Int → List Int → Int → Int → Int → Int → Int → Int → Int → Int → Option (List Int × Int × Bool)
 | 0, _, _, _, _, _, _, _, _, _, _, _, _, _, _, _, _, _, _ => none
 | k + 1, x0, x2, x3, x4, x5, x18, x59, x60, x249000, x249001, x249002, x249003, x249004, x249005, x249006, x249007, x249008, x249009 => if x60 = true then ((classes_Put.f x3 x4 (wrap64 (x4 + 1)) x249001).bind fun t253 => (some (t253, wrap64 (x4 + (x249001.length : Int)), true))) else (if x59 = 3 then (subst_one.l1 k x3 x4 x18 (wrap64 ((x18.length : Int) - 1)) x249000 x249001 x249002 x249003 x249004 x249005 x249006 x249007 x249008 x249009) else (if x5 < 8 then (if 0 ≤ x249002 then (if x249002 < (x18.length : Int) then ((subst_one.f k x0 x249003 x2 x3 (rd x18 x249002) (wrap64 (x5 + 1))).bind fun bt265 => (if 0 ≤ (wrap64 ((x18.length : Int) - 1)) then (if (wrap64 ((x18.length : Int) - 1)) < (x18.length : Int) then (some (bt265.1, mx x4 (wrap64 ((wrap64 ((wrap64 ((rd x18 (wrap64 ((x18.length : Int) - 1))) + 1)) + (bt265.1.length : Int))) - (x3.length : Int))), true)) else (none)) else (none))) else (none)) else (none)) else (if 0 ≤ (wrap64 ((x18.length : Int) - 1)) then (if (wrap64 ((x18.length : Int) - 1)) < (x18.length : Int) then (some (x3, mx x4 (wrap64 ((wrap64 ((wrap64 ((rd x18 (wrap64 ((x18.length : Int) - 1))) + 1)) + (x3.length : Int))) - (x3.length : Int))), true)) else (none)) else (none))))
def subst_one.l1 : Nat → List Int → Int → List Int → Int → List Int → List Int → Int → Int → Int → Int → Int → Int → Int → Int → Option (List Int × Int × Bool)
 | 0, _, _, _, _, _, _, _, _, _, _, _, _, _, _ => none
 | k + 1, x3, x4, x18, x20, x249000, x249001, x249002, x249003, x249004, x249005, x249006, x249007, x249008, x249009 => if x20 > 0 then (if 0 ≤ x20 then (if x20 < (x18.length : Int) then ((classes_Put.f x3 (rd x18 x20) (wrap64 ((rd x18 x20) + 1)) ([] : List Int)).bind fun t258 => (subst_one.l1 k t258 x4 x18 (wrap64 (x20 - 1)) x249000 x249001 x249002 x249003 x249004 x249005 x249006 x249007 x249008 x249009)) else (none)) else (none)) else ((classes_Put.f x3 x4 (wrap64 (x4 + 1)) x249001).bind fun t261 => (some (t261, wrap64 (x4 + 1), true)))
def subst_one.f : Nat → List (S46) → Int → List Bool → List Int → Int → Int → Option (List Int × Int × Bool)
 | 0, _, _, _, _, _, _ => none
 | k + 1, l0, a1, l2, l3, a4, a5 => if 0 ≤ a1 then (if a1 < (l0.length : Int) then (if (rd_T46 l0 a1).f1 = true then (if 0 ≤ a4 then (if a4 < (l3.length : Int) then ((classes_Mark.f l2 (rd l3 a4)).bind fun t246 => (subst_one.j0 k l0 l2 l3 a4 a5 t246 ((rd_T46 l0 a1).f0) ((rd_T46 l0 a1).f1) ((rd_T46 l0 a1).f2))) else (none)) else (none)) else (subst_one.j0 k l0 l2 l3 a4 a5 false ((rd_T46 l0 a1).f0) ((rd_T46 l0 a1).f1) ((rd_T46 l0 a1).f2))) else (none)) else (none)
end
theorem subst_one.mono_l : ∀ k, (∀ y0 y1 y2 y3 y4 y5, LeO (subst_one.f k y0 y1 y2 y3 y4 y5) (subst_one.f (k + 1) y0 y1 y2 y3 y4 y5)) ∧ (∀ y0 y1 y2 y3 y4 y5 y6 y7 y8, LeO (subst_one.j0 k y0 y1 y2 y3 y4 y5 y6 y7 y8) (subst_one.j0 (k + 1) y0 y1 y2 y3 y4 y5 y6 y7 y8)) ∧ (∀ y0 y1 y2 y3 y4 y5 y6 y7 y8 y9 y10, LeO (subst_one.l0 k y0 y1 y2 y3 y4 y5 y6 y7 y8 y9 y10) (subst_one.l0 (k + 1) y0 y1 y2 y3 y4 y5 y6 y7 y8 y9 y10)) ∧ (∀ y0 y1 y2 y3 y4 y5 y6 y7 y8 y9 y10 y11 y12 y13 y14 y15 y16 y17, LeO (subst_one.j2 k y0 y1 y2 y3 y4 y5 y6 y7 y8 y9 y10 y11 y12 y13 y14 y15 y16 y17) (subst_one.j2 (k + 1) y0 y1 y2 y3 y4 y5 y6 y7 y8 y9 y10 y11 y12 y13 y14 y15 y16 y17)) ∧ (∀ y0 y1 y2 y3 y4 y5 y6 y7 y8 y9 y10 y11 y12 y13, LeO (subst_one.l1 k y0 y1 y2 y3 y4 y5 y6 y7 y8 y9 y10 y11 y12 y13) (subst_one.l1 (k + 1) y0 y1 y2 y3 y4 y5 y6 y7 y8 y9 y10 y11 y12 y13))
 | 0 => ⟨fun _ _ _ _ _ _ r h => by simp [subst_one.f] at h, fun _ _ _ _ _ _ _ _ _ r h => by simp [subst_one.j0] at h, fun _ _ _ _ _ _ _ _ _ _ _ r h => by simp [subst_one.l0] at h, fun _ _ _ _ _ _ _ _ _ _ _ _ _ _ _ _ _ _ r h => by simp [subst_one.j2] at h, fun _ _ _ _ _ _ _ _ _ _ _ _ _ _ r h => by simp [subst_one.l1] at h⟩
 | k + 1 => by
  obtain ⟨ih0, ih1, ih2, ih3, ih4⟩ := subst_one.mono_l k
  refine ⟨?_, ?_, ?_, ?_, ?_⟩
  ·intro y0 y1 y2 y3 y4 y5
   unfold subst_one.f
   repeat' first
   | (with_reducible exact ih0 _ _ _ _ _ _)
   | (with_reducible exact ih1 _ _ _ _ _ _ _ _ _)
   | (with_reducible exact ih2 _ _ _ _ _ _ _ _ _ _ _)
   | (with_reducible exact ih3 _ _ _ _ _ _ _ _ _ _ _ _ _ _ _ _ _ _)
   | (with_reducible exact ih4 _ _ _ _ _ _ _ _ _ _ _ _ _ _)
   | (with_reducible exact classes_Meet.mono _ _ _ _ _ _)
   | (with_reducible exact LeO.refl _)
   | (with_reducible exact LeO.none _)
   | (with_reducible refine LeO.ite ?_ ?_)
   | (with_reducible refine LeO.bind ?_ (fun _ => ?_))
   | exact ih0 _ _ _ _ _ _
   | exact ih1 _ _ _ _ _ _ _ _ _
   | exact ih2 _ _ _ _ _ _ _ _ _ _ _
   | exact ih3 _ _ _ _ _ _ _ _ _ _ _ _ _ _ _ _ _ _
   | exact ih4 _ _ _ _ _ _ _ _ _ _ _ _ _ _
   | exact classes_Meet.mono _ _ _ _ _ _
   | exact LeO.none _
   | refine LeO.ite ?_ ?_
   | refine LeO.bind ?_ (fun _ => ?_)
  ·intro y0 y1 y2 y3 y4 y5 y6 y7 y8
   unfold subst_one.j0
   repeat' first
   | (with_reducible exact ih0 _ _ _ _ _ _)
   | (with_reducible exact ih1 _ _ _ _ _ _ _ _ _)
   | (with_reducible exact ih2 _ _ _ _ _ _ _ _ _ _ _)
   | (with_reducible exact ih3 _ _ _ _ _ _ _ _ _ _ _ _ _ _ _ _ _ _)
   | (with_reducible exact ih4 _ _ _ _ _ _ _ _ _ _ _ _ _ _)
   | (with_reducible exact classes_Meet.mono _ _ _ _ _ _)
   | (with_reducible exact LeO.refl _)
   | (with_reducible exact LeO.none _)
   | (with_reducible refine LeO.ite ?_ ?_)
   | (with_reducible refine LeO.bind ?_ (fun _ => ?_))
   | exact ih0 _ _ _ _ _ _
   | exact ih1 _ _ _ _ _ _ _ _ _
   | exact ih2 _ _ _ _ _ _ _ _ _ _ _
   | exact ih3 _ _ _ _ _ _ _ _ _ _ _ _ _ _ _ _ _ _
   | exact ih4 _ _ _ _ _ _ _ _ _ _ _ _ _ _
   | exact classes_Meet.mono _ _ _ _ _ _
   | exact LeO.none _
   | refine LeO.ite ?_ ?_
   | refine LeO.bind ?_ (fun _ => ?_)
  ·intro y0 y1 y2 y3 y4 y5 y6 y7 y8 y9 y10
   unfold subst_one.l0
   repeat' first
   | (with_reducible exact ih0 _ _ _ _ _ _)
   | (with_reducible exact ih1 _ _ _ _ _ _ _ _ _)
   | (with_reducible exact ih2 _ _ _ _ _ _ _ _ _ _ _)
   | (with_reducible exact ih3 _ _ _ _ _ _ _ _ _ _ _ _ _ _ _ _ _ _)
   | (with_reducible exact ih4 _ _ _ _ _ _ _ _ _ _ _ _ _ _)
   | (with_reducible exact classes_Meet.mono _ _ _ _ _ _)
   | (with_reducible exact LeO.refl _)
   | (with_reducible exact LeO.none _)
   | (with_reducible refine LeO.ite ?_ ?_)
   | (with_reducible refine LeO.bind ?_ (fun _ => ?_))
   | exact ih0 _ _ _ _ _ _
   | exact ih1 _ _ _ _ _ _ _ _ _
   | exact ih2 _ _ _ _ _ _ _ _ _ _ _
   | exact ih3 _ _ _ _ _ _ _ _ _ _ _ _ _ _ _ _ _ _
   | exact ih4 _ _ _ _ _ _ _ _ _ _ _ _ _ _
   | exact classes_Meet.mono _ _ _ _ _ _
   | exact LeO.none _
   | refine LeO.ite ?_ ?_
   | refine LeO.bind ?_ (fun _ => ?_)
  ·intro y0 y1 y2 y3 y4 y5 y6 y7 y8 y9 y10 y11 y12 y13 y14 y15 y16 y17
   unfold subst_one.j2
   repeat' first
   | (with_reducible exact ih0 _ _ _ _ _ _)
   | (with_reducible exact ih1 _ _ _ _ _ _ _ _ _)
   | (with_reducible exact ih2 _ _ _ _ _ _ _ _ _ _ _)
   | (with_reducible exact ih3 _ _ _ _ _ _ _ _ _ _ _ _ _ _ _ _ _ _)
   | (with_reducible exact ih4 _ _ _ _ _ _ _ _ _ _ _ _ _ _)
   | (with_reducible exact classes_Meet.mono _ _ _ _ _ _)
   | (with_reducible exact LeO.refl _)
   | (with_reducible exact LeO.none _)
   | (with_reducible refine LeO.ite ?_ ?_)
   | (with_reducible refine LeO.bind ?_ (fun _ => ?_))
   | exact ih0 _ _ _ _ _ _
   | exact ih1 _ _ _ _ _ _ _ _ _
   | exact ih2 _ _ _ _ _ _ _ _ _ _ _
   | exact ih3 _ _ _ _ _ _ _ _ _ _ _ _ _ _ _ _ _ _
   | exact ih4 _ _ _ _ _ _ _ _ _ _ _ _ _ _
   | exact classes_Meet.mono _ _ _ _ _ _
   | exact LeO.none _
   | refine LeO.ite ?_ ?_
   | refine LeO.bind ?_ (fun _ => ?_)
  ·intro y0 y1 y2 y3 y4 y5 y6 y7 y8 y9 y10 y11 y12 y13
   unfold subst_one.l1
   repeat' first
   | (with_reducible exact ih0 _ _ _ _ _ _)
   | (with_reducible exact ih1 _ _ _ _ _ _ _ _ _)
   | (with_reducible exact ih2 _ _ _ _ _ _ _ _ _ _ _)
   | (with_reducible exact ih3 _ _ _ _ _ _ _ _ _ _ _ _ _ _ _ _ _ _)
   | (with_reducible exact ih4 _ _ _ _ _ _ _ _ _ _ _ _ _ _)
   | (with_reducible exact classes_Meet.mono _ _ _ _ _ _)
   | (with_reducible exact LeO.refl _)
   | (with_reducible exact LeO.none _)
   | (with_reducible refine LeO.ite ?_ ?_)
   | (with_reducible refine LeO.bind ?_ (fun _ => ?_))
   | exact ih0 _ _ _ _ _ _
   | exact ih1 _ _ _ _ _ _ _ _ _
   | exact ih2 _ _ _ _ _ _ _ _ _ _ _
   | exact ih3 _ _ _ _ _ _ _ _ _ _ _ _ _ _ _ _ _ _
   | exact ih4 _ _ _ _ _ _ _ _ _ _ _ _ _ _
   | exact classes_Meet.mono _ _ _ _ _ _
   | exact LeO.none _
   | refine LeO.ite ?_ ?_
   | refine LeO.bind ?_ (fun _ => ?_)
theorem subst_one.mono : ∀ a0 a1 a2 a3 a4 a5 k, LeO (subst_one.f k a0 a1 a2 a3 a4 a5) (subst_one.f (k + 1) a0 a1 a2 a3 a4 a5) := by
 intro a0 a1 a2 a3 a4 a5 k
 obtain ⟨ih0, ih1, ih2, ih3, ih4⟩ := subst_one.mono_l k
 exact ih0 a0 a1 a2 a3 a4 a5
def subst_one.T12 : Bool × List (List Nat × List Nat) := (true, [([], []), ([], []), ([], []), ([2], [2]), ([], []), ([4], [4]), ([0, 1, 3, 5], [0, 1, 3, 5]), ([], []), ([], []), ([8], [8]), ([9], [9]), ([7, 10], [7, 10]), ([6, 6, 0, 1, 2, 3, 4, 5, 6], [6]), ([11, 12, 0, 1, 2, 3, 4, 5, 6, 7, 8, 9, 10, 11, 12], [11]), ([13, 0, 1, 2, 3, 4, 5, 6, 7, 8, 9, 10, 11, 12, 13], [])])
def subst_one.B12 : List Nat := [0, 0, 0, 4, 0, 16, 63, 0, 0, 256, 768, 1920, 127, 8191, 16383]
theorem subst_one.tab12 : rtab .any (opsOf Try.f39 12) = subst_one.T12 := by kernel_rfl
theorem subst_one.bits12 : waitsOk subst_one.T12.2 subst_one.B12 = true := by kernel_rfl
def subst_one.T17 : Bool × List (List Nat × List Nat) := (true, [([], []), ([], []), ([], []), ([1, 2], [1, 2]), ([3], [3]), ([], []), ([], []), ([5, 6], [5, 6]), ([7], [7]), ([8], [8]), ([0, 4, 9], [0, 4, 9]), ([10, 10, 0, 1, 2, 3, 4, 5, 6, 7, 8, 9, 10], [0, 10])])
def subst_one.B17 : List Nat := [0, 0, 0, 6, 14, 0, 0, 96, 224, 480, 1023, 2047]
theorem subst_one.tab17 : rtab .any (opsOf Try.f39 17) = subst_one.T17 := by kernel_rfl
theorem subst_one.bits17 : waitsOk subst_one.T17.2 subst_one.B17 = true := by kernel_rfl
def subst_one.T21 : Bool × List (List Nat × List Nat) := (true, [([], []), ([], []), ([1], [1]), ([], []), ([], []), ([], []), ([], []), ([6], [6]), ([5, 7], [5, 7]), ([8], [8]), ([], []), ([10], [10]), ([0, 2, 3, 4, 9, 11], [0, 2, 3, 4, 9, 11]), ([12], [12]), ([13], [13]), ([13], [13]), ([13], [13]), ([14, 12, 0, 1, 2, 3, 4, 5, 6, 7, 8, 9, 10, 11, 12, 13, 14], [4, 14])])
def subst_one.B21 : List Nat := [0, 0, 2, 0, 0, 0, 0, 64, 224, 480, 0, 1024, 4095, 8191, 16383, 16383, 16383, 32767]
theorem subst_one.tab21 : rtab .any (opsOf Try.f39 21) = subst_one.T21 := by kernel_rfl
theorem subst_one.bits21 : waitsOk subst_one.T21.2 subst_one.B21 = true := by kernel_rfl
def subst_one.T22 : Bool × List (List Nat × List Nat) := (true, [([], []), ([], []), ([], []), ([], []), ([3], [3]), ([4], [4]), ([2, 5], [2, 5]), ([6], [6]), ([7], [7]), ([], []), ([9], [9]), ([8, 10], [8, 10]), ([], []), ([11, 12], [11, 12]), ([1, 13], [1, 13]), ([0, 0], [0]), ([14, 15, 0, 1, 2, 3, 4, 5, 6, 7, 8, 9, 10, 11, 12, 13, 14, 15], [14]), ([16, 0, 1, 2, 3, 4, 5, 6, 7, 8, 9, 10, 11, 12, 13, 14, 15, 16], [])])
def subst_one.B22 : List Nat := [0, 0, 0, 0, 8, 24, 60, 124, 252, 0, 512, 2044, 0, 8188, 16382, 1, 65535, 131071]
theorem subst_one.tab22 : rtab .any (opsOf Try.f39 22) = subst_one.T22 := by kernel_rfl
theorem subst_one.bits22 : waitsOk subst_one.T22.2 subst_one.B22 = true := by kernel_rfl
set_option maxHeartbeats 8000000 in
set_option maxRecDepth 100000 in
theorem subst_one.calls (k : Nat) : ∀ (A0 : Option Addr) (c0 : Nat) (l0 : List (S46)) (a1 : Int) (A2 : Option Addr) (c2 : Nat) (l2 : List Bool) (P3_ : Nat → Prop) (A3 : Option Addr) (c3 : Nat) (l3 : List Int) (a4 : Int) (a5 : Int) (r1 : List Int) (r2 : Int) (r3 : Bool) (w : World) (hr0 : Kd.C k46 w A0 l0.length l0) (hc0 : l0.length ≤ c0) (hr2 : Kd.C Kd.bool w A2 l2.length l2) (hc2 : l2.length ≤ c2) (hs3 : Kd.V (Kd.int .i64) 3 w w.heap.size (fun k_ => P3_ k_) (.slice A3 l3.length c3) l3) (h : subst_one.f k l0 a1 l2 l3 a4 a5 = some (r1, r2, r3)),
  Calls Try.prog 39 #[.slice A0 l0.length c0, .int .i64 a1, .slice A2 l2.length c2, .slice A3 l3.length c3, .int .i64 a4, .int .i64 a5] w fun e w' => ∃ v0_ : Value, e = .returned (.tuple #[v0_, .int .i64 r2, .bool r3]) ∧ Kd.V (Kd.int .i64) 3 w' w.heap.size (fun k_ => (P3_ k_ ∨ w.heap.size ≤ k_)) v0_ r1 ∧ Below w.heap.size w w' := by
 induction k using Nat.strongRecOn with
 | _ k ih =>
 intro A0 c0 l0 a1 A2 c2 l2 P3_ A3 c3 l3 a4 a5 r1 r2 r3 w hr0 hc0 hr2 hc2 hs3 h
 cases k with
 | zero => exact absurd h (by simp [subst_one.f])
 | succ k =>
 simp only [subst_one.f] at h
 have hu46 := Try.underlying46
 have hu43 := Try.underlying43
 have HR0 := Aside0.mk hr0
 have HC0 := Aside0.mk hc0
 clear hr0 hc0
 have HR2 := Aside0.mk hr2
 have HC2 := Aside0.mk hc2
 clear hr2 hc2
 have HO3 := Aside0.mk (show Kd.V (Kd.int .i64) 3 w w.heap.size (fun k_ => (P3_ k_ ∨ w.heap.size ≤ k_)) (.slice A3 l3.length c3) l3 from Kd.V_mono hs3 (fun k_ hk => .inl hk))
 have HB := Aside0.mk (Below.refl w.heap.size w)
 have H : (if 0 ≤ a1 then (if a1 < (l0.length : Int) then (if (rd_T46 l0 a1).f1 = true then (if 0 ≤ a4 then (if a4 < (l3.length : Int) then ((classes_Mark.f l2 (rd l3 a4)).bind fun t246 => (subst_one.j0 k l0 l2 l3 a4 a5 t246 ((rd_T46 l0 a1).f0) ((rd_T46 l0 a1).f1) ((rd_T46 l0 a1).f2))) else (none)) else (none)) else (subst_one.j0 k l0 l2 l3 a4 a5 false ((rd_T46 l0 a1).f0) ((rd_T46 l0 a1).f1) ((rd_T46 l0 a1).f2))) else (none)) else (none)) = some (r1, r2, r3) := h
 clear h
 by_cases c7 : 0 ≤ a1
 ·rw [if_pos c7] at H
  have c7b0 : decide (0 ≤ a1) = true := decide_eq_true c7
  clear c7
  by_cases c8 : a1 < (l0.length : Int)
  ·rw [if_pos c8] at H
   have c8b0 : decide (a1 < (l0.length : Int)) = true := decide_eq_true c8
   clear c8
   have HC9 := Aside0.mk H
   clear H
   have p243 : 0 ≤ (a1 : Int) := of_decide_eq_true (by first | (with_reducible assumption) | assumption)
   have q243 : a1 < (l0.length : Int) := of_decide_eq_true (by first | (with_reducible assumption) | assumption)
   obtain ⟨ad243, A243_2, c243_2, e243, hx243_0, hx243_1, hx243_2, hl243_2, hi243_2⟩ := at_T46 HR0.out a1 p243 q243
   cases e243
   have HR243_2 := Aside0.mk hi243_2
   have HC243_2 := Aside0.mk hl243_2
   clear hi243_2 hl243_2
   replace p243 := eq_true p243
   replace q243 := eq_true q243
   go_enter Try.func39, Try.ntmps39
   go_upto_region 2 with (first | ((with_reducible refine gate_dst (N := 15) rfl ?_); refine box_event ?hg (N := 15) ?hd (cs := #[.int .i64 0, .bool false, .slice none 0 0]) (t := 46) ?hr ?_; (case hd => rfl); (case hg => rfl); (case hr => first | (go_simp; done) | (go_simp; rfl)); intro gb244 hg w10 hbox hb; have n0_ := Aside0.mk (Kd.V_below (Kd.V_elderB (by (with_reducible repeat (first | apply Kd.V_alloc | apply Kd.V_drewN | apply Kd.V_drew)); exact HO3.out) gb244 (Nat.le_of_eq hg.symm)) hb); have n1_ := Aside0.mk (below_step (by repeat (first | (with_reducible first | exact HB.out | apply below_alloc | apply pw_below_drewN | apply below_drew1) | exact HB.out)) hb); have n2_ := Aside0.mk (hbox); have n3_ := Aside0.mk ((by rw [hg]; exact (below_size (by repeat (first | (with_reducible first | exact HB.out | apply below_alloc | apply pw_below_drewN | apply below_drew1) | exact HB.out))) : w.heap.size ≤ gb244)); have n4_ := Aside0.mk ((by rw [hg]; exact (below_size (by repeat (first | (with_reducible first | exact HB.out | apply below_alloc | apply pw_below_drewN | apply below_drew1) | exact HB.out))) : w.heap.size ≤ gb244)); clear HO3; clear HB; have HO3 := n0_; have HB := n1_; have BK244 := n2_; have GW244 := n3_; have GE244 := n4_; clear n0_ n1_ n2_ n3_ n4_; clear hb hbox hg; have hcz11_0 : w10.cell? ⟨gb244, 0, none⟩ = some (.int .i64 0) := (blk_cell BK244.out 0).trans rfl; have hcz11_1 : w10.cell? ⟨gb244, 1, none⟩ = some (.bool false) := (blk_cell BK244.out 1).trans rfl; have hcz11_2 : w10.cell? ⟨gb244, 2, none⟩ = some (.slice none 0 0) := (blk_cell BK244.out 2).trans rfl; have hfz11_0 := blk_frozen BK244.out 0; have hfz11_1 := blk_frozen BK244.out 1; have hfz11_2 := blk_frozen BK244.out 2))
   (try simp only [Act.put, List.setIfInBounds_toArray, List.set_cons_zero, List.set_cons_succ])
   go_cut [35] (fun v35 wc => ∃ (kq : Nat) (x35_8 : Bool), v35 = .bool x35_8 ∧ Aside0 (subst_one.j0 kq l0 l2 l3 a4 a5 x35_8 ((rd_T46 l0 a1).f0) ((rd_T46 l0 a1).f1) ((rd_T46 l0 a1).f2) = some (r1, r2, r3)) ∧ Aside0 (kq ≤ k) ∧ Aside0 (Kd.V (Kd.int .i64) 3 wc w.heap.size (fun k_ => (P3_ k_ ∨ w.heap.size ≤ k_) ∧ k_ ≠ gb244) (.slice A3 l3.length c3) l3) ∧ Aside0 (wc.heap[gb244]? = some (.cells #[.int .i64 ((rd_T46 l0 a1).f0), .bool ((rd_T46 l0 a1).f1), (.slice A243_2 ((rd_T46 l0 a1).f2).length c243_2)] 46 (0, 0))) ∧ Aside0 (Below w.heap.size w wc))
   case first =>
    have H := HC9.out
    clear HC9
    obtain ⟨bq12, hbq12⟩ : ∃ b_ : Bool, b_ = ((rd_T46 l0 a1).f1) := ⟨_, rfl⟩
    replace H : (if bq12 = true then (if 0 ≤ a4 then (if a4 < (l3.length : Int) then ((classes_Mark.f l2 (rd l3 a4)).bind fun t246 => (subst_one.j0 k l0 l2 l3 a4 a5 t246 ((rd_T46 l0 a1).f0) bq12 ((rd_T46 l0 a1).f2))) else (none)) else (none)) else (subst_one.j0 k l0 l2 l3 a4 a5 false ((rd_T46 l0 a1).f0) bq12 ((rd_T46 l0 a1).f2))) = some (r1, r2, r3) := by rw [← hbq12] at H; exact H
    have Nbq12 := Aside0.mk hbq12
    clear hbq12
    (try rw [← Nbq12.out])
    by_cases c13 : bq12 = true
    ·subst c13
     have H1 : (if 0 ≤ a4 then (if a4 < (l3.length : Int) then ((classes_Mark.f l2 (rd l3 a4)).bind fun t246 => (subst_one.j0 k l0 l2 l3 a4 a5 t246 ((rd_T46 l0 a1).f0) true ((rd_T46 l0 a1).f2))) else (none)) else (none)) = some (r1, r2, r3) := by rw [if_pos rfl] at H; exact H
     clear H
     have H := H1
     clear H1
     by_cases c14 : 0 ≤ a4
     ·rw [if_pos c14] at H
      have c14b0 : decide (0 ≤ a4) = true := decide_eq_true c14
      clear c14
      by_cases c15 : a4 < (l3.length : Int)
      ·rw [if_pos c15] at H
       have c15b0 : decide (a4 < (l3.length : Int)) = true := decide_eq_true c15
       clear c15
       replace H := Option.bind_eq_some_iff.mp H
       obtain ⟨t246, A160, H⟩ := H
       replace H : (subst_one.j0 k l0 l2 l3 a4 a5 t246 ((rd_T46 l0 a1).f0) true ((rd_T46 l0 a1).f2)) = some (r1, r2, r3) := H
       have A16 := Aside0.mk A160
       clear A160
       have H' := Aside0.mk H
       clear H
       have hcz17_0 : w10.cell? ⟨gb244, 0, none⟩ = some (.int .i64 0) := (blk_cell BK244.out 0).trans rfl
       have hcz17_1 : w10.cell? ⟨gb244, 1, none⟩ = some (.bool false) := (blk_cell BK244.out 1).trans rfl
       have hcz17_2 : w10.cell? ⟨gb244, 2, none⟩ = some (.slice none 0 0) := (blk_cell BK244.out 2).trans rfl
       have hfz17_0 := blk_frozen BK244.out 0
       have hfz17_1 := blk_frozen BK244.out 1
       have hfz17_2 := blk_frozen BK244.out 2
       have p245 : 0 ≤ (a4 : Int) := of_decide_eq_true (by first | (with_reducible assumption) | assumption)
       have q245 : a4 < (l3.length : Int) := of_decide_eq_true (by first | (with_reducible assumption) | assumption)
       obtain ⟨ad245, e245, hx245_0⟩ := Kd.at_int (Kd.V_reads' HO3.out).2.2 a4 p245 q245
       cases e245
       have hn245_0 : ad245.block ≠ gb244 := Kd.foot_ne (Kd.C_foot_ownV HO3.out (fun k_ hk => hk.2)) (by omega) (by decide)
       have hn245_1 : ad245.block ≠ gb244 := Kd.foot_ne (Kd.C_foot_ownV HO3.out (fun k_ hk => hk.2)) (by omega) (by decide)
       have hn245_2 : ad245.block ≠ gb244 := Kd.foot_ne (Kd.C_foot_ownV HO3.out (fun k_ hk => hk.2)) (by omega) (by decide)
       replace hx245_0 := (cell_far (p := ⟨gb244, 0, none⟩) (by first | (rw [add_block]; exact hn245_0) | (show (Addr.add _ _).block ≠ _; rw [add_block]; exact hn245_0) | exact hn245_0) (.int .i64 ((rd_T46 l0 a1).f0))).trans hx245_0
       replace hx245_0 := (cell_far (p := ⟨gb244, 1, none⟩) (by first | (rw [add_block]; exact hn245_1) | (show (Addr.add _ _).block ≠ _; rw [add_block]; exact hn245_1) | exact hn245_1) (.bool (true))).trans hx245_0
       replace hx245_0 := (cell_far (p := ⟨gb244, 2, none⟩) (by first | (rw [add_block]; exact hn245_2) | (show (Addr.add _ _).block ≠ _; rw [add_block]; exact hn245_2) | exact hn245_2) (.slice A243_2 ((rd_T46 l0 a1).f2).length c243_2)).trans hx245_0
       clear hn245_0
       clear hn245_1
       clear hn245_2
       replace p245 := eq_true p245
       replace q245 := eq_true q245
       go_wp2_with (first | (go_at_call 20; (with_reducible refine (classes_Mark.calls _ _ l2 (rd l3 a4) t246 _ ?side1 ?side2 A16.out).mono ?_); (case side1 => exact Kd.C_below HR2.out (by repeat (first | (with_reducible first | exact HB.out | apply below_alloc | apply pw_below_drewN | apply below_drew1 | refine below_set ?_ GE244.out) | exact HB.out))); (case side2 => exact HC2.out); rintro e w' ⟨rfl, ⟨nd, rfl⟩⟩))
       go_meet
       case rel => (try rw [← Nbq12.out]); exact ⟨_, (t246), (by first | rfl | (simp; done) | (simp [*]; done)), H', ⟨by first | omega | exact Nat.le_refl _⟩, ⟨by (with_reducible repeat (first | apply Kd.V_alloc | apply Kd.V_drewN | apply Kd.V_drew)); exact Kd.V_mono (Kd.V_far (p := ⟨gb244, 2, none⟩) (Kd.V_far (p := ⟨gb244, 1, none⟩) (Kd.V_far (p := ⟨gb244, 0, none⟩) (Kd.V_mono HO3.out (fun k_ hk => (⟨hk, hk.2⟩ : _ ∧ k_ ≠ gb244))) (fun _ hk => hk.2) (.int .i64 ((rd_T46 l0 a1).f0))) (fun _ hk => hk.2) (.bool (true))) (fun _ hk => hk.2) (.slice A243_2 ((rd_T46 l0 a1).f2).length c243_2)) (fun _ hk => ⟨hk.1.1, hk.1.2⟩)⟩, ⟨by (with_reducible repeat (first | refine blk_drewN ?_ _ | refine blk_drew ?_ | refine blk_alloc ?_ _)); refine blk_put (cs := #[.int .i64 ((rd_T46 l0 a1).f0), .bool (true), .slice none 0 0]) ?_ 2 _ rfl; (with_reducible repeat (first | refine blk_drewN ?_ _ | refine blk_drew ?_ | refine blk_alloc ?_ _)); refine blk_put (cs := #[.int .i64 ((rd_T46 l0 a1).f0), .bool false, .slice none 0 0]) ?_ 1 _ rfl; (with_reducible repeat (first | refine blk_drewN ?_ _ | refine blk_drew ?_ | refine blk_alloc ?_ _)); refine blk_put (cs := #[.int .i64 0, .bool false, .slice none 0 0]) ?_ 0 _ rfl; (with_reducible repeat (first | refine blk_drewN ?_ _ | refine blk_drew ?_ | refine blk_alloc ?_ _)); exact BK244.out⟩, ⟨by repeat (first | (with_reducible first | exact HB.out | apply below_alloc | apply pw_below_drewN | apply below_drew1 | refine below_set ?_ GE244.out) | exact HB.out)⟩⟩
      ·rw [if_neg c15] at H
       exact absurd H (by simp)
     ·rw [if_neg c14] at H
      exact absurd H (by simp)
    ·replace c13 := Bool.eq_false_iff.mpr c13
     subst c13
     have H1 : (subst_one.j0 k l0 l2 l3 a4 a5 false ((rd_T46 l0 a1).f0) false ((rd_T46 l0 a1).f2)) = some (r1, r2, r3) := by rw [if_neg (show ¬ (false = true) by decide)] at H; exact H
     clear H
     have H := H1
     clear H1
     have H' := Aside0.mk H
     clear H
     have hcz18_0 : w10.cell? ⟨gb244, 0, none⟩ = some (.int .i64 0) := (blk_cell BK244.out 0).trans rfl
     have hcz18_1 : w10.cell? ⟨gb244, 1, none⟩ = some (.bool false) := (blk_cell BK244.out 1).trans rfl
     have hcz18_2 : w10.cell? ⟨gb244, 2, none⟩ = some (.slice none 0 0) := (blk_cell BK244.out 2).trans rfl
     have hfz18_0 := blk_frozen BK244.out 0
     have hfz18_1 := blk_frozen BK244.out 1
     have hfz18_2 := blk_frozen BK244.out 2
     go_wp2
     go_meet
     case rel => (try rw [← Nbq12.out]); exact ⟨_, (false), (by first | rfl | (simp; done) | (simp [*]; done)), H', ⟨by first | omega | exact Nat.le_refl _⟩, ⟨by (with_reducible repeat (first | apply Kd.V_alloc | apply Kd.V_drewN | apply Kd.V_drew)); exact Kd.V_mono (Kd.V_far (p := ⟨gb244, 2, none⟩) (Kd.V_far (p := ⟨gb244, 1, none⟩) (Kd.V_far (p := ⟨gb244, 0, none⟩) (Kd.V_mono HO3.out (fun k_ hk => (⟨hk, hk.2⟩ : _ ∧ k_ ≠ gb244))) (fun _ hk => hk.2) (.int .i64 ((rd_T46 l0 a1).f0))) (fun _ hk => hk.2) (.bool (false))) (fun _ hk => hk.2) (.slice A243_2 ((rd_T46 l0 a1).f2).length c243_2)) (fun _ hk => ⟨hk.1.1, hk.1.2⟩)⟩, ⟨by (with_reducible repeat (first | refine blk_drewN ?_ _ | refine blk_drew ?_ | refine blk_alloc ?_ _)); refine blk_put (cs := #[.int .i64 ((rd_T46 l0 a1).f0), .bool (false), .slice none 0 0]) ?_ 2 _ rfl; (with_reducible repeat (first | refine blk_drewN ?_ _ | refine blk_drew ?_ | refine blk_alloc ?_ _)); refine blk_put (cs := #[.int .i64 ((rd_T46 l0 a1).f0), .bool false, .slice none 0 0]) ?_ 1 _ rfl; (with_reducible repeat (first | refine blk_drewN ?_ _ | refine blk_drew ?_ | refine blk_alloc ?_ _)); refine blk_put (cs := #[.int .i64 0, .bool false, .slice none 0 0]) ?_ 0 _ rfl; (with_reducible repeat (first | refine blk_drewN ?_ _ | refine blk_drew ?_ | refine blk_alloc ?_ _)); exact BK244.out⟩, ⟨by repeat (first | (with_reducible first | exact HB.out | apply below_alloc | apply pw_below_drewN | apply below_drew1 | refine below_set ?_ GE244.out) | exact HB.out)⟩⟩
   case rest =>
    clear HC9
    try clear c1
    try clear q1
    try clear c2
    try clear p2
    try clear q2
    try clear hx2
    try clear c3
    try clear c7
    try clear c7b0
    try clear c8
    try clear c8b0
    try clear q12
    try clear c13
    try clear c14
    try clear c14b0
    try clear c15
    try clear c15b0
    try clear hcz11_0
    try clear hcz11_1
    try clear hcz11_2
    try clear hcz17_0
    try clear hcz17_1
    try clear hcz17_2
    try clear hcz18_0
    try clear hcz18_1
    try clear hcz18_2
    try clear hfz11_0
    try clear hfz11_1
    try clear hfz11_2
    try clear hfz17_0
    try clear hfz17_1
    try clear hfz17_2
    try clear hfz18_0
    try clear hfz18_1
    try clear hfz18_2
    try clear hx243_0
    try clear hx243_1
    try clear hx243_2
    try clear hx245_0
    try clear p243
    try clear p245
    try clear q243
    try clear q245
    obtain ⟨kq, x35_8, rfl, HA, HJ8, HO_3, BK244, HB⟩ := hcut
    cases kq with
    | zero => exact absurd HA.out (by simp [subst_one.j0])
    | succ kj8 =>
     have H := HA.out
     clear HA
     simp only [subst_one.j0] at H
     by_cases c19 : x35_8 = true
     ·subst c19
      have H1 : (some (l3, a4, false)) = some (r1, r2, r3) := by rw [if_pos rfl] at H; exact H
      clear H
      have H := H1
      clear H1
      simp only [Option.some.injEq, Prod.mk.injEq] at H
      obtain ⟨rfl, rfl, rfl⟩ := H
      go_wp2
      go_ret3
      exact ⟨_, by first | rfl | (simp [errW_none, errW_some] <;> rfl) | (simp [*, errW_none, errW_some] <;> rfl), by (with_reducible repeat (first | apply Kd.V_alloc | apply Kd.V_drewN | apply Kd.V_drew)); exact Kd.V_mono HO_3.out (fun _ hk => hk.1), by repeat (first | (with_reducible first | exact HB.out | apply below_alloc | apply pw_below_drewN | apply below_drew1 | refine below_set ?_ GE244.out) | exact HB.out)⟩
     ·replace c19 := Bool.eq_false_iff.mpr c19
      subst c19
      have H1 : (subst_one.l0 kj8 l0 l2 l3 a4 a5 ((rd_T46 l0 a1).f2) (((rd_T46 l0 a1).f2).length : Int) 0 ((rd_T46 l0 a1).f0) ((rd_T46 l0 a1).f1) ((rd_T46 l0 a1).f2)) = some (r1, r2, r3) := by rw [if_neg (show ¬ (false = true) by decide)] at H; exact H
      clear H
      have H := H1
      clear H1
      have H' := Aside0.mk H
      clear H
      have hcz20_0 : wc.cell? ⟨gb244, 0, none⟩ = some (.int .i64 ((rd_T46 l0 a1).f0)) := (blk_cell BK244.out 0).trans rfl
      have hcz20_1 : wc.cell? ⟨gb244, 1, none⟩ = some (.bool ((rd_T46 l0 a1).f1)) := (blk_cell BK244.out 1).trans rfl
      have hcz20_2 : wc.cell? ⟨gb244, 2, none⟩ = some (.slice A243_2 ((rd_T46 l0 a1).f2).length c243_2) := (blk_cell BK244.out 2).trans rfl
      have hfz20_0 := blk_frozen BK244.out 0
      have hfz20_1 := blk_frozen BK244.out 1
      have hfz20_2 := blk_frozen BK244.out 2
      go_wp2
      go_loopg [3, 41] kj8 (fun kq v3 v41 w' => ∃ (x3_2 : List Int) (x41_2 : Int), v41 = .int .i64 x41_2 ∧ Aside0 (subst_one.l0 kq l0 l2 x3_2 a4 a5 ((rd_T46 l0 a1).f2) (((rd_T46 l0 a1).f2).length : Int) x41_2 ((rd_T46 l0 a1).f0) ((rd_T46 l0 a1).f1) ((rd_T46 l0 a1).f2) = some (r1, r2, r3)) ∧ Aside0 (kq ≤ kj8) ∧ Aside0 (Kd.V (Kd.int .i64) 3 w' w.heap.size (fun k_ => (P3_ k_ ∨ w.heap.size ≤ k_) ∧ k_ ≠ gb244) v3 x3_2) ∧ Aside0 (w'.heap[gb244]? = some (.cells #[.int .i64 ((rd_T46 l0 a1).f0), .bool ((rd_T46 l0 a1).f1), (.slice A243_2 ((rd_T46 l0 a1).f2).length c243_2)] 46 (0, 0))) ∧ Aside0 (Below w.heap.size w w'))
      case atStart => exact ⟨(l3), (0), (by first | rfl | (simp; done) | (simp [*]; done)), H', ⟨Nat.le_refl _⟩, ⟨by (with_reducible repeat (first | apply Kd.V_alloc | apply Kd.V_drewN | apply Kd.V_drew)); exact HO_3.out⟩, ⟨by (with_reducible repeat (first | refine blk_drewN ?_ _ | refine blk_drew ?_ | refine blk_alloc ?_ _)); exact BK244.out⟩, ⟨by repeat (first | (with_reducible first | exact HB.out | apply below_alloc | apply pw_below_drewN | apply below_drew1 | refine below_set ?_ GE244.out) | exact HB.out)⟩⟩
      case round =>
       clear H'
       try clear c1
       try clear q1
       try clear c2
       try clear p2
       try clear q2
       try clear hx2
       try clear c3
       try clear c7
       try clear c7b0
       try clear c8
       try clear c8b0
       try clear q12
       try clear c13
       try clear c14
       try clear c14b0
       try clear c15
       try clear c15b0
       try clear c19
       try clear hcz11_0
       try clear hcz11_1
       try clear hcz11_2
       try clear hcz17_0
       try clear hcz17_1
       try clear hcz17_2
       try clear hcz18_0
       try clear hcz18_1
       try clear hcz18_2
       try clear hcz20_0
       try clear hcz20_1
       try clear hcz20_2
       try clear hfz11_0
       try clear hfz11_1
       try clear hfz11_2
       try clear hfz17_0
       try clear hfz17_1
       try clear hfz17_2
       try clear hfz18_0
       try clear hfz18_1
       try clear hfz18_2
       try clear hfz20_0
       try clear hfz20_1
       try clear hfz20_2
       try clear hx243_0
       try clear hx243_1
       try clear hx243_2
       try clear hx245_0
       try clear p2
       try clear p243
       try clear p245
       try clear q1
       try clear q12
       try clear q2
       try clear q243
       try clear q245
       obtain ⟨x3_2, x41_2, rfl, HA, HK2, HO_3, BK244, HB⟩ := hrel
       cases gk with
       | zero => exact absurd HA.out (by simp [subst_one.l0])
       | succ k2 =>
        have H := HA.out
        clear HA
        simp only [subst_one.l0] at H
        by_cases c21 : x41_2 < (((rd_T46 l0 a1).f2).length : Int)
        ·rw [if_pos c21] at H
         have c21b0 : decide (x41_2 < (((rd_T46 l0 a1).f2).length : Int)) = true := decide_eq_true c21
         clear c21
         by_cases c22 : 0 ≤ x41_2
         ·rw [if_pos c22] at H
          have c22b0 : decide (0 ≤ x41_2) = true := decide_eq_true c22
          clear c22
          by_cases c23 : x41_2 < (((rd_T46 l0 a1).f2).length : Int)
          ·rw [if_pos c23] at H
           have c23b0 : decide (x41_2 < (((rd_T46 l0 a1).f2).length : Int)) = true := decide_eq_true c23
           clear c23
           replace H := Option.bind_eq_some_iff.mp H
           obtain ⟨⟨t249, t250⟩, A240, H⟩ := H
           replace H : (if t250 = true then (if ((rd_T46 l0 a1).f0) = 1 then (subst_one.j2 k2 l0 l2 x3_2 a4 a5 t249 ((rd_T46 l0 a1).f0) (((rd_T46 l0 a1).f0) == 1) ((rd_T43 ((rd_T46 l0 a1).f2) x41_2).f0) ((rd_T43 ((rd_T46 l0 a1).f2) x41_2).f1) ((rd_T43 ((rd_T46 l0 a1).f2) x41_2).f2) ((rd_T43 ((rd_T46 l0 a1).f2) x41_2).f3) ((rd_T43 ((rd_T46 l0 a1).f2) x41_2).f4.f0) ((rd_T43 ((rd_T46 l0 a1).f2) x41_2).f4.f1) ((rd_T43 ((rd_T46 l0 a1).f2) x41_2).f5.f0) ((rd_T43 ((rd_T46 l0 a1).f2) x41_2).f5.f1) ((rd_T43 ((rd_T46 l0 a1).f2) x41_2).f6.f0) ((rd_T43 ((rd_T46 l0 a1).f2) x41_2).f6.f1)) else (subst_one.j2 k2 l0 l2 x3_2 a4 a5 t249 ((rd_T46 l0 a1).f0) (((rd_T46 l0 a1).f0) == 2) ((rd_T43 ((rd_T46 l0 a1).f2) x41_2).f0) ((rd_T43 ((rd_T46 l0 a1).f2) x41_2).f1) ((rd_T43 ((rd_T46 l0 a1).f2) x41_2).f2) ((rd_T43 ((rd_T46 l0 a1).f2) x41_2).f3) ((rd_T43 ((rd_T46 l0 a1).f2) x41_2).f4.f0) ((rd_T43 ((rd_T46 l0 a1).f2) x41_2).f4.f1) ((rd_T43 ((rd_T46 l0 a1).f2) x41_2).f5.f0) ((rd_T43 ((rd_T46 l0 a1).f2) x41_2).f5.f1) ((rd_T43 ((rd_T46 l0 a1).f2) x41_2).f6.f0) ((rd_T43 ((rd_T46 l0 a1).f2) x41_2).f6.f1))) else (subst_one.l0 k2 l0 l2 x3_2 a4 a5 ((rd_T46 l0 a1).f2) (((rd_T46 l0 a1).f2).length : Int) (wrap64 (x41_2 + 1)) ((rd_T46 l0 a1).f0) ((rd_T46 l0 a1).f1) ((rd_T46 l0 a1).f2))) = some (r1, r2, r3) := H
           have A24 := Aside0.mk A240
           clear A240
           by_cases c25 : t250 = true
           ·subst c25
            have H1 : (if ((rd_T46 l0 a1).f0) = 1 then (subst_one.j2 k2 l0 l2 x3_2 a4 a5 t249 ((rd_T46 l0 a1).f0) (((rd_T46 l0 a1).f0) == 1) ((rd_T43 ((rd_T46 l0 a1).f2) x41_2).f0) ((rd_T43 ((rd_T46 l0 a1).f2) x41_2).f1) ((rd_T43 ((rd_T46 l0 a1).f2) x41_2).f2) ((rd_T43 ((rd_T46 l0 a1).f2) x41_2).f3) ((rd_T43 ((rd_T46 l0 a1).f2) x41_2).f4.f0) ((rd_T43 ((rd_T46 l0 a1).f2) x41_2).f4.f1) ((rd_T43 ((rd_T46 l0 a1).f2) x41_2).f5.f0) ((rd_T43 ((rd_T46 l0 a1).f2) x41_2).f5.f1) ((rd_T43 ((rd_T46 l0 a1).f2) x41_2).f6.f0) ((rd_T43 ((rd_T46 l0 a1).f2) x41_2).f6.f1)) else (subst_one.j2 k2 l0 l2 x3_2 a4 a5 t249 ((rd_T46 l0 a1).f0) (((rd_T46 l0 a1).f0) == 2) ((rd_T43 ((rd_T46 l0 a1).f2) x41_2).f0) ((rd_T43 ((rd_T46 l0 a1).f2) x41_2).f1) ((rd_T43 ((rd_T46 l0 a1).f2) x41_2).f2) ((rd_T43 ((rd_T46 l0 a1).f2) x41_2).f3) ((rd_T43 ((rd_T46 l0 a1).f2) x41_2).f4.f0) ((rd_T43 ((rd_T46 l0 a1).f2) x41_2).f4.f1) ((rd_T43 ((rd_T46 l0 a1).f2) x41_2).f5.f0) ((rd_T43 ((rd_T46 l0 a1).f2) x41_2).f5.f1) ((rd_T43 ((rd_T46 l0 a1).f2) x41_2).f6.f0) ((rd_T43 ((rd_T46 l0 a1).f2) x41_2).f6.f1))) = some (r1, r2, r3) := by rw [if_pos rfl] at H; exact H
            clear H
            have H := H1
            clear H1
            have HC26 := Aside0.mk H
            clear H
            have p247 : 0 ≤ (x41_2 : Int) := of_decide_eq_true (by first | (with_reducible assumption) | assumption)
            have q247 : x41_2 < (((rd_T46 l0 a1).f2).length : Int) := of_decide_eq_true (by first | (with_reducible assumption) | assumption)
            obtain ⟨ad247, A247_0, c247_0, A247_1, c247_1, e247, hx247_0, hx247_1, hx247_2, hx247_3, hx247_4, hx247_5, hx247_6, hx247_7, hx247_8, hx247_9, hl247_0, hi247_0, hl247_1, hi247_1⟩ := at_T43 HR243_2.out x41_2 p247 q247
            cases e247
            replace hx247_0 := (HB.out.cell (World.block_lt_of_cell? w _ hx247_0)).trans hx247_0
            replace hx247_1 := (HB.out.cell (World.block_lt_of_cell? w _ hx247_1)).trans hx247_1
            replace hx247_2 := (HB.out.cell (World.block_lt_of_cell? w _ hx247_2)).trans hx247_2
            replace hx247_3 := (HB.out.cell (World.block_lt_of_cell? w _ hx247_3)).trans hx247_3
            replace hx247_4 := (HB.out.cell (World.block_lt_of_cell? w _ hx247_4)).trans hx247_4
            replace hx247_5 := (HB.out.cell (World.block_lt_of_cell? w _ hx247_5)).trans hx247_5
            replace hx247_6 := (HB.out.cell (World.block_lt_of_cell? w _ hx247_6)).trans hx247_6
            replace hx247_7 := (HB.out.cell (World.block_lt_of_cell? w _ hx247_7)).trans hx247_7
            replace hx247_8 := (HB.out.cell (World.block_lt_of_cell? w _ hx247_8)).trans hx247_8
            replace hx247_9 := (HB.out.cell (World.block_lt_of_cell? w _ hx247_9)).trans hx247_9
            have HR247_0 := Aside0.mk hi247_0
            have HC247_0 := Aside0.mk hl247_0
            clear hi247_0 hl247_0
            have HR247_1 := Aside0.mk hi247_1
            have HC247_1 := Aside0.mk hl247_1
            clear hi247_1 hl247_1
            replace p247 := eq_true p247
            replace q247 := eq_true q247
            go_upto_if 60 with (first | ((with_reducible refine gate_dst (N := 17) rfl ?_); refine box_event ?hg (N := 17) ?hd (cs := #[.slice none 0 0, .slice none 0 0, .int .i64 0, .int .i64 0, .int .i64 0, .int .i64 0, .int .i64 0, .int .i64 0, .int .i64 0, .int .i64 0]) (t := 43) ?hr ?_; (case hd => rfl); (case hg => rfl); (case hr => first | (go_simp; done) | (go_simp; rfl)); intro gb248 hg w27 hbox hb; have n0_ := Aside0.mk (Kd.V_below (Kd.V_elderB (by (with_reducible repeat (first | apply Kd.V_alloc | apply Kd.V_drewN | apply Kd.V_drew)); exact HO_3.out) gb248 (Nat.le_of_eq hg.symm)) hb); have n1_ := Aside0.mk (blk_below (g := gb244) (o := .cells #[.int .i64 ((rd_T46 l0 a1).f0), .bool ((rd_T46 l0 a1).f1), .slice (some ad247) ((rd_T46 l0 a1).f2).length c243_2] 46 (0, 0)) (by (with_reducible repeat (first | refine blk_drewN ?_ _ | refine blk_drew ?_ | refine blk_alloc ?_ _)); exact BK244.out) hb); have n2_ := Aside0.mk (below_step (by repeat (first | (with_reducible first | exact HB.out | apply below_alloc | apply pw_below_drewN | apply below_drew1 | refine below_set ?_ GE244.out) | exact HB.out)) hb); have n3_ := Aside0.mk (hbox); have n4_ := Aside0.mk ((by rw [hg]; exact (below_size (by repeat (first | (with_reducible first | exact HB.out | apply below_alloc | apply pw_below_drewN | apply below_drew1 | refine below_set ?_ GE244.out) | exact HB.out))) : w.heap.size ≤ gb248)); have n5_ := Aside0.mk ((by rw [hg]; exact (below_size (by repeat (first | (with_reducible first | exact HB.out | apply below_alloc | apply pw_below_drewN | apply below_drew1 | refine below_set ?_ GE244.out) | exact HB.out))) : w.heap.size ≤ gb248)); have n6_ := Aside0.mk ((by rw [hg]; exact Nat.ne_of_lt (blk_lt (g := gb244) (o := .cells #[.int .i64 ((rd_T46 l0 a1).f0), .bool ((rd_T46 l0 a1).f1), .slice (some ad247) ((rd_T46 l0 a1).f2).length c243_2] 46 (0, 0)) (by (with_reducible repeat (first | refine blk_drewN ?_ _ | refine blk_drew ?_ | refine blk_alloc ?_ _)); exact BK244.out)) : gb244 ≠ gb248)); have n7_ := Aside0.mk ((by rw [hg]; exact Nat.ne_of_gt (blk_lt (g := gb244) (o := .cells #[.int .i64 ((rd_T46 l0 a1).f0), .bool ((rd_T46 l0 a1).f1), .slice (some ad247) ((rd_T46 l0 a1).f2).length c243_2] 46 (0, 0)) (by (with_reducible repeat (first | refine blk_drewN ?_ _ | refine blk_drew ?_ | refine blk_alloc ?_ _)); exact BK244.out)) : gb248 ≠ gb244)); clear HO_3; clear BK244; clear HB; have HO_3 := n0_; have BK244 := n1_; have HB := n2_; have BK248 := n3_; have GW248 := n4_; have GE248 := n5_; have NB244_248 := n6_; have NB248_244 := n7_; clear n0_ n1_ n2_ n3_ n4_ n5_ n6_ n7_; clear hb hbox hg; have hnb28 := NB248_244.out; have hnc28 := NB244_248.out; have hcz29_0 : w27.cell? ⟨gb248, 0, none⟩ = some (.slice none 0 0) := (blk_cell BK248.out 0).trans rfl; have hcz29_1 : w27.cell? ⟨gb248, 1, none⟩ = some (.slice none 0 0) := (blk_cell BK248.out 1).trans rfl; have hcz29_2 : w27.cell? ⟨gb248, 2, none⟩ = some (.int .i64 0) := (blk_cell BK248.out 2).trans rfl; have hcz29_3 : w27.cell? ⟨gb248, 3, none⟩ = some (.int .i64 0) := (blk_cell BK248.out 3).trans rfl; have hcz29_4 : w27.cell? ⟨gb248, 4, none⟩ = some (.int .i64 0) := (blk_cell BK248.out 4).trans rfl; have hcz29_5 : w27.cell? ⟨gb248, 5, none⟩ = some (.int .i64 0) := (blk_cell BK248.out 5).trans rfl; have hcz29_6 : w27.cell? ⟨gb248, 6, none⟩ = some (.int .i64 0) := (blk_cell BK248.out 6).trans rfl; have hcz29_7 : w27.cell? ⟨gb248, 7, none⟩ = some (.int .i64 0) := (blk_cell BK248.out 7).trans rfl; have hcz29_8 : w27.cell? ⟨gb248, 8, none⟩ = some (.int .i64 0) := (blk_cell BK248.out 8).trans rfl; have hcz29_9 : w27.cell? ⟨gb248, 9, none⟩ = some (.int .i64 0) := (blk_cell BK248.out 9).trans rfl; have hfz29_0 := blk_frozen BK248.out 0; have hfz29_1 := blk_frozen BK248.out 1; have hfz29_2 := blk_frozen BK248.out 2; have hfz29_3 := blk_frozen BK248.out 3; have hfz29_4 := blk_frozen BK248.out 4; have hfz29_5 := blk_frozen BK248.out 5; have hfz29_6 := blk_frozen BK248.out 6; have hfz29_7 := blk_frozen BK248.out 7; have hfz29_8 := blk_frozen BK248.out 8; have hfz29_9 := blk_frozen BK248.out 9; have hcz30_0 : w27.cell? ⟨gb244, 0, none⟩ = some (.int .i64 ((rd_T46 l0 a1).f0)) := (blk_cell BK244.out 0).trans rfl; have hcz30_1 : w27.cell? ⟨gb244, 1, none⟩ = some (.bool ((rd_T46 l0 a1).f1)) := (blk_cell BK244.out 1).trans rfl; have hcz30_2 : w27.cell? ⟨gb244, 2, none⟩ = some (.slice (some ad247) ((rd_T46 l0 a1).f2).length c243_2) := (blk_cell BK244.out 2).trans rfl; have hfz30_0 := blk_frozen BK244.out 0; have hfz30_1 := blk_frozen BK244.out 1; have hfz30_2 := blk_frozen BK244.out 2; obtain ⟨Ao31, co31, eo31⟩ := Kd.V_slice HO_3.out; subst eo31) | ((with_reducible refine gate_callee (f := 22) rfl ?_); refine goesL_ (some 53) rfl rfl Try.func22 (by kernel_rfl) rfl #[.slice Ao31 x3_2.length co31, .slice A2 l2.length c2, .int .i64 a4, .slice A247_0 ((rd_T43 ((rd_T46 l0 a1).f2) x41_2).f0).length c247_0, .bool ((rd_T46 l0 a1).f1)] rfl (by (try simp only [List.map_toArray, List.map_cons, List.map_nil]); first | done | rfl | (simp only [List.length_drop, List.length_take]; rfl)) ?_; (with_reducible refine (classes_Meet.calls k2 _ _ x3_2 _ _ l2 a4 _ _ ((rd_T43 ((rd_T46 l0 a1).f2) x41_2).f0) ((rd_T46 l0 a1).f1) t249 true _ ?side1 ?side2 ?side3 ?side4 ?side5 ?side6 A24.out).mono ?_); (case side1 => refine (Kd.V_reads' (e := 3) (base := w.heap.size) (ok := fun k_ => ((((P3_ k_ ∨ w.heap.size ≤ k_)) ∧ k_ ≠ gb244) ∧ k_ ≠ gb248)) (n := x3_2.length) (c := co31) ?_).2.2; exact (by (with_reducible repeat (first | apply Kd.V_alloc | apply Kd.V_drewN | apply Kd.V_drew)); exact (Kd.V_mono (Kd.V_far (p := ⟨gb248, 9, none⟩) (Kd.V_far (p := ⟨gb248, 8, none⟩) (Kd.V_far (p := ⟨gb248, 7, none⟩) (Kd.V_far (p := ⟨gb248, 6, none⟩) (Kd.V_far (p := ⟨gb248, 5, none⟩) (Kd.V_far (p := ⟨gb248, 4, none⟩) (Kd.V_far (p := ⟨gb248, 3, none⟩) (Kd.V_far (p := ⟨gb248, 2, none⟩) (Kd.V_far (p := ⟨gb248, 1, none⟩) (Kd.V_far (p := ⟨gb248, 0, none⟩) (Kd.V_mono HO_3.out (fun k_ hk => (⟨hk, hk.2⟩ : _ ∧ k_ ≠ gb248))) (fun _ hk => hk.2) (.slice A247_0 ((rd_T43 ((rd_T46 l0 a1).f2) x41_2).f0).length c247_0)) (fun _ hk => hk.2) (.slice A247_1 ((rd_T43 ((rd_T46 l0 a1).f2) x41_2).f1).length c247_1)) (fun _ hk => hk.2) (.int .i64 ((rd_T43 ((rd_T46 l0 a1).f2) x41_2).f2))) (fun _ hk => hk.2) (.int .i64 ((rd_T43 ((rd_T46 l0 a1).f2) x41_2).f3))) (fun _ hk => hk.2) (.int .i64 ((rd_T43 ((rd_T46 l0 a1).f2) x41_2).f4.f0))) (fun _ hk => hk.2) (.int .i64 ((rd_T43 ((rd_T46 l0 a1).f2) x41_2).f4.f1))) (fun _ hk => hk.2) (.int .i64 ((rd_T43 ((rd_T46 l0 a1).f2) x41_2).f5.f0))) (fun _ hk => hk.2) (.int .i64 ((rd_T43 ((rd_T46 l0 a1).f2) x41_2).f5.f1))) (fun _ hk => hk.2) (.int .i64 ((rd_T43 ((rd_T46 l0 a1).f2) x41_2).f6.f0))) (fun _ hk => hk.2) (.int .i64 ((rd_T43 ((rd_T46 l0 a1).f2) x41_2).f6.f1))) (fun _ h_ => h_.1)))); (case side2 => exact (Kd.V_reads' HO_3.out).2.1); (case side3 => exact Kd.C_below HR2.out (by repeat (first | (with_reducible first | exact HB.out | apply below_alloc | apply pw_below_drewN | apply below_drew1 | refine below_set ?_ GE244.out | refine below_set ?_ GE248.out) | exact HB.out))); (case side4 => exact HC2.out); (case side5 => exact Kd.C_below HR247_0.out (by repeat (first | (with_reducible first | exact HB.out | apply below_alloc | apply pw_below_drewN | apply below_drew1 | refine below_set ?_ GE244.out | refine below_set ?_ GE248.out) | exact HB.out))); (case side6 => exact HC247_0.out); rintro e w32 ⟨v251, rfl, ho0, hb⟩; refine ⟨_, rfl, ?_⟩; have n0_ := Aside0.mk (Kd.V_elder' (by (with_reducible repeat (first | apply Kd.V_alloc | apply Kd.V_drewN | apply Kd.V_drew)); exact (Kd.V_mono (Kd.V_far (p := ⟨gb248, 9, none⟩) (Kd.V_far (p := ⟨gb248, 8, none⟩) (Kd.V_far (p := ⟨gb248, 7, none⟩) (Kd.V_far (p := ⟨gb248, 6, none⟩) (Kd.V_far (p := ⟨gb248, 5, none⟩) (Kd.V_far (p := ⟨gb248, 4, none⟩) (Kd.V_far (p := ⟨gb248, 3, none⟩) (Kd.V_far (p := ⟨gb248, 2, none⟩) (Kd.V_far (p := ⟨gb248, 1, none⟩) (Kd.V_far (p := ⟨gb248, 0, none⟩) (Kd.V_mono HO_3.out (fun k_ hk => (⟨hk, hk.2⟩ : _ ∧ k_ ≠ gb248))) (fun _ hk => hk.2) (.slice A247_0 ((rd_T43 ((rd_T46 l0 a1).f2) x41_2).f0).length c247_0)) (fun _ hk => hk.2) (.slice A247_1 ((rd_T43 ((rd_T46 l0 a1).f2) x41_2).f1).length c247_1)) (fun _ hk => hk.2) (.int .i64 ((rd_T43 ((rd_T46 l0 a1).f2) x41_2).f2))) (fun _ hk => hk.2) (.int .i64 ((rd_T43 ((rd_T46 l0 a1).f2) x41_2).f3))) (fun _ hk => hk.2) (.int .i64 ((rd_T43 ((rd_T46 l0 a1).f2) x41_2).f4.f0))) (fun _ hk => hk.2) (.int .i64 ((rd_T43 ((rd_T46 l0 a1).f2) x41_2).f4.f1))) (fun _ hk => hk.2) (.int .i64 ((rd_T43 ((rd_T46 l0 a1).f2) x41_2).f5.f0))) (fun _ hk => hk.2) (.int .i64 ((rd_T43 ((rd_T46 l0 a1).f2) x41_2).f5.f1))) (fun _ hk => hk.2) (.int .i64 ((rd_T43 ((rd_T46 l0 a1).f2) x41_2).f6.f0))) (fun _ hk => hk.2) (.int .i64 ((rd_T43 ((rd_T46 l0 a1).f2) x41_2).f6.f1))) (fun _ h_ => h_.1))) (Kd.R_base ho0) hb); have n1_ := Aside0.mk (Kd.R_lower (Kd.R_newM (M := fun k_ => (w.heap.size ≤ k_)) ho0 (below_size (by repeat (first | (with_reducible first | exact HB.out | apply below_alloc | apply pw_below_drewN | apply below_drew1 | refine below_set ?_ GE244.out | refine below_set ?_ GE248.out) | exact HB.out))) (fun k_ h_ => h_)) (below_size (by repeat (first | (with_reducible first | exact HB.out | apply below_alloc | apply pw_below_drewN | apply below_drew1 | refine below_set ?_ GE244.out | refine below_set ?_ GE248.out) | exact HB.out)))); have n2_ := Aside0.mk (blk_below (g := gb244) (o := .cells #[.int .i64 ((rd_T46 l0 a1).f0), .bool ((rd_T46 l0 a1).f1), .slice (some ad247) ((rd_T46 l0 a1).f2).length c243_2] 46 (0, 0)) (by (with_reducible repeat (first | refine blk_drewN ?_ _ | refine blk_drew ?_ | refine blk_alloc ?_ _)); refine blk_far ?_ NB244_248.out _; (with_reducible repeat (first | refine blk_drewN ?_ _ | refine blk_drew ?_ | refine blk_alloc ?_ _)); refine blk_far ?_ NB244_248.out _; (with_reducible repeat (first | refine blk_drewN ?_ _ | refine blk_drew ?_ | refine blk_alloc ?_ _)); refine blk_far ?_ NB244_248.out _; (with_reducible repeat (first | refine blk_drewN ?_ _ | refine blk_drew ?_ | refine blk_alloc ?_ _)); refine blk_far ?_ NB244_248.out _; (with_reducible repeat (first | refine blk_drewN ?_ _ | refine blk_drew ?_ | refine blk_alloc ?_ _)); refine blk_far ?_ NB244_248.out _; (with_reducible repeat (first | refine blk_drewN ?_ _ | refine blk_drew ?_ | refine blk_alloc ?_ _)); refine blk_far ?_ NB244_248.out _; (with_reducible repeat (first | refine blk_drewN ?_ _ | refine blk_drew ?_ | refine blk_alloc ?_ _)); refine blk_far ?_ NB244_248.out _; (with_reducible repeat (first | refine blk_drewN ?_ _ | refine blk_drew ?_ | refine blk_alloc ?_ _)); refine blk_far ?_ NB244_248.out _; (with_reducible repeat (first | refine blk_drewN ?_ _ | refine blk_drew ?_ | refine blk_alloc ?_ _)); refine blk_far ?_ NB244_248.out _; (with_reducible repeat (first | refine blk_drewN ?_ _ | refine blk_drew ?_ | refine blk_alloc ?_ _)); refine blk_far ?_ NB244_248.out _; (with_reducible repeat (first | refine blk_drewN ?_ _ | refine blk_drew ?_ | refine blk_alloc ?_ _)); exact BK244.out) hb); have n3_ := Aside0.mk (blk_below (g := gb248) (o := .cells #[.slice A247_0 ((rd_T43 ((rd_T46 l0 a1).f2) x41_2).f0).length c247_0, .slice A247_1 ((rd_T43 ((rd_T46 l0 a1).f2) x41_2).f1).length c247_1, .int .i64 ((rd_T43 ((rd_T46 l0 a1).f2) x41_2).f2), .int .i64 ((rd_T43 ((rd_T46 l0 a1).f2) x41_2).f3), .int .i64 ((rd_T43 ((rd_T46 l0 a1).f2) x41_2).f4.f0), .int .i64 ((rd_T43 ((rd_T46 l0 a1).f2) x41_2).f4.f1), .int .i64 ((rd_T43 ((rd_T46 l0 a1).f2) x41_2).f5.f0), .int .i64 ((rd_T43 ((rd_T46 l0 a1).f2) x41_2).f5.f1), .int .i64 ((rd_T43 ((rd_T46 l0 a1).f2) x41_2).f6.f0), .int .i64 ((rd_T43 ((rd_T46 l0 a1).f2) x41_2).f6.f1)] 43 (0, 0)) (by (with_reducible repeat (first | refine blk_drewN ?_ _ | refine blk_drew ?_ | refine blk_alloc ?_ _)); refine blk_put (cs := #[.slice A247_0 ((rd_T43 ((rd_T46 l0 a1).f2) x41_2).f0).length c247_0, .slice A247_1 ((rd_T43 ((rd_T46 l0 a1).f2) x41_2).f1).length c247_1, .int .i64 ((rd_T43 ((rd_T46 l0 a1).f2) x41_2).f2), .int .i64 ((rd_T43 ((rd_T46 l0 a1).f2) x41_2).f3), .int .i64 ((rd_T43 ((rd_T46 l0 a1).f2) x41_2).f4.f0), .int .i64 ((rd_T43 ((rd_T46 l0 a1).f2) x41_2).f4.f1), .int .i64 ((rd_T43 ((rd_T46 l0 a1).f2) x41_2).f5.f0), .int .i64 ((rd_T43 ((rd_T46 l0 a1).f2) x41_2).f5.f1), .int .i64 ((rd_T43 ((rd_T46 l0 a1).f2) x41_2).f6.f0), .int .i64 0]) ?_ 9 _ rfl; (with_reducible repeat (first | refine blk_drewN ?_ _ | refine blk_drew ?_ | refine blk_alloc ?_ _)); refine blk_put (cs := #[.slice A247_0 ((rd_T43 ((rd_T46 l0 a1).f2) x41_2).f0).length c247_0, .slice A247_1 ((rd_T43 ((rd_T46 l0 a1).f2) x41_2).f1).length c247_1, .int .i64 ((rd_T43 ((rd_T46 l0 a1).f2) x41_2).f2), .int .i64 ((rd_T43 ((rd_T46 l0 a1).f2) x41_2).f3), .int .i64 ((rd_T43 ((rd_T46 l0 a1).f2) x41_2).f4.f0), .int .i64 ((rd_T43 ((rd_T46 l0 a1).f2) x41_2).f4.f1), .int .i64 ((rd_T43 ((rd_T46 l0 a1).f2) x41_2).f5.f0), .int .i64 ((rd_T43 ((rd_T46 l0 a1).f2) x41_2).f5.f1), .int .i64 0, .int .i64 0]) ?_ 8 _ rfl; (with_reducible repeat (first | refine blk_drewN ?_ _ | refine blk_drew ?_ | refine blk_alloc ?_ _)); refine blk_put (cs := #[.slice A247_0 ((rd_T43 ((rd_T46 l0 a1).f2) x41_2).f0).length c247_0, .slice A247_1 ((rd_T43 ((rd_T46 l0 a1).f2) x41_2).f1).length c247_1, .int .i64 ((rd_T43 ((rd_T46 l0 a1).f2) x41_2).f2), .int .i64 ((rd_T43 ((rd_T46 l0 a1).f2) x41_2).f3), .int .i64 ((rd_T43 ((rd_T46 l0 a1).f2) x41_2).f4.f0), .int .i64 ((rd_T43 ((rd_T46 l0 a1).f2) x41_2).f4.f1), .int .i64 ((rd_T43 ((rd_T46 l0 a1).f2) x41_2).f5.f0), .int .i64 0, .int .i64 0, .int .i64 0]) ?_ 7 _ rfl; (with_reducible repeat (first | refine blk_drewN ?_ _ | refine blk_drew ?_ | refine blk_alloc ?_ _)); refine blk_put (cs := #[.slice A247_0 ((rd_T43 ((rd_T46 l0 a1).f2) x41_2).f0).length c247_0, .slice A247_1 ((rd_T43 ((rd_T46 l0 a1).f2) x41_2).f1).length c247_1, .int .i64 ((rd_T43 ((rd_T46 l0 a1).f2) x41_2).f2), .int .i64 ((rd_T43 ((rd_T46 l0 a1).f2) x41_2).f3), .int .i64 ((rd_T43 ((rd_T46 l0 a1).f2) x41_2).f4.f0), .int .i64 ((rd_T43 ((rd_T46 l0 a1).f2) x41_2).f4.f1), .int .i64 0, .int .i64 0, .int .i64 0, .int .i64 0]) ?_ 6 _ rfl; (with_reducible repeat (first | refine blk_drewN ?_ _ | refine blk_drew ?_ | refine blk_alloc ?_ _)); refine blk_put (cs := #[.slice A247_0 ((rd_T43 ((rd_T46 l0 a1).f2) x41_2).f0).length c247_0, .slice A247_1 ((rd_T43 ((rd_T46 l0 a1).f2) x41_2).f1).length c247_1, .int .i64 ((rd_T43 ((rd_T46 l0 a1).f2) x41_2).f2), .int .i64 ((rd_T43 ((rd_T46 l0 a1).f2) x41_2).f3), .int .i64 ((rd_T43 ((rd_T46 l0 a1).f2) x41_2).f4.f0), .int .i64 0, .int .i64 0, .int .i64 0, .int .i64 0, .int .i64 0]) ?_ 5 _ rfl; (with_reducible repeat (first | refine blk_drewN ?_ _ | refine blk_drew ?_ | refine blk_alloc ?_ _)); refine blk_put (cs := #[.slice A247_0 ((rd_T43 ((rd_T46 l0 a1).f2) x41_2).f0).length c247_0, .slice A247_1 ((rd_T43 ((rd_T46 l0 a1).f2) x41_2).f1).length c247_1, .int .i64 ((rd_T43 ((rd_T46 l0 a1).f2) x41_2).f2), .int .i64 ((rd_T43 ((rd_T46 l0 a1).f2) x41_2).f3), .int .i64 0, .int .i64 0, .int .i64 0, .int .i64 0, .int .i64 0, .int .i64 0]) ?_ 4 _ rfl; (with_reducible repeat (first | refine blk_drewN ?_ _ | refine blk_drew ?_ | refine blk_alloc ?_ _)); refine blk_put (cs := #[.slice A247_0 ((rd_T43 ((rd_T46 l0 a1).f2) x41_2).f0).length c247_0, .slice A247_1 ((rd_T43 ((rd_T46 l0 a1).f2) x41_2).f1).length c247_1, .int .i64 ((rd_T43 ((rd_T46 l0 a1).f2) x41_2).f2), .int .i64 0, .int .i64 0, .int .i64 0, .int .i64 0, .int .i64 0, .int .i64 0, .int .i64 0]) ?_ 3 _ rfl; (with_reducible repeat (first | refine blk_drewN ?_ _ | refine blk_drew ?_ | refine blk_alloc ?_ _)); refine blk_put (cs := #[.slice A247_0 ((rd_T43 ((rd_T46 l0 a1).f2) x41_2).f0).length c247_0, .slice A247_1 ((rd_T43 ((rd_T46 l0 a1).f2) x41_2).f1).length c247_1, .int .i64 0, .int .i64 0, .int .i64 0, .int .i64 0, .int .i64 0, .int .i64 0, .int .i64 0, .int .i64 0]) ?_ 2 _ rfl; (with_reducible repeat (first | refine blk_drewN ?_ _ | refine blk_drew ?_ | refine blk_alloc ?_ _)); refine blk_put (cs := #[.slice A247_0 ((rd_T43 ((rd_T46 l0 a1).f2) x41_2).f0).length c247_0, .slice none 0 0, .int .i64 0, .int .i64 0, .int .i64 0, .int .i64 0, .int .i64 0, .int .i64 0, .int .i64 0, .int .i64 0]) ?_ 1 _ rfl; (with_reducible repeat (first | refine blk_drewN ?_ _ | refine blk_drew ?_ | refine blk_alloc ?_ _)); refine blk_put (cs := #[.slice none 0 0, .slice none 0 0, .int .i64 0, .int .i64 0, .int .i64 0, .int .i64 0, .int .i64 0, .int .i64 0, .int .i64 0, .int .i64 0]) ?_ 0 _ rfl; (with_reducible repeat (first | refine blk_drewN ?_ _ | refine blk_drew ?_ | refine blk_alloc ?_ _)); exact BK248.out) hb); have n4_ := Aside0.mk (below_step (by repeat (first | (with_reducible first | exact HB.out | apply below_alloc | apply pw_below_drewN | apply below_drew1 | refine below_set ?_ GE244.out | refine below_set ?_ GE248.out) | exact HB.out)) hb); clear HO_3; clear BK244; clear BK248; clear HB; have HO_3 := n0_; have HO252 := n1_; have BK244 := n2_; have BK248 := n3_; have HB := n4_; clear n0_ n1_ n2_ n3_ n4_; (try clear hb); (try clear hb2); (try clear hk); (try clear hi); (try clear ho0); have hcz33_0 : w32.cell? ⟨gb244, 0, none⟩ = some (.int .i64 ((rd_T46 l0 a1).f0)) := (blk_cell BK244.out 0).trans rfl; have hcz33_1 : w32.cell? ⟨gb244, 1, none⟩ = some (.bool ((rd_T46 l0 a1).f1)) := (blk_cell BK244.out 1).trans rfl; have hcz33_2 : w32.cell? ⟨gb244, 2, none⟩ = some (.slice (some ad247) ((rd_T46 l0 a1).f2).length c243_2) := (blk_cell BK244.out 2).trans rfl; have hfz33_0 := blk_frozen BK244.out 0; have hfz33_1 := blk_frozen BK244.out 1; have hfz33_2 := blk_frozen BK244.out 2))
            (try simp only [Act.put, List.setIfInBounds_toArray, List.set_cons_zero, List.set_cons_succ])
            go_cut [60] (fun v60 wc => ∃ (kq : Nat) (x60_25 : Bool), v60 = .bool x60_25 ∧ Aside0 (subst_one.j2 kq l0 l2 x3_2 a4 a5 t249 ((rd_T46 l0 a1).f0) x60_25 ((rd_T43 ((rd_T46 l0 a1).f2) x41_2).f0) ((rd_T43 ((rd_T46 l0 a1).f2) x41_2).f1) ((rd_T43 ((rd_T46 l0 a1).f2) x41_2).f2) ((rd_T43 ((rd_T46 l0 a1).f2) x41_2).f3) ((rd_T43 ((rd_T46 l0 a1).f2) x41_2).f4.f0) ((rd_T43 ((rd_T46 l0 a1).f2) x41_2).f4.f1) ((rd_T43 ((rd_T46 l0 a1).f2) x41_2).f5.f0) ((rd_T43 ((rd_T46 l0 a1).f2) x41_2).f5.f1) ((rd_T43 ((rd_T46 l0 a1).f2) x41_2).f6.f0) ((rd_T43 ((rd_T46 l0 a1).f2) x41_2).f6.f1) = some (r1, r2, r3)) ∧ Aside0 (kq ≤ k2) ∧ Aside0 (Kd.V (Kd.int .i64) 3 wc w.heap.size (fun k_ => (P3_ k_ ∨ w.heap.size ≤ k_) ∧ some k_ ≠ (v251 : Value).ownBlock ∧ k_ ≠ gb244 ∧ k_ ≠ gb248) (.slice Ao31 x3_2.length co31) x3_2) ∧ Aside0 (Kd.R (Kd.int .i64) 3 wc w.heap.size (fun k_ => (w.heap.size ≤ k_)) v251 t249) ∧ Aside0 (wc.heap[gb244]? = some (.cells #[.int .i64 ((rd_T46 l0 a1).f0), .bool ((rd_T46 l0 a1).f1), (.slice (some ad247) ((rd_T46 l0 a1).f2).length c243_2)] 46 (0, 0))) ∧ Aside0 (wc.heap[gb248]? = some (.cells #[(.slice A247_0 ((rd_T43 ((rd_T46 l0 a1).f2) x41_2).f0).length c247_0), (.slice A247_1 ((rd_T43 ((rd_T46 l0 a1).f2) x41_2).f1).length c247_1), .int .i64 ((rd_T43 ((rd_T46 l0 a1).f2) x41_2).f2), .int .i64 ((rd_T43 ((rd_T46 l0 a1).f2) x41_2).f3), .int .i64 ((rd_T43 ((rd_T46 l0 a1).f2) x41_2).f4.f0), .int .i64 ((rd_T43 ((rd_T46 l0 a1).f2) x41_2).f4.f1), .int .i64 ((rd_T43 ((rd_T46 l0 a1).f2) x41_2).f5.f0), .int .i64 ((rd_T43 ((rd_T46 l0 a1).f2) x41_2).f5.f1), .int .i64 ((rd_T43 ((rd_T46 l0 a1).f2) x41_2).f6.f0), .int .i64 ((rd_T43 ((rd_T46 l0 a1).f2) x41_2).f6.f1)] 43 (0, 0))) ∧ Aside0 (Below w.heap.size w wc))
            case first =>
             have H := HC26.out
             clear HC26
             by_cases c34 : ((rd_T46 l0 a1).f0) = 1
             ·rw [if_pos c34] at H
              have c34b0 : (((rd_T46 l0 a1).f0) == 1) = true := beq_iff_eq.mpr c34
              have c34b1 : (((rd_T46 l0 a1).f0) != 1) = false := bne_eq_false_iff_eq.mpr c34
              clear c34
              (first | rw [c34b0] | (simp only [i64_w, i32_w]; rw [c34b0]) | skip)
              have H' := Aside0.mk H
              clear H
              go_wp2
              go_meet
              case rel => (try rw [← Nbq12.out]); exact ⟨_, ((((rd_T46 l0 a1).f0) == 1)), (by first | rfl | (simp; done) | (simp [*]; done)), H', ⟨by have := HJ8.out; have := HK2.out; first | omega | exact Nat.le_refl _⟩, ⟨by (with_reducible repeat (first | apply Kd.V_alloc | apply Kd.V_drewN | apply Kd.V_drew)); exact Kd.V_mono HO_3.out (fun _ hk => ⟨hk.1.1.1, ⟨hk.2, ⟨hk.1.1.2, hk.1.2⟩⟩⟩)⟩, ⟨by (with_reducible repeat (first | apply Kd.R_alloc | apply Kd.R_drewN | apply Kd.R_drew)); exact Kd.R_mono HO252.out (fun _ hk => hk.1)⟩, ⟨by (with_reducible repeat (first | refine blk_drewN ?_ _ | refine blk_drew ?_ | refine blk_alloc ?_ _)); exact BK244.out⟩, ⟨by (with_reducible repeat (first | refine blk_drewN ?_ _ | refine blk_drew ?_ | refine blk_alloc ?_ _)); exact BK248.out⟩, ⟨by repeat (first | (with_reducible first | exact HB.out | apply below_alloc | apply pw_below_drewN | apply below_drew1 | refine below_set ?_ GE244.out | refine below_set ?_ GE248.out) | exact HB.out)⟩⟩
             ·rw [if_neg c34] at H
              have c34b0 : (((rd_T46 l0 a1).f0) == 1) = false := beq_eq_false_iff_ne.mpr c34
              have c34b1 : (((rd_T46 l0 a1).f0) != 1) = true := bne_iff_ne.mpr c34
              (first | rw [c34b0] | (simp only [i64_w, i32_w]; rw [c34b0]) | skip)
              have H' := Aside0.mk H
              clear H
              go_wp2
              go_meet
              case rel => (try rw [← Nbq12.out]); exact ⟨_, ((((rd_T46 l0 a1).f0) == 2)), (by first | rfl | (simp; done) | (simp [*]; done)), H', ⟨by have := HJ8.out; have := HK2.out; first | omega | exact Nat.le_refl _⟩, ⟨by (with_reducible repeat (first | apply Kd.V_alloc | apply Kd.V_drewN | apply Kd.V_drew)); exact Kd.V_mono HO_3.out (fun _ hk => ⟨hk.1.1.1, ⟨hk.2, ⟨hk.1.1.2, hk.1.2⟩⟩⟩)⟩, ⟨by (with_reducible repeat (first | apply Kd.R_alloc | apply Kd.R_drewN | apply Kd.R_drew)); exact Kd.R_mono HO252.out (fun _ hk => hk.1)⟩, ⟨by (with_reducible repeat (first | refine blk_drewN ?_ _ | refine blk_drew ?_ | refine blk_alloc ?_ _)); exact BK244.out⟩, ⟨by (with_reducible repeat (first | refine blk_drewN ?_ _ | refine blk_drew ?_ | refine blk_alloc ?_ _)); exact BK248.out⟩, ⟨by repeat (first | (with_reducible first | exact HB.out | apply below_alloc | apply pw_below_drewN | apply below_drew1 | refine below_set ?_ GE244.out | refine below_set ?_ GE248.out) | exact HB.out)⟩⟩
            case rest =>
             clear HC26
             try clear c1
             try clear q1
             try clear c2
             try clear p2
             try clear q2
             try clear hx2
             try clear c3
             try clear p6
             try clear c7
             try clear c7b0
             try clear c8
             try clear c8b0
             try clear q12
             try clear c13
             try clear c14
             try clear c14b0
             try clear c15
             try clear c15b0
             try clear c19
             try clear c21
             try clear c21b0
             try clear c22
             try clear c22b0
             try clear c23
             try clear c23b0
             try clear c24
             try clear p24
             try clear q24
             try clear hx24
             try clear c25
             try clear c28
             try clear c34
             try clear c34b0
             try clear c34b1
             try clear hcz11_0
             try clear hcz11_1
             try clear hcz11_2
             try clear hcz17_0
             try clear hcz17_1
             try clear hcz17_2
             try clear hcz18_0
             try clear hcz18_1
             try clear hcz18_2
             try clear hcz20_0
             try clear hcz20_1
             try clear hcz20_2
             try clear hcz29_0
             try clear hcz29_1
             try clear hcz29_2
             try clear hcz29_3
             try clear hcz29_4
             try clear hcz29_5
             try clear hcz29_6
             try clear hcz29_7
             try clear hcz29_8
             try clear hcz29_9
             try clear hcz30_0
             try clear hcz30_1
             try clear hcz30_2
             try clear hcz33_0
             try clear hcz33_1
             try clear hcz33_2
             try clear hfz11_0
             try clear hfz11_1
             try clear hfz11_2
             try clear hfz17_0
             try clear hfz17_1
             try clear hfz17_2
             try clear hfz18_0
             try clear hfz18_1
             try clear hfz18_2
             try clear hfz20_0
             try clear hfz20_1
             try clear hfz20_2
             try clear hfz29_0
             try clear hfz29_1
             try clear hfz29_2
             try clear hfz29_3
             try clear hfz29_4
             try clear hfz29_5
             try clear hfz29_6
             try clear hfz29_7
             try clear hfz29_8
             try clear hfz29_9
             try clear hfz30_0
             try clear hfz30_1
             try clear hfz30_2
             try clear hfz33_0
             try clear hfz33_1
             try clear hfz33_2
             try clear hx243_0
             try clear hx243_1
             try clear hx243_2
             try clear hx245_0
             try clear hx247_0
             try clear hx247_1
             try clear hx247_2
             try clear hx247_3
             try clear hx247_4
             try clear hx247_5
             try clear hx247_6
             try clear hx247_7
             try clear hx247_8
             try clear hx247_9
             try clear p2
             try clear p243
             try clear p245
             try clear p247
             try clear q1
             try clear q12
             try clear q2
             try clear q243
             try clear q245
             try clear q247
             obtain ⟨kq, x60_25, rfl, HA, HJ25, HO_3, HO_18, BK244, BK248, HB⟩ := hcut
             cases kq with
             | zero => exact absurd HA.out (by simp [subst_one.j2])
             | succ kj25 =>
              have H := HA.out
              clear HA
              simp only [subst_one.j2] at H
              by_cases c35 : x60_25 = true
              ·subst c35
               have H1 : ((classes_Put.f x3_2 a4 (wrap64 (a4 + 1)) ((rd_T43 ((rd_T46 l0 a1).f2) x41_2).f1)).bind fun t253 => (some (t253, wrap64 (a4 + (((rd_T43 ((rd_T46 l0 a1).f2) x41_2).f1).length : Int)), true))) = some (r1, r2, r3) := by rw [if_pos rfl] at H; exact H
               clear H
               have H := H1
               clear H1
               replace H := Option.bind_eq_some_iff.mp H
               obtain ⟨t253, A360, H⟩ := H
               replace H : (some (t253, wrap64 (a4 + (((rd_T43 ((rd_T46 l0 a1).f2) x41_2).f1).length : Int)), true)) = some (r1, r2, r3) := H
               have A36 := Aside0.mk A360
               clear A360
               simp only [Option.some.injEq, Prod.mk.injEq] at H
               obtain ⟨rfl, rfl, rfl⟩ := H
               try go_wp2
               have n0_ := Aside0.mk (Kd.V_drew HO_3.out)
               have n1_ := Aside0.mk (Kd.R_drew HO_18.out)
               have n2_ := Aside0.mk (blk_drew BK244.out)
               have n3_ := Aside0.mk (blk_drew BK248.out)
               have n4_ := Aside0.mk (below_drew1 HB.out)
               clear HO_3
               clear HO_18
               clear BK244
               clear BK248
               clear HB
               have HO_3 := n0_
               have HO_18 := n1_
               have BK244 := n2_
               have BK248 := n3_
               have HB := n4_
               clear n0_ n1_ n2_ n3_ n4_
               refine start_ (n := 15) (S := fun w' => w'.cell? ⟨gb248, 0, none⟩ = some (.slice A247_0 ((rd_T43 ((rd_T46 l0 a1).f2) x41_2).f0).length c247_0) ∧ w'.cell? ⟨gb248, 1, none⟩ = some (.slice A247_1 ((rd_T43 ((rd_T46 l0 a1).f2) x41_2).f1).length c247_1) ∧ w'.cell? ⟨gb248, 2, none⟩ = some (.int .i64 ((rd_T43 ((rd_T46 l0 a1).f2) x41_2).f2)) ∧ w'.cell? ⟨gb248, 3, none⟩ = some (.int .i64 ((rd_T43 ((rd_T46 l0 a1).f2) x41_2).f3)) ∧ w'.cell? ⟨gb248, 4, none⟩ = some (.int .i64 ((rd_T43 ((rd_T46 l0 a1).f2) x41_2).f4.f0)) ∧ w'.cell? ⟨gb248, 5, none⟩ = some (.int .i64 ((rd_T43 ((rd_T46 l0 a1).f2) x41_2).f4.f1)) ∧ w'.cell? ⟨gb248, 6, none⟩ = some (.int .i64 ((rd_T43 ((rd_T46 l0 a1).f2) x41_2).f5.f0)) ∧ w'.cell? ⟨gb248, 7, none⟩ = some (.int .i64 ((rd_T43 ((rd_T46 l0 a1).f2) x41_2).f5.f1)) ∧ w'.cell? ⟨gb248, 8, none⟩ = some (.int .i64 ((rd_T43 ((rd_T46 l0 a1).f2) x41_2).f6.f0)) ∧ w'.cell? ⟨gb248, 9, none⟩ = some (.int .i64 ((rd_T43 ((rd_T46 l0 a1).f2) x41_2).f6.f1))) (ds := []) #[false, false, false, false, false, false, false, false, false, false, false, false, false, false, false] (by kernel_rfl) rfl rfl ⟨(blk_cell BK248.out 0).trans rfl, (blk_cell BK248.out 1).trans rfl, (blk_cell BK248.out 2).trans rfl, (blk_cell BK248.out 3).trans rfl, (blk_cell BK248.out 4).trans rfl, (blk_cell BK248.out 5).trans rfl, (blk_cell BK248.out 6).trans rfl, (blk_cell BK248.out 7).trans rfl, (blk_cell BK248.out 8).trans rfl, (blk_cell BK248.out 9).trans rfl⟩ (fun hHeld => ?_); refine with_tabW subst_one.tab12 subst_one.bits12 (fun HT_ HW_ => ?_)
               generalize wc.drew = w37 at HO_3 HO_18 BK244 BK248 HB hHeld ⊢
               refine pure_ (i := 0) (N := some 63) (v := ?_) (a' := ?_) #[true, false, false, false, false, false, false, false, false, false, false, false, false, false, false] rfl rfl (any_of HT_.out (by kernel_rfl)) (fun _ _ _ h => h) (Or.inl ⟨by rfl, ?_⟩) ?_ ?_
               rotate_left
               ·intro w'
                go_simp
                with_reducible rfl
               rotate_left
               ·simp only [Act.put, List.setIfInBounds_toArray, List.set_cons_zero, List.set_cons_succ, i64_w, i32_w]
                rfl
               refine pure_ (i := 1) (N := some 64) (v := ?_) (a' := ?_) #[true, true, false, false, false, false, false, false, false, false, false, false, false, false, false] rfl rfl (any_of HT_.out (by kernel_rfl)) (fun _ _ _ h => h) (Or.inl ⟨by rfl, ?_⟩) ?_ ?_
               rotate_left
               ·intro w'
                go_simp
                with_reducible rfl
               rotate_left
               ·simp only [Act.put, List.setIfInBounds_toArray, List.set_cons_zero, List.set_cons_succ, i64_w, i32_w]
                rfl
               refine pure_ (i := 2) (N := some 65) (v := ?_) (a' := ?_) #[true, true, true, false, false, false, false, false, false, false, false, false, false, false, false] rfl rfl (any_of HT_.out (by kernel_rfl)) (fun _ _ _ h => h) (Or.inl ⟨by rfl, ?_⟩) ?_ ?_
               rotate_left
               ·intro w'
                go_simp
                with_reducible rfl
               rotate_left
               ·simp only [Act.put, List.setIfInBounds_toArray, List.set_cons_zero, List.set_cons_succ, i64_w, i32_w]
                rfl
               refine pure_ (i := 3) (N := some 66) (v := ?_) (a' := ?_) #[true, true, true, true, false, false, false, false, false, false, false, false, false, false, false] rfl rfl (any_of HT_.out (by kernel_rfl)) (fun _ _ _ h => h) (Or.inl ⟨by rfl, ?_⟩) ?_ ?_
               rotate_left
               ·intro w'
                go_simp
                with_reducible rfl
               rotate_left
               ·simp only [Act.put, List.setIfInBounds_toArray, List.set_cons_zero, List.set_cons_succ, i64_w, i32_w]
                rfl
               refine pure_ (i := 4) (N := some 67) (v := ?_) (a' := ?_) #[true, true, true, true, true, false, false, false, false, false, false, false, false, false, false] rfl rfl (any_of HT_.out (by kernel_rfl)) (fun _ _ _ h => h) (Or.inl ⟨by rfl, ?_⟩) ?_ ?_
               rotate_left
               ·intro w'
                go_simp
                with_reducible rfl
               rotate_left
               ·simp only [Act.put, List.setIfInBounds_toArray, List.set_cons_zero, List.set_cons_succ, i64_w, i32_w]
                rfl
               refine pure_ (i := 7) (N := some 70) (v := ?_) (a' := ?_) #[true, true, true, true, true, false, false, true, false, false, false, false, false, false, false] rfl rfl (any_of HT_.out (by kernel_rfl)) (fun _ _ _ h => h) (Or.inl ⟨by rfl, ?_⟩) ?_ ?_
               rotate_left
               ·intro w'
                go_simp
                with_reducible rfl
               rotate_left
               ·simp only [Act.put, List.setIfInBounds_toArray, List.set_cons_zero, List.set_cons_succ, i64_w, i32_w]
                rfl
               refine pure_ (i := 8) (N := some 71) (v := ?_) (a' := ?_) #[true, true, true, true, true, false, false, true, true, false, false, false, false, false, false] rfl rfl (any_of HT_.out (by kernel_rfl)) (fun _ _ _ h => h) (Or.inl ⟨by rfl, ?_⟩) ?_ ?_
               rotate_left
               ·intro w'
                go_simp
                with_reducible rfl
               rotate_left
               ·simp only [Act.put, List.setIfInBounds_toArray, List.set_cons_zero, List.set_cons_succ, i64_w, i32_w]
                rfl
               refine take_ (i := 5) (N := some 68) (v := ?_) (a' := ?_) #[true, true, true, true, true, true, false, true, true, false, false, false, false, false, false] rfl rfl (take_ofW HT_.out HW_.out (by kernel_rfl)) (fun _ _ _ h => h) (Or.inl ⟨by rfl, ?_⟩) hHeld ?_ ?_
               rotate_left
               ·rintro w' ⟨s0, s1, s2, s3, s4, s5, s6, s7, s8, s9⟩
                go_simp
                with_reducible rfl
               rotate_left
               ·simp only [Act.put, List.setIfInBounds_toArray, List.set_cons_zero, List.set_cons_succ, i64_w, i32_w]
                rfl
               refine take_ (i := 9) (N := some 72) (v := ?_) (a' := ?_) #[true, true, true, true, true, true, false, true, true, true, false, false, false, false, false] rfl rfl (take_ofW HT_.out HW_.out (by kernel_rfl)) (fun _ _ _ h => h) (Or.inl ⟨by rfl, ?_⟩) hHeld ?_ ?_
               rotate_left
               ·rintro w' ⟨s0, s1, s2, s3, s4, s5, s6, s7, s8, s9⟩
                go_simp
                with_reducible rfl
               rotate_left
               ·simp only [Act.put, List.setIfInBounds_toArray, List.set_cons_zero, List.set_cons_succ, i64_w, i32_w]
                rfl
               refine pure_ (i := 10) (N := some 73) (v := ?_) (a' := ?_) #[true, true, true, true, true, true, false, true, true, true, true, false, false, false, false] rfl rfl (any_of HT_.out (by kernel_rfl)) (fun _ _ _ h => h) (Or.inl ⟨by rfl, ?_⟩) ?_ ?_
               rotate_left
               ·intro w'
                go_simp
                with_reducible rfl
               rotate_left
               ·simp only [Act.put, List.setIfInBounds_toArray, List.set_cons_zero, List.set_cons_succ, i64_w, i32_w]
                rfl
               refine pure_ (i := 11) (N := some 74) (v := ?_) (a' := ?_) #[true, true, true, true, true, true, false, true, true, true, true, true, false, false, false] rfl rfl (any_of HT_.out (by kernel_rfl)) (fun _ _ _ h => h) (Or.inl ⟨by rfl, ?_⟩) ?_ ?_
               rotate_left
               ·intro w'
                go_simp
                with_reducible rfl
               rotate_left
               ·simp only [Act.put, List.setIfInBounds_toArray, List.set_cons_zero, List.set_cons_succ, i64_w, i32_w]
                rfl
               refine one_ (i := 6) (N := some 69) #[true, true, true, true, true, true, true, true, true, true, true, true, false, false, false] rfl rfl (one_of HT_.out (by kernel_rfl)) (by decide) (fun K hK => ?_)
               refine goes_ Try.func28 (by kernel_rfl) rfl #[.slice Ao31 x3_2.length co31, .int .i64 a4, .int .i64 (wrap64 (a4 + 1)), .slice A247_1 ((rd_T43 ((rd_T46 l0 a1).f2) x41_2).f1).length c247_1] (by rfl) rfl rfl (by (try simp only [List.map_toArray, List.map_cons, List.map_nil]); first | done | rfl | (simp only [List.length_drop, List.length_take]; rfl)) ?_
               with_reducible refine (classes_Put.calls _ _ x3_2 a4 (wrap64 (a4 + 1)) _ _ ((rd_T43 ((rd_T46 l0 a1).f2) x41_2).f1) t253 _ ?side1 ?side2 ?side3 ?side4 A36.out).mono ?_
               (case side1 => repeat (first | exact (Kd.V_reads' HO_3.out).2.2 | (with_reducible refine Kd.C_alloc ?_ _) | (with_reducible refine Kd.C_drewN ?_ _) | (with_reducible refine Kd.C_drew ?_)))
               (case side2 => exact (Kd.V_reads' HO_3.out).2.1)
               (case side3 => repeat (first | exact (Kd.C_below HR247_1.out HB.out) | (with_reducible refine Kd.C_alloc ?_ _) | (with_reducible refine Kd.C_drewN ?_ _) | (with_reducible refine Kd.C_drew ?_)))
               (case side4 => exact HC247_1.out)
               rintro e w38 ⟨v254, rfl, ho0, hb⟩
               refine ⟨_, rfl, ?_⟩
               have n0_ := Aside0.mk (Kd.V_elder' (by (with_reducible repeat (first | apply Kd.V_alloc | apply Kd.V_drewN | apply Kd.V_drew)); exact HO_3.out) (Kd.R_base ho0) hb)
               have n1_ := Aside0.mk (Kd.R_elder' (by (with_reducible repeat (first | apply Kd.R_alloc | apply Kd.R_drewN | apply Kd.R_drew)); exact HO_18.out) (Kd.R_base ho0) hb)
               have n2_ := Aside0.mk (Kd.R_lower (Kd.R_new' (Kd.R_newM (M := fun k_ => (w.heap.size ≤ k_)) ho0 (below_size (by repeat (first | (with_reducible first | exact HB.out | apply below_alloc | apply pw_below_drewN | apply below_drew1 | refine below_set ?_ GE244.out | refine below_set ?_ GE248.out) | exact HB.out))) (fun k_ h_ => h_)) (Kd.R_lt (by (with_reducible repeat (first | apply Kd.R_alloc | apply Kd.R_drewN | apply Kd.R_drew)); exact HO_18.out))) (below_size (by repeat (first | (with_reducible first | exact HB.out | apply below_alloc | apply pw_below_drewN | apply below_drew1 | refine below_set ?_ GE244.out | refine below_set ?_ GE248.out) | exact HB.out))))
               have n3_ := Aside0.mk (blk_below (g := gb244) (o := .cells #[.int .i64 ((rd_T46 l0 a1).f0), .bool ((rd_T46 l0 a1).f1), .slice (some ad247) ((rd_T46 l0 a1).f2).length c243_2] 46 (0, 0)) (by (with_reducible repeat (first | refine blk_drewN ?_ _ | refine blk_drew ?_ | refine blk_alloc ?_ _)); exact BK244.out) hb)
               have n4_ := Aside0.mk (blk_below (g := gb248) (o := .cells #[.slice A247_0 ((rd_T43 ((rd_T46 l0 a1).f2) x41_2).f0).length c247_0, .slice A247_1 ((rd_T43 ((rd_T46 l0 a1).f2) x41_2).f1).length c247_1, .int .i64 ((rd_T43 ((rd_T46 l0 a1).f2) x41_2).f2), .int .i64 ((rd_T43 ((rd_T46 l0 a1).f2) x41_2).f3), .int .i64 ((rd_T43 ((rd_T46 l0 a1).f2) x41_2).f4.f0), .int .i64 ((rd_T43 ((rd_T46 l0 a1).f2) x41_2).f4.f1), .int .i64 ((rd_T43 ((rd_T46 l0 a1).f2) x41_2).f5.f0), .int .i64 ((rd_T43 ((rd_T46 l0 a1).f2) x41_2).f5.f1), .int .i64 ((rd_T43 ((rd_T46 l0 a1).f2) x41_2).f6.f0), .int .i64 ((rd_T43 ((rd_T46 l0 a1).f2) x41_2).f6.f1)] 43 (0, 0)) (by (with_reducible repeat (first | refine blk_drewN ?_ _ | refine blk_drew ?_ | refine blk_alloc ?_ _)); exact BK248.out) hb)
               have n5_ := Aside0.mk (below_step (by repeat (first | (with_reducible first | exact HB.out | apply below_alloc | apply pw_below_drewN | apply below_drew1 | refine below_set ?_ GE244.out | refine below_set ?_ GE248.out) | exact HB.out)) hb)
               clear HO_3
               clear HO_18
               clear BK244
               clear BK248
               clear HB
               have HO_3 := n0_
               have HO_18 := n1_
               have HO255 := n2_
               have BK244 := n3_
               have BK248 := n4_
               have HB := n5_
               clear n0_ n1_ n2_ n3_ n4_ n5_
               (try clear hb)
               (try clear hb2)
               (try clear hk)
               (try clear hi)
               (try clear ho0)
               refine hK.out _ _ ⟨(blk_cell BK248.out 0).trans rfl, (blk_cell BK248.out 1).trans rfl, (blk_cell BK248.out 2).trans rfl, (blk_cell BK248.out 3).trans rfl, (blk_cell BK248.out 4).trans rfl, (blk_cell BK248.out 5).trans rfl, (blk_cell BK248.out 6).trans rfl, (blk_cell BK248.out 7).trans rfl, (blk_cell BK248.out 8).trans rfl, (blk_cell BK248.out 9).trans rfl⟩ (fun hHeld => ?_)
               clear hK K
               refine norm_ (a' := ?_) ?_ ?_
               rotate_left
               ·show Act.put _ (some 69) _ = _
                simp only [Act.put, List.setIfInBounds_toArray, List.set_cons_zero, List.set_cons_succ, i64_w, i32_w]
                rfl
               refine pure_ (i := 12) (N := some 12) (v := ?_) (a' := ?_) #[true, true, true, true, true, true, true, true, true, true, true, true, true, false, false] rfl rfl (any_of HT_.out (by kernel_rfl)) (fun _ _ _ h => h) (Or.inl ⟨by rfl, ?_⟩) ?_ ?_
               rotate_left
               ·intro w'
                go_simp
                with_reducible rfl
               rotate_left
               ·simp only [Act.put, List.setIfInBounds_toArray, List.set_cons_zero, List.set_cons_succ, i64_w, i32_w]
                rfl
               refine pure_ (i := 13) (N := some 13) (v := ?_) (a' := ?_) #[true, true, true, true, true, true, true, true, true, true, true, true, true, true, false] rfl rfl (any_of HT_.out (by kernel_rfl)) (fun _ _ _ h => h) (Or.inl ⟨by rfl, ?_⟩) ?_ ?_
               rotate_left
               ·intro w'
                go_simp
                with_reducible rfl
               rotate_left
               ·simp only [Act.put, List.setIfInBounds_toArray, List.set_cons_zero, List.set_cons_succ, i64_w, i32_w]
                rfl
               refine pure_ (i := 14) (N := some 14) (v := ?_) (a' := ?_) #[true, true, true, true, true, true, true, true, true, true, true, true, true, true, true] rfl rfl (any_of HT_.out (by kernel_rfl)) (fun _ _ _ h => h) (Or.inl ⟨by rfl, ?_⟩) ?_ ?_
               rotate_left
               ·intro w'
                go_simp
                with_reducible rfl
               rotate_left
               ·simp only [Act.put, List.setIfInBounds_toArray, List.set_cons_zero, List.set_cons_succ, i64_w, i32_w]
                rfl
               refine done_ (done_of HT_.out (by kernel_rfl)) ?_
               try go_wp2
               go_ret3
               exact ⟨_, by first | rfl | (simp [errW_none, errW_some] <;> rfl) | (simp [*, errW_none, errW_some] <;> rfl), Kd.V_mono (Kd.R_V (by (with_reducible repeat (first | apply Kd.R_alloc | apply Kd.R_drewN | apply Kd.R_drew)); exact Kd.R_mono HO255.out (fun _ hk => hk.1.1))) (fun k_ hk => by first | exact ⟨(.inr (hk.1)), hk.2⟩ | exact (.inr (hk))), by repeat (first | (with_reducible first | exact HB.out | apply below_alloc | apply pw_below_drewN | apply below_drew1 | refine below_set ?_ GE244.out | refine below_set ?_ GE248.out) | exact HB.out)⟩
              ·replace c35 := Bool.eq_false_iff.mpr c35
               subst c35
               have H1 : (if ((rd_T46 l0 a1).f0) = 3 then (subst_one.l1 kj25 x3_2 a4 t249 (wrap64 ((t249.length : Int) - 1)) ((rd_T43 ((rd_T46 l0 a1).f2) x41_2).f0) ((rd_T43 ((rd_T46 l0 a1).f2) x41_2).f1) ((rd_T43 ((rd_T46 l0 a1).f2) x41_2).f2) ((rd_T43 ((rd_T46 l0 a1).f2) x41_2).f3) ((rd_T43 ((rd_T46 l0 a1).f2) x41_2).f4.f0) ((rd_T43 ((rd_T46 l0 a1).f2) x41_2).f4.f1) ((rd_T43 ((rd_T46 l0 a1).f2) x41_2).f5.f0) ((rd_T43 ((rd_T46 l0 a1).f2) x41_2).f5.f1) ((rd_T43 ((rd_T46 l0 a1).f2) x41_2).f6.f0) ((rd_T43 ((rd_T46 l0 a1).f2) x41_2).f6.f1)) else (if a5 < 8 then (if 0 ≤ ((rd_T43 ((rd_T46 l0 a1).f2) x41_2).f2) then (if ((rd_T43 ((rd_T46 l0 a1).f2) x41_2).f2) < (t249.length : Int) then ((subst_one.f kj25 l0 ((rd_T43 ((rd_T46 l0 a1).f2) x41_2).f3) l2 x3_2 (rd t249 ((rd_T43 ((rd_T46 l0 a1).f2) x41_2).f2)) (wrap64 (a5 + 1))).bind fun bt265 => (if 0 ≤ (wrap64 ((t249.length : Int) - 1)) then (if (wrap64 ((t249.length : Int) - 1)) < (t249.length : Int) then (some (bt265.1, mx a4 (wrap64 ((wrap64 ((wrap64 ((rd t249 (wrap64 ((t249.length : Int) - 1))) + 1)) + (bt265.1.length : Int))) - (x3_2.length : Int))), true)) else (none)) else (none))) else (none)) else (none)) else (if 0 ≤ (wrap64 ((t249.length : Int) - 1)) then (if (wrap64 ((t249.length : Int) - 1)) < (t249.length : Int) then (some (x3_2, mx a4 (wrap64 ((wrap64 ((wrap64 ((rd t249 (wrap64 ((t249.length : Int) - 1))) + 1)) + (x3_2.length : Int))) - (x3_2.length : Int))), true)) else (none)) else (none)))) = some (r1, r2, r3) := by rw [if_neg (show ¬ (false = true) by decide)] at H; exact H
               clear H
               have H := H1
               clear H1
               by_cases c39 : ((rd_T46 l0 a1).f0) = 3
               ·rw [if_pos c39] at H
                have c39b0 : (((rd_T46 l0 a1).f0) == 3) = true := beq_iff_eq.mpr c39
                have c39b1 : (((rd_T46 l0 a1).f0) != 3) = false := bne_eq_false_iff_eq.mpr c39
                clear c39
                have H' := Aside0.mk H
                clear H
                obtain ⟨Ao40, co40, eo40⟩ := Kd.R_slice HO_18.out
                subst eo40
                go_wp2
                go_loopg [3, 20] kj25 (fun kq v3 v20 w' => ∃ (x3_4 : List Int) (x20_4 : Int), v20 = .int .i64 x20_4 ∧ Aside0 (subst_one.l1 kq x3_4 a4 t249 x20_4 ((rd_T43 ((rd_T46 l0 a1).f2) x41_2).f0) ((rd_T43 ((rd_T46 l0 a1).f2) x41_2).f1) ((rd_T43 ((rd_T46 l0 a1).f2) x41_2).f2) ((rd_T43 ((rd_T46 l0 a1).f2) x41_2).f3) ((rd_T43 ((rd_T46 l0 a1).f2) x41_2).f4.f0) ((rd_T43 ((rd_T46 l0 a1).f2) x41_2).f4.f1) ((rd_T43 ((rd_T46 l0 a1).f2) x41_2).f5.f0) ((rd_T43 ((rd_T46 l0 a1).f2) x41_2).f5.f1) ((rd_T43 ((rd_T46 l0 a1).f2) x41_2).f6.f0) ((rd_T43 ((rd_T46 l0 a1).f2) x41_2).f6.f1) = some (r1, r2, r3)) ∧ Aside0 (kq ≤ kj25) ∧ Aside0 (Kd.V (Kd.int .i64) 3 w' w.heap.size (fun k_ => (P3_ k_ ∨ w.heap.size ≤ k_) ∧ some k_ ≠ ((.slice Ao40 t249.length co40) : Value).ownBlock ∧ k_ ≠ gb244 ∧ k_ ≠ gb248) v3 x3_4) ∧ Aside0 (Kd.R (Kd.int .i64) 3 w' w.heap.size (fun k_ => (w.heap.size ≤ k_)) (.slice Ao40 t249.length co40) t249) ∧ Aside0 (w'.heap[gb244]? = some (.cells #[.int .i64 ((rd_T46 l0 a1).f0), .bool ((rd_T46 l0 a1).f1), (.slice (some ad247) ((rd_T46 l0 a1).f2).length c243_2)] 46 (0, 0))) ∧ Aside0 (w'.heap[gb248]? = some (.cells #[(.slice A247_0 ((rd_T43 ((rd_T46 l0 a1).f2) x41_2).f0).length c247_0), (.slice A247_1 ((rd_T43 ((rd_T46 l0 a1).f2) x41_2).f1).length c247_1), .int .i64 ((rd_T43 ((rd_T46 l0 a1).f2) x41_2).f2), .int .i64 ((rd_T43 ((rd_T46 l0 a1).f2) x41_2).f3), .int .i64 ((rd_T43 ((rd_T46 l0 a1).f2) x41_2).f4.f0), .int .i64 ((rd_T43 ((rd_T46 l0 a1).f2) x41_2).f4.f1), .int .i64 ((rd_T43 ((rd_T46 l0 a1).f2) x41_2).f5.f0), .int .i64 ((rd_T43 ((rd_T46 l0 a1).f2) x41_2).f5.f1), .int .i64 ((rd_T43 ((rd_T46 l0 a1).f2) x41_2).f6.f0), .int .i64 ((rd_T43 ((rd_T46 l0 a1).f2) x41_2).f6.f1)] 43 (0, 0))) ∧ Aside0 (Below w.heap.size w w'))
                case atStart => exact ⟨(x3_2), (wrap64 ((t249.length : Int) - 1)), (by first | rfl | (simp; done) | (simp [*]; done)), H', ⟨Nat.le_refl _⟩, ⟨by (with_reducible repeat (first | apply Kd.V_alloc | apply Kd.V_drewN | apply Kd.V_drew)); exact HO_3.out⟩, ⟨by (with_reducible repeat (first | apply Kd.R_alloc | apply Kd.R_drewN | apply Kd.R_drew)); exact HO_18.out⟩, ⟨by (with_reducible repeat (first | refine blk_drewN ?_ _ | refine blk_drew ?_ | refine blk_alloc ?_ _)); exact BK244.out⟩, ⟨by (with_reducible repeat (first | refine blk_drewN ?_ _ | refine blk_drew ?_ | refine blk_alloc ?_ _)); exact BK248.out⟩, ⟨by repeat (first | (with_reducible first | exact HB.out | apply below_alloc | apply pw_below_drewN | apply below_drew1 | refine below_set ?_ GE244.out | refine below_set ?_ GE248.out) | exact HB.out)⟩⟩
                case round =>
                 clear H'
                 try clear c1
                 try clear q1
                 try clear c2
                 try clear p2
                 try clear q2
                 try clear hx2
                 try clear c3
                 try clear p6
                 try clear c7
                 try clear c7b0
                 try clear c8
                 try clear c8b0
                 try clear q12
                 try clear c13
                 try clear c14
                 try clear c14b0
                 try clear c15
                 try clear c15b0
                 try clear c19
                 try clear c21
                 try clear c21b0
                 try clear c22
                 try clear c22b0
                 try clear c23
                 try clear c23b0
                 try clear c24
                 try clear p24
                 try clear q24
                 try clear hx24
                 try clear c25
                 try clear c28
                 try clear c34
                 try clear c34b0
                 try clear c34b1
                 try clear c35
                 try clear c39
                 try clear c39b0
                 try clear c39b1
                 try clear hcz11_0
                 try clear hcz11_1
                 try clear hcz11_2
                 try clear hcz17_0
                 try clear hcz17_1
                 try clear hcz17_2
                 try clear hcz18_0
                 try clear hcz18_1
                 try clear hcz18_2
                 try clear hcz20_0
                 try clear hcz20_1
                 try clear hcz20_2
                 try clear hcz29_0
                 try clear hcz29_1
                 try clear hcz29_2
                 try clear hcz29_3
                 try clear hcz29_4
                 try clear hcz29_5
                 try clear hcz29_6
                 try clear hcz29_7
                 try clear hcz29_8
                 try clear hcz29_9
                 try clear hcz30_0
                 try clear hcz30_1
                 try clear hcz30_2
                 try clear hcz33_0
                 try clear hcz33_1
                 try clear hcz33_2
                 try clear hfz11_0
                 try clear hfz11_1
                 try clear hfz11_2
                 try clear hfz17_0
                 try clear hfz17_1
                 try clear hfz17_2
                 try clear hfz18_0
                 try clear hfz18_1
                 try clear hfz18_2
                 try clear hfz20_0
                 try clear hfz20_1
                 try clear hfz20_2
                 try clear hfz29_0
                 try clear hfz29_1
                 try clear hfz29_2
                 try clear hfz29_3
                 try clear hfz29_4
                 try clear hfz29_5
                 try clear hfz29_6
                 try clear hfz29_7
                 try clear hfz29_8
                 try clear hfz29_9
                 try clear hfz30_0
                 try clear hfz30_1
                 try clear hfz30_2
                 try clear hfz33_0
                 try clear hfz33_1
                 try clear hfz33_2
                 try clear hx243_0
                 try clear hx243_1
                 try clear hx243_2
                 try clear hx245_0
                 try clear hx247_0
                 try clear hx247_1
                 try clear hx247_2
                 try clear hx247_3
                 try clear hx247_4
                 try clear hx247_5
                 try clear hx247_6
                 try clear hx247_7
                 try clear hx247_8
                 try clear hx247_9
                 try clear p2
                 try clear p24
                 try clear p243
                 try clear p245
                 try clear p247
                 try clear p6
                 try clear q1
                 try clear q12
                 try clear q2
                 try clear q24
                 try clear q243
                 try clear q245
                 try clear q247
                 obtain ⟨x3_4, x20_4, rfl, HA, HK4, HO_3, HO_18, BK244, BK248, HB⟩ := hrel
                 cases gk with
                 | zero => exact absurd HA.out (by simp [subst_one.l1])
                 | succ k4 =>
                  have H := HA.out
                  clear HA
                  simp only [subst_one.l1] at H
                  by_cases c41 : x20_4 > 0
                  ·rw [if_pos c41] at H
                   have c41b0 : decide (0 < x20_4) = true := decide_eq_true c41
                   clear c41
                   by_cases c42 : 0 ≤ x20_4
                   ·rw [if_pos c42] at H
                    have c42b0 : decide (0 ≤ x20_4) = true := decide_eq_true c42
                    clear c42
                    by_cases c43 : x20_4 < (t249.length : Int)
                    ·rw [if_pos c43] at H
                     have c43b0 : decide (x20_4 < (t249.length : Int)) = true := decide_eq_true c43
                     clear c43
                     replace H := Option.bind_eq_some_iff.mp H
                     obtain ⟨t258, A440, H⟩ := H
                     replace H : (subst_one.l1 k4 t258 a4 t249 (wrap64 (x20_4 - 1)) ((rd_T43 ((rd_T46 l0 a1).f2) x41_2).f0) ((rd_T43 ((rd_T46 l0 a1).f2) x41_2).f1) ((rd_T43 ((rd_T46 l0 a1).f2) x41_2).f2) ((rd_T43 ((rd_T46 l0 a1).f2) x41_2).f3) ((rd_T43 ((rd_T46 l0 a1).f2) x41_2).f4.f0) ((rd_T43 ((rd_T46 l0 a1).f2) x41_2).f4.f1) ((rd_T43 ((rd_T46 l0 a1).f2) x41_2).f5.f0) ((rd_T43 ((rd_T46 l0 a1).f2) x41_2).f5.f1) ((rd_T43 ((rd_T46 l0 a1).f2) x41_2).f6.f0) ((rd_T43 ((rd_T46 l0 a1).f2) x41_2).f6.f1)) = some (r1, r2, r3) := H
                     have A44 := Aside0.mk A440
                     clear A440
                     have H' := Aside0.mk H
                     clear H
                     try go_wp2
                     have n0_ := Aside0.mk (Kd.V_drew HO_3.out)
                     have n1_ := Aside0.mk (Kd.R_drew HO_18.out)
                     have n2_ := Aside0.mk (blk_drew BK244.out)
                     have n3_ := Aside0.mk (blk_drew BK248.out)
                     have n4_ := Aside0.mk (below_drew1 HB.out)
                     clear HO_3
                     clear HO_18
                     clear BK244
                     clear BK248
                     clear HB
                     have HO_3 := n0_
                     have HO_18 := n1_
                     have BK244 := n2_
                     have BK248 := n3_
                     have HB := n4_
                     clear n0_ n1_ n2_ n3_ n4_
                     have p256 : 0 ≤ (x20_4 : Int) := of_decide_eq_true (by first | (with_reducible assumption) | assumption)
                     have q256 : x20_4 < (t249.length : Int) := of_decide_eq_true (by first | (with_reducible assumption) | assumption)
                     obtain ⟨ad256, e256, hx256_0⟩ := Kd.at_int (Kd.R_reads' HO_18.out).2.2 x20_4 p256 q256
                     cases e256
                     replace p256 := eq_true p256
                     replace q256 := eq_true q256
                     have p257 : 0 ≤ (x20_4 : Int) := of_decide_eq_true (by first | (with_reducible assumption) | assumption)
                     have q257 : x20_4 < (t249.length : Int) := of_decide_eq_true (by first | (with_reducible assumption) | assumption)
                     obtain ⟨ad257, e257, hx257_0⟩ := Kd.at_int (Kd.R_reads' HO_18.out).2.2 x20_4 p257 q257
                     obtain rfl : ad256 = ad257 := (by injection e257)
                     replace p257 := eq_true p257
                     replace q257 := eq_true q257
                     obtain ⟨Ao46, co46, eo46⟩ := Kd.V_slice HO_3.out
                     (first | subst eo46 | (injection eo46 with f1_ f2_ f3_; have f4_ := f1_.symm; have f5_ := f3_.symm; clear f1_ f2_ f3_; subst f4_; subst f5_))
                     refine start_ (n := 12) (S := fun w' => w'.cell? (ad256.add (x20_4).toNat) = some (.int .i64 (rd t249 x20_4)) ∧ w'.cell? (ad256.add (x20_4).toNat) = some (.int .i64 (rd t249 x20_4))) (ds := []) #[false, false, false, false, false, false, false, false, false, false, false, false] (by kernel_rfl) rfl rfl ⟨hx256_0, hx257_0⟩ (fun hHeld => ?_); refine with_tabW subst_one.tab17 subst_one.bits17 (fun HT_ HW_ => ?_)
                     generalize wr.drew = w45 at HO_3 HO_18 BK244 BK248 HB hx256_0 hx257_0 hHeld ⊢
                     refine pure_ (i := 0) (N := some 84) (v := ?_) (a' := ?_) #[true, false, false, false, false, false, false, false, false, false, false, false] rfl rfl (any_of HT_.out (by kernel_rfl)) (fun _ _ _ h => h) (Or.inl ⟨by rfl, ?_⟩) ?_ ?_
                     rotate_left
                     ·intro w'
                      go_simp
                      with_reducible rfl
                     rotate_left
                     ·simp only [Act.put, List.setIfInBounds_toArray, List.set_cons_zero, List.set_cons_succ, i64_w, i32_w]
                      rfl
                     refine pure_ (i := 1) (N := some 85) (v := ?_) (a' := ?_) #[true, true, false, false, false, false, false, false, false, false, false, false] rfl rfl (any_of HT_.out (by kernel_rfl)) (fun _ _ _ h => h) (Or.inl ⟨by rfl, ?_⟩) ?_ ?_
                     rotate_left
                     ·intro w'
                      go_simp
                      with_reducible rfl
                     rotate_left
                     ·simp only [Act.put, List.setIfInBounds_toArray, List.set_cons_zero, List.set_cons_succ, i64_w, i32_w]
                      rfl
                     refine pure_ (i := 2) (N := some 86) (v := ?_) (a' := ?_) #[true, true, true, false, false, false, false, false, false, false, false, false] rfl rfl (any_of HT_.out (by kernel_rfl)) (fun _ _ _ h => h) (Or.inl ⟨by rfl, ?_⟩) ?_ ?_
                     rotate_left
                     ·intro w'
                      go_simp
                      with_reducible rfl
                     rotate_left
                     ·simp only [Act.put, List.setIfInBounds_toArray, List.set_cons_zero, List.set_cons_succ, i64_w, i32_w]
                      rfl
                     refine pure_ (i := 3) (N := some 87) (v := ?_) (a' := ?_) #[true, true, true, true, false, false, false, false, false, false, false, false] rfl rfl (any_of HT_.out (by kernel_rfl)) (fun _ _ _ h => h) (Or.inl ⟨by rfl, ?_⟩) ?_ ?_
                     rotate_left
                     ·intro w'
                      go_simp
                      with_reducible rfl
                     rotate_left
                     ·simp only [Act.put, List.setIfInBounds_toArray, List.set_cons_zero, List.set_cons_succ, i64_w, i32_w]
                      rfl
                     refine pure_ (i := 5) (N := some 89) (v := ?_) (a' := ?_) #[true, true, true, true, false, true, false, false, false, false, false, false] rfl rfl (any_of HT_.out (by kernel_rfl)) (fun _ _ _ h => h) (Or.inl ⟨by rfl, ?_⟩) ?_ ?_
                     rotate_left
                     ·intro w'
                      go_simp
                      with_reducible rfl
                     rotate_left
                     ·simp only [Act.put, List.setIfInBounds_toArray, List.set_cons_zero, List.set_cons_succ, i64_w, i32_w]
                      rfl
                     refine pure_ (i := 6) (N := some 90) (v := ?_) (a' := ?_) #[true, true, true, true, false, true, true, false, false, false, false, false] rfl rfl (any_of HT_.out (by kernel_rfl)) (fun _ _ _ h => h) (Or.inl ⟨by rfl, ?_⟩) ?_ ?_
                     rotate_left
                     ·intro w'
                      go_simp
                      with_reducible rfl
                     rotate_left
                     ·simp only [Act.put, List.setIfInBounds_toArray, List.set_cons_zero, List.set_cons_succ, i64_w, i32_w]
                      rfl
                     refine pure_ (i := 7) (N := some 91) (v := ?_) (a' := ?_) #[true, true, true, true, false, true, true, true, false, false, false, false] rfl rfl (any_of HT_.out (by kernel_rfl)) (fun _ _ _ h => h) (Or.inl ⟨by rfl, ?_⟩) ?_ ?_
                     rotate_left
                     ·intro w'
                      go_simp
                      with_reducible rfl
                     rotate_left
                     ·simp only [Act.put, List.setIfInBounds_toArray, List.set_cons_zero, List.set_cons_succ, i64_w, i32_w]
                      rfl
                     refine take_ (i := 4) (N := some 88) (v := ?_) (a' := ?_) #[true, true, true, true, true, true, true, true, false, false, false, false] rfl rfl (take_ofW HT_.out HW_.out (by kernel_rfl)) (fun _ _ _ h => h) (Or.inl ⟨by rfl, ?_⟩) hHeld ?_ ?_
                     rotate_left
                     ·rintro w' ⟨s0, s1⟩
                      go_simp
                      with_reducible rfl
                     rotate_left
                     ·simp only [Act.put, List.setIfInBounds_toArray, List.set_cons_zero, List.set_cons_succ, i64_w, i32_w]
                      rfl
                     refine take_ (i := 8) (N := some 92) (v := ?_) (a' := ?_) #[true, true, true, true, true, true, true, true, true, false, false, false] rfl rfl (take_ofW HT_.out HW_.out (by kernel_rfl)) (fun _ _ _ h => h) (Or.inl ⟨by rfl, ?_⟩) hHeld ?_ ?_
                     rotate_left
                     ·rintro w' ⟨s0, s1⟩
                      go_simp
                      with_reducible rfl
                     rotate_left
                     ·simp only [Act.put, List.setIfInBounds_toArray, List.set_cons_zero, List.set_cons_succ, i64_w, i32_w]
                      rfl
                     refine pure_ (i := 9) (N := some 93) (v := ?_) (a' := ?_) #[true, true, true, true, true, true, true, true, true, true, false, false] rfl rfl (any_of HT_.out (by kernel_rfl)) (fun _ _ _ h => h) (Or.inl ⟨by rfl, ?_⟩) ?_ ?_
                     rotate_left
                     ·intro w'
                      go_simp
                      with_reducible rfl
                     rotate_left
                     ·simp only [Act.put, List.setIfInBounds_toArray, List.set_cons_zero, List.set_cons_succ, i64_w, i32_w]
                      rfl
                     refine one_ (i := 10) (N := some 94) #[true, true, true, true, true, true, true, true, true, true, true, false] rfl rfl (one_of HT_.out (by kernel_rfl)) (by decide) (fun K hK => ?_)
                     refine goes_ Try.func28 (by kernel_rfl) rfl #[.slice Ao46 x3_4.length co46, .int .i64 (rd t249 x20_4), .int .i64 (wrap64 ((rd t249 x20_4) + 1)), .slice none 0 0] (by rfl) rfl rfl (by (try simp only [List.map_toArray, List.map_cons, List.map_nil]); first | done | rfl | (simp only [List.length_drop, List.length_take]; rfl)) ?_
                     refine (classes_Put.calls _ _ x3_4 (rd t249 x20_4) (wrap64 ((rd t249 x20_4) + 1)) _ _ ([] : List Int) t258 _ ?side1 ?side2 ?side3 ?side4 A44.out).mono ?_
                     (case side1 => repeat (first | exact (Kd.V_reads' HO_3.out).2.2 | (with_reducible refine Kd.C_alloc ?_ _) | (with_reducible refine Kd.C_drewN ?_ _) | (with_reducible refine Kd.C_drew ?_)))
                     (case side2 => exact (Kd.V_reads' HO_3.out).2.1)
                     (case side3 => exact Kd.C_nil _ _)
                     (case side4 => exact Nat.le_refl _)
                     rintro e w47 ⟨v259, rfl, ho0, hb⟩
                     have HS0_ := (hb.cell (World.block_lt_of_cell? _ _ (hHeld.1))).trans (hHeld.1)
                     have HS1_ := (hb.cell (World.block_lt_of_cell? _ _ (hHeld.2))).trans (hHeld.2)
                     refine ⟨_, rfl, ?_⟩
                     have n0_ := Aside0.mk (Kd.V_elder' (by (with_reducible repeat (first | apply Kd.V_alloc | apply Kd.V_drewN | apply Kd.V_drew)); exact HO_3.out) (Kd.R_base ho0) hb)
                     have n1_ := Aside0.mk (Kd.R_elder' (by (with_reducible repeat (first | apply Kd.R_alloc | apply Kd.R_drewN | apply Kd.R_drew)); exact HO_18.out) (Kd.R_base ho0) hb)
                     have n2_ := Aside0.mk (Kd.R_lower (Kd.R_new' (Kd.R_newM (M := fun k_ => (w.heap.size ≤ k_)) ho0 (below_size (by repeat (first | (with_reducible first | exact HB.out | apply below_alloc | apply pw_below_drewN | apply below_drew1 | refine below_set ?_ GE244.out | refine below_set ?_ GE248.out) | exact HB.out))) (fun k_ h_ => h_)) (Kd.R_lt (by (with_reducible repeat (first | apply Kd.R_alloc | apply Kd.R_drewN | apply Kd.R_drew)); exact HO_18.out))) (below_size (by repeat (first | (with_reducible first | exact HB.out | apply below_alloc | apply pw_below_drewN | apply below_drew1 | refine below_set ?_ GE244.out | refine below_set ?_ GE248.out) | exact HB.out))))
                     have n3_ := Aside0.mk (blk_below (g := gb244) (o := .cells #[.int .i64 ((rd_T46 l0 a1).f0), .bool ((rd_T46 l0 a1).f1), .slice (some ad247) ((rd_T46 l0 a1).f2).length c243_2] 46 (0, 0)) (by (with_reducible repeat (first | refine blk_drewN ?_ _ | refine blk_drew ?_ | refine blk_alloc ?_ _)); exact BK244.out) hb)
                     have n4_ := Aside0.mk (blk_below (g := gb248) (o := .cells #[.slice A247_0 ((rd_T43 ((rd_T46 l0 a1).f2) x41_2).f0).length c247_0, .slice A247_1 ((rd_T43 ((rd_T46 l0 a1).f2) x41_2).f1).length c247_1, .int .i64 ((rd_T43 ((rd_T46 l0 a1).f2) x41_2).f2), .int .i64 ((rd_T43 ((rd_T46 l0 a1).f2) x41_2).f3), .int .i64 ((rd_T43 ((rd_T46 l0 a1).f2) x41_2).f4.f0), .int .i64 ((rd_T43 ((rd_T46 l0 a1).f2) x41_2).f4.f1), .int .i64 ((rd_T43 ((rd_T46 l0 a1).f2) x41_2).f5.f0), .int .i64 ((rd_T43 ((rd_T46 l0 a1).f2) x41_2).f5.f1), .int .i64 ((rd_T43 ((rd_T46 l0 a1).f2) x41_2).f6.f0), .int .i64 ((rd_T43 ((rd_T46 l0 a1).f2) x41_2).f6.f1)] 43 (0, 0)) (by (with_reducible repeat (first | refine blk_drewN ?_ _ | refine blk_drew ?_ | refine blk_alloc ?_ _)); exact BK248.out) hb)
                     have n5_ := Aside0.mk (below_step (by repeat (first | (with_reducible first | exact HB.out | apply below_alloc | apply pw_below_drewN | apply below_drew1 | refine below_set ?_ GE244.out | refine below_set ?_ GE248.out) | exact HB.out)) hb)
                     clear HO_3
                     clear HO_18
                     clear BK244
                     clear BK248
                     clear HB
                     have HO_3 := n0_
                     have HO_18 := n1_
                     have HO260 := n2_
                     have BK244 := n3_
                     have BK248 := n4_
                     have HB := n5_
                     clear n0_ n1_ n2_ n3_ n4_ n5_
                     (try clear hb)
                     (try clear hb2)
                     (try clear hk)
                     (try clear hi)
                     (try clear ho0)
                     refine hK.out _ _ ⟨HS0_, HS1_⟩ (fun hHeld => ?_)
                     clear hK K
                     refine norm_ (a' := ?_) ?_ ?_
                     rotate_left
                     ·show Act.put _ (some 94) _ = _
                      simp only [Act.put, List.setIfInBounds_toArray, List.set_cons_zero, List.set_cons_succ, i64_w, i32_w]
                      rfl
                     refine pure_ (i := 11) (N := some 3) (v := ?_) (a' := ?_) #[true, true, true, true, true, true, true, true, true, true, true, true] rfl rfl (any_of HT_.out (by kernel_rfl)) (fun _ _ _ h => h) (Or.inl ⟨by rfl, ?_⟩) ?_ ?_
                     rotate_left
                     ·intro w'
                      go_simp
                      with_reducible rfl
                     rotate_left
                     ·simp only [Act.put, List.setIfInBounds_toArray, List.set_cons_zero, List.set_cons_succ, i64_w, i32_w]
                      rfl
                     refine done_ (done_of HT_.out (by kernel_rfl)) ?_
                     try go_wp2
                     go_roundg k4
                     case measure => have := HJ8.out; have := HK2.out; have := HJ25.out; have := HK4.out; omega
                     case rel => (try rw [← Nbq12.out]); exact ⟨(t258), (wrap64 (x20_4 - 1)), (by first | rfl | (simp; done) | (simp [*]; done)), H', ⟨by have := HJ8.out; have := HK2.out; have := HJ25.out; have := HK4.out; omega⟩, ⟨Kd.V_mono (Kd.R_V (by (with_reducible repeat (first | apply Kd.R_alloc | apply Kd.R_drewN | apply Kd.R_drew)); exact Kd.R_types (Kd.R_types HO260.out BK244.out (by decide)) BK248.out (by decide))) (fun k_ hk => by first | exact ⟨(.inr (hk.1.1.1.1)), ⟨hk.1.1.2, ⟨hk.1.2, hk.2⟩⟩⟩ | exact (.inr (⟨hk.1.1.1.1, ⟨hk.1.1.2, ⟨hk.1.2, hk.2⟩⟩⟩)))⟩, ⟨by (with_reducible repeat (first | apply Kd.R_alloc | apply Kd.R_drewN | apply Kd.R_drew)); exact Kd.R_mono HO_18.out (fun _ hk => hk.1)⟩, ⟨by (with_reducible repeat (first | refine blk_drewN ?_ _ | refine blk_drew ?_ | refine blk_alloc ?_ _)); exact BK244.out⟩, ⟨by (with_reducible repeat (first | refine blk_drewN ?_ _ | refine blk_drew ?_ | refine blk_alloc ?_ _)); exact BK248.out⟩, ⟨by repeat (first | (with_reducible first | exact HB.out | apply below_alloc | apply pw_below_drewN | apply below_drew1 | refine below_set ?_ GE244.out | refine below_set ?_ GE248.out) | exact HB.out)⟩⟩
                    ·rw [if_neg c43] at H
                     exact absurd H (by simp)
                   ·rw [if_neg c42] at H
                    exact absurd H (by simp)
                  ·rw [if_neg c41] at H
                   have c41b0 : decide (0 < x20_4) = false := decide_eq_false c41
                   clear c41
                   replace H := Option.bind_eq_some_iff.mp H
                   obtain ⟨t261, A480, H⟩ := H
                   replace H : (some (t261, wrap64 (a4 + 1), true)) = some (r1, r2, r3) := H
                   have A48 := Aside0.mk A480
                   clear A480
                   simp only [Option.some.injEq, Prod.mk.injEq] at H
                   obtain ⟨rfl, rfl, rfl⟩ := H
                   have hnb49 := NB248_244.out
                   have hnc49 := NB244_248.out
                   have hcz50_0 : wr.cell? ⟨gb248, 0, none⟩ = some (.slice A247_0 ((rd_T43 ((rd_T46 l0 a1).f2) x41_2).f0).length c247_0) := (blk_cell BK248.out 0).trans rfl
                   have hcz50_1 : wr.cell? ⟨gb248, 1, none⟩ = some (.slice A247_1 ((rd_T43 ((rd_T46 l0 a1).f2) x41_2).f1).length c247_1) := (blk_cell BK248.out 1).trans rfl
                   have hcz50_2 : wr.cell? ⟨gb248, 2, none⟩ = some (.int .i64 ((rd_T43 ((rd_T46 l0 a1).f2) x41_2).f2)) := (blk_cell BK248.out 2).trans rfl
                   have hcz50_3 : wr.cell? ⟨gb248, 3, none⟩ = some (.int .i64 ((rd_T43 ((rd_T46 l0 a1).f2) x41_2).f3)) := (blk_cell BK248.out 3).trans rfl
                   have hcz50_4 : wr.cell? ⟨gb248, 4, none⟩ = some (.int .i64 ((rd_T43 ((rd_T46 l0 a1).f2) x41_2).f4.f0)) := (blk_cell BK248.out 4).trans rfl
                   have hcz50_5 : wr.cell? ⟨gb248, 5, none⟩ = some (.int .i64 ((rd_T43 ((rd_T46 l0 a1).f2) x41_2).f4.f1)) := (blk_cell BK248.out 5).trans rfl
                   have hcz50_6 : wr.cell? ⟨gb248, 6, none⟩ = some (.int .i64 ((rd_T43 ((rd_T46 l0 a1).f2) x41_2).f5.f0)) := (blk_cell BK248.out 6).trans rfl
                   have hcz50_7 : wr.cell? ⟨gb248, 7, none⟩ = some (.int .i64 ((rd_T43 ((rd_T46 l0 a1).f2) x41_2).f5.f1)) := (blk_cell BK248.out 7).trans rfl
                   have hcz50_8 : wr.cell? ⟨gb248, 8, none⟩ = some (.int .i64 ((rd_T43 ((rd_T46 l0 a1).f2) x41_2).f6.f0)) := (blk_cell BK248.out 8).trans rfl
                   have hcz50_9 : wr.cell? ⟨gb248, 9, none⟩ = some (.int .i64 ((rd_T43 ((rd_T46 l0 a1).f2) x41_2).f6.f1)) := (blk_cell BK248.out 9).trans rfl
                   have hfz50_0 := blk_frozen BK248.out 0
                   have hfz50_1 := blk_frozen BK248.out 1
                   have hfz50_2 := blk_frozen BK248.out 2
                   have hfz50_3 := blk_frozen BK248.out 3
                   have hfz50_4 := blk_frozen BK248.out 4
                   have hfz50_5 := blk_frozen BK248.out 5
                   have hfz50_6 := blk_frozen BK248.out 6
                   have hfz50_7 := blk_frozen BK248.out 7
                   have hfz50_8 := blk_frozen BK248.out 8
                   have hfz50_9 := blk_frozen BK248.out 9
                   obtain ⟨Ao51, co51, eo51⟩ := Kd.V_slice HO_3.out
                   subst eo51
                   go_wp2_with (first | ((with_reducible refine gate_callee (f := 28) rfl ?_); refine goesL_ (some 101) rfl rfl Try.func28 (by kernel_rfl) rfl #[.slice Ao51 x3_4.length co51, .int .i64 a4, .int .i64 (wrap64 (a4 + 1)), .slice A247_1 ((rd_T43 ((rd_T46 l0 a1).f2) x41_2).f1).length c247_1] rfl (by (try simp only [List.map_toArray, List.map_cons, List.map_nil]); first | done | rfl | (simp only [List.length_drop, List.length_take]; rfl)) ?_; (with_reducible refine (classes_Put.calls _ _ x3_4 a4 (wrap64 (a4 + 1)) _ _ ((rd_T43 ((rd_T46 l0 a1).f2) x41_2).f1) t261 _ ?side1 ?side2 ?side3 ?side4 A48.out).mono ?_); (case side1 => repeat (first | exact (Kd.V_reads' HO_3.out).2.2 | (with_reducible refine Kd.C_alloc ?_ _) | (with_reducible refine Kd.C_drewN ?_ _) | (with_reducible refine Kd.C_drew ?_))); (case side2 => exact (Kd.V_reads' HO_3.out).2.1); (case side3 => repeat (first | exact (Kd.C_below HR247_1.out HB.out) | (with_reducible refine Kd.C_alloc ?_ _) | (with_reducible refine Kd.C_drewN ?_ _) | (with_reducible refine Kd.C_drew ?_))); (case side4 => exact HC247_1.out); rintro e w52 ⟨v262, rfl, ho0, hb⟩; refine ⟨_, rfl, ?_⟩; have n0_ := Aside0.mk (Kd.V_elder' (by (with_reducible repeat (first | apply Kd.V_alloc | apply Kd.V_drewN | apply Kd.V_drew)); exact HO_3.out) (Kd.R_base ho0) hb); have n1_ := Aside0.mk (Kd.R_elder' (by (with_reducible repeat (first | apply Kd.R_alloc | apply Kd.R_drewN | apply Kd.R_drew)); exact HO_18.out) (Kd.R_base ho0) hb); have n2_ := Aside0.mk (Kd.R_lower (Kd.R_new' (Kd.R_newM (M := fun k_ => (w.heap.size ≤ k_)) ho0 (below_size (by repeat (first | (with_reducible first | exact HB.out | apply below_alloc | apply pw_below_drewN | apply below_drew1 | refine below_set ?_ GE244.out | refine below_set ?_ GE248.out) | exact HB.out))) (fun k_ h_ => h_)) (Kd.R_lt (by (with_reducible repeat (first | apply Kd.R_alloc | apply Kd.R_drewN | apply Kd.R_drew)); exact HO_18.out))) (below_size (by repeat (first | (with_reducible first | exact HB.out | apply below_alloc | apply pw_below_drewN | apply below_drew1 | refine below_set ?_ GE244.out | refine below_set ?_ GE248.out) | exact HB.out)))); have n3_ := Aside0.mk (blk_below (g := gb244) (o := .cells #[.int .i64 ((rd_T46 l0 a1).f0), .bool ((rd_T46 l0 a1).f1), .slice (some ad247) ((rd_T46 l0 a1).f2).length c243_2] 46 (0, 0)) (by (with_reducible repeat (first | refine blk_drewN ?_ _ | refine blk_drew ?_ | refine blk_alloc ?_ _)); exact BK244.out) hb); have n4_ := Aside0.mk (blk_below (g := gb248) (o := .cells #[.slice A247_0 ((rd_T43 ((rd_T46 l0 a1).f2) x41_2).f0).length c247_0, .slice A247_1 ((rd_T43 ((rd_T46 l0 a1).f2) x41_2).f1).length c247_1, .int .i64 ((rd_T43 ((rd_T46 l0 a1).f2) x41_2).f2), .int .i64 ((rd_T43 ((rd_T46 l0 a1).f2) x41_2).f3), .int .i64 ((rd_T43 ((rd_T46 l0 a1).f2) x41_2).f4.f0), .int .i64 ((rd_T43 ((rd_T46 l0 a1).f2) x41_2).f4.f1), .int .i64 ((rd_T43 ((rd_T46 l0 a1).f2) x41_2).f5.f0), .int .i64 ((rd_T43 ((rd_T46 l0 a1).f2) x41_2).f5.f1), .int .i64 ((rd_T43 ((rd_T46 l0 a1).f2) x41_2).f6.f0), .int .i64 ((rd_T43 ((rd_T46 l0 a1).f2) x41_2).f6.f1)] 43 (0, 0)) (by (with_reducible repeat (first | refine blk_drewN ?_ _ | refine blk_drew ?_ | refine blk_alloc ?_ _)); exact BK248.out) hb); have n5_ := Aside0.mk (below_step (by repeat (first | (with_reducible first | exact HB.out | apply below_alloc | apply pw_below_drewN | apply below_drew1 | refine below_set ?_ GE244.out | refine below_set ?_ GE248.out) | exact HB.out)) hb); clear HO_3; clear HO_18; clear BK244; clear BK248; clear HB; have HO_3 := n0_; have HO_18 := n1_; have HO263 := n2_; have BK244 := n3_; have BK248 := n4_; have HB := n5_; clear n0_ n1_ n2_ n3_ n4_ n5_; (try clear hb); (try clear hb2); (try clear hk); (try clear hi); (try clear ho0)))
                   go_ret3
                   exact ⟨_, by first | rfl | (simp [errW_none, errW_some] <;> rfl) | (simp [*, errW_none, errW_some] <;> rfl), Kd.V_mono (Kd.R_V (by (with_reducible repeat (first | apply Kd.R_alloc | apply Kd.R_drewN | apply Kd.R_drew)); exact Kd.R_mono HO263.out (fun _ hk => hk.1.1))) (fun k_ hk => by first | exact ⟨(.inr (hk.1)), hk.2⟩ | exact (.inr (hk))), by repeat (first | (with_reducible first | exact HB.out | apply below_alloc | apply pw_below_drewN | apply below_drew1 | refine below_set ?_ GE244.out | refine below_set ?_ GE248.out) | exact HB.out)⟩
               ·rw [if_neg c39] at H
                have c39b0 : (((rd_T46 l0 a1).f0) == 3) = false := beq_eq_false_iff_ne.mpr c39
                have c39b1 : (((rd_T46 l0 a1).f0) != 3) = true := bne_iff_ne.mpr c39
                by_cases c53 : a5 < 8
                ·rw [if_pos c53] at H
                 have c53b0 : decide (a5 < 8) = true := decide_eq_true c53
                 clear c53
                 by_cases c54 : 0 ≤ ((rd_T43 ((rd_T46 l0 a1).f2) x41_2).f2)
                 ·rw [if_pos c54] at H
                  have c54b0 : decide (0 ≤ ((rd_T43 ((rd_T46 l0 a1).f2) x41_2).f2)) = true := decide_eq_true c54
                  clear c54
                  by_cases c55 : ((rd_T43 ((rd_T46 l0 a1).f2) x41_2).f2) < (t249.length : Int)
                  ·rw [if_pos c55] at H
                   have c55b0 : decide (((rd_T43 ((rd_T46 l0 a1).f2) x41_2).f2) < (t249.length : Int)) = true := decide_eq_true c55
                   clear c55
                   replace H := Option.bind_eq_some_iff.mp H
                   obtain ⟨⟨t265, t268, t269⟩, A560, H⟩ := H
                   replace H : (if 0 ≤ (wrap64 ((t249.length : Int) - 1)) then (if (wrap64 ((t249.length : Int) - 1)) < (t249.length : Int) then (some (t265, mx a4 (wrap64 ((wrap64 ((wrap64 ((rd t249 (wrap64 ((t249.length : Int) - 1))) + 1)) + (t265.length : Int))) - (x3_2.length : Int))), true)) else (none)) else (none)) = some (r1, r2, r3) := H
                   have A56 := Aside0.mk A560
                   clear A560
                   obtain ⟨ji57, hji57⟩ : ∃ j_ : Int, (wrap64 ((t249.length : Int) - 1)) = j_ := ⟨_, rfl⟩
                   replace H : (if 0 ≤ (ji57) then (if (ji57) < (t249.length : Int) then (some (t265, mx a4 (wrap64 ((wrap64 ((wrap64 ((rd t249 (ji57)) + 1)) + (t265.length : Int))) - (x3_2.length : Int))), true)) else (none)) else (none)) = some (r1, r2, r3) := by first | (rw [hji57] at H; exact H) | (simp only [hji57] at H ⊢; exact H)
                   (try rw [hji57] at A56)
                   have hji57w : (IntKind.i64.wrap ((t249.length : Int) - 1)) = ji57 := (i64_w _).trans hji57
                   by_cases c58 : 0 ≤ (ji57)
                   ·rw [if_pos c58] at H
                    have c58b0 : decide (0 ≤ (ji57)) = true := decide_eq_true c58
                    clear c58
                    by_cases c59 : (ji57) < (t249.length : Int)
                    ·rw [if_pos c59] at H
                     have c59b0 : decide ((ji57) < (t249.length : Int)) = true := decide_eq_true c59
                     clear c59
                     obtain ⟨ji60, hji60⟩ : ∃ j_ : Int, (mx a4 (wrap64 ((wrap64 ((wrap64 ((rd t249 (ji57)) + 1)) + (t265.length : Int))) - (x3_2.length : Int)))) = j_ := ⟨_, rfl⟩
                     replace H : (some (t265, ji60, true)) = some (r1, r2, r3) := by first | (rw [hji60] at H; exact H) | (simp only [hji60] at H ⊢; exact H)
                     (try rw [hji60] at A56)
                     have hji60_ : (if a4 < (wrap64 ((wrap64 ((wrap64 ((rd t249 (ji57)) + 1)) + (t265.length : Int))) - (x3_2.length : Int))) then (wrap64 ((wrap64 ((wrap64 ((rd t249 (ji57)) + 1)) + (t265.length : Int))) - (x3_2.length : Int))) else a4) = ji60 := hji60
                     (try (have hji60_n := hji60_; simp only [Int.ofNat_lt] at hji60_n))
                     simp only [Option.some.injEq, Prod.mk.injEq] at H
                     obtain ⟨rfl, rfl, rfl⟩ := H
                     try go_wp2
                     have n0_ := Aside0.mk (Kd.V_drew HO_3.out)
                     have n1_ := Aside0.mk (Kd.R_drew HO_18.out)
                     have n2_ := Aside0.mk (blk_drew BK244.out)
                     have n3_ := Aside0.mk (blk_drew BK248.out)
                     have n4_ := Aside0.mk (below_drew1 HB.out)
                     clear HO_3
                     clear HO_18
                     clear BK244
                     clear BK248
                     clear HB
                     have HO_3 := n0_
                     have HO_18 := n1_
                     have BK244 := n2_
                     have BK248 := n3_
                     have HB := n4_
                     clear n0_ n1_ n2_ n3_ n4_
                     obtain ⟨Ao62, co62, eo62⟩ := Kd.R_slice HO_18.out
                     (first | subst eo62 | (injection eo62 with f1_ f2_ f3_; have f4_ := f1_.symm; have f5_ := f3_.symm; clear f1_ f2_ f3_; subst f4_; subst f5_))
                     have p264 : 0 ≤ (((rd_T43 ((rd_T46 l0 a1).f2) x41_2).f2) : Int) := of_decide_eq_true (by first | (with_reducible assumption) | assumption)
                     have q264 : ((rd_T43 ((rd_T46 l0 a1).f2) x41_2).f2) < (t249.length : Int) := of_decide_eq_true (by first | (with_reducible assumption) | assumption)
                     obtain ⟨ad264, e264, hx264_0⟩ := Kd.at_int (Kd.R_reads' HO_18.out).2.2 ((rd_T43 ((rd_T46 l0 a1).f2) x41_2).f2) p264 q264
                     cases e264
                     replace p264 := eq_true p264
                     replace q264 := eq_true q264
                     refine start_ (n := 18) (S := fun w' => w'.cell? ⟨gb248, 0, none⟩ = some (.slice A247_0 ((rd_T43 ((rd_T46 l0 a1).f2) x41_2).f0).length c247_0) ∧ w'.cell? ⟨gb248, 1, none⟩ = some (.slice A247_1 ((rd_T43 ((rd_T46 l0 a1).f2) x41_2).f1).length c247_1) ∧ w'.cell? ⟨gb248, 2, none⟩ = some (.int .i64 ((rd_T43 ((rd_T46 l0 a1).f2) x41_2).f2)) ∧ w'.cell? ⟨gb248, 3, none⟩ = some (.int .i64 ((rd_T43 ((rd_T46 l0 a1).f2) x41_2).f3)) ∧ w'.cell? ⟨gb248, 4, none⟩ = some (.int .i64 ((rd_T43 ((rd_T46 l0 a1).f2) x41_2).f4.f0)) ∧ w'.cell? ⟨gb248, 5, none⟩ = some (.int .i64 ((rd_T43 ((rd_T46 l0 a1).f2) x41_2).f4.f1)) ∧ w'.cell? ⟨gb248, 6, none⟩ = some (.int .i64 ((rd_T43 ((rd_T46 l0 a1).f2) x41_2).f5.f0)) ∧ w'.cell? ⟨gb248, 7, none⟩ = some (.int .i64 ((rd_T43 ((rd_T46 l0 a1).f2) x41_2).f5.f1)) ∧ w'.cell? ⟨gb248, 8, none⟩ = some (.int .i64 ((rd_T43 ((rd_T46 l0 a1).f2) x41_2).f6.f0)) ∧ w'.cell? ⟨gb248, 9, none⟩ = some (.int .i64 ((rd_T43 ((rd_T46 l0 a1).f2) x41_2).f6.f1)) ∧ w'.cell? (ad264.add (((rd_T43 ((rd_T46 l0 a1).f2) x41_2).f2)).toNat) = some (.int .i64 (rd t249 ((rd_T43 ((rd_T46 l0 a1).f2) x41_2).f2)))) (ds := []) #[false, false, false, false, false, false, false, false, false, false, false, false, false, false, false, false, false, false] (by kernel_rfl) rfl rfl ⟨(blk_cell BK248.out 0).trans rfl, (blk_cell BK248.out 1).trans rfl, (blk_cell BK248.out 2).trans rfl, (blk_cell BK248.out 3).trans rfl, (blk_cell BK248.out 4).trans rfl, (blk_cell BK248.out 5).trans rfl, (blk_cell BK248.out 6).trans rfl, (blk_cell BK248.out 7).trans rfl, (blk_cell BK248.out 8).trans rfl, (blk_cell BK248.out 9).trans rfl, hx264_0⟩ (fun hHeld => ?_); refine with_tabW subst_one.tab21 subst_one.bits21 (fun HT_ HW_ => ?_)
                     generalize wc.drew = w61 at HO_3 HO_18 BK244 BK248 HB hx264_0 hHeld ⊢
                     refine pure_ (i := 0) (N := some 109) (v := ?_) (a' := ?_) #[true, false, false, false, false, false, false, false, false, false, false, false, false, false, false, false, false, false] rfl rfl (any_of HT_.out (by kernel_rfl)) (fun _ _ _ h => h) (Or.inl ⟨by rfl, ?_⟩) ?_ ?_
                     rotate_left
                     ·intro w'
                      go_simp
                      with_reducible rfl
                     rotate_left
                     ·simp only [Act.put, List.setIfInBounds_toArray, List.set_cons_zero, List.set_cons_succ, i64_w, i32_w]
                      rfl
                     refine pure_ (i := 1) (N := some 110) (v := ?_) (a' := ?_) #[true, true, false, false, false, false, false, false, false, false, false, false, false, false, false, false, false, false] rfl rfl (any_of HT_.out (by kernel_rfl)) (fun _ _ _ h => h) (Or.inl ⟨by rfl, ?_⟩) ?_ ?_
                     rotate_left
                     ·intro w'
                      go_simp
                      with_reducible rfl
                     rotate_left
                     ·simp only [Act.put, List.setIfInBounds_toArray, List.set_cons_zero, List.set_cons_succ, i64_w, i32_w]
                      rfl
                     refine pure_ (i := 3) (N := some 112) (v := ?_) (a' := ?_) #[true, true, false, true, false, false, false, false, false, false, false, false, false, false, false, false, false, false] rfl rfl (any_of HT_.out (by kernel_rfl)) (fun _ _ _ h => h) (Or.inl ⟨by rfl, ?_⟩) ?_ ?_
                     rotate_left
                     ·intro w'
                      go_simp
                      with_reducible rfl
                     rotate_left
                     ·simp only [Act.put, List.setIfInBounds_toArray, List.set_cons_zero, List.set_cons_succ, i64_w, i32_w]
                      rfl
                     refine pure_ (i := 4) (N := some 113) (v := ?_) (a' := ?_) #[true, true, false, true, true, false, false, false, false, false, false, false, false, false, false, false, false, false] rfl rfl (any_of HT_.out (by kernel_rfl)) (fun _ _ _ h => h) (Or.inl ⟨by rfl, ?_⟩) ?_ ?_
                     rotate_left
                     ·intro w'
                      go_simp
                      with_reducible rfl
                     rotate_left
                     ·simp only [Act.put, List.setIfInBounds_toArray, List.set_cons_zero, List.set_cons_succ, i64_w, i32_w]
                      rfl
                     refine pure_ (i := 5) (N := some 114) (v := ?_) (a' := ?_) #[true, true, false, true, true, true, false, false, false, false, false, false, false, false, false, false, false, false] rfl rfl (any_of HT_.out (by kernel_rfl)) (fun _ _ _ h => h) (Or.inl ⟨by rfl, ?_⟩) ?_ ?_
                     rotate_left
                     ·intro w'
                      go_simp
                      with_reducible rfl
                     rotate_left
                     ·simp only [Act.put, List.setIfInBounds_toArray, List.set_cons_zero, List.set_cons_succ, i64_w, i32_w]
                      rfl
                     refine pure_ (i := 6) (N := some 115) (v := ?_) (a' := ?_) #[true, true, false, true, true, true, true, false, false, false, false, false, false, false, false, false, false, false] rfl rfl (any_of HT_.out (by kernel_rfl)) (fun _ _ _ h => h) (Or.inl ⟨by rfl, ?_⟩) ?_ ?_
                     rotate_left
                     ·intro w'
                      go_simp
                      with_reducible rfl
                     rotate_left
                     ·simp only [Act.put, List.setIfInBounds_toArray, List.set_cons_zero, List.set_cons_succ, i64_w, i32_w]
                      rfl
                     refine pure_ (i := 10) (N := some 119) (v := ?_) (a' := ?_) #[true, true, false, true, true, true, true, false, false, false, true, false, false, false, false, false, false, false] rfl rfl (any_of HT_.out (by kernel_rfl)) (fun _ _ _ h => h) (Or.inl ⟨by rfl, ?_⟩) ?_ ?_
                     rotate_left
                     ·intro w'
                      go_simp
                      with_reducible rfl
                     rotate_left
                     ·simp only [Act.put, List.setIfInBounds_toArray, List.set_cons_zero, List.set_cons_succ, i64_w, i32_w]
                      rfl
                     refine pure_ (i := 11) (N := some 120) (v := ?_) (a' := ?_) #[true, true, false, true, true, true, true, false, false, false, true, true, false, false, false, false, false, false] rfl rfl (any_of HT_.out (by kernel_rfl)) (fun _ _ _ h => h) (Or.inl ⟨by rfl, ?_⟩) ?_ ?_
                     rotate_left
                     ·intro w'
                      go_simp
                      with_reducible rfl
                     rotate_left
                     ·simp only [Act.put, List.setIfInBounds_toArray, List.set_cons_zero, List.set_cons_succ, i64_w, i32_w]
                      rfl
                     refine take_ (i := 2) (N := some 111) (v := ?_) (a' := ?_) #[true, true, true, true, true, true, true, false, false, false, true, true, false, false, false, false, false, false] rfl rfl (take_ofW HT_.out HW_.out (by kernel_rfl)) (fun _ _ _ h => h) (Or.inl ⟨by rfl, ?_⟩) hHeld ?_ ?_
                     rotate_left
                     ·rintro w' ⟨s0, s1, s2, s3, s4, s5, s6, s7, s8, s9, s10⟩
                      go_simp
                      with_reducible rfl
                     rotate_left
                     ·simp only [Act.put, List.setIfInBounds_toArray, List.set_cons_zero, List.set_cons_succ, i64_w, i32_w]
                      rfl
                     refine take_ (i := 7) (N := some 116) (v := ?_) (a' := ?_) #[true, true, true, true, true, true, true, true, false, false, true, true, false, false, false, false, false, false] rfl rfl (take_ofW HT_.out HW_.out (by kernel_rfl)) (fun _ _ _ h => h) (Or.inl ⟨by rfl, ?_⟩) hHeld ?_ ?_
                     rotate_left
                     ·rintro w' ⟨s0, s1, s2, s3, s4, s5, s6, s7, s8, s9, s10⟩
                      go_simp
                      with_reducible rfl
                     rotate_left
                     ·simp only [Act.put, List.setIfInBounds_toArray, List.set_cons_zero, List.set_cons_succ, i64_w, i32_w]
                      rfl
                     refine pure_ (i := 8) (N := some 117) (v := ?_) (a' := ?_) #[true, true, true, true, true, true, true, true, true, false, true, true, false, false, false, false, false, false] rfl rfl (any_of HT_.out (by kernel_rfl)) (fun _ _ _ h => h) (Or.inl ⟨by rfl, ?_⟩) ?_ ?_
                     rotate_left
                     ·intro w'
                      go_simp
                      with_reducible rfl
                     rotate_left
                     ·simp only [Act.put, List.setIfInBounds_toArray, List.set_cons_zero, List.set_cons_succ, i64_w, i32_w]
                      rfl
                     refine take_ (i := 9) (N := some 118) (v := ?_) (a' := ?_) #[true, true, true, true, true, true, true, true, true, true, true, true, false, false, false, false, false, false] rfl rfl (take_ofW HT_.out HW_.out (by kernel_rfl)) (fun _ _ _ h => h) (Or.inl ⟨by rfl, ?_⟩) hHeld ?_ ?_
                     rotate_left
                     ·rintro w' ⟨s0, s1, s2, s3, s4, s5, s6, s7, s8, s9, s10⟩
                      go_simp
                      with_reducible rfl
                     rotate_left
                     ·simp only [Act.put, List.setIfInBounds_toArray, List.set_cons_zero, List.set_cons_succ, i64_w, i32_w]
                      rfl
                     refine one_ (i := 12) (N := some 121) #[true, true, true, true, true, true, true, true, true, true, true, true, true, false, false, false, false, false] rfl rfl (one_of HT_.out (by kernel_rfl)) (by decide) (fun K hK => ?_)
                     refine goes_ Try.func39 (by kernel_rfl) rfl #[.slice (some ad243) l0.length c0, .int .i64 ((rd_T43 ((rd_T46 l0 a1).f2) x41_2).f3), .slice A2 l2.length c2, .slice Ao31 x3_2.length co31, .int .i64 (rd t249 ((rd_T43 ((rd_T46 l0 a1).f2) x41_2).f2)), .int .i64 (wrap64 (a5 + 1))] (by rfl) rfl rfl (by (try simp only [List.map_toArray, List.map_cons, List.map_nil]); first | done | rfl | (simp only [List.length_drop, List.length_take]; rfl)) ?_
                     with_reducible refine (ih kj25 (by have := HJ8.out; have := HK2.out; have := HJ25.out; omega) _ _ l0 ((rd_T43 ((rd_T46 l0 a1).f2) x41_2).f3) _ _ l2 (fun k_ => ((P3_ k_ ∨ w.heap.size ≤ k_) ∧ (some k_ ≠ (.slice (some ad264) t249.length co62 : Value).ownBlock ∧ (k_ ≠ gb244 ∧ k_ ≠ gb248)))) _ _ x3_2 (rd t249 ((rd_T43 ((rd_T46 l0 a1).f2) x41_2).f2)) (wrap64 (a5 + 1)) t265 t268 t269 _ ?side1 ?side2 ?side3 ?side4 ?side5 A56.out).mono ?_
                     (case side1 => repeat (first | exact (Kd.C_below HR0.out HB.out) | (with_reducible refine Kd.C_alloc ?_ _) | (with_reducible refine Kd.C_drewN ?_ _) | (with_reducible refine Kd.C_drew ?_)))
                     (case side2 => exact HC0.out)
                     (case side3 => repeat (first | exact (Kd.C_below HR2.out HB.out) | (with_reducible refine Kd.C_alloc ?_ _) | (with_reducible refine Kd.C_drewN ?_ _) | (with_reducible refine Kd.C_drew ?_)))
                     (case side4 => exact HC2.out)
                     (case side5 => exact HO_3.out)
                     rintro e w63 ⟨v266, rfl, ho0, hb⟩
                     have HS10_ := (hb.cell (World.block_lt_of_cell? _ _ (hHeld.2.2.2.2.2.2.2.2.2.2))).trans (hHeld.2.2.2.2.2.2.2.2.2.2)
                     refine ⟨_, rfl, ?_⟩
                     have n0_ := Aside0.mk (Kd.V_below (by (with_reducible repeat (first | apply Kd.V_alloc | apply Kd.V_drewN | apply Kd.V_drew)); exact HO_3.out) hb)
                     have n1_ := Aside0.mk (Kd.R_below (by (with_reducible repeat (first | apply Kd.R_alloc | apply Kd.R_drewN | apply Kd.R_drew)); exact HO_18.out) hb)
                     have n2_ := Aside0.mk (Kd.V_lower (Kd.V_mono (ok' := fun k_ => (P3_ k_ ∨ w.heap.size ≤ k_) ∧ some k_ ≠ (.slice (some ad264) t249.length co62 : Value).ownBlock ∧ k_ ≠ gb244 ∧ k_ ≠ gb248) ho0 (fun k_ hk_ => ⟨Or.elim hk_ (fun hs_ => hs_.1) (fun hn_ => (.inr (Nat.le_trans (below_size (by repeat (first | (with_reducible first | exact HB.out | apply below_alloc | apply pw_below_drewN | apply below_drew1 | refine below_set ?_ GE244.out | refine below_set ?_ GE248.out) | exact HB.out))) hn_))), Or.elim hk_ (fun hs_ => hs_.2.1) (fun hn_ => (Kd.fresh' (Kd.R_lt (by (with_reducible repeat (first | apply Kd.R_alloc | apply Kd.R_drewN | apply Kd.R_drew)); exact HO_18.out)) k_ hn_)), Or.elim hk_ (fun hs_ => hs_.2.2.1) (fun hn_ => (Kd.freshB (g := gb244) (o := .cells #[.int .i64 ((rd_T46 l0 a1).f0), .bool ((rd_T46 l0 a1).f1), .slice (some ad247) ((rd_T46 l0 a1).f2).length c243_2] 46 (0, 0)) (by (with_reducible repeat (first | refine blk_drewN ?_ _ | refine blk_drew ?_ | refine blk_alloc ?_ _)); exact BK244.out) k_ hn_)), Or.elim hk_ (fun hs_ => hs_.2.2.2) (fun hn_ => (Kd.freshB (g := gb248) (o := .cells #[.slice A247_0 ((rd_T43 ((rd_T46 l0 a1).f2) x41_2).f0).length c247_0, .slice A247_1 ((rd_T43 ((rd_T46 l0 a1).f2) x41_2).f1).length c247_1, .int .i64 ((rd_T43 ((rd_T46 l0 a1).f2) x41_2).f2), .int .i64 ((rd_T43 ((rd_T46 l0 a1).f2) x41_2).f3), .int .i64 ((rd_T43 ((rd_T46 l0 a1).f2) x41_2).f4.f0), .int .i64 ((rd_T43 ((rd_T46 l0 a1).f2) x41_2).f4.f1), .int .i64 ((rd_T43 ((rd_T46 l0 a1).f2) x41_2).f5.f0), .int .i64 ((rd_T43 ((rd_T46 l0 a1).f2) x41_2).f5.f1), .int .i64 ((rd_T43 ((rd_T46 l0 a1).f2) x41_2).f6.f0), .int .i64 ((rd_T43 ((rd_T46 l0 a1).f2) x41_2).f6.f1)] 43 (0, 0)) (by (with_reducible repeat (first | refine blk_drewN ?_ _ | refine blk_drew ?_ | refine blk_alloc ?_ _)); exact BK248.out) k_ hn_))⟩)) (below_size (by repeat (first | (with_reducible first | exact HB.out | apply below_alloc | apply pw_below_drewN | apply below_drew1 | refine below_set ?_ GE244.out | refine below_set ?_ GE248.out) | exact HB.out))))
                     have n3_ := Aside0.mk (blk_below (g := gb244) (o := .cells #[.int .i64 ((rd_T46 l0 a1).f0), .bool ((rd_T46 l0 a1).f1), .slice (some ad247) ((rd_T46 l0 a1).f2).length c243_2] 46 (0, 0)) (by (with_reducible repeat (first | refine blk_drewN ?_ _ | refine blk_drew ?_ | refine blk_alloc ?_ _)); exact BK244.out) hb)
                     have n4_ := Aside0.mk (blk_below (g := gb248) (o := .cells #[.slice A247_0 ((rd_T43 ((rd_T46 l0 a1).f2) x41_2).f0).length c247_0, .slice A247_1 ((rd_T43 ((rd_T46 l0 a1).f2) x41_2).f1).length c247_1, .int .i64 ((rd_T43 ((rd_T46 l0 a1).f2) x41_2).f2), .int .i64 ((rd_T43 ((rd_T46 l0 a1).f2) x41_2).f3), .int .i64 ((rd_T43 ((rd_T46 l0 a1).f2) x41_2).f4.f0), .int .i64 ((rd_T43 ((rd_T46 l0 a1).f2) x41_2).f4.f1), .int .i64 ((rd_T43 ((rd_T46 l0 a1).f2) x41_2).f5.f0), .int .i64 ((rd_T43 ((rd_T46 l0 a1).f2) x41_2).f5.f1), .int .i64 ((rd_T43 ((rd_T46 l0 a1).f2) x41_2).f6.f0), .int .i64 ((rd_T43 ((rd_T46 l0 a1).f2) x41_2).f6.f1)] 43 (0, 0)) (by (with_reducible repeat (first | refine blk_drewN ?_ _ | refine blk_drew ?_ | refine blk_alloc ?_ _)); exact BK248.out) hb)
                     have n5_ := Aside0.mk (below_step (by repeat (first | (with_reducible first | exact HB.out | apply below_alloc | apply pw_below_drewN | apply below_drew1 | refine below_set ?_ GE244.out | refine below_set ?_ GE248.out) | exact HB.out)) hb)
                     clear HO_3
                     clear HO_18
                     clear BK244
                     clear BK248
                     clear HB
                     have HO_3 := n0_
                     have HO_18 := n1_
                     have HO267 := n2_
                     have BK244 := n3_
                     have BK248 := n4_
                     have HB := n5_
                     clear n0_ n1_ n2_ n3_ n4_ n5_
                     (try clear hb)
                     (try clear hb2)
                     (try clear hk)
                     (try clear hi)
                     (try clear ho0)
                     refine hK.out _ _ ⟨(blk_cell BK248.out 0).trans rfl, (blk_cell BK248.out 1).trans rfl, (blk_cell BK248.out 2).trans rfl, (blk_cell BK248.out 3).trans rfl, (blk_cell BK248.out 4).trans rfl, (blk_cell BK248.out 5).trans rfl, (blk_cell BK248.out 6).trans rfl, (blk_cell BK248.out 7).trans rfl, (blk_cell BK248.out 8).trans rfl, (blk_cell BK248.out 9).trans rfl, HS10_⟩ (fun hHeld => ?_)
                     clear hK K
                     refine norm_ (a' := ?_) ?_ ?_
                     rotate_left
                     ·show Act.put _ (some 121) _ = _
                      simp only [Act.put, List.setIfInBounds_toArray, List.set_cons_zero, List.set_cons_succ, i64_w, i32_w]
                      rfl
                     refine pure_ (i := 13) (N := some 108) (v := ?_) (a' := ?_) #[true, true, true, true, true, true, true, true, true, true, true, true, true, true, false, false, false, false] rfl rfl (any_of HT_.out (by kernel_rfl)) (fun _ _ _ h => h) (Or.inl ⟨by rfl, ?_⟩) ?_ ?_
                     rotate_left
                     ·intro w'
                      go_simp
                      with_reducible rfl
                     rotate_left
                     ·simp only [Act.put, List.setIfInBounds_toArray, List.set_cons_zero, List.set_cons_succ, i64_w, i32_w]
                      rfl
                     refine pure_ (i := 14) (N := some 122) (v := ?_) (a' := ?_) #[true, true, true, true, true, true, true, true, true, true, true, true, true, true, true, false, false, false] rfl rfl (any_of HT_.out (by kernel_rfl)) (fun _ _ _ h => h) (Or.inl ⟨by rfl, ?_⟩) ?_ ?_
                     rotate_left
                     ·intro w'
                      go_simp
                      with_reducible rfl
                     rotate_left
                     ·simp only [Act.put, List.setIfInBounds_toArray, List.set_cons_zero, List.set_cons_succ, i64_w, i32_w]
                      rfl
                     refine pure_ (i := 15) (N := some 123) (v := ?_) (a' := ?_) #[true, true, true, true, true, true, true, true, true, true, true, true, true, true, true, true, false, false] rfl rfl (any_of HT_.out (by kernel_rfl)) (fun _ _ _ h => h) (Or.inl ⟨by rfl, ?_⟩) ?_ ?_
                     rotate_left
                     ·intro w'
                      go_simp
                      with_reducible rfl
                     rotate_left
                     ·simp only [Act.put, List.setIfInBounds_toArray, List.set_cons_zero, List.set_cons_succ, i64_w, i32_w]
                      rfl
                     refine pure_ (i := 16) (N := some 124) (v := ?_) (a' := ?_) #[true, true, true, true, true, true, true, true, true, true, true, true, true, true, true, true, true, false] rfl rfl (any_of HT_.out (by kernel_rfl)) (fun _ _ _ h => h) (Or.inl ⟨by rfl, ?_⟩) ?_ ?_
                     rotate_left
                     ·intro w'
                      go_simp
                      with_reducible rfl
                     rotate_left
                     ·simp only [Act.put, List.setIfInBounds_toArray, List.set_cons_zero, List.set_cons_succ, i64_w, i32_w]
                      rfl
                     refine pure_ (i := 17) (N := some 3) (v := ?_) (a' := ?_) #[true, true, true, true, true, true, true, true, true, true, true, true, true, true, true, true, true, true] rfl rfl (any_of HT_.out (by kernel_rfl)) (fun _ _ _ h => h) (Or.inl ⟨by rfl, ?_⟩) ?_ ?_
                     rotate_left
                     ·intro w'
                      go_simp
                      with_reducible rfl
                     rotate_left
                     ·simp only [Act.put, List.setIfInBounds_toArray, List.set_cons_zero, List.set_cons_succ, i64_w, i32_w]
                      rfl
                     refine done_ (done_of HT_.out (by kernel_rfl)) ?_
                     try go_wp2
                     have n0_ := Aside0.mk (Kd.V_drew HO_3.out)
                     have n1_ := Aside0.mk (Kd.R_drew HO_18.out)
                     have n2_ := Aside0.mk (Kd.V_drew HO267.out)
                     have n3_ := Aside0.mk (blk_drew BK244.out)
                     have n4_ := Aside0.mk (blk_drew BK248.out)
                     have n5_ := Aside0.mk (below_drew1 HB.out)
                     clear HO_3
                     clear HO_18
                     clear HO267
                     clear BK244
                     clear BK248
                     clear HB
                     have HO_3 := n0_
                     have HO_18 := n1_
                     have HO267 := n2_
                     have BK244 := n3_
                     have BK248 := n4_
                     have HB := n5_
                     clear n0_ n1_ n2_ n3_ n4_ n5_
                     have p270 : 0 ≤ ((ji57) : Int) := of_decide_eq_true (by first | (with_reducible assumption) | assumption)
                     have q270 : (ji57) < (t249.length : Int) := of_decide_eq_true (by first | (with_reducible assumption) | assumption)
                     obtain ⟨ad270, e270, hx270_0⟩ := Kd.at_int (Kd.R_reads' HO_18.out).2.2 (ji57) p270 q270
                     obtain rfl : ad264 = ad270 := (by injection e270)
                     replace p270 := eq_true p270
                     replace q270 := eq_true q270
                     obtain ⟨Ao65, co65, eo65⟩ := Kd.V_slice HO267.out
                     (first | subst eo65 | (injection eo65 with f1_ f2_ f3_; have f4_ := f1_.symm; have f5_ := f3_.symm; clear f1_ f2_ f3_; subst f4_; subst f5_))
                     refine start_ (n := 18) (S := fun w' => w'.cell? (ad264.add ((ji57)).toNat) = some (.int .i64 (rd t249 (ji57)))) (ds := []) #[false, false, false, false, false, false, false, false, false, false, false, false, false, false, false, false, false, false] (by kernel_rfl) rfl rfl (hx270_0) (fun hHeld => ?_); refine with_tabW subst_one.tab22 subst_one.bits22 (fun HT_ HW_ => ?_)
                     generalize w63.drew = w64 at HO_3 HO_18 HO267 BK244 BK248 HB hx270_0 hHeld ⊢
                     refine pure_ (i := 0) (N := some 125) (v := ?_) (a' := ?_) #[true, false, false, false, false, false, false, false, false, false, false, false, false, false, false, false, false, false] rfl rfl (any_of HT_.out (by kernel_rfl)) (fun _ _ _ h => h) (Or.inl ⟨by rfl, ?_⟩) ?_ ?_
                     rotate_left
                     ·intro w'
                      go_simp
                      with_reducible rfl
                     rotate_left
                     ·simp only [Act.put, List.setIfInBounds_toArray, List.set_cons_zero, List.set_cons_succ, i64_w, i32_w]
                      rfl
                     refine pure_ (i := 1) (N := some 126) (v := ?_) (a' := ?_) #[true, true, false, false, false, false, false, false, false, false, false, false, false, false, false, false, false, false] rfl rfl (any_of HT_.out (by kernel_rfl)) (fun _ _ _ h => h) (Or.inl ⟨by rfl, ?_⟩) ?_ ?_
                     rotate_left
                     ·intro w'
                      go_simp
                      with_reducible rfl
                     rotate_left
                     ·simp only [Act.put, List.setIfInBounds_toArray, List.set_cons_zero, List.set_cons_succ, i64_w, i32_w]
                      rfl
                     refine pure_ (i := 2) (N := some 127) (v := ?_) (a' := ?_) #[true, true, true, false, false, false, false, false, false, false, false, false, false, false, false, false, false, false] rfl rfl (any_of HT_.out (by kernel_rfl)) (fun _ _ _ h => h) (Or.inl ⟨by rfl, ?_⟩) ?_ ?_
                     rotate_left
                     ·intro w'
                      go_simp
                      with_reducible rfl
                     rotate_left
                     ·simp only [Act.put, List.setIfInBounds_toArray, List.set_cons_zero, List.set_cons_succ, i64_w, i32_w]
                      rfl
                     refine pure_ (i := 3) (N := some 128) (v := ?_) (a' := ?_) #[true, true, true, true, false, false, false, false, false, false, false, false, false, false, false, false, false, false] rfl rfl (any_of HT_.out (by kernel_rfl)) (fun _ _ _ h => h) (Or.inl ⟨by rfl, ?_⟩) ?_ ?_
                     rotate_left
                     ·intro w'
                      go_simp
                      with_reducible rfl
                     rotate_left
                     ·simp only [Act.put, List.setIfInBounds_toArray, List.set_cons_zero, List.set_cons_succ, i64_w, i32_w]
                      rfl
                     refine pure_ (i := 4) (N := some 129) (v := ?_) (a' := ?_) #[true, true, true, true, true, false, false, false, false, false, false, false, false, false, false, false, false, false] rfl rfl (any_of HT_.out (by kernel_rfl)) (fun _ _ _ h => h) (Or.inl ⟨by rfl, ?_⟩) ?_ ?_
                     rotate_left
                     ·intro w'
                      go_simp
                      with_reducible rfl
                     rotate_left
                     ·simp only [Act.put, List.setIfInBounds_toArray, List.set_cons_zero, List.set_cons_succ, i64_w, i32_w]
                      rfl
                     refine pure_ (i := 5) (N := some 130) (v := ?_) (a' := ?_) #[true, true, true, true, true, true, false, false, false, false, false, false, false, false, false, false, false, false] rfl rfl (any_of HT_.out (by kernel_rfl)) (fun _ _ _ h => h) (Or.inl ⟨by rfl, ?_⟩) ?_ ?_
                     rotate_left
                     ·intro w'
                      go_simp
                      with_reducible rfl
                     rotate_left
                     ·simp only [Act.put, List.setIfInBounds_toArray, List.set_cons_zero, List.set_cons_succ, i64_w, i32_w]
                      rfl
                     refine pure_ (i := 6) (N := some 131) (v := ?_) (a' := ?_) #[true, true, true, true, true, true, true, false, false, false, false, false, false, false, false, false, false, false] rfl rfl (any_of HT_.out (by kernel_rfl)) (fun _ _ _ h => h) (Or.inl ⟨by rfl, ?_⟩) ?_ ?_
                     rotate_left
                     ·intro w'
                      go_simp
                      with_reducible rfl
                     rotate_left
                     ·simp only [Act.put, List.setIfInBounds_toArray, List.set_cons_zero, List.set_cons_succ, i64_w, i32_w]
                      rfl
                     refine pure_ (i := 9) (N := some 134) (v := ?_) (a' := ?_) #[true, true, true, true, true, true, true, false, false, true, false, false, false, false, false, false, false, false] rfl rfl (any_of HT_.out (by kernel_rfl)) (fun _ _ _ h => h) (Or.inl ⟨by rfl, ?_⟩) ?_ ?_
                     rotate_left
                     ·intro w'
                      go_simp
                      with_reducible rfl
                     rotate_left
                     ·simp only [Act.put, List.setIfInBounds_toArray, List.set_cons_zero, List.set_cons_succ, i64_w, i32_w]
                      rfl
                     refine pure_ (i := 10) (N := some 135) (v := ?_) (a' := ?_) #[true, true, true, true, true, true, true, false, false, true, true, false, false, false, false, false, false, false] rfl rfl (any_of HT_.out (by kernel_rfl)) (fun _ _ _ h => h) (Or.inl ⟨by rfl, ?_⟩) ?_ ?_
                     rotate_left
                     ·intro w'
                      go_simp
                      with_reducible rfl
                     rotate_left
                     ·simp only [Act.put, List.setIfInBounds_toArray, List.set_cons_zero, List.set_cons_succ, i64_w, i32_w]
                      rfl
                     refine pure_ (i := 12) (N := some 137) (v := ?_) (a' := ?_) #[true, true, true, true, true, true, true, false, false, true, true, false, true, false, false, false, false, false] rfl rfl (any_of HT_.out (by kernel_rfl)) (fun _ _ _ h => h) (Or.inl ⟨by rfl, ?_⟩) ?_ ?_
                     rotate_left
                     ·intro w'
                      go_simp
                      with_reducible rfl
                     rotate_left
                     ·simp only [Act.put, List.setIfInBounds_toArray, List.set_cons_zero, List.set_cons_succ, i64_w, i32_w]
                      rfl
                     refine pure_ (i := 15) (N := some 12) (v := ?_) (a' := ?_) #[true, true, true, true, true, true, true, false, false, true, true, false, true, false, false, true, false, false] rfl rfl (any_of HT_.out (by kernel_rfl)) (fun _ _ _ h => h) (Or.inl ⟨by rfl, ?_⟩) ?_ ?_
                     rotate_left
                     ·intro w'
                      go_simp
                      with_reducible rfl
                     rotate_left
                     ·simp only [Act.put, List.setIfInBounds_toArray, List.set_cons_zero, List.set_cons_succ, i64_w, i32_w]
                      rfl
                     refine take_ (i := 7) (N := some 132) (v := ?_) (a' := ?_) #[true, true, true, true, true, true, true, true, false, true, true, false, true, false, false, true, false, false] rfl rfl (take_ofW HT_.out HW_.out (by kernel_rfl)) (fun _ _ _ h => h) (Or.inl ⟨by rfl, ?_⟩) hHeld ?_ ?_
                     rotate_left
                     ·intro w' s0
                      go_simp
                      with_reducible rfl
                     rotate_left
                     ·simp only [Act.put, List.setIfInBounds_toArray, List.set_cons_zero, List.set_cons_succ, i64_w, i32_w]
                      rfl
                     refine pure_ (i := 8) (N := some 133) (v := ?_) (a' := ?_) #[true, true, true, true, true, true, true, true, true, true, true, false, true, false, false, true, false, false] rfl rfl (any_of HT_.out (by kernel_rfl)) (fun _ _ _ h => h) (Or.inl ⟨by rfl, ?_⟩) ?_ ?_
                     rotate_left
                     ·intro w'
                      go_simp
                      with_reducible rfl
                     rotate_left
                     ·simp only [Act.put, List.setIfInBounds_toArray, List.set_cons_zero, List.set_cons_succ, i64_w, i32_w]
                      rfl
                     refine pure_ (i := 11) (N := some 136) (v := ?_) (a' := ?_) #[true, true, true, true, true, true, true, true, true, true, true, true, true, false, false, true, false, false] rfl rfl (any_of HT_.out (by kernel_rfl)) (fun _ _ _ h => h) (Or.inl ⟨by rfl, ?_⟩) ?_ ?_
                     rotate_left
                     ·intro w'
                      go_simp
                      with_reducible rfl
                     rotate_left
                     ·simp only [Act.put, List.setIfInBounds_toArray, List.set_cons_zero, List.set_cons_succ, i64_w, i32_w]
                      rfl
                     refine pure_ (i := 13) (N := some 138) (v := ?_) (a' := ?_) #[true, true, true, true, true, true, true, true, true, true, true, true, true, true, false, true, false, false] rfl rfl (any_of HT_.out (by kernel_rfl)) (fun _ _ _ h => h) (Or.inl ⟨by rfl, ?_⟩) ?_ ?_
                     rotate_left
                     ·intro w'
                      go_simp
                      with_reducible rfl
                     rotate_left
                     ·simp only [Act.put, List.setIfInBounds_toArray, List.set_cons_zero, List.set_cons_succ, i64_w, i32_w]
                      rfl
                     refine pure_ (i := 14) (N := some 139) (v := ?_) (a' := ?_) #[true, true, true, true, true, true, true, true, true, true, true, true, true, true, true, true, false, false] rfl rfl (any_of HT_.out (by kernel_rfl)) (fun _ _ _ h => h) (Or.inl ⟨by rfl, ?_⟩) ?_ ?_
                     rotate_left
                     ·intro w'
                      go_simp
                      with_reducible rfl
                     rotate_left
                     ·simp only [Act.put, List.setIfInBounds_toArray, List.set_cons_zero, List.set_cons_succ, i64_w, i32_w]
                      rfl
                     refine pure_ (i := 16) (N := some 13) (v := ?_) (a' := ?_) #[true, true, true, true, true, true, true, true, true, true, true, true, true, true, true, true, true, false] rfl rfl (any_of HT_.out (by kernel_rfl)) (fun _ _ _ h => h) (Or.inl ⟨by rfl, ?_⟩) ?_ ?_
                     rotate_left
                     ·intro w'
                      go_simp
                      with_reducible rfl
                     rotate_left
                     ·simp only [Act.put, List.setIfInBounds_toArray, List.set_cons_zero, List.set_cons_succ, i64_w, i32_w]
                      rfl
                     refine pure_ (i := 17) (N := some 14) (v := ?_) (a' := ?_) #[true, true, true, true, true, true, true, true, true, true, true, true, true, true, true, true, true, true] rfl rfl (any_of HT_.out (by kernel_rfl)) (fun _ _ _ h => h) (Or.inl ⟨by rfl, ?_⟩) ?_ ?_
                     rotate_left
                     ·intro w'
                      go_simp
                      with_reducible rfl
                     rotate_left
                     ·simp only [Act.put, List.setIfInBounds_toArray, List.set_cons_zero, List.set_cons_succ, i64_w, i32_w]
                      rfl
                     refine done_ (done_of HT_.out (by kernel_rfl)) ?_
                     try go_wp2
                     go_ret3
                     exact ⟨_, by first | rfl | (simp [errW_none, errW_some] <;> rfl) | (simp only [← hji57, ← hji60]; first | rfl | (simp [errW_none, errW_some] <;> rfl)) | (simp [*, errW_none, errW_some] <;> rfl), by (with_reducible repeat (first | apply Kd.V_alloc | apply Kd.V_drewN | apply Kd.V_drew)); exact Kd.V_mono HO267.out (fun _ hk => hk.1), by repeat (first | (with_reducible first | exact HB.out | apply below_alloc | apply pw_below_drewN | apply below_drew1 | refine below_set ?_ GE244.out | refine below_set ?_ GE248.out) | exact HB.out)⟩
                    ·rw [if_neg c59] at H
                     exact absurd H (by simp)
                   ·rw [if_neg c58] at H
                    exact absurd H (by simp)
                  ·rw [if_neg c55] at H
                   exact absurd H (by simp)
                 ·rw [if_neg c54] at H
                  exact absurd H (by simp)
                ·rw [if_neg c53] at H
                 have c53b0 : decide (a5 < 8) = false := decide_eq_false c53
                 clear c53
                 obtain ⟨ji66, hji66⟩ : ∃ j_ : Int, (wrap64 ((t249.length : Int) - 1)) = j_ := ⟨_, rfl⟩
                 replace H : (if 0 ≤ (ji66) then (if (ji66) < (t249.length : Int) then (some (x3_2, mx a4 (wrap64 ((wrap64 ((wrap64 ((rd t249 (ji66)) + 1)) + (x3_2.length : Int))) - (x3_2.length : Int))), true)) else (none)) else (none)) = some (r1, r2, r3) := by first | (rw [hji66] at H; exact H) | (simp only [hji66] at H ⊢; exact H)
                 have hji66w : (IntKind.i64.wrap ((t249.length : Int) - 1)) = ji66 := (i64_w _).trans hji66
                 by_cases c67 : 0 ≤ (ji66)
                 ·rw [if_pos c67] at H
                  have c67b0 : decide (0 ≤ (ji66)) = true := decide_eq_true c67
                  clear c67
                  by_cases c68 : (ji66) < (t249.length : Int)
                  ·rw [if_pos c68] at H
                   have c68b0 : decide ((ji66) < (t249.length : Int)) = true := decide_eq_true c68
                   clear c68
                   obtain ⟨ji69, hji69⟩ : ∃ j_ : Int, (mx a4 (wrap64 ((wrap64 ((wrap64 ((rd t249 (ji66)) + 1)) + (x3_2.length : Int))) - (x3_2.length : Int)))) = j_ := ⟨_, rfl⟩
                   replace H : (some (x3_2, ji69, true)) = some (r1, r2, r3) := by first | (rw [hji69] at H; exact H) | (simp only [hji69] at H ⊢; exact H)
                   have hji69_ : (if a4 < (wrap64 ((wrap64 ((wrap64 ((rd t249 (ji66)) + 1)) + (x3_2.length : Int))) - (x3_2.length : Int))) then (wrap64 ((wrap64 ((wrap64 ((rd t249 (ji66)) + 1)) + (x3_2.length : Int))) - (x3_2.length : Int))) else a4) = ji69 := hji69
                   (try (have hji69_n := hji69_; simp only [Int.ofNat_lt] at hji69_n))
                   simp only [Option.some.injEq, Prod.mk.injEq] at H
                   obtain ⟨rfl, rfl, rfl⟩ := H
                   try go_wp2
                   have n0_ := Aside0.mk (Kd.V_drew HO_3.out)
                   have n1_ := Aside0.mk (Kd.R_drew HO_18.out)
                   have n2_ := Aside0.mk (blk_drew BK244.out)
                   have n3_ := Aside0.mk (blk_drew BK248.out)
                   have n4_ := Aside0.mk (below_drew1 HB.out)
                   clear HO_3
                   clear HO_18
                   clear BK244
                   clear BK248
                   clear HB
                   have HO_3 := n0_
                   have HO_18 := n1_
                   have BK244 := n2_
                   have BK248 := n3_
                   have HB := n4_
                   clear n0_ n1_ n2_ n3_ n4_
                   obtain ⟨Ao71, co71, eo71⟩ := Kd.R_slice HO_18.out
                   (first | subst eo71 | (injection eo71 with f1_ f2_ f3_; have f4_ := f1_.symm; have f5_ := f3_.symm; clear f1_ f2_ f3_; subst f4_; subst f5_))
                   have p271 : 0 ≤ ((ji66) : Int) := of_decide_eq_true (by first | (with_reducible assumption) | assumption)
                   have q271 : (ji66) < (t249.length : Int) := of_decide_eq_true (by first | (with_reducible assumption) | assumption)
                   obtain ⟨ad271, e271, hx271_0⟩ := Kd.at_int (Kd.R_reads' HO_18.out).2.2 (ji66) p271 q271
                   cases e271
                   replace p271 := eq_true p271
                   replace q271 := eq_true q271
                   refine start_ (n := 18) (S := fun w' => w'.cell? (ad271.add ((ji66)).toNat) = some (.int .i64 (rd t249 (ji66)))) (ds := []) #[false, false, false, false, false, false, false, false, false, false, false, false, false, false, false, false, false, false] (by kernel_rfl) rfl rfl (hx271_0) (fun hHeld => ?_); refine with_tabW subst_one.tab22 subst_one.bits22 (fun HT_ HW_ => ?_)
                   generalize wc.drew = w70 at HO_3 HO_18 BK244 BK248 HB hx271_0 hHeld ⊢
                   refine pure_ (i := 0) (N := some 125) (v := ?_) (a' := ?_) #[true, false, false, false, false, false, false, false, false, false, false, false, false, false, false, false, false, false] rfl rfl (any_of HT_.out (by kernel_rfl)) (fun _ _ _ h => h) (Or.inl ⟨by rfl, ?_⟩) ?_ ?_
                   rotate_left
                   ·intro w'
                    go_simp
                    with_reducible rfl
                   rotate_left
                   ·simp only [Act.put, List.setIfInBounds_toArray, List.set_cons_zero, List.set_cons_succ, i64_w, i32_w]
                    rfl
                   refine pure_ (i := 1) (N := some 126) (v := ?_) (a' := ?_) #[true, true, false, false, false, false, false, false, false, false, false, false, false, false, false, false, false, false] rfl rfl (any_of HT_.out (by kernel_rfl)) (fun _ _ _ h => h) (Or.inl ⟨by rfl, ?_⟩) ?_ ?_
                   rotate_left
                   ·intro w'
                    go_simp
                    with_reducible rfl
                   rotate_left
                   ·simp only [Act.put, List.setIfInBounds_toArray, List.set_cons_zero, List.set_cons_succ, i64_w, i32_w]
                    rfl
                   refine pure_ (i := 2) (N := some 127) (v := ?_) (a' := ?_) #[true, true, true, false, false, false, false, false, false, false, false, false, false, false, false, false, false, false] rfl rfl (any_of HT_.out (by kernel_rfl)) (fun _ _ _ h => h) (Or.inl ⟨by rfl, ?_⟩) ?_ ?_
                   rotate_left
                   ·intro w'
                    go_simp
                    with_reducible rfl
                   rotate_left
                   ·simp only [Act.put, List.setIfInBounds_toArray, List.set_cons_zero, List.set_cons_succ, i64_w, i32_w]
                    rfl
                   refine pure_ (i := 3) (N := some 128) (v := ?_) (a' := ?_) #[true, true, true, true, false, false, false, false, false, false, false, false, false, false, false, false, false, false] rfl rfl (any_of HT_.out (by kernel_rfl)) (fun _ _ _ h => h) (Or.inl ⟨by rfl, ?_⟩) ?_ ?_
                   rotate_left
                   ·intro w'
                    go_simp
                    with_reducible rfl
                   rotate_left
                   ·simp only [Act.put, List.setIfInBounds_toArray, List.set_cons_zero, List.set_cons_succ, i64_w, i32_w]
                    rfl
                   refine pure_ (i := 4) (N := some 129) (v := ?_) (a' := ?_) #[true, true, true, true, true, false, false, false, false, false, false, false, false, false, false, false, false, false] rfl rfl (any_of HT_.out (by kernel_rfl)) (fun _ _ _ h => h) (Or.inl ⟨by rfl, ?_⟩) ?_ ?_
                   rotate_left
                   ·intro w'
                    go_simp
                    with_reducible rfl
                   rotate_left
                   ·simp only [Act.put, List.setIfInBounds_toArray, List.set_cons_zero, List.set_cons_succ, i64_w, i32_w]
                    rfl
                   refine pure_ (i := 5) (N := some 130) (v := ?_) (a' := ?_) #[true, true, true, true, true, true, false, false, false, false, false, false, false, false, false, false, false, false] rfl rfl (any_of HT_.out (by kernel_rfl)) (fun _ _ _ h => h) (Or.inl ⟨by rfl, ?_⟩) ?_ ?_
                   rotate_left
                   ·intro w'
                    go_simp
                    with_reducible rfl
                   rotate_left
                   ·simp only [Act.put, List.setIfInBounds_toArray, List.set_cons_zero, List.set_cons_succ, i64_w, i32_w]
                    rfl
                   refine pure_ (i := 6) (N := some 131) (v := ?_) (a' := ?_) #[true, true, true, true, true, true, true, false, false, false, false, false, false, false, false, false, false, false] rfl rfl (any_of HT_.out (by kernel_rfl)) (fun _ _ _ h => h) (Or.inl ⟨by rfl, ?_⟩) ?_ ?_
                   rotate_left
                   ·intro w'
                    go_simp
                    with_reducible rfl
                   rotate_left
                   ·simp only [Act.put, List.setIfInBounds_toArray, List.set_cons_zero, List.set_cons_succ, i64_w, i32_w]
                    rfl
                   refine pure_ (i := 9) (N := some 134) (v := ?_) (a' := ?_) #[true, true, true, true, true, true, true, false, false, true, false, false, false, false, false, false, false, false] rfl rfl (any_of HT_.out (by kernel_rfl)) (fun _ _ _ h => h) (Or.inl ⟨by rfl, ?_⟩) ?_ ?_
                   rotate_left
                   ·intro w'
                    go_simp
                    with_reducible rfl
                   rotate_left
                   ·simp only [Act.put, List.setIfInBounds_toArray, List.set_cons_zero, List.set_cons_succ, i64_w, i32_w]
                    rfl
                   refine pure_ (i := 10) (N := some 135) (v := ?_) (a' := ?_) #[true, true, true, true, true, true, true, false, false, true, true, false, false, false, false, false, false, false] rfl rfl (any_of HT_.out (by kernel_rfl)) (fun _ _ _ h => h) (Or.inl ⟨by rfl, ?_⟩) ?_ ?_
                   rotate_left
                   ·intro w'
                    go_simp
                    with_reducible rfl
                   rotate_left
                   ·simp only [Act.put, List.setIfInBounds_toArray, List.set_cons_zero, List.set_cons_succ, i64_w, i32_w]
                    rfl
                   refine pure_ (i := 12) (N := some 137) (v := ?_) (a' := ?_) #[true, true, true, true, true, true, true, false, false, true, true, false, true, false, false, false, false, false] rfl rfl (any_of HT_.out (by kernel_rfl)) (fun _ _ _ h => h) (Or.inl ⟨by rfl, ?_⟩) ?_ ?_
                   rotate_left
                   ·intro w'
                    go_simp
                    with_reducible rfl
                   rotate_left
                   ·simp only [Act.put, List.setIfInBounds_toArray, List.set_cons_zero, List.set_cons_succ, i64_w, i32_w]
                    rfl
                   refine pure_ (i := 15) (N := some 12) (v := ?_) (a' := ?_) #[true, true, true, true, true, true, true, false, false, true, true, false, true, false, false, true, false, false] rfl rfl (any_of HT_.out (by kernel_rfl)) (fun _ _ _ h => h) (Or.inl ⟨by rfl, ?_⟩) ?_ ?_
                   rotate_left
                   ·intro w'
                    go_simp
                    with_reducible rfl
                   rotate_left
                   ·simp only [Act.put, List.setIfInBounds_toArray, List.set_cons_zero, List.set_cons_succ, i64_w, i32_w]
                    rfl
                   refine take_ (i := 7) (N := some 132) (v := ?_) (a' := ?_) #[true, true, true, true, true, true, true, true, false, true, true, false, true, false, false, true, false, false] rfl rfl (take_ofW HT_.out HW_.out (by kernel_rfl)) (fun _ _ _ h => h) (Or.inl ⟨by rfl, ?_⟩) hHeld ?_ ?_
                   rotate_left
                   ·intro w' s0
                    go_simp
                    with_reducible rfl
                   rotate_left
                   ·simp only [Act.put, List.setIfInBounds_toArray, List.set_cons_zero, List.set_cons_succ, i64_w, i32_w]
                    rfl
                   refine pure_ (i := 8) (N := some 133) (v := ?_) (a' := ?_) #[true, true, true, true, true, true, true, true, true, true, true, false, true, false, false, true, false, false] rfl rfl (any_of HT_.out (by kernel_rfl)) (fun _ _ _ h => h) (Or.inl ⟨by rfl, ?_⟩) ?_ ?_
                   rotate_left
                   ·intro w'
                    go_simp
                    with_reducible rfl
                   rotate_left
                   ·simp only [Act.put, List.setIfInBounds_toArray, List.set_cons_zero, List.set_cons_succ, i64_w, i32_w]
                    rfl
                   refine pure_ (i := 11) (N := some 136) (v := ?_) (a' := ?_) #[true, true, true, true, true, true, true, true, true, true, true, true, true, false, false, true, false, false] rfl rfl (any_of HT_.out (by kernel_rfl)) (fun _ _ _ h => h) (Or.inl ⟨by rfl, ?_⟩) ?_ ?_
                   rotate_left
                   ·intro w'
                    go_simp
                    with_reducible rfl
                   rotate_left
                   ·simp only [Act.put, List.setIfInBounds_toArray, List.set_cons_zero, List.set_cons_succ, i64_w, i32_w]
                    rfl
                   refine pure_ (i := 13) (N := some 138) (v := ?_) (a' := ?_) #[true, true, true, true, true, true, true, true, true, true, true, true, true, true, false, true, false, false] rfl rfl (any_of HT_.out (by kernel_rfl)) (fun _ _ _ h => h) (Or.inl ⟨by rfl, ?_⟩) ?_ ?_
                   rotate_left
                   ·intro w'
                    go_simp
                    with_reducible rfl
                   rotate_left
                   ·simp only [Act.put, List.setIfInBounds_toArray, List.set_cons_zero, List.set_cons_succ, i64_w, i32_w]
                    rfl
                   refine pure_ (i := 14) (N := some 139) (v := ?_) (a' := ?_) #[true, true, true, true, true, true, true, true, true, true, true, true, true, true, true, true, false, false] rfl rfl (any_of HT_.out (by kernel_rfl)) (fun _ _ _ h => h) (Or.inl ⟨by rfl, ?_⟩) ?_ ?_
                   rotate_left
                   ·intro w'
                    go_simp
                    with_reducible rfl
                   rotate_left
                   ·simp only [Act.put, List.setIfInBounds_toArray, List.set_cons_zero, List.set_cons_succ, i64_w, i32_w]
                    rfl
                   refine pure_ (i := 16) (N := some 13) (v := ?_) (a' := ?_) #[true, true, true, true, true, true, true, true, true, true, true, true, true, true, true, true, true, false] rfl rfl (any_of HT_.out (by kernel_rfl)) (fun _ _ _ h => h) (Or.inl ⟨by rfl, ?_⟩) ?_ ?_
                   rotate_left
                   ·intro w'
                    go_simp
                    with_reducible rfl
                   rotate_left
                   ·simp only [Act.put, List.setIfInBounds_toArray, List.set_cons_zero, List.set_cons_succ, i64_w, i32_w]
                    rfl
                   refine pure_ (i := 17) (N := some 14) (v := ?_) (a' := ?_) #[true, true, true, true, true, true, true, true, true, true, true, true, true, true, true, true, true, true] rfl rfl (any_of HT_.out (by kernel_rfl)) (fun _ _ _ h => h) (Or.inl ⟨by rfl, ?_⟩) ?_ ?_
                   rotate_left
                   ·intro w'
                    go_simp
                    with_reducible rfl
                   rotate_left
                   ·simp only [Act.put, List.setIfInBounds_toArray, List.set_cons_zero, List.set_cons_succ, i64_w, i32_w]
                    rfl
                   refine done_ (done_of HT_.out (by kernel_rfl)) ?_
                   try go_wp2
                   go_ret3
                   exact ⟨_, by first | rfl | (simp [errW_none, errW_some] <;> rfl) | (simp only [← hji66, ← hji69]; first | rfl | (simp [errW_none, errW_some] <;> rfl)) | (simp [*, errW_none, errW_some] <;> rfl), by (with_reducible repeat (first | apply Kd.V_alloc | apply Kd.V_drewN | apply Kd.V_drew)); exact Kd.V_mono HO_3.out (fun _ hk => hk.1), by repeat (first | (with_reducible first | exact HB.out | apply below_alloc | apply pw_below_drewN | apply below_drew1 | refine below_set ?_ GE244.out | refine below_set ?_ GE248.out) | exact HB.out)⟩
                  ·rw [if_neg c68] at H
                   exact absurd H (by simp)
                 ·rw [if_neg c67] at H
                  exact absurd H (by simp)
           ·replace c25 := Bool.eq_false_iff.mpr c25
            subst c25
            have H1 : (subst_one.l0 k2 l0 l2 x3_2 a4 a5 ((rd_T46 l0 a1).f2) (((rd_T46 l0 a1).f2).length : Int) (wrap64 (x41_2 + 1)) ((rd_T46 l0 a1).f0) ((rd_T46 l0 a1).f1) ((rd_T46 l0 a1).f2)) = some (r1, r2, r3) := by rw [if_neg (show ¬ (false = true) by decide)] at H; exact H
            clear H
            have H := H1
            clear H1
            have H' := Aside0.mk H
            clear H
            have p247 : 0 ≤ (x41_2 : Int) := of_decide_eq_true (by first | (with_reducible assumption) | assumption)
            have q247 : x41_2 < (((rd_T46 l0 a1).f2).length : Int) := of_decide_eq_true (by first | (with_reducible assumption) | assumption)
            obtain ⟨ad247, A247_0, c247_0, A247_1, c247_1, e247, hx247_0, hx247_1, hx247_2, hx247_3, hx247_4, hx247_5, hx247_6, hx247_7, hx247_8, hx247_9, hl247_0, hi247_0, hl247_1, hi247_1⟩ := at_T43 HR243_2.out x41_2 p247 q247
            cases e247
            replace hx247_0 := (HB.out.cell (World.block_lt_of_cell? w _ hx247_0)).trans hx247_0
            replace hx247_1 := (HB.out.cell (World.block_lt_of_cell? w _ hx247_1)).trans hx247_1
            replace hx247_2 := (HB.out.cell (World.block_lt_of_cell? w _ hx247_2)).trans hx247_2
            replace hx247_3 := (HB.out.cell (World.block_lt_of_cell? w _ hx247_3)).trans hx247_3
            replace hx247_4 := (HB.out.cell (World.block_lt_of_cell? w _ hx247_4)).trans hx247_4
            replace hx247_5 := (HB.out.cell (World.block_lt_of_cell? w _ hx247_5)).trans hx247_5
            replace hx247_6 := (HB.out.cell (World.block_lt_of_cell? w _ hx247_6)).trans hx247_6
            replace hx247_7 := (HB.out.cell (World.block_lt_of_cell? w _ hx247_7)).trans hx247_7
            replace hx247_8 := (HB.out.cell (World.block_lt_of_cell? w _ hx247_8)).trans hx247_8
            replace hx247_9 := (HB.out.cell (World.block_lt_of_cell? w _ hx247_9)).trans hx247_9
            have HR247_0 := Aside0.mk hi247_0
            have HC247_0 := Aside0.mk hl247_0
            clear hi247_0 hl247_0
            have HR247_1 := Aside0.mk hi247_1
            have HC247_1 := Aside0.mk hl247_1
            clear hi247_1 hl247_1
            replace p247 := eq_true p247
            replace q247 := eq_true q247
            go_wp2_with (first | ((with_reducible refine gate_dst (N := 17) rfl ?_); refine box_event ?hg (N := 17) ?hd (cs := #[.slice none 0 0, .slice none 0 0, .int .i64 0, .int .i64 0, .int .i64 0, .int .i64 0, .int .i64 0, .int .i64 0, .int .i64 0, .int .i64 0]) (t := 43) ?hr ?_; (case hd => rfl); (case hg => rfl); (case hr => first | (go_simp; done) | (go_simp; rfl)); intro gb248 hg w72 hbox hb; have n0_ := Aside0.mk (Kd.V_below (Kd.V_elderB (by (with_reducible repeat (first | apply Kd.V_alloc | apply Kd.V_drewN | apply Kd.V_drew)); exact HO_3.out) gb248 (Nat.le_of_eq hg.symm)) hb); have n1_ := Aside0.mk (blk_below (g := gb244) (o := .cells #[.int .i64 ((rd_T46 l0 a1).f0), .bool ((rd_T46 l0 a1).f1), .slice (some ad247) ((rd_T46 l0 a1).f2).length c243_2] 46 (0, 0)) (by (with_reducible repeat (first | refine blk_drewN ?_ _ | refine blk_drew ?_ | refine blk_alloc ?_ _)); exact BK244.out) hb); have n2_ := Aside0.mk (below_step (by repeat (first | (with_reducible first | exact HB.out | apply below_alloc | apply pw_below_drewN | apply below_drew1 | refine below_set ?_ GE244.out) | exact HB.out)) hb); have n3_ := Aside0.mk (hbox); have n4_ := Aside0.mk ((by rw [hg]; exact (below_size (by repeat (first | (with_reducible first | exact HB.out | apply below_alloc | apply pw_below_drewN | apply below_drew1 | refine below_set ?_ GE244.out) | exact HB.out))) : w.heap.size ≤ gb248)); have n5_ := Aside0.mk ((by rw [hg]; exact (below_size (by repeat (first | (with_reducible first | exact HB.out | apply below_alloc | apply pw_below_drewN | apply below_drew1 | refine below_set ?_ GE244.out) | exact HB.out))) : w.heap.size ≤ gb248)); have n6_ := Aside0.mk ((by rw [hg]; exact Nat.ne_of_lt (blk_lt (g := gb244) (o := .cells #[.int .i64 ((rd_T46 l0 a1).f0), .bool ((rd_T46 l0 a1).f1), .slice (some ad247) ((rd_T46 l0 a1).f2).length c243_2] 46 (0, 0)) (by (with_reducible repeat (first | refine blk_drewN ?_ _ | refine blk_drew ?_ | refine blk_alloc ?_ _)); exact BK244.out)) : gb244 ≠ gb248)); have n7_ := Aside0.mk ((by rw [hg]; exact Nat.ne_of_gt (blk_lt (g := gb244) (o := .cells #[.int .i64 ((rd_T46 l0 a1).f0), .bool ((rd_T46 l0 a1).f1), .slice (some ad247) ((rd_T46 l0 a1).f2).length c243_2] 46 (0, 0)) (by (with_reducible repeat (first | refine blk_drewN ?_ _ | refine blk_drew ?_ | refine blk_alloc ?_ _)); exact BK244.out)) : gb248 ≠ gb244)); clear HO_3; clear BK244; clear HB; have HO_3 := n0_; have BK244 := n1_; have HB := n2_; have BK248 := n3_; have GW248 := n4_; have GE248 := n5_; have NB244_248 := n6_; have NB248_244 := n7_; clear n0_ n1_ n2_ n3_ n4_ n5_ n6_ n7_; clear hb hbox hg; have hnb73 := NB248_244.out; have hnc73 := NB244_248.out; have hcz74_0 : w72.cell? ⟨gb248, 0, none⟩ = some (.slice none 0 0) := (blk_cell BK248.out 0).trans rfl; have hcz74_1 : w72.cell? ⟨gb248, 1, none⟩ = some (.slice none 0 0) := (blk_cell BK248.out 1).trans rfl; have hcz74_2 : w72.cell? ⟨gb248, 2, none⟩ = some (.int .i64 0) := (blk_cell BK248.out 2).trans rfl; have hcz74_3 : w72.cell? ⟨gb248, 3, none⟩ = some (.int .i64 0) := (blk_cell BK248.out 3).trans rfl; have hcz74_4 : w72.cell? ⟨gb248, 4, none⟩ = some (.int .i64 0) := (blk_cell BK248.out 4).trans rfl; have hcz74_5 : w72.cell? ⟨gb248, 5, none⟩ = some (.int .i64 0) := (blk_cell BK248.out 5).trans rfl; have hcz74_6 : w72.cell? ⟨gb248, 6, none⟩ = some (.int .i64 0) := (blk_cell BK248.out 6).trans rfl; have hcz74_7 : w72.cell? ⟨gb248, 7, none⟩ = some (.int .i64 0) := (blk_cell BK248.out 7).trans rfl; have hcz74_8 : w72.cell? ⟨gb248, 8, none⟩ = some (.int .i64 0) := (blk_cell BK248.out 8).trans rfl; have hcz74_9 : w72.cell? ⟨gb248, 9, none⟩ = some (.int .i64 0) := (blk_cell BK248.out 9).trans rfl; have hfz74_0 := blk_frozen BK248.out 0; have hfz74_1 := blk_frozen BK248.out 1; have hfz74_2 := blk_frozen BK248.out 2; have hfz74_3 := blk_frozen BK248.out 3; have hfz74_4 := blk_frozen BK248.out 4; have hfz74_5 := blk_frozen BK248.out 5; have hfz74_6 := blk_frozen BK248.out 6; have hfz74_7 := blk_frozen BK248.out 7; have hfz74_8 := blk_frozen BK248.out 8; have hfz74_9 := blk_frozen BK248.out 9; have hcz75_0 : w72.cell? ⟨gb244, 0, none⟩ = some (.int .i64 ((rd_T46 l0 a1).f0)) := (blk_cell BK244.out 0).trans rfl; have hcz75_1 : w72.cell? ⟨gb244, 1, none⟩ = some (.bool ((rd_T46 l0 a1).f1)) := (blk_cell BK244.out 1).trans rfl; have hcz75_2 : w72.cell? ⟨gb244, 2, none⟩ = some (.slice (some ad247) ((rd_T46 l0 a1).f2).length c243_2) := (blk_cell BK244.out 2).trans rfl; have hfz75_0 := blk_frozen BK244.out 0; have hfz75_1 := blk_frozen BK244.out 1; have hfz75_2 := blk_frozen BK244.out 2; obtain ⟨Ao76, co76, eo76⟩ := Kd.V_slice HO_3.out; subst eo76) | ((with_reducible refine gate_callee (f := 22) rfl ?_); refine goesL_ (some 53) rfl rfl Try.func22 (by kernel_rfl) rfl #[.slice Ao76 x3_2.length co76, .slice A2 l2.length c2, .int .i64 a4, .slice A247_0 ((rd_T43 ((rd_T46 l0 a1).f2) x41_2).f0).length c247_0, .bool ((rd_T46 l0 a1).f1)] rfl (by (try simp only [List.map_toArray, List.map_cons, List.map_nil]); first | done | rfl | (simp only [List.length_drop, List.length_take]; rfl)) ?_; (with_reducible refine (classes_Meet.calls k2 _ _ x3_2 _ _ l2 a4 _ _ ((rd_T43 ((rd_T46 l0 a1).f2) x41_2).f0) ((rd_T46 l0 a1).f1) t249 false _ ?side1 ?side2 ?side3 ?side4 ?side5 ?side6 A24.out).mono ?_); (case side1 => refine (Kd.V_reads' (e := 3) (base := w.heap.size) (ok := fun k_ => ((((P3_ k_ ∨ w.heap.size ≤ k_)) ∧ k_ ≠ gb244) ∧ k_ ≠ gb248)) (n := x3_2.length) (c := co76) ?_).2.2; exact (by (with_reducible repeat (first | apply Kd.V_alloc | apply Kd.V_drewN | apply Kd.V_drew)); exact (Kd.V_mono (Kd.V_far (p := ⟨gb248, 9, none⟩) (Kd.V_far (p := ⟨gb248, 8, none⟩) (Kd.V_far (p := ⟨gb248, 7, none⟩) (Kd.V_far (p := ⟨gb248, 6, none⟩) (Kd.V_far (p := ⟨gb248, 5, none⟩) (Kd.V_far (p := ⟨gb248, 4, none⟩) (Kd.V_far (p := ⟨gb248, 3, none⟩) (Kd.V_far (p := ⟨gb248, 2, none⟩) (Kd.V_far (p := ⟨gb248, 1, none⟩) (Kd.V_far (p := ⟨gb248, 0, none⟩) (Kd.V_mono HO_3.out (fun k_ hk => (⟨hk, hk.2⟩ : _ ∧ k_ ≠ gb248))) (fun _ hk => hk.2) (.slice A247_0 ((rd_T43 ((rd_T46 l0 a1).f2) x41_2).f0).length c247_0)) (fun _ hk => hk.2) (.slice A247_1 ((rd_T43 ((rd_T46 l0 a1).f2) x41_2).f1).length c247_1)) (fun _ hk => hk.2) (.int .i64 ((rd_T43 ((rd_T46 l0 a1).f2) x41_2).f2))) (fun _ hk => hk.2) (.int .i64 ((rd_T43 ((rd_T46 l0 a1).f2) x41_2).f3))) (fun _ hk => hk.2) (.int .i64 ((rd_T43 ((rd_T46 l0 a1).f2) x41_2).f4.f0))) (fun _ hk => hk.2) (.int .i64 ((rd_T43 ((rd_T46 l0 a1).f2) x41_2).f4.f1))) (fun _ hk => hk.2) (.int .i64 ((rd_T43 ((rd_T46 l0 a1).f2) x41_2).f5.f0))) (fun _ hk => hk.2) (.int .i64 ((rd_T43 ((rd_T46 l0 a1).f2) x41_2).f5.f1))) (fun _ hk => hk.2) (.int .i64 ((rd_T43 ((rd_T46 l0 a1).f2) x41_2).f6.f0))) (fun _ hk => hk.2) (.int .i64 ((rd_T43 ((rd_T46 l0 a1).f2) x41_2).f6.f1))) (fun _ h_ => h_.1)))); (case side2 => exact (Kd.V_reads' HO_3.out).2.1); (case side3 => exact Kd.C_below HR2.out (by repeat (first | (with_reducible first | exact HB.out | apply below_alloc | apply pw_below_drewN | apply below_drew1 | refine below_set ?_ GE244.out | refine below_set ?_ GE248.out) | exact HB.out))); (case side4 => exact HC2.out); (case side5 => exact Kd.C_below HR247_0.out (by repeat (first | (with_reducible first | exact HB.out | apply below_alloc | apply pw_below_drewN | apply below_drew1 | refine below_set ?_ GE244.out | refine below_set ?_ GE248.out) | exact HB.out))); (case side6 => exact HC247_0.out); rintro e w77 ⟨v251, rfl, ho0, hb⟩; refine ⟨_, rfl, ?_⟩; have n0_ := Aside0.mk (Kd.V_elder' (by (with_reducible repeat (first | apply Kd.V_alloc | apply Kd.V_drewN | apply Kd.V_drew)); exact (Kd.V_mono (Kd.V_far (p := ⟨gb248, 9, none⟩) (Kd.V_far (p := ⟨gb248, 8, none⟩) (Kd.V_far (p := ⟨gb248, 7, none⟩) (Kd.V_far (p := ⟨gb248, 6, none⟩) (Kd.V_far (p := ⟨gb248, 5, none⟩) (Kd.V_far (p := ⟨gb248, 4, none⟩) (Kd.V_far (p := ⟨gb248, 3, none⟩) (Kd.V_far (p := ⟨gb248, 2, none⟩) (Kd.V_far (p := ⟨gb248, 1, none⟩) (Kd.V_far (p := ⟨gb248, 0, none⟩) (Kd.V_mono HO_3.out (fun k_ hk => (⟨hk, hk.2⟩ : _ ∧ k_ ≠ gb248))) (fun _ hk => hk.2) (.slice A247_0 ((rd_T43 ((rd_T46 l0 a1).f2) x41_2).f0).length c247_0)) (fun _ hk => hk.2) (.slice A247_1 ((rd_T43 ((rd_T46 l0 a1).f2) x41_2).f1).length c247_1)) (fun _ hk => hk.2) (.int .i64 ((rd_T43 ((rd_T46 l0 a1).f2) x41_2).f2))) (fun _ hk => hk.2) (.int .i64 ((rd_T43 ((rd_T46 l0 a1).f2) x41_2).f3))) (fun _ hk => hk.2) (.int .i64 ((rd_T43 ((rd_T46 l0 a1).f2) x41_2).f4.f0))) (fun _ hk => hk.2) (.int .i64 ((rd_T43 ((rd_T46 l0 a1).f2) x41_2).f4.f1))) (fun _ hk => hk.2) (.int .i64 ((rd_T43 ((rd_T46 l0 a1).f2) x41_2).f5.f0))) (fun _ hk => hk.2) (.int .i64 ((rd_T43 ((rd_T46 l0 a1).f2) x41_2).f5.f1))) (fun _ hk => hk.2) (.int .i64 ((rd_T43 ((rd_T46 l0 a1).f2) x41_2).f6.f0))) (fun _ hk => hk.2) (.int .i64 ((rd_T43 ((rd_T46 l0 a1).f2) x41_2).f6.f1))) (fun _ h_ => h_.1))) (Kd.R_base ho0) hb); have n1_ := Aside0.mk (Kd.R_lower (Kd.R_newM (M := fun k_ => (w.heap.size ≤ k_)) ho0 (below_size (by repeat (first | (with_reducible first | exact HB.out | apply below_alloc | apply pw_below_drewN | apply below_drew1 | refine below_set ?_ GE244.out | refine below_set ?_ GE248.out) | exact HB.out))) (fun k_ h_ => h_)) (below_size (by repeat (first | (with_reducible first | exact HB.out | apply below_alloc | apply pw_below_drewN | apply below_drew1 | refine below_set ?_ GE244.out | refine below_set ?_ GE248.out) | exact HB.out)))); have n2_ := Aside0.mk (blk_below (g := gb244) (o := .cells #[.int .i64 ((rd_T46 l0 a1).f0), .bool ((rd_T46 l0 a1).f1), .slice (some ad247) ((rd_T46 l0 a1).f2).length c243_2] 46 (0, 0)) (by (with_reducible repeat (first | refine blk_drewN ?_ _ | refine blk_drew ?_ | refine blk_alloc ?_ _)); refine blk_far ?_ NB244_248.out _; (with_reducible repeat (first | refine blk_drewN ?_ _ | refine blk_drew ?_ | refine blk_alloc ?_ _)); refine blk_far ?_ NB244_248.out _; (with_reducible repeat (first | refine blk_drewN ?_ _ | refine blk_drew ?_ | refine blk_alloc ?_ _)); refine blk_far ?_ NB244_248.out _; (with_reducible repeat (first | refine blk_drewN ?_ _ | refine blk_drew ?_ | refine blk_alloc ?_ _)); refine blk_far ?_ NB244_248.out _; (with_reducible repeat (first | refine blk_drewN ?_ _ | refine blk_drew ?_ | refine blk_alloc ?_ _)); refine blk_far ?_ NB244_248.out _; (with_reducible repeat (first | refine blk_drewN ?_ _ | refine blk_drew ?_ | refine blk_alloc ?_ _)); refine blk_far ?_ NB244_248.out _; (with_reducible repeat (first | refine blk_drewN ?_ _ | refine blk_drew ?_ | refine blk_alloc ?_ _)); refine blk_far ?_ NB244_248.out _; (with_reducible repeat (first | refine blk_drewN ?_ _ | refine blk_drew ?_ | refine blk_alloc ?_ _)); refine blk_far ?_ NB244_248.out _; (with_reducible repeat (first | refine blk_drewN ?_ _ | refine blk_drew ?_ | refine blk_alloc ?_ _)); refine blk_far ?_ NB244_248.out _; (with_reducible repeat (first | refine blk_drewN ?_ _ | refine blk_drew ?_ | refine blk_alloc ?_ _)); refine blk_far ?_ NB244_248.out _; (with_reducible repeat (first | refine blk_drewN ?_ _ | refine blk_drew ?_ | refine blk_alloc ?_ _)); exact BK244.out) hb); have n3_ := Aside0.mk (blk_below (g := gb248) (o := .cells #[.slice A247_0 ((rd_T43 ((rd_T46 l0 a1).f2) x41_2).f0).length c247_0, .slice A247_1 ((rd_T43 ((rd_T46 l0 a1).f2) x41_2).f1).length c247_1, .int .i64 ((rd_T43 ((rd_T46 l0 a1).f2) x41_2).f2), .int .i64 ((rd_T43 ((rd_T46 l0 a1).f2) x41_2).f3), .int .i64 ((rd_T43 ((rd_T46 l0 a1).f2) x41_2).f4.f0), .int .i64 ((rd_T43 ((rd_T46 l0 a1).f2) x41_2).f4.f1), .int .i64 ((rd_T43 ((rd_T46 l0 a1).f2) x41_2).f5.f0), .int .i64 ((rd_T43 ((rd_T46 l0 a1).f2) x41_2).f5.f1), .int .i64 ((rd_T43 ((rd_T46 l0 a1).f2) x41_2).f6.f0), .int .i64 ((rd_T43 ((rd_T46 l0 a1).f2) x41_2).f6.f1)] 43 (0, 0)) (by (with_reducible repeat (first | refine blk_drewN ?_ _ | refine blk_drew ?_ | refine blk_alloc ?_ _)); refine blk_put (cs := #[.slice A247_0 ((rd_T43 ((rd_T46 l0 a1).f2) x41_2).f0).length c247_0, .slice A247_1 ((rd_T43 ((rd_T46 l0 a1).f2) x41_2).f1).length c247_1, .int .i64 ((rd_T43 ((rd_T46 l0 a1).f2) x41_2).f2), .int .i64 ((rd_T43 ((rd_T46 l0 a1).f2) x41_2).f3), .int .i64 ((rd_T43 ((rd_T46 l0 a1).f2) x41_2).f4.f0), .int .i64 ((rd_T43 ((rd_T46 l0 a1).f2) x41_2).f4.f1), .int .i64 ((rd_T43 ((rd_T46 l0 a1).f2) x41_2).f5.f0), .int .i64 ((rd_T43 ((rd_T46 l0 a1).f2) x41_2).f5.f1), .int .i64 ((rd_T43 ((rd_T46 l0 a1).f2) x41_2).f6.f0), .int .i64 0]) ?_ 9 _ rfl; (with_reducible repeat (first | refine blk_drewN ?_ _ | refine blk_drew ?_ | refine blk_alloc ?_ _)); refine blk_put (cs := #[.slice A247_0 ((rd_T43 ((rd_T46 l0 a1).f2) x41_2).f0).length c247_0, .slice A247_1 ((rd_T43 ((rd_T46 l0 a1).f2) x41_2).f1).length c247_1, .int .i64 ((rd_T43 ((rd_T46 l0 a1).f2) x41_2).f2), .int .i64 ((rd_T43 ((rd_T46 l0 a1).f2) x41_2).f3), .int .i64 ((rd_T43 ((rd_T46 l0 a1).f2) x41_2).f4.f0), .int .i64 ((rd_T43 ((rd_T46 l0 a1).f2) x41_2).f4.f1), .int .i64 ((rd_T43 ((rd_T46 l0 a1).f2) x41_2).f5.f0), .int .i64 ((rd_T43 ((rd_T46 l0 a1).f2) x41_2).f5.f1), .int .i64 0, .int .i64 0]) ?_ 8 _ rfl; (with_reducible repeat (first | refine blk_drewN ?_ _ | refine blk_drew ?_ | refine blk_alloc ?_ _)); refine blk_put (cs := #[.slice A247_0 ((rd_T43 ((rd_T46 l0 a1).f2) x41_2).f0).length c247_0, .slice A247_1 ((rd_T43 ((rd_T46 l0 a1).f2) x41_2).f1).length c247_1, .int .i64 ((rd_T43 ((rd_T46 l0 a1).f2) x41_2).f2), .int .i64 ((rd_T43 ((rd_T46 l0 a1).f2) x41_2).f3), .int .i64 ((rd_T43 ((rd_T46 l0 a1).f2) x41_2).f4.f0), .int .i64 ((rd_T43 ((rd_T46 l0 a1).f2) x41_2).f4.f1), .int .i64 ((rd_T43 ((rd_T46 l0 a1).f2) x41_2).f5.f0), .int .i64 0, .int .i64 0, .int .i64 0]) ?_ 7 _ rfl; (with_reducible repeat (first | refine blk_drewN ?_ _ | refine blk_drew ?_ | refine blk_alloc ?_ _)); refine blk_put (cs := #[.slice A247_0 ((rd_T43 ((rd_T46 l0 a1).f2) x41_2).f0).length c247_0, .slice A247_1 ((rd_T43 ((rd_T46 l0 a1).f2) x41_2).f1).length c247_1, .int .i64 ((rd_T43 ((rd_T46 l0 a1).f2) x41_2).f2), .int .i64 ((rd_T43 ((rd_T46 l0 a1).f2) x41_2).f3), .int .i64 ((rd_T43 ((rd_T46 l0 a1).f2) x41_2).f4.f0), .int .i64 ((rd_T43 ((rd_T46 l0 a1).f2) x41_2).f4.f1), .int .i64 0, .int .i64 0, .int .i64 0, .int .i64 0]) ?_ 6 _ rfl; (with_reducible repeat (first | refine blk_drewN ?_ _ | refine blk_drew ?_ | refine blk_alloc ?_ _)); refine blk_put (cs := #[.slice A247_0 ((rd_T43 ((rd_T46 l0 a1).f2) x41_2).f0).length c247_0, .slice A247_1 ((rd_T43 ((rd_T46 l0 a1).f2) x41_2).f1).length c247_1, .int .i64 ((rd_T43 ((rd_T46 l0 a1).f2) x41_2).f2), .int .i64 ((rd_T43 ((rd_T46 l0 a1).f2) x41_2).f3), .int .i64 ((rd_T43 ((rd_T46 l0 a1).f2) x41_2).f4.f0), .int .i64 0, .int .i64 0, .int .i64 0, .int .i64 0, .int .i64 0]) ?_ 5 _ rfl; (with_reducible repeat (first | refine blk_drewN ?_ _ | refine blk_drew ?_ | refine blk_alloc ?_ _)); refine blk_put (cs := #[.slice A247_0 ((rd_T43 ((rd_T46 l0 a1).f2) x41_2).f0).length c247_0, .slice A247_1 ((rd_T43 ((rd_T46 l0 a1).f2) x41_2).f1).length c247_1, .int .i64 ((rd_T43 ((rd_T46 l0 a1).f2) x41_2).f2), .int .i64 ((rd_T43 ((rd_T46 l0 a1).f2) x41_2).f3), .int .i64 0, .int .i64 0, .int .i64 0, .int .i64 0, .int .i64 0, .int .i64 0]) ?_ 4 _ rfl; (with_reducible repeat (first | refine blk_drewN ?_ _ | refine blk_drew ?_ | refine blk_alloc ?_ _)); refine blk_put (cs := #[.slice A247_0 ((rd_T43 ((rd_T46 l0 a1).f2) x41_2).f0).length c247_0, .slice A247_1 ((rd_T43 ((rd_T46 l0 a1).f2) x41_2).f1).length c247_1, .int .i64 ((rd_T43 ((rd_T46 l0 a1).f2) x41_2).f2), .int .i64 0, .int .i64 0, .int .i64 0, .int .i64 0, .int .i64 0, .int .i64 0, .int .i64 0]) ?_ 3 _ rfl; (with_reducible repeat (first | refine blk_drewN ?_ _ | refine blk_drew ?_ | refine blk_alloc ?_ _)); refine blk_put (cs := #[.slice A247_0 ((rd_T43 ((rd_T46 l0 a1).f2) x41_2).f0).length c247_0, .slice A247_1 ((rd_T43 ((rd_T46 l0 a1).f2) x41_2).f1).length c247_1, .int .i64 0, .int .i64 0, .int .i64 0, .int .i64 0, .int .i64 0, .int .i64 0, .int .i64 0, .int .i64 0]) ?_ 2 _ rfl; (with_reducible repeat (first | refine blk_drewN ?_ _ | refine blk_drew ?_ | refine blk_alloc ?_ _)); refine blk_put (cs := #[.slice A247_0 ((rd_T43 ((rd_T46 l0 a1).f2) x41_2).f0).length c247_0, .slice none 0 0, .int .i64 0, .int .i64 0, .int .i64 0, .int .i64 0, .int .i64 0, .int .i64 0, .int .i64 0, .int .i64 0]) ?_ 1 _ rfl; (with_reducible repeat (first | refine blk_drewN ?_ _ | refine blk_drew ?_ | refine blk_alloc ?_ _)); refine blk_put (cs := #[.slice none 0 0, .slice none 0 0, .int .i64 0, .int .i64 0, .int .i64 0, .int .i64 0, .int .i64 0, .int .i64 0, .int .i64 0, .int .i64 0]) ?_ 0 _ rfl; (with_reducible repeat (first | refine blk_drewN ?_ _ | refine blk_drew ?_ | refine blk_alloc ?_ _)); exact BK248.out) hb); have n4_ := Aside0.mk (below_step (by repeat (first | (with_reducible first | exact HB.out | apply below_alloc | apply pw_below_drewN | apply below_drew1 | refine below_set ?_ GE244.out | refine below_set ?_ GE248.out) | exact HB.out)) hb); clear HO_3; clear BK244; clear BK248; clear HB; have HO_3 := n0_; have HO252 := n1_; have BK244 := n2_; have BK248 := n3_; have HB := n4_; clear n0_ n1_ n2_ n3_ n4_; (try clear hb); (try clear hb2); (try clear hk); (try clear hi); (try clear ho0)))
            go_roundg k2
            case measure => have := HJ8.out; have := HK2.out; omega
            case rel => (try rw [← Nbq12.out]); exact ⟨(x3_2), (wrap64 (x41_2 + 1)), (by first | rfl | (simp; done) | (simp [*]; done)), H', ⟨by have := HJ8.out; have := HK2.out; omega⟩, ⟨by (with_reducible repeat (first | apply Kd.V_alloc | apply Kd.V_drewN | apply Kd.V_drew)); exact Kd.V_mono HO_3.out (fun _ hk => ⟨hk.1.1.1, hk.1.1.2⟩)⟩, ⟨by (with_reducible repeat (first | refine blk_drewN ?_ _ | refine blk_drew ?_ | refine blk_alloc ?_ _)); exact BK244.out⟩, ⟨by repeat (first | (with_reducible first | exact HB.out | apply below_alloc | apply pw_below_drewN | apply below_drew1 | refine below_set ?_ GE244.out | refine below_set ?_ GE248.out) | exact HB.out)⟩⟩
          ·rw [if_neg c23] at H
           exact absurd H (by simp)
         ·rw [if_neg c22] at H
          exact absurd H (by simp)
        ·rw [if_neg c21] at H
         have c21b0 : decide (x41_2 < (((rd_T46 l0 a1).f2).length : Int)) = false := decide_eq_false c21
         clear c21
         simp only [Option.some.injEq, Prod.mk.injEq] at H
         obtain ⟨rfl, rfl, rfl⟩ := H
         go_wp2
         go_ret3
         exact ⟨_, by first | rfl | (simp [errW_none, errW_some] <;> rfl) | (simp [*, errW_none, errW_some] <;> rfl), by (with_reducible repeat (first | apply Kd.V_alloc | apply Kd.V_drewN | apply Kd.V_drew)); exact Kd.V_mono HO_3.out (fun _ hk => hk.1), by repeat (first | (with_reducible first | exact HB.out | apply below_alloc | apply pw_below_drewN | apply below_drew1 | refine below_set ?_ GE244.out) | exact HB.out)⟩
  ·rw [if_neg c8] at H
   exact absurd H (by simp)
 ·rw [if_neg c7] at H
  exact absurd H (by simp)

end Go.Proofs.Ytoldahmgjenlaaa.Q
