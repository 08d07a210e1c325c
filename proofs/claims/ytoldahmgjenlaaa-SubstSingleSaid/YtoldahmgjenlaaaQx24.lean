-- Written by a program of this session, out of the kit's print tool (see NOTES.md: mypr)
import Derived.Test.YtoldahmgjenlaaaQx0
import Derived.Test.YtoldahmgjenlaaaQx2
import Derived.Test.YtoldahmgjenlaaaQx20
namespace Go.Proofs.Ytoldahmgjenlaaa.Q
open Go.RowKit Go.Proofs.YtoldahmgjenlaaaW.PrintWords Go.Proofs.YtoldahmgjenlaaaW.PrintLast Go.Proofs.YtoldahmgjenlaaaW.PrintMore
attribute [local go_sem] max2_int min2_int max_two min_two max_three min_three max_four min_four   -- for this text's walks alone
set_option linter.unusedVariables false
set_option linter.unusedSimpArgs false

/-! ### foundrylaw20_SubstSingle: function 10 -/
mutual
def foundrylaw20_SubstSingle.j0 : Nat → Bool → Int → Int → Bool → List Int → List Bool → Option (Bool)
 | 0, _, _, _, _, _, _ => none
 | k + 1, x2, x7, x8, x41, x373000, x373001 => if x41 = true then ((foundrylaw20_awake.f k).bind fun t375 => (some t375)) else ((some (([(⟨1, x2, (([(⟨(([wrap64 (x7)] : List Int)), (([wrap64 (x8)] : List Int)), 0, 0, (⟨0, 0⟩ : S41), (⟨0, 0⟩ : S41), (⟨0, 0⟩ : S41)⟩ : S43), (⟨(([wrap64 (x8)] : List Int)), (([wrap64 (x7)] : List Int)), 0, 0, (⟨0, 0⟩ : S41), (⟨0, 0⟩ : S41), (⟨0, 0⟩ : S41)⟩ : S43)] : List (S43)))⟩ : S46)] : List (S46)) : List (S46))).bind fun y391 => ((some (([] : List Bool) : List Bool)).bind fun y394 => (if x2 = true then ((subst_Line.f k y391 0 y394 x373000).bind fun bt397 => ((subst_Line.f k y391 0 y394 bt397.1).bind fun bt401 => (if bt397.2 = 0 then (if bt401.2 = 0 then (if (bt397.1.length : Int) = (x373000.length : Int) then ((foundryref06_SameInts.f k bt401.1 x373000).bind fun t405 => (foundrylaw20_SubstSingle.j1 k (wrap64 (x7)) (wrap64 (x8)) bt397.1 (!t405) x373000 x373001)) else (foundrylaw20_SubstSingle.j1 k (wrap64 (x7)) (wrap64 (x8)) bt397.1 true x373000 x373001)) else (foundrylaw20_SubstSingle.j1 k (wrap64 (x7)) (wrap64 (x8)) bt397.1 true x373000 x373001)) else (foundrylaw20_SubstSingle.j1 k (wrap64 (x7)) (wrap64 (x8)) bt397.1 true x373000 x373001)))) else ((subst_Line.f k y391 0 x373001 x373000).bind fun bt410 => ((subst_Line.f k y391 0 x373001 bt410.1).bind fun bt414 => (if bt410.2 = 0 then (if bt414.2 = 0 then (if (bt410.1.length : Int) = (x373000.length : Int) then ((foundryref06_SameInts.f k bt414.1 x373000).bind fun t418 => (foundrylaw20_SubstSingle.j3 k (wrap64 (x7)) (wrap64 (x8)) bt410.1 (!t418) x373000 x373001)) else (foundrylaw20_SubstSingle.j3 k (wrap64 (x7)) (wrap64 (x8)) bt410.1 true x373000 x373001)) else (foundrylaw20_SubstSingle.j3 k (wrap64 (x7)) (wrap64 (x8)) bt410.1 true x373000 x373001)) else (foundrylaw20_SubstSingle.j3 k (wrap64 (x7)) (wrap64 (x8)) bt410.1 true x373000 x373001)))))))
def foundrylaw20_SubstSingle.j1 : Nat → Int → Int → List Int → Bool → List Int → List Bool → Option (Bool)
 | 0, _, _, _, _, _, _ => none
 | k + 1, x9, x10, x13, x101, x373000, x373001 => if x101 = true then (some false) else (foundrylaw20_SubstSingle.l0 k x9 x10 x13 0 x373000 x373001)
def foundrylaw20_SubstSingle.l0 : Nat → Int → Int → List Int → Int → List Int → List Bool → Option (Bool)
 | 0, _, _, _, _, _, _ => none
 | k + 1, x9, x10, x13, x17, x373000, x373001 => if x17 < (x13.length : Int) then (if 0 ≤ x17 then (if x17 < (x373000.length : Int) then (if (rd x373000 x17) = x9 then (if (rd x13 x17) = x10 then (foundrylaw20_SubstSingle.l0 k x9 x10 x13 (wrap64 (x17 + 1)) x373000 x373001) else (some false)) else (if (rd x373000 x17) = x10 then (if (rd x13 x17) = x9 then (foundrylaw20_SubstSingle.l0 k x9 x10 x13 (wrap64 (x17 + 1)) x373000 x373001) else (some false)) else (if (rd x13 x17) = (rd x373000 x17) then (foundrylaw20_SubstSingle.l0 k x9 x10 x13 (wrap64 (x17 + 1)) x373000 x373001) else (some false)))) else (none)) else (none)) else (some true)
def foundrylaw20_SubstSingle.j3 : Nat → Int → Int → List Int → Bool → List Int → List Bool → Option (Bool)
 | 0, _, _, _, _, _, _ => none
 | k + 1, x9, x10, x13, x101, x373000, x373001 => if x101 = true then (some false) else (foundrylaw20_SubstSingle.l0 k x9 x10 x13 0 x373000 x373001)
end
def foundrylaw20_SubstSingle.f (k : Nat) (l0_0 : List Int) (l0_1 : List Bool) (a1_0 : Int) (a1_1 : Int) (a2 : Bool) : Option (Bool) := (foundrylaw20_awake.f k).bind fun t374 => (if t374 = true then (if (l0_0.length : Int) > 100 then (foundrylaw20_SubstSingle.j0 k a2 a1_0 a1_1 true l0_0 l0_1) else (if (l0_1.length : Int) > 1000 then (foundrylaw20_SubstSingle.j0 k a2 a1_0 a1_1 true l0_0 l0_1) else (foundrylaw20_SubstSingle.j0 k a2 a1_0 a1_1 (a1_0 == a1_1) l0_0 l0_1))) else (foundrylaw20_SubstSingle.j0 k a2 a1_0 a1_1 true l0_0 l0_1))
theorem foundrylaw20_SubstSingle.mono_l : ∀ k, (∀ y0 y1 y2 y3 y4 y5, LeO (foundrylaw20_SubstSingle.j0 k y0 y1 y2 y3 y4 y5) (foundrylaw20_SubstSingle.j0 (k + 1) y0 y1 y2 y3 y4 y5)) ∧ (∀ y0 y1 y2 y3 y4 y5, LeO (foundrylaw20_SubstSingle.j1 k y0 y1 y2 y3 y4 y5) (foundrylaw20_SubstSingle.j1 (k + 1) y0 y1 y2 y3 y4 y5)) ∧ (∀ y0 y1 y2 y3 y4 y5, LeO (foundrylaw20_SubstSingle.l0 k y0 y1 y2 y3 y4 y5) (foundrylaw20_SubstSingle.l0 (k + 1) y0 y1 y2 y3 y4 y5)) ∧ (∀ y0 y1 y2 y3 y4 y5, LeO (foundrylaw20_SubstSingle.j3 k y0 y1 y2 y3 y4 y5) (foundrylaw20_SubstSingle.j3 (k + 1) y0 y1 y2 y3 y4 y5))
 | 0 => ⟨fun _ _ _ _ _ _ r h => by simp [foundrylaw20_SubstSingle.j0] at h, fun _ _ _ _ _ _ r h => by simp [foundrylaw20_SubstSingle.j1] at h, fun _ _ _ _ _ _ r h => by simp [foundrylaw20_SubstSingle.l0] at h, fun _ _ _ _ _ _ r h => by simp [foundrylaw20_SubstSingle.j3] at h⟩
 | k + 1 => by
  obtain ⟨ih0, ih1, ih2, ih3⟩ := foundrylaw20_SubstSingle.mono_l k
  refine ⟨?_, ?_, ?_, ?_⟩
  ·intro y0 y1 y2 y3 y4 y5
   unfold foundrylaw20_SubstSingle.j0
   repeat' first
   | (with_reducible exact ih0 _ _ _ _ _ _)
   | (with_reducible exact ih1 _ _ _ _ _ _)
   | (with_reducible exact ih2 _ _ _ _ _ _)
   | (with_reducible exact ih3 _ _ _ _ _ _)
   | (with_reducible exact foundrylaw20_awake.mono _)
   | (with_reducible exact foundryref06_SameInts.mono _ _ _)
   | (with_reducible exact subst_Line.mono _ _ _ _ _)
   | (with_reducible exact LeO.refl _)
   | (with_reducible exact LeO.none _)
   | (with_reducible refine LeO.ite ?_ ?_)
   | (with_reducible refine LeO.bind ?_ (fun _ => ?_))
   | exact ih0 _ _ _ _ _ _
   | exact ih1 _ _ _ _ _ _
   | exact ih2 _ _ _ _ _ _
   | exact ih3 _ _ _ _ _ _
   | exact foundrylaw20_awake.mono _
   | exact foundryref06_SameInts.mono _ _ _
   | exact subst_Line.mono _ _ _ _ _
   | exact LeO.none _
   | refine LeO.ite ?_ ?_
   | refine LeO.bind ?_ (fun _ => ?_)
  ·intro y0 y1 y2 y3 y4 y5
   unfold foundrylaw20_SubstSingle.j1
   repeat' first
   | (with_reducible exact ih0 _ _ _ _ _ _)
   | (with_reducible exact ih1 _ _ _ _ _ _)
   | (with_reducible exact ih2 _ _ _ _ _ _)
   | (with_reducible exact ih3 _ _ _ _ _ _)
   | (with_reducible exact foundrylaw20_awake.mono _)
   | (with_reducible exact foundryref06_SameInts.mono _ _ _)
   | (with_reducible exact subst_Line.mono _ _ _ _ _)
   | (with_reducible exact LeO.refl _)
   | (with_reducible exact LeO.none _)
   | (with_reducible refine LeO.ite ?_ ?_)
   | (with_reducible refine LeO.bind ?_ (fun _ => ?_))
   | exact ih0 _ _ _ _ _ _
   | exact ih1 _ _ _ _ _ _
   | exact ih2 _ _ _ _ _ _
   | exact ih3 _ _ _ _ _ _
   | exact foundrylaw20_awake.mono _
   | exact foundryref06_SameInts.mono _ _ _
   | exact subst_Line.mono _ _ _ _ _
   | exact LeO.none _
   | refine LeO.ite ?_ ?_
   | refine LeO.bind ?_ (fun _ => ?_)
  ·intro y0 y1 y2 y3 y4 y5
   unfold foundrylaw20_SubstSingle.l0
   repeat' first
   | (with_reducible exact ih0 _ _ _ _ _ _)
   | (with_reducible exact ih1 _ _ _ _ _ _)
   | (with_reducible exact ih2 _ _ _ _ _ _)
   | (with_reducible exact ih3 _ _ _ _ _ _)
   | (with_reducible exact foundrylaw20_awake.mono _)
   | (with_reducible exact foundryref06_SameInts.mono _ _ _)
   | (with_reducible exact subst_Line.mono _ _ _ _ _)
   | (with_reducible exact LeO.refl _)
   | (with_reducible exact LeO.none _)
   | (with_reducible refine LeO.ite ?_ ?_)
   | (with_reducible refine LeO.bind ?_ (fun _ => ?_))
   | exact ih0 _ _ _ _ _ _
   | exact ih1 _ _ _ _ _ _
   | exact ih2 _ _ _ _ _ _
   | exact ih3 _ _ _ _ _ _
   | exact foundrylaw20_awake.mono _
   | exact foundryref06_SameInts.mono _ _ _
   | exact subst_Line.mono _ _ _ _ _
   | exact LeO.none _
   | refine LeO.ite ?_ ?_
   | refine LeO.bind ?_ (fun _ => ?_)
  ·intro y0 y1 y2 y3 y4 y5
   unfold foundrylaw20_SubstSingle.j3
   repeat' first
   | (with_reducible exact ih0 _ _ _ _ _ _)
   | (with_reducible exact ih1 _ _ _ _ _ _)
   | (with_reducible exact ih2 _ _ _ _ _ _)
   | (with_reducible exact ih3 _ _ _ _ _ _)
   | (with_reducible exact foundrylaw20_awake.mono _)
   | (with_reducible exact foundryref06_SameInts.mono _ _ _)
   | (with_reducible exact subst_Line.mono _ _ _ _ _)
   | (with_reducible exact LeO.refl _)
   | (with_reducible exact LeO.none _)
   | (with_reducible refine LeO.ite ?_ ?_)
   | (with_reducible refine LeO.bind ?_ (fun _ => ?_))
   | exact ih0 _ _ _ _ _ _
   | exact ih1 _ _ _ _ _ _
   | exact ih2 _ _ _ _ _ _
   | exact ih3 _ _ _ _ _ _
   | exact foundrylaw20_awake.mono _
   | exact foundryref06_SameInts.mono _ _ _
   | exact subst_Line.mono _ _ _ _ _
   | exact LeO.none _
   | refine LeO.ite ?_ ?_
   | refine LeO.bind ?_ (fun _ => ?_)
theorem foundrylaw20_SubstSingle.mono : ∀ a0 a1 a2 a3 a4 k, LeO (foundrylaw20_SubstSingle.f k a0 a1 a2 a3 a4) (foundrylaw20_SubstSingle.f (k + 1) a0 a1 a2 a3 a4) := by
 intro a0 a1 a2 a3 a4 k
 obtain ⟨ih0, ih1, ih2, ih3⟩ := foundrylaw20_SubstSingle.mono_l k
 unfold foundrylaw20_SubstSingle.f
 repeat' first
   | (with_reducible exact ih0 _ _ _ _ _ _)
   | (with_reducible exact ih1 _ _ _ _ _ _)
   | (with_reducible exact ih2 _ _ _ _ _ _)
   | (with_reducible exact ih3 _ _ _ _ _ _)
   | (with_reducible exact foundrylaw20_awake.mono _)
   | (with_reducible exact foundryref06_SameInts.mono _ _ _)
   | (with_reducible exact subst_Line.mono _ _ _ _ _)
   | (with_reducible exact LeO.refl _)
   | (with_reducible exact LeO.none _)
   | (with_reducible refine LeO.ite ?_ ?_)
   | (with_reducible refine LeO.bind ?_ (fun _ => ?_))
   | exact ih0 _ _ _ _ _ _
   | exact ih1 _ _ _ _ _ _
   | exact ih2 _ _ _ _ _ _
   | exact ih3 _ _ _ _ _ _
   | exact foundrylaw20_awake.mono _
   | exact foundryref06_SameInts.mono _ _ _
   | exact subst_Line.mono _ _ _ _ _
   | exact LeO.none _
   | refine LeO.ite ?_ ?_
   | refine LeO.bind ?_ (fun _ => ?_)
end Go.Proofs.Ytoldahmgjenlaaa.Q
