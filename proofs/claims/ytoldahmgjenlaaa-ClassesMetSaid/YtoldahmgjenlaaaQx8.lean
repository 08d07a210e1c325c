-- Written by a program of this session, out of the kit's print tool (see NOTES.md: mypr)
import Derived.Test.YtoldahmgjenlaaaQx0
import Derived.Test.YtoldahmgjenlaaaQx2
import Derived.Test.YtoldahmgjenlaaaQx6
namespace Go.Proofs.Ytoldahmgjenlaaa.Q
open Go.RowKit Go.Proofs.YtoldahmgjenlaaaW.PrintWords Go.Proofs.YtoldahmgjenlaaaW.PrintLast Go.Proofs.YtoldahmgjenlaaaW.PrintMore
attribute [local go_sem] max2_int min2_int max_two min_two max_three min_three max_four min_four   -- for this text's walks alone
set_option linter.unusedVariables false
set_option linter.unusedSimpArgs false

/-! ### foundrylaw19_ClassesMet: function 7 -/
mutual
def foundrylaw19_ClassesMet.j0 : Nat → Int → Bool → List Int → List Bool → List Int → Bool → Option (Bool)
  | 0, _, _, _, _, _, _ => none
  | k + 1, x1, x23, x186000, x186001, x187000, x187001 => if x23 = true then ((foundrylaw19_awake.f k).bind fun t189 => (some t189)) else ((classes_Meet.f k x186000 x186001 x1 x187000 x187001).bind fun bt190 => (if bt190.2 = true then (if (bt190.1.length : Int) = (x187000.length : Int) then (if 0 < (bt190.1.length : Int) then (foundrylaw19_ClassesMet.j1 k x1 bt190.1 ((rd bt190.1 0) != x1) x186000 x186001 x187000 x187001) else (none)) else (foundrylaw19_ClassesMet.j1 k x1 bt190.1 true x186000 x186001 x187000 x187001)) else (some ((bt190.1.length : Int) == 0))))
def foundrylaw19_ClassesMet.j1 : Nat → Int → List Int → Bool → List Int → List Bool → List Int → Bool → Option (Bool)
  | 0, _, _, _, _, _, _, _ => none
  | k + 1, x1, x7, x55, x186000, x186001, x187000, x187001 => if x55 = true then (some false) else (foundrylaw19_ClassesMet.l0 k x1 x7 0 x186000 x186001 x187000 x187001)
def foundrylaw19_ClassesMet.l0 : Nat → Int → List Int → Int → List Int → List Bool → List Int → Bool → Option (Bool)
  | 0, _, _, _, _, _, _, _ => none
  | k + 1, x1, x7, x9, x186000, x186001, x187000, x187001 => if x9 < (x7.length : Int) then (if 0 ≤ x9 then (if (rd x7 x9) < 0 then (foundrylaw19_ClassesMet.j3 k x1 x7 x9 true x186000 x186001 x187000 x187001) else (if (rd x7 x9) ≥ (x186000.length : Int) then (foundrylaw19_ClassesMet.j3 k x1 x7 x9 true x186000 x186001 x187000 x187001) else (if 0 ≤ (rd x7 x9) then (if (rd x7 x9) < (x186000.length : Int) then (if x9 < (x187000.length : Int) then (if (rd x186000 (rd x7 x9)) = (rd x187000 x9) then (if x9 > 0 then (if 0 ≤ (wrap64 (x9 - 1)) then (if (wrap64 (x9 - 1)) < (x7.length : Int) then (foundrylaw19_ClassesMet.j3 k x1 x7 x9 (decide ((rd x7 x9) ≤ (rd x7 (wrap64 (x9 - 1))))) x186000 x186001 x187000 x187001) else (none)) else (none)) else (foundrylaw19_ClassesMet.j3 k x1 x7 x9 false x186000 x186001 x187000 x187001)) else (foundrylaw19_ClassesMet.j3 k x1 x7 x9 true x186000 x186001 x187000 x187001)) else (none)) else (none)) else (none)))) else (none)) else (some true)
def foundrylaw19_ClassesMet.j3 : Nat → Int → List Int → Int → Bool → List Int → List Bool → List Int → Bool → Option (Bool)
  | 0, _, _, _, _, _, _, _, _ => none
  | k + 1, x1, x7, x9, x108, x186000, x186001, x187000, x187001 => if x108 = true then (some false) else (foundrylaw19_ClassesMet.l1 k x1 x7 x9 (wrap64 (x1 + 1)) x186000 x186001 x187000 x187001)
def foundrylaw19_ClassesMet.l1 : Nat → Int → List Int → Int → Int → List Int → List Bool → List Int → Bool → Option (Bool)
  | 0, _, _, _, _, _, _, _, _ => none
  | k + 1, x1, x7, x9, x10, x186000, x186001, x187000, x187001 => if x9 > 0 then (if 0 ≤ x9 then (if x9 < (x7.length : Int) then (foundrylaw19_ClassesMet.j5 k x1 x7 x9 x10 (decide (x10 < (rd x7 x9))) x186000 x186001 x187000 x187001) else (none)) else (none)) else (foundrylaw19_ClassesMet.j5 k x1 x7 x9 x10 false x186000 x186001 x187000 x187001)
def foundrylaw19_ClassesMet.j5 : Nat → Int → List Int → Int → Int → Bool → List Int → List Bool → List Int → Bool → Option (Bool)
  | 0, _, _, _, _, _, _, _, _, _ => none
  | k + 1, x1, x7, x9, x10, x120, x186000, x186001, x187000, x187001 => if x120 = true then (if 0 ≤ (wrap64 (x9 - 1)) then (if (wrap64 (x9 - 1)) < (x7.length : Int) then (if x10 > (rd x7 (wrap64 (x9 - 1))) then (if x187001 = true then (if 0 ≤ x10 then (if x10 < (x186000.length : Int) then ((classes_Mark.f x186001 (rd x186000 x10)).bind fun t205 => (if t205 = true then (foundrylaw19_ClassesMet.l1 k x1 x7 x9 (wrap64 (x10 + 1)) x186000 x186001 x187000 x187001) else (some false))) else (none)) else (none)) else (some false)) else (foundrylaw19_ClassesMet.l1 k x1 x7 x9 (wrap64 (x10 + 1)) x186000 x186001 x187000 x187001)) else (none)) else (none)) else (foundrylaw19_ClassesMet.l0 k x1 x7 (wrap64 (x9 + 1)) x186000 x186001 x187000 x187001)
end
def foundrylaw19_ClassesMet.f (k : Nat) (l0_0 : List Int) (l0_1 : List Bool) (a1 : Int) (l2_0 : List Int) (a2_1 : Bool) : Option (Bool) := (foundrylaw19_awake.f k).bind fun t187 => (if t187 = true then ((foundrylaw19_few.f l0_0 l0_1).bind fun t188 => (if t188 = true then (foundrylaw19_ClassesMet.j0 k a1 (decide ((l2_0.length : Int) > 200)) l0_0 l0_1 l2_0 a2_1) else (foundrylaw19_ClassesMet.j0 k a1 true l0_0 l0_1 l2_0 a2_1))) else (foundrylaw19_ClassesMet.j0 k a1 true l0_0 l0_1 l2_0 a2_1))
theorem foundrylaw19_ClassesMet.mono_l : ∀ k, (∀ y0 y1 y2 y3 y4 y5, LeO (foundrylaw19_ClassesMet.j0 k y0 y1 y2 y3 y4 y5) (foundrylaw19_ClassesMet.j0 (k + 1) y0 y1 y2 y3 y4 y5)) ∧ (∀ y0 y1 y2 y3 y4 y5 y6, LeO (foundrylaw19_ClassesMet.j1 k y0 y1 y2 y3 y4 y5 y6) (foundrylaw19_ClassesMet.j1 (k + 1) y0 y1 y2 y3 y4 y5 y6)) ∧ (∀ y0 y1 y2 y3 y4 y5 y6, LeO (foundrylaw19_ClassesMet.l0 k y0 y1 y2 y3 y4 y5 y6) (foundrylaw19_ClassesMet.l0 (k + 1) y0 y1 y2 y3 y4 y5 y6)) ∧ (∀ y0 y1 y2 y3 y4 y5 y6 y7, LeO (foundrylaw19_ClassesMet.j3 k y0 y1 y2 y3 y4 y5 y6 y7) (foundrylaw19_ClassesMet.j3 (k + 1) y0 y1 y2 y3 y4 y5 y6 y7)) ∧ (∀ y0 y1 y2 y3 y4 y5 y6 y7, LeO (foundrylaw19_ClassesMet.l1 k y0 y1 y2 y3 y4 y5 y6 y7) (foundrylaw19_ClassesMet.l1 (k + 1) y0 y1 y2 y3 y4 y5 y6 y7)) ∧ (∀ y0 y1 y2 y3 y4 y5 y6 y7 y8, LeO (foundrylaw19_ClassesMet.j5 k y0 y1 y2 y3 y4 y5 y6 y7 y8) (foundrylaw19_ClassesMet.j5 (k + 1) y0 y1 y2 y3 y4 y5 y6 y7 y8))
  | 0 => ⟨fun _ _ _ _ _ _ r h => by simp [foundrylaw19_ClassesMet.j0] at h, fun _ _ _ _ _ _ _ r h => by simp [foundrylaw19_ClassesMet.j1] at h, fun _ _ _ _ _ _ _ r h => by simp [foundrylaw19_ClassesMet.l0] at h, fun _ _ _ _ _ _ _ _ r h => by simp [foundrylaw19_ClassesMet.j3] at h, fun _ _ _ _ _ _ _ _ r h => by simp [foundrylaw19_ClassesMet.l1] at h, fun _ _ _ _ _ _ _ _ _ r h => by simp [foundrylaw19_ClassesMet.j5] at h⟩
  | k + 1 => by
    obtain ⟨ih0, ih1, ih2, ih3, ih4, ih5⟩ := foundrylaw19_ClassesMet.mono_l k
    refine ⟨?_, ?_, ?_, ?_, ?_, ?_⟩
    · intro y0 y1 y2 y3 y4 y5
      unfold foundrylaw19_ClassesMet.j0
      repeat' first
      | (with_reducible exact ih0 _ _ _ _ _ _)
      | (with_reducible exact ih1 _ _ _ _ _ _ _)
      | (with_reducible exact ih2 _ _ _ _ _ _ _)
      | (with_reducible exact ih3 _ _ _ _ _ _ _ _)
      | (with_reducible exact ih4 _ _ _ _ _ _ _ _)
      | (with_reducible exact ih5 _ _ _ _ _ _ _ _ _)
      | (with_reducible exact classes_Meet.mono _ _ _ _ _ _)
      | (with_reducible exact foundrylaw19_awake.mono _)
      | (with_reducible exact LeO.refl _)
      | (with_reducible exact LeO.none _)
      | (with_reducible refine LeO.ite ?_ ?_)
      | (with_reducible refine LeO.bind ?_ (fun _ => ?_))
      | exact ih0 _ _ _ _ _ _
      | exact ih1 _ _ _ _ _ _ _
      | exact ih2 _ _ _ _ _ _ _
      | exact ih3 _ _ _ _ _ _ _ _
      | exact ih4 _ _ _ _ _ _ _ _
      | exact ih5 _ _ _ _ _ _ _ _ _
      | exact classes_Meet.mono _ _ _ _ _ _
      | exact foundrylaw19_awake.mono _
      | exact LeO.none _
      | refine LeO.ite ?_ ?_
      | refine LeO.bind ?_ (fun _ => ?_)
    · intro y0 y1 y2 y3 y4 y5 y6
      unfold foundrylaw19_ClassesMet.j1
      repeat' first
      | (with_reducible exact ih0 _ _ _ _ _ _)
      | (with_reducible exact ih1 _ _ _ _ _ _ _)
      | (with_reducible exact ih2 _ _ _ _ _ _ _)
      | (with_reducible exact ih3 _ _ _ _ _ _ _ _)
      | (with_reducible exact ih4 _ _ _ _ _ _ _ _)
      | (with_reducible exact ih5 _ _ _ _ _ _ _ _ _)
      | (with_reducible exact classes_Meet.mono _ _ _ _ _ _)
      | (with_reducible exact foundrylaw19_awake.mono _)
      | (with_reducible exact LeO.refl _)
      | (with_reducible exact LeO.none _)
      | (with_reducible refine LeO.ite ?_ ?_)
      | (with_reducible refine LeO.bind ?_ (fun _ => ?_))
      | exact ih0 _ _ _ _ _ _
      | exact ih1 _ _ _ _ _ _ _
      | exact ih2 _ _ _ _ _ _ _
      | exact ih3 _ _ _ _ _ _ _ _
      | exact ih4 _ _ _ _ _ _ _ _
      | exact ih5 _ _ _ _ _ _ _ _ _
      | exact classes_Meet.mono _ _ _ _ _ _
      | exact foundrylaw19_awake.mono _
      | exact LeO.none _
      | refine LeO.ite ?_ ?_
      | refine LeO.bind ?_ (fun _ => ?_)
    · intro y0 y1 y2 y3 y4 y5 y6
      unfold foundrylaw19_ClassesMet.l0
      repeat' first
      | (with_reducible exact ih0 _ _ _ _ _ _)
      | (with_reducible exact ih1 _ _ _ _ _ _ _)
      | (with_reducible exact ih2 _ _ _ _ _ _ _)
      | (with_reducible exact ih3 _ _ _ _ _ _ _ _)
      | (with_reducible exact ih4 _ _ _ _ _ _ _ _)
      | (with_reducible exact ih5 _ _ _ _ _ _ _ _ _)
      | (with_reducible exact classes_Meet.mono _ _ _ _ _ _)
      | (with_reducible exact foundrylaw19_awake.mono _)
      | (with_reducible exact LeO.refl _)
      | (with_reducible exact LeO.none _)
      | (with_reducible refine LeO.ite ?_ ?_)
      | (with_reducible refine LeO.bind ?_ (fun _ => ?_))
      | exact ih0 _ _ _ _ _ _
      | exact ih1 _ _ _ _ _ _ _
      | exact ih2 _ _ _ _ _ _ _
      | exact ih3 _ _ _ _ _ _ _ _
      | exact ih4 _ _ _ _ _ _ _ _
      | exact ih5 _ _ _ _ _ _ _ _ _
      | exact classes_Meet.mono _ _ _ _ _ _
      | exact foundrylaw19_awake.mono _
      | exact LeO.none _
      | refine LeO.ite ?_ ?_
      | refine LeO.bind ?_ (fun _ => ?_)
    · intro y0 y1 y2 y3 y4 y5 y6 y7
      unfold foundrylaw19_ClassesMet.j3
      repeat' first
      | (with_reducible exact ih0 _ _ _ _ _ _)
      | (with_reducible exact ih1 _ _ _ _ _ _ _)
      | (with_reducible exact ih2 _ _ _ _ _ _ _)
      | (with_reducible exact ih3 _ _ _ _ _ _ _ _)
      | (with_reducible exact ih4 _ _ _ _ _ _ _ _)
      | (with_reducible exact ih5 _ _ _ _ _ _ _ _ _)
      | (with_reducible exact classes_Meet.mono _ _ _ _ _ _)
      | (with_reducible exact foundrylaw19_awake.mono _)
      | (with_reducible exact LeO.refl _)
      | (with_reducible exact LeO.none _)
      | (with_reducible refine LeO.ite ?_ ?_)
      | (with_reducible refine LeO.bind ?_ (fun _ => ?_))
      | exact ih0 _ _ _ _ _ _
      | exact ih1 _ _ _ _ _ _ _
      | exact ih2 _ _ _ _ _ _ _
      | exact ih3 _ _ _ _ _ _ _ _
      | exact ih4 _ _ _ _ _ _ _ _
      | exact ih5 _ _ _ _ _ _ _ _ _
      | exact classes_Meet.mono _ _ _ _ _ _
      | exact foundrylaw19_awake.mono _
      | exact LeO.none _
      | refine LeO.ite ?_ ?_
      | refine LeO.bind ?_ (fun _ => ?_)
    · intro y0 y1 y2 y3 y4 y5 y6 y7
      unfold foundrylaw19_ClassesMet.l1
      repeat' first
      | (with_reducible exact ih0 _ _ _ _ _ _)
      | (with_reducible exact ih1 _ _ _ _ _ _ _)
      | (with_reducible exact ih2 _ _ _ _ _ _ _)
      | (with_reducible exact ih3 _ _ _ _ _ _ _ _)
      | (with_reducible exact ih4 _ _ _ _ _ _ _ _)
      | (with_reducible exact ih5 _ _ _ _ _ _ _ _ _)
      | (with_reducible exact classes_Meet.mono _ _ _ _ _ _)
      | (with_reducible exact foundrylaw19_awake.mono _)
      | (with_reducible exact LeO.refl _)
      | (with_reducible exact LeO.none _)
      | (with_reducible refine LeO.ite ?_ ?_)
      | (with_reducible refine LeO.bind ?_ (fun _ => ?_))
      | exact ih0 _ _ _ _ _ _
      | exact ih1 _ _ _ _ _ _ _
      | exact ih2 _ _ _ _ _ _ _
      | exact ih3 _ _ _ _ _ _ _ _
      | exact ih4 _ _ _ _ _ _ _ _
      | exact ih5 _ _ _ _ _ _ _ _ _
      | exact classes_Meet.mono _ _ _ _ _ _
      | exact foundrylaw19_awake.mono _
      | exact LeO.none _
      | refine LeO.ite ?_ ?_
      | refine LeO.bind ?_ (fun _ => ?_)
    · intro y0 y1 y2 y3 y4 y5 y6 y7 y8
      unfold foundrylaw19_ClassesMet.j5
      repeat' first
      | (with_reducible exact ih0 _ _ _ _ _ _)
      | (with_reducible exact ih1 _ _ _ _ _ _ _)
      | (with_reducible exact ih2 _ _ _ _ _ _ _)
      | (with_reducible exact ih3 _ _ _ _ _ _ _ _)
      | (with_reducible exact ih4 _ _ _ _ _ _ _ _)
      | (with_reducible exact ih5 _ _ _ _ _ _ _ _ _)
      | (with_reducible exact classes_Meet.mono _ _ _ _ _ _)
      | (with_reducible exact foundrylaw19_awake.mono _)
      | (with_reducible exact LeO.refl _)
      | (with_reducible exact LeO.none _)
      | (with_reducible refine LeO.ite ?_ ?_)
      | (with_reducible refine LeO.bind ?_ (fun _ => ?_))
      | exact ih0 _ _ _ _ _ _
      | exact ih1 _ _ _ _ _ _ _
      | exact ih2 _ _ _ _ _ _ _
      | exact ih3 _ _ _ _ _ _ _ _
      | exact ih4 _ _ _ _ _ _ _ _
      | exact ih5 _ _ _ _ _ _ _ _ _
      | exact classes_Meet.mono _ _ _ _ _ _
      | exact foundrylaw19_awake.mono _
      | exact LeO.none _
      | refine LeO.ite ?_ ?_
      | refine LeO.bind ?_ (fun _ => ?_)
theorem foundrylaw19_ClassesMet.mono : ∀ a0 a1 a2 a3 a4 k, LeO (foundrylaw19_ClassesMet.f k a0 a1 a2 a3 a4) (foundrylaw19_ClassesMet.f (k + 1) a0 a1 a2 a3 a4) := by
  intro a0 a1 a2 a3 a4 k
  obtain ⟨ih0, ih1, ih2, ih3, ih4, ih5⟩ := foundrylaw19_ClassesMet.mono_l k
  unfold foundrylaw19_ClassesMet.f
  repeat' first
      | (with_reducible exact ih0 _ _ _ _ _ _)
      | (with_reducible exact ih1 _ _ _ _ _ _ _)
      | (with_reducible exact ih2 _ _ _ _ _ _ _)
      | (with_reducible exact ih3 _ _ _ _ _ _ _ _)
      | (with_reducible exact ih4 _ _ _ _ _ _ _ _)
      | (with_reducible exact ih5 _ _ _ _ _ _ _ _ _)
      | (with_reducible exact classes_Meet.mono _ _ _ _ _ _)
      | (with_reducible exact foundrylaw19_awake.mono _)
      | (with_reducible exact LeO.refl _)
      | (with_reducible exact LeO.none _)
      | (with_reducible refine LeO.ite ?_ ?_)
      | (with_reducible refine LeO.bind ?_ (fun _ => ?_))
      | exact ih0 _ _ _ _ _ _
      | exact ih1 _ _ _ _ _ _ _
      | exact ih2 _ _ _ _ _ _ _
      | exact ih3 _ _ _ _ _ _ _ _
      | exact ih4 _ _ _ _ _ _ _ _
      | exact ih5 _ _ _ _ _ _ _ _ _
      | exact classes_Meet.mono _ _ _ _ _ _
      | exact foundrylaw19_awake.mono _
      | exact LeO.none _
      | refine LeO.ite ?_ ?_
      | refine LeO.bind ?_ (fun _ => ?_)
set_option maxHeartbeats 8000000 in
set_option maxRecDepth 100000 in
theorem foundrylaw19_ClassesMet.calls (k : Nat) (A0_0 : Option Addr) (c0_0 : Nat) (l0_0 : List Int) (A0_1 : Option Addr) (c0_1 : Nat) (l0_1 : List Bool) (a1 : Int) (A2_0 : Option Addr) (c2_0 : Nat) (l2_0 : List Int) (a2_1 : Bool) (r : Bool) (w : World) (hr0_0 : Kd.C (Kd.int .i64) w A0_0 l0_0.length l0_0) (hc0_0 : l0_0.length ≤ c0_0) (hr0_1 : Kd.C Kd.bool w A0_1 l0_1.length l0_1) (hc0_1 : l0_1.length ≤ c0_1) (hr2_0 : Kd.C (Kd.int .i64) w A2_0 l2_0.length l2_0) (hc2_0 : l2_0.length ≤ c2_0) (h : foundrylaw19_ClassesMet.f k l0_0 l0_1 a1 l2_0 a2_1 = some r) :
    Calls Try.prog 7 #[.agg #[.slice A0_0 l0_0.length c0_0, .slice A0_1 l0_1.length c0_1], .int .i64 a1, .agg #[.slice A2_0 l2_0.length c2_0, .bool a2_1]] w fun e w' => e = .returned (.bool r) ∧ Below w.heap.size w w' := by
  have hu25 := Try.underlying25
  have hu34 := Try.underlying34
  have HR0_0 := Aside0.mk hr0_0
  have HC0_0 := Aside0.mk hc0_0
  clear hr0_0 hc0_0
  have HR0_1 := Aside0.mk hr0_1
  have HC0_1 := Aside0.mk hc0_1
  clear hr0_1 hc0_1
  have HR2_0 := Aside0.mk hr2_0
  have HC2_0 := Aside0.mk hc2_0
  clear hr2_0 hc2_0
  have HB := Aside0.mk (Below.refl w.heap.size w)
  have H : ((foundrylaw19_awake.f k).bind fun t187 => (if t187 = true then ((foundrylaw19_few.f l0_0 l0_1).bind fun t188 => (if t188 = true then (foundrylaw19_ClassesMet.j0 k a1 (decide ((l2_0.length : Int) > 200)) l0_0 l0_1 l2_0 a2_1) else (foundrylaw19_ClassesMet.j0 k a1 true l0_0 l0_1 l2_0 a2_1))) else (foundrylaw19_ClassesMet.j0 k a1 true l0_0 l0_1 l2_0 a2_1))) = some r := h
  clear h
  have HC4 := Aside0.mk H
  clear H
  go_enter Try.func7, Try.ntmps7
  go_upto_region 1 with (first | ((with_reducible refine gate_dst (N := 3) rfl ?_); (try (refine gate_guard (by rfl) ?_; dsimp only)); refine box_event ?hg (N := 3) ?hd (cs := #[.slice A0_0 l0_0.length c0_0, .slice A0_1 l0_1.length c0_1]) (t := 25) ?hr ?_; (case hd => rfl); (case hg => rfl); (case hr => first | (go_simp; done) | (go_simp; rfl)); intro gb185 hg w5 hbox hb; have n0_ := Aside0.mk (below_step (by repeat (first | (with_reducible first | exact HB.out | apply below_alloc | apply pw_below_drewN | apply below_drew1) | exact HB.out)) hb); have n1_ := Aside0.mk (hbox); have n2_ := Aside0.mk ((by rw [hg]; exact (below_size (by repeat (first | (with_reducible first | exact HB.out | apply below_alloc | apply pw_below_drewN | apply below_drew1) | exact HB.out))) : w.heap.size ≤ gb185)); have n3_ := Aside0.mk ((by rw [hg]; exact (below_size (by repeat (first | (with_reducible first | exact HB.out | apply below_alloc | apply pw_below_drewN | apply below_drew1) | exact HB.out))) : w.heap.size ≤ gb185)); clear HB; have HB := n0_; have BK185 := n1_; have GW185 := n2_; have GE185 := n3_; clear n0_ n1_ n2_ n3_; clear hb hbox hg) | ((with_reducible refine gate_dst (N := 5) rfl ?_); (try (refine gate_guard (by rfl) ?_; dsimp only)); refine box_event ?hg (N := 5) ?hd (cs := #[.slice A2_0 l2_0.length c2_0, .bool a2_1]) (t := 34) ?hr ?_; (case hd => rfl); (case hg => rfl); (case hr => first | (go_simp; done) | (go_simp; rfl)); intro gb186 hg w6 hbox hb; have n0_ := Aside0.mk (blk_below (g := gb185) (o := .cells #[.slice A0_0 l0_0.length c0_0, .slice A0_1 l0_1.length c0_1] 25 (0, 0)) (by (with_reducible repeat (first | refine blk_drewN ?_ _ | refine blk_drew ?_ | refine blk_alloc ?_ _)); exact BK185.out) hb); have n1_ := Aside0.mk (below_step (by repeat (first | (with_reducible first | exact HB.out | apply below_alloc | apply pw_below_drewN | apply below_drew1 | refine below_set ?_ GE185.out) | exact HB.out)) hb); have n2_ := Aside0.mk (hbox); have n3_ := Aside0.mk ((by rw [hg]; exact (below_size (by repeat (first | (with_reducible first | exact HB.out | apply below_alloc | apply pw_below_drewN | apply below_drew1 | refine below_set ?_ GE185.out) | exact HB.out))) : w.heap.size ≤ gb186)); have n4_ := Aside0.mk ((by rw [hg]; exact (below_size (by repeat (first | (with_reducible first | exact HB.out | apply below_alloc | apply pw_below_drewN | apply below_drew1 | refine below_set ?_ GE185.out) | exact HB.out))) : w.heap.size ≤ gb186)); have n5_ := Aside0.mk ((by rw [hg]; exact Nat.ne_of_lt (blk_lt (g := gb185) (o := .cells #[.slice A0_0 l0_0.length c0_0, .slice A0_1 l0_1.length c0_1] 25 (0, 0)) (by (with_reducible repeat (first | refine blk_drewN ?_ _ | refine blk_drew ?_ | refine blk_alloc ?_ _)); exact BK185.out)) : gb185 ≠ gb186)); have n6_ := Aside0.mk ((by rw [hg]; exact Nat.ne_of_gt (blk_lt (g := gb185) (o := .cells #[.slice A0_0 l0_0.length c0_0, .slice A0_1 l0_1.length c0_1] 25 (0, 0)) (by (with_reducible repeat (first | refine blk_drewN ?_ _ | refine blk_drew ?_ | refine blk_alloc ?_ _)); exact BK185.out)) : gb186 ≠ gb185)); clear BK185; clear HB; have BK185 := n0_; have HB := n1_; have BK186 := n2_; have GW186 := n3_; have GE186 := n4_; have NB185_186 := n5_; have NB186_185 := n6_; clear n0_ n1_ n2_ n3_ n4_ n5_ n6_; clear hb hbox hg))
  repeat (go_quiet (first | ((with_reducible refine gate_dst (N := 3) rfl ?_); (try (refine gate_guard (by rfl) ?_; dsimp only)); refine box_event ?hg (N := 3) ?hd (cs := #[.slice A0_0 l0_0.length c0_0, .slice A0_1 l0_1.length c0_1]) (t := 25) ?hr ?_; (case hd => rfl); (case hg => rfl); (case hr => first | (go_simp; done) | (go_simp; rfl)); intro gb185 hg w5 hbox hb; have n0_ := Aside0.mk (below_step (by repeat (first | (with_reducible first | exact HB.out | apply below_alloc | apply pw_below_drewN | apply below_drew1) | exact HB.out)) hb); have n1_ := Aside0.mk (hbox); have n2_ := Aside0.mk ((by rw [hg]; exact (below_size (by repeat (first | (with_reducible first | exact HB.out | apply below_alloc | apply pw_below_drewN | apply below_drew1) | exact HB.out))) : w.heap.size ≤ gb185)); have n3_ := Aside0.mk ((by rw [hg]; exact (below_size (by repeat (first | (with_reducible first | exact HB.out | apply below_alloc | apply pw_below_drewN | apply below_drew1) | exact HB.out))) : w.heap.size ≤ gb185)); clear HB; have HB := n0_; have BK185 := n1_; have GW185 := n2_; have GE185 := n3_; clear n0_ n1_ n2_ n3_; clear hb hbox hg) | ((with_reducible refine gate_dst (N := 5) rfl ?_); (try (refine gate_guard (by rfl) ?_; dsimp only)); refine box_event ?hg (N := 5) ?hd (cs := #[.slice A2_0 l2_0.length c2_0, .bool a2_1]) (t := 34) ?hr ?_; (case hd => rfl); (case hg => rfl); (case hr => first | (go_simp; done) | (go_simp; rfl)); intro gb186 hg w6 hbox hb; have n0_ := Aside0.mk (blk_below (g := gb185) (o := .cells #[.slice A0_0 l0_0.length c0_0, .slice A0_1 l0_1.length c0_1] 25 (0, 0)) (by (with_reducible repeat (first | refine blk_drewN ?_ _ | refine blk_drew ?_ | refine blk_alloc ?_ _)); exact BK185.out) hb); have n1_ := Aside0.mk (below_step (by repeat (first | (with_reducible first | exact HB.out | apply below_alloc | apply pw_below_drewN | apply below_drew1 | refine below_set ?_ GE185.out) | exact HB.out)) hb); have n2_ := Aside0.mk (hbox); have n3_ := Aside0.mk ((by rw [hg]; exact (below_size (by repeat (first | (with_reducible first | exact HB.out | apply below_alloc | apply pw_below_drewN | apply below_drew1 | refine below_set ?_ GE185.out) | exact HB.out))) : w.heap.size ≤ gb186)); have n4_ := Aside0.mk ((by rw [hg]; exact (below_size (by repeat (first | (with_reducible first | exact HB.out | apply below_alloc | apply pw_below_drewN | apply below_drew1 | refine below_set ?_ GE185.out) | exact HB.out))) : w.heap.size ≤ gb186)); have n5_ := Aside0.mk ((by rw [hg]; exact Nat.ne_of_lt (blk_lt (g := gb185) (o := .cells #[.slice A0_0 l0_0.length c0_0, .slice A0_1 l0_1.length c0_1] 25 (0, 0)) (by (with_reducible repeat (first | refine blk_drewN ?_ _ | refine blk_drew ?_ | refine blk_alloc ?_ _)); exact BK185.out)) : gb185 ≠ gb186)); have n6_ := Aside0.mk ((by rw [hg]; exact Nat.ne_of_gt (blk_lt (g := gb185) (o := .cells #[.slice A0_0 l0_0.length c0_0, .slice A0_1 l0_1.length c0_1] 25 (0, 0)) (by (with_reducible repeat (first | refine blk_drewN ?_ _ | refine blk_drew ?_ | refine blk_alloc ?_ _)); exact BK185.out)) : gb186 ≠ gb185)); clear BK185; clear HB; have BK185 := n0_; have HB := n1_; have BK186 := n2_; have GW186 := n3_; have GE186 := n4_; have NB185_186 := n5_; have NB186_185 := n6_; clear n0_ n1_ n2_ n3_ n4_ n5_ n6_; clear hb hbox hg)); go_upto_region 1 with (first | ((with_reducible refine gate_dst (N := 3) rfl ?_); (try (refine gate_guard (by rfl) ?_; dsimp only)); refine box_event ?hg (N := 3) ?hd (cs := #[.slice A0_0 l0_0.length c0_0, .slice A0_1 l0_1.length c0_1]) (t := 25) ?hr ?_; (case hd => rfl); (case hg => rfl); (case hr => first | (go_simp; done) | (go_simp; rfl)); intro gb185 hg w5 hbox hb; have n0_ := Aside0.mk (below_step (by repeat (first | (with_reducible first | exact HB.out | apply below_alloc | apply pw_below_drewN | apply below_drew1) | exact HB.out)) hb); have n1_ := Aside0.mk (hbox); have n2_ := Aside0.mk ((by rw [hg]; exact (below_size (by repeat (first | (with_reducible first | exact HB.out | apply below_alloc | apply pw_below_drewN | apply below_drew1) | exact HB.out))) : w.heap.size ≤ gb185)); have n3_ := Aside0.mk ((by rw [hg]; exact (below_size (by repeat (first | (with_reducible first | exact HB.out | apply below_alloc | apply pw_below_drewN | apply below_drew1) | exact HB.out))) : w.heap.size ≤ gb185)); clear HB; have HB := n0_; have BK185 := n1_; have GW185 := n2_; have GE185 := n3_; clear n0_ n1_ n2_ n3_; clear hb hbox hg) | ((with_reducible refine gate_dst (N := 5) rfl ?_); (try (refine gate_guard (by rfl) ?_; dsimp only)); refine box_event ?hg (N := 5) ?hd (cs := #[.slice A2_0 l2_0.length c2_0, .bool a2_1]) (t := 34) ?hr ?_; (case hd => rfl); (case hg => rfl); (case hr => first | (go_simp; done) | (go_simp; rfl)); intro gb186 hg w6 hbox hb; have n0_ := Aside0.mk (blk_below (g := gb185) (o := .cells #[.slice A0_0 l0_0.length c0_0, .slice A0_1 l0_1.length c0_1] 25 (0, 0)) (by (with_reducible repeat (first | refine blk_drewN ?_ _ | refine blk_drew ?_ | refine blk_alloc ?_ _)); exact BK185.out) hb); have n1_ := Aside0.mk (below_step (by repeat (first | (with_reducible first | exact HB.out | apply below_alloc | apply pw_below_drewN | apply below_drew1 | refine below_set ?_ GE185.out) | exact HB.out)) hb); have n2_ := Aside0.mk (hbox); have n3_ := Aside0.mk ((by rw [hg]; exact (below_size (by repeat (first | (with_reducible first | exact HB.out | apply below_alloc | apply pw_below_drewN | apply below_drew1 | refine below_set ?_ GE185.out) | exact HB.out))) : w.heap.size ≤ gb186)); have n4_ := Aside0.mk ((by rw [hg]; exact (below_size (by repeat (first | (with_reducible first | exact HB.out | apply below_alloc | apply pw_below_drewN | apply below_drew1 | refine below_set ?_ GE185.out) | exact HB.out))) : w.heap.size ≤ gb186)); have n5_ := Aside0.mk ((by rw [hg]; exact Nat.ne_of_lt (blk_lt (g := gb185) (o := .cells #[.slice A0_0 l0_0.length c0_0, .slice A0_1 l0_1.length c0_1] 25 (0, 0)) (by (with_reducible repeat (first | refine blk_drewN ?_ _ | refine blk_drew ?_ | refine blk_alloc ?_ _)); exact BK185.out)) : gb185 ≠ gb186)); have n6_ := Aside0.mk ((by rw [hg]; exact Nat.ne_of_gt (blk_lt (g := gb185) (o := .cells #[.slice A0_0 l0_0.length c0_0, .slice A0_1 l0_1.length c0_1] 25 (0, 0)) (by (with_reducible repeat (first | refine blk_drewN ?_ _ | refine blk_drew ?_ | refine blk_alloc ?_ _)); exact BK185.out)) : gb186 ≠ gb185)); clear BK185; clear HB; have BK185 := n0_; have HB := n1_; have BK186 := n2_; have GW186 := n3_; have GE186 := n4_; have NB185_186 := n5_; have NB186_185 := n6_; clear n0_ n1_ n2_ n3_ n4_ n5_ n6_; clear hb hbox hg)))
  (try simp only [Act.put, List.setIfInBounds_toArray, List.set_cons_zero, List.set_cons_succ])
  go_cut [23] (fun v23 wc => ∃ (kq : Nat) (x23_3 : Bool), v23 = .bool x23_3 ∧ Aside0 (foundrylaw19_ClassesMet.j0 kq a1 x23_3 l0_0 l0_1 l2_0 a2_1 = some r) ∧ Aside0 (kq ≤ k) ∧ Aside0 (wc.heap[gb185]? = some (.cells #[(.slice A0_0 l0_0.length c0_0), (.slice A0_1 l0_1.length c0_1)] 25 (0, 0))) ∧ Aside0 (wc.heap[gb186]? = some (.cells #[(.slice A2_0 l2_0.length c2_0), .bool a2_1] 34 (0, 0))) ∧ Aside0 (Below w.heap.size w wc))
  case first =>
    have H := HC4.out
    clear HC4
    replace H := Option.bind_eq_some_iff.mp H
    obtain ⟨t187, A70, H⟩ := H
    replace H : (if t187 = true then ((foundrylaw19_few.f l0_0 l0_1).bind fun t188 => (if t188 = true then (foundrylaw19_ClassesMet.j0 k a1 (decide ((l2_0.length : Int) > 200)) l0_0 l0_1 l2_0 a2_1) else (foundrylaw19_ClassesMet.j0 k a1 true l0_0 l0_1 l2_0 a2_1))) else (foundrylaw19_ClassesMet.j0 k a1 true l0_0 l0_1 l2_0 a2_1)) = some r := H
    have A7 := Aside0.mk A70
    clear A70
    by_cases c8 : t187 = true
    · subst c8
      have H1 : ((foundrylaw19_few.f l0_0 l0_1).bind fun t188 => (if t188 = true then (foundrylaw19_ClassesMet.j0 k a1 (decide ((l2_0.length : Int) > 200)) l0_0 l0_1 l2_0 a2_1) else (foundrylaw19_ClassesMet.j0 k a1 true l0_0 l0_1 l2_0 a2_1))) = some r := by rw [if_pos rfl] at H; exact H
      clear H
      have H := H1
      clear H1
      replace H := Option.bind_eq_some_iff.mp H
      obtain ⟨t188, A90, H⟩ := H
      replace H : (if t188 = true then (foundrylaw19_ClassesMet.j0 k a1 (decide ((l2_0.length : Int) > 200)) l0_0 l0_1 l2_0 a2_1) else (foundrylaw19_ClassesMet.j0 k a1 true l0_0 l0_1 l2_0 a2_1)) = some r := H
      have A9 := Aside0.mk A90
      clear A90
      by_cases c10 : t188 = true
      · subst c10
        have H1 : (foundrylaw19_ClassesMet.j0 k a1 (decide ((l2_0.length : Int) > 200)) l0_0 l0_1 l2_0 a2_1) = some r := by rw [if_pos rfl] at H; exact H
        clear H
        have H := H1
        clear H1
        have H' := Aside0.mk H
        clear H
        go_wp2_with (first | (go_at_call 14; (with_reducible refine (foundrylaw19_awake.calls k  true _ A7.out).mono ?_); rintro e w11 ⟨rfl, hb⟩; have n0_ := Aside0.mk (blk_below (g := gb185) (o := .cells #[.slice A0_0 l0_0.length c0_0, .slice A0_1 l0_1.length c0_1] 25 (0, 0)) (by (with_reducible repeat (first | refine blk_drewN ?_ _ | refine blk_drew ?_ | refine blk_alloc ?_ _)); exact BK185.out) hb); have n1_ := Aside0.mk (blk_below (g := gb186) (o := .cells #[.slice A2_0 l2_0.length c2_0, .bool a2_1] 34 (0, 0)) (by (with_reducible repeat (first | refine blk_drewN ?_ _ | refine blk_drew ?_ | refine blk_alloc ?_ _)); exact BK186.out) hb); have n2_ := Aside0.mk (below_step (by repeat (first | (with_reducible first | exact HB.out | apply below_alloc | apply pw_below_drewN | apply below_drew1 | refine below_set ?_ GE185.out | refine below_set ?_ GE186.out) | exact HB.out)) hb); clear BK185; clear BK186; clear HB; have BK185 := n0_; have BK186 := n1_; have HB := n2_; clear n0_ n1_ n2_; (try clear hb); (try clear hb2); (try clear hk); (try clear hi); have hnb12 := NB185_186.out; have hnc12 := NB186_185.out; have hcz13_0 : w11.cell? ⟨gb185, 0, none⟩ = some (.slice A0_0 l0_0.length c0_0) := (blk_cell BK185.out 0).trans rfl; have hcz13_1 : w11.cell? ⟨gb185, 1, none⟩ = some (.slice A0_1 l0_1.length c0_1) := (blk_cell BK185.out 1).trans rfl; have hfz13_0 := blk_frozen BK185.out 0; have hfz13_1 := blk_frozen BK185.out 1) | (go_at_call 15; (with_reducible refine (foundrylaw19_few.calls _ _ l0_0 _ _ l0_1 true _ ?side1 ?side2 ?side3 ?side4 A9.out).mono ?_); (case side1 => repeat (first | exact (Kd.C_below HR0_0.out HB.out) | (with_reducible refine Kd.C_alloc ?_ _) | (with_reducible refine Kd.C_drewN ?_ _) | (with_reducible refine Kd.C_drew ?_))); (case side2 => exact HC0_0.out); (case side3 => repeat (first | exact (Kd.C_below HR0_1.out HB.out) | (with_reducible refine Kd.C_alloc ?_ _) | (with_reducible refine Kd.C_drewN ?_ _) | (with_reducible refine Kd.C_drew ?_))); (case side4 => exact HC0_1.out); rintro e w14 ⟨rfl, hb⟩; have n0_ := Aside0.mk (blk_below (g := gb185) (o := .cells #[.slice A0_0 l0_0.length c0_0, .slice A0_1 l0_1.length c0_1] 25 (0, 0)) (by (with_reducible repeat (first | refine blk_drewN ?_ _ | refine blk_drew ?_ | refine blk_alloc ?_ _)); exact BK185.out) hb); have n1_ := Aside0.mk (blk_below (g := gb186) (o := .cells #[.slice A2_0 l2_0.length c2_0, .bool a2_1] 34 (0, 0)) (by (with_reducible repeat (first | refine blk_drewN ?_ _ | refine blk_drew ?_ | refine blk_alloc ?_ _)); exact BK186.out) hb); have n2_ := Aside0.mk (below_step (by repeat (first | (with_reducible first | exact HB.out | apply below_alloc | apply pw_below_drewN | apply below_drew1 | refine below_set ?_ GE185.out | refine below_set ?_ GE186.out) | exact HB.out)) hb); clear BK185; clear BK186; clear HB; have BK185 := n0_; have BK186 := n1_; have HB := n2_; clear n0_ n1_ n2_; (try clear hb); (try clear hb2); (try clear hk); (try clear hi); have hcz15_0 : w14.cell? ⟨gb186, 0, none⟩ = some (.slice A2_0 l2_0.length c2_0) := (blk_cell BK186.out 0).trans rfl; have hcz15_1 : w14.cell? ⟨gb186, 1, none⟩ = some (.bool a2_1) := (blk_cell BK186.out 1).trans rfl; have hfz15_0 := blk_frozen BK186.out 0; have hfz15_1 := blk_frozen BK186.out 1))
        repeat (go_quiet (first | (go_at_call 14; (with_reducible refine (foundrylaw19_awake.calls k  true _ A7.out).mono ?_); rintro e w11 ⟨rfl, hb⟩; have n0_ := Aside0.mk (blk_below (g := gb185) (o := .cells #[.slice A0_0 l0_0.length c0_0, .slice A0_1 l0_1.length c0_1] 25 (0, 0)) (by (with_reducible repeat (first | refine blk_drewN ?_ _ | refine blk_drew ?_ | refine blk_alloc ?_ _)); exact BK185.out) hb); have n1_ := Aside0.mk (blk_below (g := gb186) (o := .cells #[.slice A2_0 l2_0.length c2_0, .bool a2_1] 34 (0, 0)) (by (with_reducible repeat (first | refine blk_drewN ?_ _ | refine blk_drew ?_ | refine blk_alloc ?_ _)); exact BK186.out) hb); have n2_ := Aside0.mk (below_step (by repeat (first | (with_reducible first | exact HB.out | apply below_alloc | apply pw_below_drewN | apply below_drew1 | refine below_set ?_ GE185.out | refine below_set ?_ GE186.out) | exact HB.out)) hb); clear BK185; clear BK186; clear HB; have BK185 := n0_; have BK186 := n1_; have HB := n2_; clear n0_ n1_ n2_; (try clear hb); (try clear hb2); (try clear hk); (try clear hi); have hnb12 := NB185_186.out; have hnc12 := NB186_185.out; have hcz13_0 : w11.cell? ⟨gb185, 0, none⟩ = some (.slice A0_0 l0_0.length c0_0) := (blk_cell BK185.out 0).trans rfl; have hcz13_1 : w11.cell? ⟨gb185, 1, none⟩ = some (.slice A0_1 l0_1.length c0_1) := (blk_cell BK185.out 1).trans rfl; have hfz13_0 := blk_frozen BK185.out 0; have hfz13_1 := blk_frozen BK185.out 1) | (go_at_call 15; (with_reducible refine (foundrylaw19_few.calls _ _ l0_0 _ _ l0_1 true _ ?side1 ?side2 ?side3 ?side4 A9.out).mono ?_); (case side1 => repeat (first | exact (Kd.C_below HR0_0.out HB.out) | (with_reducible refine Kd.C_alloc ?_ _) | (with_reducible refine Kd.C_drewN ?_ _) | (with_reducible refine Kd.C_drew ?_))); (case side2 => exact HC0_0.out); (case side3 => repeat (first | exact (Kd.C_below HR0_1.out HB.out) | (with_reducible refine Kd.C_alloc ?_ _) | (with_reducible refine Kd.C_drewN ?_ _) | (with_reducible refine Kd.C_drew ?_))); (case side4 => exact HC0_1.out); rintro e w14 ⟨rfl, hb⟩; have n0_ := Aside0.mk (blk_below (g := gb185) (o := .cells #[.slice A0_0 l0_0.length c0_0, .slice A0_1 l0_1.length c0_1] 25 (0, 0)) (by (with_reducible repeat (first | refine blk_drewN ?_ _ | refine blk_drew ?_ | refine blk_alloc ?_ _)); exact BK185.out) hb); have n1_ := Aside0.mk (blk_below (g := gb186) (o := .cells #[.slice A2_0 l2_0.length c2_0, .bool a2_1] 34 (0, 0)) (by (with_reducible repeat (first | refine blk_drewN ?_ _ | refine blk_drew ?_ | refine blk_alloc ?_ _)); exact BK186.out) hb); have n2_ := Aside0.mk (below_step (by repeat (first | (with_reducible first | exact HB.out | apply below_alloc | apply pw_below_drewN | apply below_drew1 | refine below_set ?_ GE185.out | refine below_set ?_ GE186.out) | exact HB.out)) hb); clear BK185; clear BK186; clear HB; have BK185 := n0_; have BK186 := n1_; have HB := n2_; clear n0_ n1_ n2_; (try clear hb); (try clear hb2); (try clear hk); (try clear hi); have hcz15_0 : w14.cell? ⟨gb186, 0, none⟩ = some (.slice A2_0 l2_0.length c2_0) := (blk_cell BK186.out 0).trans rfl; have hcz15_1 : w14.cell? ⟨gb186, 1, none⟩ = some (.bool a2_1) := (blk_cell BK186.out 1).trans rfl; have hfz15_0 := blk_frozen BK186.out 0; have hfz15_1 := blk_frozen BK186.out 1)); try go_wp2_with (first | (go_at_call 14; (with_reducible refine (foundrylaw19_awake.calls k  true _ A7.out).mono ?_); rintro e w11 ⟨rfl, hb⟩; have n0_ := Aside0.mk (blk_below (g := gb185) (o := .cells #[.slice A0_0 l0_0.length c0_0, .slice A0_1 l0_1.length c0_1] 25 (0, 0)) (by (with_reducible repeat (first | refine blk_drewN ?_ _ | refine blk_drew ?_ | refine blk_alloc ?_ _)); exact BK185.out) hb); have n1_ := Aside0.mk (blk_below (g := gb186) (o := .cells #[.slice A2_0 l2_0.length c2_0, .bool a2_1] 34 (0, 0)) (by (with_reducible repeat (first | refine blk_drewN ?_ _ | refine blk_drew ?_ | refine blk_alloc ?_ _)); exact BK186.out) hb); have n2_ := Aside0.mk (below_step (by repeat (first | (with_reducible first | exact HB.out | apply below_alloc | apply pw_below_drewN | apply below_drew1 | refine below_set ?_ GE185.out | refine below_set ?_ GE186.out) | exact HB.out)) hb); clear BK185; clear BK186; clear HB; have BK185 := n0_; have BK186 := n1_; have HB := n2_; clear n0_ n1_ n2_; (try clear hb); (try clear hb2); (try clear hk); (try clear hi); have hnb12 := NB185_186.out; have hnc12 := NB186_185.out; have hcz13_0 : w11.cell? ⟨gb185, 0, none⟩ = some (.slice A0_0 l0_0.length c0_0) := (blk_cell BK185.out 0).trans rfl; have hcz13_1 : w11.cell? ⟨gb185, 1, none⟩ = some (.slice A0_1 l0_1.length c0_1) := (blk_cell BK185.out 1).trans rfl; have hfz13_0 := blk_frozen BK185.out 0; have hfz13_1 := blk_frozen BK185.out 1) | (go_at_call 15; (with_reducible refine (foundrylaw19_few.calls _ _ l0_0 _ _ l0_1 true _ ?side1 ?side2 ?side3 ?side4 A9.out).mono ?_); (case side1 => repeat (first | exact (Kd.C_below HR0_0.out HB.out) | (with_reducible refine Kd.C_alloc ?_ _) | (with_reducible refine Kd.C_drewN ?_ _) | (with_reducible refine Kd.C_drew ?_))); (case side2 => exact HC0_0.out); (case side3 => repeat (first | exact (Kd.C_below HR0_1.out HB.out) | (with_reducible refine Kd.C_alloc ?_ _) | (with_reducible refine Kd.C_drewN ?_ _) | (with_reducible refine Kd.C_drew ?_))); (case side4 => exact HC0_1.out); rintro e w14 ⟨rfl, hb⟩; have n0_ := Aside0.mk (blk_below (g := gb185) (o := .cells #[.slice A0_0 l0_0.length c0_0, .slice A0_1 l0_1.length c0_1] 25 (0, 0)) (by (with_reducible repeat (first | refine blk_drewN ?_ _ | refine blk_drew ?_ | refine blk_alloc ?_ _)); exact BK185.out) hb); have n1_ := Aside0.mk (blk_below (g := gb186) (o := .cells #[.slice A2_0 l2_0.length c2_0, .bool a2_1] 34 (0, 0)) (by (with_reducible repeat (first | refine blk_drewN ?_ _ | refine blk_drew ?_ | refine blk_alloc ?_ _)); exact BK186.out) hb); have n2_ := Aside0.mk (below_step (by repeat (first | (with_reducible first | exact HB.out | apply below_alloc | apply pw_below_drewN | apply below_drew1 | refine below_set ?_ GE185.out | refine below_set ?_ GE186.out) | exact HB.out)) hb); clear BK185; clear BK186; clear HB; have BK185 := n0_; have BK186 := n1_; have HB := n2_; clear n0_ n1_ n2_; (try clear hb); (try clear hb2); (try clear hk); (try clear hi); have hcz15_0 : w14.cell? ⟨gb186, 0, none⟩ = some (.slice A2_0 l2_0.length c2_0) := (blk_cell BK186.out 0).trans rfl; have hcz15_1 : w14.cell? ⟨gb186, 1, none⟩ = some (.bool a2_1) := (blk_cell BK186.out 1).trans rfl; have hfz15_0 := blk_frozen BK186.out 0; have hfz15_1 := blk_frozen BK186.out 1)))
        go_meet
        case rel => exact ⟨_, (decide ((l2_0.length : Int) > 200)), (by first | rfl | (simp; done) | (simp [*]; done)), H', ⟨by first | omega | exact Nat.le_refl _⟩, ⟨by (with_reducible repeat (first | refine blk_drewN ?_ _ | refine blk_drew ?_ | refine blk_alloc ?_ _)); exact BK185.out⟩, ⟨by (with_reducible repeat (first | refine blk_drewN ?_ _ | refine blk_drew ?_ | refine blk_alloc ?_ _)); exact BK186.out⟩, ⟨by repeat (first | (with_reducible first | exact HB.out | apply below_alloc | apply pw_below_drewN | apply below_drew1 | refine below_set ?_ GE185.out | refine below_set ?_ GE186.out) | exact HB.out)⟩⟩
      · replace c10 := Bool.eq_false_iff.mpr c10
        subst c10
        have H1 : (foundrylaw19_ClassesMet.j0 k a1 true l0_0 l0_1 l2_0 a2_1) = some r := by rw [if_neg (show ¬ (false = true) by decide)] at H; exact H
        clear H
        have H := H1
        clear H1
        have H' := Aside0.mk H
        clear H
        go_wp2_with (first | (go_at_call 14; (with_reducible refine (foundrylaw19_awake.calls k  true _ A7.out).mono ?_); rintro e w16 ⟨rfl, hb⟩; have n0_ := Aside0.mk (blk_below (g := gb185) (o := .cells #[.slice A0_0 l0_0.length c0_0, .slice A0_1 l0_1.length c0_1] 25 (0, 0)) (by (with_reducible repeat (first | refine blk_drewN ?_ _ | refine blk_drew ?_ | refine blk_alloc ?_ _)); exact BK185.out) hb); have n1_ := Aside0.mk (blk_below (g := gb186) (o := .cells #[.slice A2_0 l2_0.length c2_0, .bool a2_1] 34 (0, 0)) (by (with_reducible repeat (first | refine blk_drewN ?_ _ | refine blk_drew ?_ | refine blk_alloc ?_ _)); exact BK186.out) hb); have n2_ := Aside0.mk (below_step (by repeat (first | (with_reducible first | exact HB.out | apply below_alloc | apply pw_below_drewN | apply below_drew1 | refine below_set ?_ GE185.out | refine below_set ?_ GE186.out) | exact HB.out)) hb); clear BK185; clear BK186; clear HB; have BK185 := n0_; have BK186 := n1_; have HB := n2_; clear n0_ n1_ n2_; (try clear hb); (try clear hb2); (try clear hk); (try clear hi); have hnb17 := NB185_186.out; have hnc17 := NB186_185.out; have hcz18_0 : w16.cell? ⟨gb185, 0, none⟩ = some (.slice A0_0 l0_0.length c0_0) := (blk_cell BK185.out 0).trans rfl; have hcz18_1 : w16.cell? ⟨gb185, 1, none⟩ = some (.slice A0_1 l0_1.length c0_1) := (blk_cell BK185.out 1).trans rfl; have hfz18_0 := blk_frozen BK185.out 0; have hfz18_1 := blk_frozen BK185.out 1) | (go_at_call 15; (with_reducible refine (foundrylaw19_few.calls _ _ l0_0 _ _ l0_1 false _ ?side1 ?side2 ?side3 ?side4 A9.out).mono ?_); (case side1 => repeat (first | exact (Kd.C_below HR0_0.out HB.out) | (with_reducible refine Kd.C_alloc ?_ _) | (with_reducible refine Kd.C_drewN ?_ _) | (with_reducible refine Kd.C_drew ?_))); (case side2 => exact HC0_0.out); (case side3 => repeat (first | exact (Kd.C_below HR0_1.out HB.out) | (with_reducible refine Kd.C_alloc ?_ _) | (with_reducible refine Kd.C_drewN ?_ _) | (with_reducible refine Kd.C_drew ?_))); (case side4 => exact HC0_1.out); rintro e w19 ⟨rfl, hb⟩; have n0_ := Aside0.mk (blk_below (g := gb185) (o := .cells #[.slice A0_0 l0_0.length c0_0, .slice A0_1 l0_1.length c0_1] 25 (0, 0)) (by (with_reducible repeat (first | refine blk_drewN ?_ _ | refine blk_drew ?_ | refine blk_alloc ?_ _)); exact BK185.out) hb); have n1_ := Aside0.mk (blk_below (g := gb186) (o := .cells #[.slice A2_0 l2_0.length c2_0, .bool a2_1] 34 (0, 0)) (by (with_reducible repeat (first | refine blk_drewN ?_ _ | refine blk_drew ?_ | refine blk_alloc ?_ _)); exact BK186.out) hb); have n2_ := Aside0.mk (below_step (by repeat (first | (with_reducible first | exact HB.out | apply below_alloc | apply pw_below_drewN | apply below_drew1 | refine below_set ?_ GE185.out | refine below_set ?_ GE186.out) | exact HB.out)) hb); clear BK185; clear BK186; clear HB; have BK185 := n0_; have BK186 := n1_; have HB := n2_; clear n0_ n1_ n2_; (try clear hb); (try clear hb2); (try clear hk); (try clear hi)))
        repeat (go_quiet (first | (go_at_call 14; (with_reducible refine (foundrylaw19_awake.calls k  true _ A7.out).mono ?_); rintro e w16 ⟨rfl, hb⟩; have n0_ := Aside0.mk (blk_below (g := gb185) (o := .cells #[.slice A0_0 l0_0.length c0_0, .slice A0_1 l0_1.length c0_1] 25 (0, 0)) (by (with_reducible repeat (first | refine blk_drewN ?_ _ | refine blk_drew ?_ | refine blk_alloc ?_ _)); exact BK185.out) hb); have n1_ := Aside0.mk (blk_below (g := gb186) (o := .cells #[.slice A2_0 l2_0.length c2_0, .bool a2_1] 34 (0, 0)) (by (with_reducible repeat (first | refine blk_drewN ?_ _ | refine blk_drew ?_ | refine blk_alloc ?_ _)); exact BK186.out) hb); have n2_ := Aside0.mk (below_step (by repeat (first | (with_reducible first | exact HB.out | apply below_alloc | apply pw_below_drewN | apply below_drew1 | refine below_set ?_ GE185.out | refine below_set ?_ GE186.out) | exact HB.out)) hb); clear BK185; clear BK186; clear HB; have BK185 := n0_; have BK186 := n1_; have HB := n2_; clear n0_ n1_ n2_; (try clear hb); (try clear hb2); (try clear hk); (try clear hi); have hnb17 := NB185_186.out; have hnc17 := NB186_185.out; have hcz18_0 : w16.cell? ⟨gb185, 0, none⟩ = some (.slice A0_0 l0_0.length c0_0) := (blk_cell BK185.out 0).trans rfl; have hcz18_1 : w16.cell? ⟨gb185, 1, none⟩ = some (.slice A0_1 l0_1.length c0_1) := (blk_cell BK185.out 1).trans rfl; have hfz18_0 := blk_frozen BK185.out 0; have hfz18_1 := blk_frozen BK185.out 1) | (go_at_call 15; (with_reducible refine (foundrylaw19_few.calls _ _ l0_0 _ _ l0_1 false _ ?side1 ?side2 ?side3 ?side4 A9.out).mono ?_); (case side1 => repeat (first | exact (Kd.C_below HR0_0.out HB.out) | (with_reducible refine Kd.C_alloc ?_ _) | (with_reducible refine Kd.C_drewN ?_ _) | (with_reducible refine Kd.C_drew ?_))); (case side2 => exact HC0_0.out); (case side3 => repeat (first | exact (Kd.C_below HR0_1.out HB.out) | (with_reducible refine Kd.C_alloc ?_ _) | (with_reducible refine Kd.C_drewN ?_ _) | (with_reducible refine Kd.C_drew ?_))); (case side4 => exact HC0_1.out); rintro e w19 ⟨rfl, hb⟩; have n0_ := Aside0.mk (blk_below (g := gb185) (o := .cells #[.slice A0_0 l0_0.length c0_0, .slice A0_1 l0_1.length c0_1] 25 (0, 0)) (by (with_reducible repeat (first | refine blk_drewN ?_ _ | refine blk_drew ?_ | refine blk_alloc ?_ _)); exact BK185.out) hb); have n1_ := Aside0.mk (blk_below (g := gb186) (o := .cells #[.slice A2_0 l2_0.length c2_0, .bool a2_1] 34 (0, 0)) (by (with_reducible repeat (first | refine blk_drewN ?_ _ | refine blk_drew ?_ | refine blk_alloc ?_ _)); exact BK186.out) hb); have n2_ := Aside0.mk (below_step (by repeat (first | (with_reducible first | exact HB.out | apply below_alloc | apply pw_below_drewN | apply below_drew1 | refine below_set ?_ GE185.out | refine below_set ?_ GE186.out) | exact HB.out)) hb); clear BK185; clear BK186; clear HB; have BK185 := n0_; have BK186 := n1_; have HB := n2_; clear n0_ n1_ n2_; (try clear hb); (try clear hb2); (try clear hk); (try clear hi))); try go_wp2_with (first | (go_at_call 14; (with_reducible refine (foundrylaw19_awake.calls k  true _ A7.out).mono ?_); rintro e w16 ⟨rfl, hb⟩; have n0_ := Aside0.mk (blk_below (g := gb185) (o := .cells #[.slice A0_0 l0_0.length c0_0, .slice A0_1 l0_1.length c0_1] 25 (0, 0)) (by (with_reducible repeat (first | refine blk_drewN ?_ _ | refine blk_drew ?_ | refine blk_alloc ?_ _)); exact BK185.out) hb); have n1_ := Aside0.mk (blk_below (g := gb186) (o := .cells #[.slice A2_0 l2_0.length c2_0, .bool a2_1] 34 (0, 0)) (by (with_reducible repeat (first | refine blk_drewN ?_ _ | refine blk_drew ?_ | refine blk_alloc ?_ _)); exact BK186.out) hb); have n2_ := Aside0.mk (below_step (by repeat (first | (with_reducible first | exact HB.out | apply below_alloc | apply pw_below_drewN | apply below_drew1 | refine below_set ?_ GE185.out | refine below_set ?_ GE186.out) | exact HB.out)) hb); clear BK185; clear BK186; clear HB; have BK185 := n0_; have BK186 := n1_; have HB := n2_; clear n0_ n1_ n2_; (try clear hb); (try clear hb2); (try clear hk); (try clear hi); have hnb17 := NB185_186.out; have hnc17 := NB186_185.out; have hcz18_0 : w16.cell? ⟨gb185, 0, none⟩ = some (.slice A0_0 l0_0.length c0_0) := (blk_cell BK185.out 0).trans rfl; have hcz18_1 : w16.cell? ⟨gb185, 1, none⟩ = some (.slice A0_1 l0_1.length c0_1) := (blk_cell BK185.out 1).trans rfl; have hfz18_0 := blk_frozen BK185.out 0; have hfz18_1 := blk_frozen BK185.out 1) | (go_at_call 15; (with_reducible refine (foundrylaw19_few.calls _ _ l0_0 _ _ l0_1 false _ ?side1 ?side2 ?side3 ?side4 A9.out).mono ?_); (case side1 => repeat (first | exact (Kd.C_below HR0_0.out HB.out) | (with_reducible refine Kd.C_alloc ?_ _) | (with_reducible refine Kd.C_drewN ?_ _) | (with_reducible refine Kd.C_drew ?_))); (case side2 => exact HC0_0.out); (case side3 => repeat (first | exact (Kd.C_below HR0_1.out HB.out) | (with_reducible refine Kd.C_alloc ?_ _) | (with_reducible refine Kd.C_drewN ?_ _) | (with_reducible refine Kd.C_drew ?_))); (case side4 => exact HC0_1.out); rintro e w19 ⟨rfl, hb⟩; have n0_ := Aside0.mk (blk_below (g := gb185) (o := .cells #[.slice A0_0 l0_0.length c0_0, .slice A0_1 l0_1.length c0_1] 25 (0, 0)) (by (with_reducible repeat (first | refine blk_drewN ?_ _ | refine blk_drew ?_ | refine blk_alloc ?_ _)); exact BK185.out) hb); have n1_ := Aside0.mk (blk_below (g := gb186) (o := .cells #[.slice A2_0 l2_0.length c2_0, .bool a2_1] 34 (0, 0)) (by (with_reducible repeat (first | refine blk_drewN ?_ _ | refine blk_drew ?_ | refine blk_alloc ?_ _)); exact BK186.out) hb); have n2_ := Aside0.mk (below_step (by repeat (first | (with_reducible first | exact HB.out | apply below_alloc | apply pw_below_drewN | apply below_drew1 | refine below_set ?_ GE185.out | refine below_set ?_ GE186.out) | exact HB.out)) hb); clear BK185; clear BK186; clear HB; have BK185 := n0_; have BK186 := n1_; have HB := n2_; clear n0_ n1_ n2_; (try clear hb); (try clear hb2); (try clear hk); (try clear hi))))
        go_meet
        case rel => exact ⟨_, (true), (by first | rfl | (simp; done) | (simp [*]; done)), H', ⟨by first | omega | exact Nat.le_refl _⟩, ⟨by (with_reducible repeat (first | refine blk_drewN ?_ _ | refine blk_drew ?_ | refine blk_alloc ?_ _)); exact BK185.out⟩, ⟨by (with_reducible repeat (first | refine blk_drewN ?_ _ | refine blk_drew ?_ | refine blk_alloc ?_ _)); exact BK186.out⟩, ⟨by repeat (first | (with_reducible first | exact HB.out | apply below_alloc | apply pw_below_drewN | apply below_drew1 | refine below_set ?_ GE185.out | refine below_set ?_ GE186.out) | exact HB.out)⟩⟩
    · replace c8 := Bool.eq_false_iff.mpr c8
      subst c8
      have H1 : (foundrylaw19_ClassesMet.j0 k a1 true l0_0 l0_1 l2_0 a2_1) = some r := by rw [if_neg (show ¬ (false = true) by decide)] at H; exact H
      clear H
      have H := H1
      clear H1
      have H' := Aside0.mk H
      clear H
      go_wp2_with (first | (go_at_call 14; (with_reducible refine (foundrylaw19_awake.calls k  false _ A7.out).mono ?_); rintro e w20 ⟨rfl, hb⟩; have n0_ := Aside0.mk (blk_below (g := gb185) (o := .cells #[.slice A0_0 l0_0.length c0_0, .slice A0_1 l0_1.length c0_1] 25 (0, 0)) (by (with_reducible repeat (first | refine blk_drewN ?_ _ | refine blk_drew ?_ | refine blk_alloc ?_ _)); exact BK185.out) hb); have n1_ := Aside0.mk (blk_below (g := gb186) (o := .cells #[.slice A2_0 l2_0.length c2_0, .bool a2_1] 34 (0, 0)) (by (with_reducible repeat (first | refine blk_drewN ?_ _ | refine blk_drew ?_ | refine blk_alloc ?_ _)); exact BK186.out) hb); have n2_ := Aside0.mk (below_step (by repeat (first | (with_reducible first | exact HB.out | apply below_alloc | apply pw_below_drewN | apply below_drew1 | refine below_set ?_ GE185.out | refine below_set ?_ GE186.out) | exact HB.out)) hb); clear BK185; clear BK186; clear HB; have BK185 := n0_; have BK186 := n1_; have HB := n2_; clear n0_ n1_ n2_; (try clear hb); (try clear hb2); (try clear hk); (try clear hi)))
      repeat (go_quiet (first | (go_at_call 14; (with_reducible refine (foundrylaw19_awake.calls k  false _ A7.out).mono ?_); rintro e w20 ⟨rfl, hb⟩; have n0_ := Aside0.mk (blk_below (g := gb185) (o := .cells #[.slice A0_0 l0_0.length c0_0, .slice A0_1 l0_1.length c0_1] 25 (0, 0)) (by (with_reducible repeat (first | refine blk_drewN ?_ _ | refine blk_drew ?_ | refine blk_alloc ?_ _)); exact BK185.out) hb); have n1_ := Aside0.mk (blk_below (g := gb186) (o := .cells #[.slice A2_0 l2_0.length c2_0, .bool a2_1] 34 (0, 0)) (by (with_reducible repeat (first | refine blk_drewN ?_ _ | refine blk_drew ?_ | refine blk_alloc ?_ _)); exact BK186.out) hb); have n2_ := Aside0.mk (below_step (by repeat (first | (with_reducible first | exact HB.out | apply below_alloc | apply pw_below_drewN | apply below_drew1 | refine below_set ?_ GE185.out | refine below_set ?_ GE186.out) | exact HB.out)) hb); clear BK185; clear BK186; clear HB; have BK185 := n0_; have BK186 := n1_; have HB := n2_; clear n0_ n1_ n2_; (try clear hb); (try clear hb2); (try clear hk); (try clear hi))); try go_wp2_with (first | (go_at_call 14; (with_reducible refine (foundrylaw19_awake.calls k  false _ A7.out).mono ?_); rintro e w20 ⟨rfl, hb⟩; have n0_ := Aside0.mk (blk_below (g := gb185) (o := .cells #[.slice A0_0 l0_0.length c0_0, .slice A0_1 l0_1.length c0_1] 25 (0, 0)) (by (with_reducible repeat (first | refine blk_drewN ?_ _ | refine blk_drew ?_ | refine blk_alloc ?_ _)); exact BK185.out) hb); have n1_ := Aside0.mk (blk_below (g := gb186) (o := .cells #[.slice A2_0 l2_0.length c2_0, .bool a2_1] 34 (0, 0)) (by (with_reducible repeat (first | refine blk_drewN ?_ _ | refine blk_drew ?_ | refine blk_alloc ?_ _)); exact BK186.out) hb); have n2_ := Aside0.mk (below_step (by repeat (first | (with_reducible first | exact HB.out | apply below_alloc | apply pw_below_drewN | apply below_drew1 | refine below_set ?_ GE185.out | refine below_set ?_ GE186.out) | exact HB.out)) hb); clear BK185; clear BK186; clear HB; have BK185 := n0_; have BK186 := n1_; have HB := n2_; clear n0_ n1_ n2_; (try clear hb); (try clear hb2); (try clear hk); (try clear hi))))
      go_meet
      case rel => exact ⟨_, (true), (by first | rfl | (simp; done) | (simp [*]; done)), H', ⟨by first | omega | exact Nat.le_refl _⟩, ⟨by (with_reducible repeat (first | refine blk_drewN ?_ _ | refine blk_drew ?_ | refine blk_alloc ?_ _)); exact BK185.out⟩, ⟨by (with_reducible repeat (first | refine blk_drewN ?_ _ | refine blk_drew ?_ | refine blk_alloc ?_ _)); exact BK186.out⟩, ⟨by repeat (first | (with_reducible first | exact HB.out | apply below_alloc | apply pw_below_drewN | apply below_drew1 | refine below_set ?_ GE185.out | refine below_set ?_ GE186.out) | exact HB.out)⟩⟩
  case rest =>
    clear HC4
    try clear c1
    try clear c2
    try clear p2
    try clear c7
    try clear c8
    try clear c10
    try clear c12
    try clear c17
    try clear hcz13_0
    try clear hcz13_1
    try clear hcz15_0
    try clear hcz15_1
    try clear hcz18_0
    try clear hcz18_1
    try clear hfz13_0
    try clear hfz13_1
    try clear hfz15_0
    try clear hfz15_1
    try clear hfz18_0
    try clear hfz18_1
    obtain ⟨kq, x23_3, rfl, HA, HJ3, BK185, BK186, HB⟩ := hcut
    cases kq with
    | zero => exact absurd HA.out (by simp [foundrylaw19_ClassesMet.j0])
    | succ kj3 =>
      have H := HA.out
      clear HA
      simp only [foundrylaw19_ClassesMet.j0] at H
      by_cases c21 : x23_3 = true
      · subst c21
        have H1 : ((foundrylaw19_awake.f kj3).bind fun t189 => (some t189)) = some r := by rw [if_pos rfl] at H; exact H
        clear H
        have H := H1
        clear H1
        replace H := Option.bind_eq_some_iff.mp H
        obtain ⟨t189, A220, H⟩ := H
        replace H : (some t189) = some r := H
        have A22 := Aside0.mk A220
        clear A220
        obtain rfl := Option.some.inj H
        go_wp2_with (first | (go_at_call 14; (with_reducible refine (foundrylaw19_awake.calls kj3  t189 _ A22.out).mono ?_); rintro e w23 ⟨rfl, hb⟩; have n0_ := Aside0.mk (blk_below (g := gb185) (o := .cells #[.slice A0_0 l0_0.length c0_0, .slice A0_1 l0_1.length c0_1] 25 (0, 0)) (by (with_reducible repeat (first | refine blk_drewN ?_ _ | refine blk_drew ?_ | refine blk_alloc ?_ _)); exact BK185.out) hb); have n1_ := Aside0.mk (blk_below (g := gb186) (o := .cells #[.slice A2_0 l2_0.length c2_0, .bool a2_1] 34 (0, 0)) (by (with_reducible repeat (first | refine blk_drewN ?_ _ | refine blk_drew ?_ | refine blk_alloc ?_ _)); exact BK186.out) hb); have n2_ := Aside0.mk (below_step (by repeat (first | (with_reducible first | exact HB.out | apply below_alloc | apply pw_below_drewN | apply below_drew1 | refine below_set ?_ GE185.out | refine below_set ?_ GE186.out) | exact HB.out)) hb); clear BK185; clear BK186; clear HB; have BK185 := n0_; have BK186 := n1_; have HB := n2_; clear n0_ n1_ n2_; (try clear hb); (try clear hb2); (try clear hk); (try clear hi)))
        repeat (go_quiet (first | (go_at_call 14; (with_reducible refine (foundrylaw19_awake.calls kj3  t189 _ A22.out).mono ?_); rintro e w23 ⟨rfl, hb⟩; have n0_ := Aside0.mk (blk_below (g := gb185) (o := .cells #[.slice A0_0 l0_0.length c0_0, .slice A0_1 l0_1.length c0_1] 25 (0, 0)) (by (with_reducible repeat (first | refine blk_drewN ?_ _ | refine blk_drew ?_ | refine blk_alloc ?_ _)); exact BK185.out) hb); have n1_ := Aside0.mk (blk_below (g := gb186) (o := .cells #[.slice A2_0 l2_0.length c2_0, .bool a2_1] 34 (0, 0)) (by (with_reducible repeat (first | refine blk_drewN ?_ _ | refine blk_drew ?_ | refine blk_alloc ?_ _)); exact BK186.out) hb); have n2_ := Aside0.mk (below_step (by repeat (first | (with_reducible first | exact HB.out | apply below_alloc | apply pw_below_drewN | apply below_drew1 | refine below_set ?_ GE185.out | refine below_set ?_ GE186.out) | exact HB.out)) hb); clear BK185; clear BK186; clear HB; have BK185 := n0_; have BK186 := n1_; have HB := n2_; clear n0_ n1_ n2_; (try clear hb); (try clear hb2); (try clear hk); (try clear hi))); try go_wp2_with (first | (go_at_call 14; (with_reducible refine (foundrylaw19_awake.calls kj3  t189 _ A22.out).mono ?_); rintro e w23 ⟨rfl, hb⟩; have n0_ := Aside0.mk (blk_below (g := gb185) (o := .cells #[.slice A0_0 l0_0.length c0_0, .slice A0_1 l0_1.length c0_1] 25 (0, 0)) (by (with_reducible repeat (first | refine blk_drewN ?_ _ | refine blk_drew ?_ | refine blk_alloc ?_ _)); exact BK185.out) hb); have n1_ := Aside0.mk (blk_below (g := gb186) (o := .cells #[.slice A2_0 l2_0.length c2_0, .bool a2_1] 34 (0, 0)) (by (with_reducible repeat (first | refine blk_drewN ?_ _ | refine blk_drew ?_ | refine blk_alloc ?_ _)); exact BK186.out) hb); have n2_ := Aside0.mk (below_step (by repeat (first | (with_reducible first | exact HB.out | apply below_alloc | apply pw_below_drewN | apply below_drew1 | refine below_set ?_ GE185.out | refine below_set ?_ GE186.out) | exact HB.out)) hb); clear BK185; clear BK186; clear HB; have BK185 := n0_; have BK186 := n1_; have HB := n2_; clear n0_ n1_ n2_; (try clear hb); (try clear hb2); (try clear hk); (try clear hi))))
        go_ret
        exact ⟨by first | rfl | (simp [errW_none, errW_some] <;> rfl) | (simp [*, errW_none, errW_some] <;> rfl), by repeat (first | (with_reducible first | exact HB.out | apply below_alloc | apply pw_below_drewN | apply below_drew1 | refine below_set ?_ GE185.out | refine below_set ?_ GE186.out) | exact HB.out)⟩
      · replace c21 := Bool.eq_false_iff.mpr c21
        subst c21
        have H1 : ((classes_Meet.f kj3 l0_0 l0_1 a1 l2_0 a2_1).bind fun bt190 => (if bt190.2 = true then (if (bt190.1.length : Int) = (l2_0.length : Int) then (if 0 < (bt190.1.length : Int) then (foundrylaw19_ClassesMet.j1 kj3 a1 bt190.1 ((rd bt190.1 0) != a1) l0_0 l0_1 l2_0 a2_1) else (none)) else (foundrylaw19_ClassesMet.j1 kj3 a1 bt190.1 true l0_0 l0_1 l2_0 a2_1)) else (some ((bt190.1.length : Int) == 0)))) = some r := by rw [if_neg (show ¬ (false = true) by decide)] at H; exact H
        clear H
        have H := H1
        clear H1
        replace H := Option.bind_eq_some_iff.mp H
        obtain ⟨⟨t190, t191⟩, A240, H⟩ := H
        replace H : (if t191 = true then (if (t190.length : Int) = (l2_0.length : Int) then (if 0 < (t190.length : Int) then (foundrylaw19_ClassesMet.j1 kj3 a1 t190 ((rd t190 0) != a1) l0_0 l0_1 l2_0 a2_1) else (none)) else (foundrylaw19_ClassesMet.j1 kj3 a1 t190 true l0_0 l0_1 l2_0 a2_1)) else (some ((t190.length : Int) == 0))) = some r := H
        have A24 := Aside0.mk A240
        clear A240
        by_cases c25 : t191 = true
        · subst c25
          have H1 : (if (t190.length : Int) = (l2_0.length : Int) then (if 0 < (t190.length : Int) then (foundrylaw19_ClassesMet.j1 kj3 a1 t190 ((rd t190 0) != a1) l0_0 l0_1 l2_0 a2_1) else (none)) else (foundrylaw19_ClassesMet.j1 kj3 a1 t190 true l0_0 l0_1 l2_0 a2_1)) = some r := by rw [if_pos rfl] at H; exact H
          clear H
          have H := H1
          clear H1
          have HC26 := Aside0.mk H
          clear H
          have hnb27 := NB185_186.out
          have hnc27 := NB186_185.out
          have hcz28_0 : wc.cell? ⟨gb185, 0, none⟩ = some (.slice A0_0 l0_0.length c0_0) := (blk_cell BK185.out 0).trans rfl
          have hcz28_1 : wc.cell? ⟨gb185, 1, none⟩ = some (.slice A0_1 l0_1.length c0_1) := (blk_cell BK185.out 1).trans rfl
          have hfz28_0 := blk_frozen BK185.out 0
          have hfz28_1 := blk_frozen BK185.out 1
          have hcz29_0 : wc.cell? ⟨gb186, 0, none⟩ = some (.slice A2_0 l2_0.length c2_0) := (blk_cell BK186.out 0).trans rfl
          have hcz29_1 : wc.cell? ⟨gb186, 1, none⟩ = some (.bool a2_1) := (blk_cell BK186.out 1).trans rfl
          have hfz29_0 := blk_frozen BK186.out 0
          have hfz29_1 := blk_frozen BK186.out 1
          go_upto_region 6 with (first | (go_at_call 22; (with_reducible refine (classes_Meet.calls kj3 _ _ l0_0 _ _ l0_1 a1 _ _ l2_0 a2_1 t190 true _ ?side1 ?side2 ?side3 ?side4 ?side5 ?side6 A24.out).mono ?_); (case side1 => repeat (first | exact (Kd.C_below HR0_0.out HB.out) | (with_reducible refine Kd.C_alloc ?_ _) | (with_reducible refine Kd.C_drewN ?_ _) | (with_reducible refine Kd.C_drew ?_))); (case side2 => exact HC0_0.out); (case side3 => repeat (first | exact (Kd.C_below HR0_1.out HB.out) | (with_reducible refine Kd.C_alloc ?_ _) | (with_reducible refine Kd.C_drewN ?_ _) | (with_reducible refine Kd.C_drew ?_))); (case side4 => exact HC0_1.out); (case side5 => repeat (first | exact (Kd.C_below HR2_0.out HB.out) | (with_reducible refine Kd.C_alloc ?_ _) | (with_reducible refine Kd.C_drewN ?_ _) | (with_reducible refine Kd.C_drew ?_))); (case side6 => exact HC2_0.out); rintro e w30 ⟨v192, rfl, ho0, hb⟩; have n0_ := Aside0.mk (Kd.R_lower ho0 (below_size (by repeat (first | (with_reducible first | exact HB.out | apply below_alloc | apply pw_below_drewN | apply below_drew1 | refine below_set ?_ GE185.out | refine below_set ?_ GE186.out) | exact HB.out)))); have n1_ := Aside0.mk (blk_below (g := gb185) (o := .cells #[.slice A0_0 l0_0.length c0_0, .slice A0_1 l0_1.length c0_1] 25 (0, 0)) (by (with_reducible repeat (first | refine blk_drewN ?_ _ | refine blk_drew ?_ | refine blk_alloc ?_ _)); exact BK185.out) hb); have n2_ := Aside0.mk (blk_below (g := gb186) (o := .cells #[.slice A2_0 l2_0.length c2_0, .bool a2_1] 34 (0, 0)) (by (with_reducible repeat (first | refine blk_drewN ?_ _ | refine blk_drew ?_ | refine blk_alloc ?_ _)); exact BK186.out) hb); have n3_ := Aside0.mk (below_step (by repeat (first | (with_reducible first | exact HB.out | apply below_alloc | apply pw_below_drewN | apply below_drew1 | refine below_set ?_ GE185.out | refine below_set ?_ GE186.out) | exact HB.out)) hb); clear BK185; clear BK186; clear HB; have HO193 := n0_; have BK185 := n1_; have BK186 := n2_; have HB := n3_; clear n0_ n1_ n2_ n3_; (try clear hb); (try clear hb2); (try clear hk); (try clear hi); (try clear ho0)))
          repeat (go_quiet (first | (go_at_call 22; (with_reducible refine (classes_Meet.calls kj3 _ _ l0_0 _ _ l0_1 a1 _ _ l2_0 a2_1 t190 true _ ?side1 ?side2 ?side3 ?side4 ?side5 ?side6 A24.out).mono ?_); (case side1 => repeat (first | exact (Kd.C_below HR0_0.out HB.out) | (with_reducible refine Kd.C_alloc ?_ _) | (with_reducible refine Kd.C_drewN ?_ _) | (with_reducible refine Kd.C_drew ?_))); (case side2 => exact HC0_0.out); (case side3 => repeat (first | exact (Kd.C_below HR0_1.out HB.out) | (with_reducible refine Kd.C_alloc ?_ _) | (with_reducible refine Kd.C_drewN ?_ _) | (with_reducible refine Kd.C_drew ?_))); (case side4 => exact HC0_1.out); (case side5 => repeat (first | exact (Kd.C_below HR2_0.out HB.out) | (with_reducible refine Kd.C_alloc ?_ _) | (with_reducible refine Kd.C_drewN ?_ _) | (with_reducible refine Kd.C_drew ?_))); (case side6 => exact HC2_0.out); rintro e w30 ⟨v192, rfl, ho0, hb⟩; have n0_ := Aside0.mk (Kd.R_lower ho0 (below_size (by repeat (first | (with_reducible first | exact HB.out | apply below_alloc | apply pw_below_drewN | apply below_drew1 | refine below_set ?_ GE185.out | refine below_set ?_ GE186.out) | exact HB.out)))); have n1_ := Aside0.mk (blk_below (g := gb185) (o := .cells #[.slice A0_0 l0_0.length c0_0, .slice A0_1 l0_1.length c0_1] 25 (0, 0)) (by (with_reducible repeat (first | refine blk_drewN ?_ _ | refine blk_drew ?_ | refine blk_alloc ?_ _)); exact BK185.out) hb); have n2_ := Aside0.mk (blk_below (g := gb186) (o := .cells #[.slice A2_0 l2_0.length c2_0, .bool a2_1] 34 (0, 0)) (by (with_reducible repeat (first | refine blk_drewN ?_ _ | refine blk_drew ?_ | refine blk_alloc ?_ _)); exact BK186.out) hb); have n3_ := Aside0.mk (below_step (by repeat (first | (with_reducible first | exact HB.out | apply below_alloc | apply pw_below_drewN | apply below_drew1 | refine below_set ?_ GE185.out | refine below_set ?_ GE186.out) | exact HB.out)) hb); clear BK185; clear BK186; clear HB; have HO193 := n0_; have BK185 := n1_; have BK186 := n2_; have HB := n3_; clear n0_ n1_ n2_ n3_; (try clear hb); (try clear hb2); (try clear hk); (try clear hi); (try clear ho0))); go_upto_region 6 with (first | (go_at_call 22; (with_reducible refine (classes_Meet.calls kj3 _ _ l0_0 _ _ l0_1 a1 _ _ l2_0 a2_1 t190 true _ ?side1 ?side2 ?side3 ?side4 ?side5 ?side6 A24.out).mono ?_); (case side1 => repeat (first | exact (Kd.C_below HR0_0.out HB.out) | (with_reducible refine Kd.C_alloc ?_ _) | (with_reducible refine Kd.C_drewN ?_ _) | (with_reducible refine Kd.C_drew ?_))); (case side2 => exact HC0_0.out); (case side3 => repeat (first | exact (Kd.C_below HR0_1.out HB.out) | (with_reducible refine Kd.C_alloc ?_ _) | (with_reducible refine Kd.C_drewN ?_ _) | (with_reducible refine Kd.C_drew ?_))); (case side4 => exact HC0_1.out); (case side5 => repeat (first | exact (Kd.C_below HR2_0.out HB.out) | (with_reducible refine Kd.C_alloc ?_ _) | (with_reducible refine Kd.C_drewN ?_ _) | (with_reducible refine Kd.C_drew ?_))); (case side6 => exact HC2_0.out); rintro e w30 ⟨v192, rfl, ho0, hb⟩; have n0_ := Aside0.mk (Kd.R_lower ho0 (below_size (by repeat (first | (with_reducible first | exact HB.out | apply below_alloc | apply pw_below_drewN | apply below_drew1 | refine below_set ?_ GE185.out | refine below_set ?_ GE186.out) | exact HB.out)))); have n1_ := Aside0.mk (blk_below (g := gb185) (o := .cells #[.slice A0_0 l0_0.length c0_0, .slice A0_1 l0_1.length c0_1] 25 (0, 0)) (by (with_reducible repeat (first | refine blk_drewN ?_ _ | refine blk_drew ?_ | refine blk_alloc ?_ _)); exact BK185.out) hb); have n2_ := Aside0.mk (blk_below (g := gb186) (o := .cells #[.slice A2_0 l2_0.length c2_0, .bool a2_1] 34 (0, 0)) (by (with_reducible repeat (first | refine blk_drewN ?_ _ | refine blk_drew ?_ | refine blk_alloc ?_ _)); exact BK186.out) hb); have n3_ := Aside0.mk (below_step (by repeat (first | (with_reducible first | exact HB.out | apply below_alloc | apply pw_below_drewN | apply below_drew1 | refine below_set ?_ GE185.out | refine below_set ?_ GE186.out) | exact HB.out)) hb); clear BK185; clear BK186; clear HB; have HO193 := n0_; have BK185 := n1_; have BK186 := n2_; have HB := n3_; clear n0_ n1_ n2_ n3_; (try clear hb); (try clear hb2); (try clear hk); (try clear hi); (try clear ho0))))
          (try simp only [Act.put, List.setIfInBounds_toArray, List.set_cons_zero, List.set_cons_succ])
          go_cut [55] (fun v55 wc => ∃ (kq : Nat) (x55_25 : Bool), v55 = .bool x55_25 ∧ Aside0 (foundrylaw19_ClassesMet.j1 kq a1 t190 x55_25 l0_0 l0_1 l2_0 a2_1 = some r) ∧ Aside0 (kq ≤ kj3) ∧ Aside0 (Kd.R (Kd.int .i64) 3 wc w.heap.size (fun _ => True) v192 t190) ∧ Aside0 (wc.heap[gb185]? = some (.cells #[(.slice A0_0 l0_0.length c0_0), (.slice A0_1 l0_1.length c0_1)] 25 (0, 0))) ∧ Aside0 (wc.heap[gb186]? = some (.cells #[(.slice A2_0 l2_0.length c2_0), .bool a2_1] 34 (0, 0))) ∧ Aside0 (Below w.heap.size w wc))
          case first =>
            have H := HC26.out
            clear HC26
            by_cases c31 : (t190.length : Int) = (l2_0.length : Int)
            · rw [if_pos c31] at H
              have c31b0 : ((t190.length : Int) == (l2_0.length : Int)) = true := beq_iff_eq.mpr c31
              have c31b1 : ((t190.length : Int) != (l2_0.length : Int)) = false := bne_eq_false_iff_eq.mpr c31
              have c31b2 : (t190.length == l2_0.length) = true := by first | simpa using c31 | (simp at c31 ⊢; omega)
              clear c31
              (first | rw [c31b0] | (simp only [i64_w, i32_w]; rw [c31b0]) | skip)
              by_cases c32 : 0 < (t190.length : Int)
              · rw [if_pos c32] at H
                have c32b0 : decide (0 < (t190.length : Int)) = true := decide_eq_true c32
                have c32b1 : decide (0 < t190.length) = true := decide_eq_true (by omega)
                clear c32
                have H' := Aside0.mk H
                clear H
                obtain ⟨Ao33, co33, eo33⟩ := Kd.R_slice HO193.out
                subst eo33
                have hnb34 := NB186_185.out
                have hnc34 := NB185_186.out
                have hcz35_0 : w30.cell? ⟨gb186, 0, none⟩ = some (.slice A2_0 l2_0.length c2_0) := (blk_cell BK186.out 0).trans rfl
                have hcz35_1 : w30.cell? ⟨gb186, 1, none⟩ = some (.bool a2_1) := (blk_cell BK186.out 1).trans rfl
                have hfz35_0 := blk_frozen BK186.out 0
                have hfz35_1 := blk_frozen BK186.out 1
                have p194 : 0 ≤ (0 : Int) := (by omega)
                have q194 : 0 < (t190.length : Int) := of_decide_eq_true (by first | (with_reducible assumption) | assumption)
                obtain ⟨ad194, e194, hx194_0⟩ := Kd.at_int (Kd.R_reads' HO193.out).2.2 0 p194 q194
                cases e194
                have qi194 : (0 < t190.length) = True := eq_true (by omega)
                (try rw [show ((0 : Int)).toNat = 0 from rfl] at hx194_0)
                (try rw [Addr.add_zero'] at hx194_0)
                replace p194 := eq_true p194
                replace q194 := eq_true q194
                go_wp2
                repeat (go_quiet (fail); try go_wp2)
                go_meet
                case rel => exact ⟨_, (((rd t190 0) != a1)), (by first | rfl | (simp; done) | (simp [*]; done)), H', ⟨by have := HJ3.out; first | omega | exact Nat.le_refl _⟩, ⟨by (with_reducible repeat (first | apply Kd.R_alloc | apply Kd.R_drewN | apply Kd.R_drew)); exact HO193.out⟩, ⟨by (with_reducible repeat (first | refine blk_drewN ?_ _ | refine blk_drew ?_ | refine blk_alloc ?_ _)); exact BK185.out⟩, ⟨by (with_reducible repeat (first | refine blk_drewN ?_ _ | refine blk_drew ?_ | refine blk_alloc ?_ _)); exact BK186.out⟩, ⟨by repeat (first | (with_reducible first | exact HB.out | apply below_alloc | apply pw_below_drewN | apply below_drew1 | refine below_set ?_ GE185.out | refine below_set ?_ GE186.out) | exact HB.out)⟩⟩
              · rw [if_neg c32] at H
                exact absurd H (by simp)
            · rw [if_neg c31] at H
              have c31b0 : ((t190.length : Int) == (l2_0.length : Int)) = false := beq_eq_false_iff_ne.mpr c31
              have c31b1 : ((t190.length : Int) != (l2_0.length : Int)) = true := bne_iff_ne.mpr c31
              have c31b2 : (t190.length == l2_0.length) = false := by first | simpa using c31 | (simp at c31 ⊢; omega)
              (first | rw [c31b0] | (simp only [i64_w, i32_w]; rw [c31b0]) | skip)
              have H' := Aside0.mk H
              clear H
              obtain ⟨Ao36, co36, eo36⟩ := Kd.R_slice HO193.out
              subst eo36
              have hnb37 := NB186_185.out
              have hnc37 := NB185_186.out
              have hcz38_0 : w30.cell? ⟨gb186, 0, none⟩ = some (.slice A2_0 l2_0.length c2_0) := (blk_cell BK186.out 0).trans rfl
              have hcz38_1 : w30.cell? ⟨gb186, 1, none⟩ = some (.bool a2_1) := (blk_cell BK186.out 1).trans rfl
              have hfz38_0 := blk_frozen BK186.out 0
              have hfz38_1 := blk_frozen BK186.out 1
              go_wp2
              repeat (go_quiet (fail); try go_wp2)
              go_meet
              case rel => exact ⟨_, (true), (by first | rfl | (simp; done) | (simp [*]; done)), H', ⟨by have := HJ3.out; first | omega | exact Nat.le_refl _⟩, ⟨by (with_reducible repeat (first | apply Kd.R_alloc | apply Kd.R_drewN | apply Kd.R_drew)); exact HO193.out⟩, ⟨by (with_reducible repeat (first | refine blk_drewN ?_ _ | refine blk_drew ?_ | refine blk_alloc ?_ _)); exact BK185.out⟩, ⟨by (with_reducible repeat (first | refine blk_drewN ?_ _ | refine blk_drew ?_ | refine blk_alloc ?_ _)); exact BK186.out⟩, ⟨by repeat (first | (with_reducible first | exact HB.out | apply below_alloc | apply pw_below_drewN | apply below_drew1 | refine below_set ?_ GE185.out | refine below_set ?_ GE186.out) | exact HB.out)⟩⟩
          case rest =>
            clear HC26
            try clear c1
            try clear p1
            try clear q1
            try clear hx1
            try clear qi1
            try clear c2
            try clear p2
            try clear c3
            try clear c7
            try clear c8
            try clear c10
            try clear c12
            try clear c17
            try clear p19
            try clear q19
            try clear hx19
            try clear qi19
            try clear c21
            try clear c25
            try clear c27
            try clear c31
            try clear c31b0
            try clear c31b1
            try clear c31b2
            try clear c32
            try clear c32b0
            try clear c32b1
            try clear c34
            try clear c37
            try clear hcz13_0
            try clear hcz13_1
            try clear hcz15_0
            try clear hcz15_1
            try clear hcz18_0
            try clear hcz18_1
            try clear hcz28_0
            try clear hcz28_1
            try clear hcz29_0
            try clear hcz29_1
            try clear hcz35_0
            try clear hcz35_1
            try clear hcz38_0
            try clear hcz38_1
            try clear hfz13_0
            try clear hfz13_1
            try clear hfz15_0
            try clear hfz15_1
            try clear hfz18_0
            try clear hfz18_1
            try clear hfz28_0
            try clear hfz28_1
            try clear hfz29_0
            try clear hfz29_1
            try clear hfz35_0
            try clear hfz35_1
            try clear hfz38_0
            try clear hfz38_1
            try clear hx194_0
            try clear p194
            try clear p2
            try clear q194
            obtain ⟨kq, x55_25, rfl, HA, HJ25, HO_7, BK185, BK186, HB⟩ := hcut
            cases kq with
            | zero => exact absurd HA.out (by simp [foundrylaw19_ClassesMet.j1])
            | succ kj25 =>
              have H := HA.out
              clear HA
              simp only [foundrylaw19_ClassesMet.j1] at H
              by_cases c39 : x55_25 = true
              · subst c39
                have H1 : (some false) = some r := by rw [if_pos rfl] at H; exact H
                clear H
                have H := H1
                clear H1
                obtain rfl := Option.some.inj H
                go_wp2
                repeat (go_quiet (fail); try go_wp2)
                go_ret
                exact ⟨by first | rfl | (simp [errW_none, errW_some] <;> rfl) | (simp [*, errW_none, errW_some] <;> rfl), by repeat (first | (with_reducible first | exact HB.out | apply below_alloc | apply pw_below_drewN | apply below_drew1 | refine below_set ?_ GE185.out | refine below_set ?_ GE186.out) | exact HB.out)⟩
              · replace c39 := Bool.eq_false_iff.mpr c39
                subst c39
                have H1 : (foundrylaw19_ClassesMet.l0 kj25 a1 t190 0 l0_0 l0_1 l2_0 a2_1) = some r := by rw [if_neg (show ¬ (false = true) by decide)] at H; exact H
                clear H
                have H := H1
                clear H1
                have H' := Aside0.mk H
                clear H
                go_wp2
                repeat (go_quiet (fail); try go_wp2)
                go_loopg [9] kj25 (fun kq v9 w' => ∃ (x9_3 : Int), v9 = .int .i64 x9_3 ∧ Aside0 (foundrylaw19_ClassesMet.l0 kq a1 t190 x9_3 l0_0 l0_1 l2_0 a2_1 = some r) ∧ Aside0 (kq ≤ kj25) ∧ Aside0 (Kd.R (Kd.int .i64) 3 w' w.heap.size (fun _ => True) v192 t190) ∧ Aside0 (w'.heap[gb185]? = some (.cells #[(.slice A0_0 l0_0.length c0_0), (.slice A0_1 l0_1.length c0_1)] 25 (0, 0))) ∧ Aside0 (w'.heap[gb186]? = some (.cells #[(.slice A2_0 l2_0.length c2_0), .bool a2_1] 34 (0, 0))) ∧ Aside0 (Below w.heap.size w w'))
                case atStart => exact ⟨(0), (by first | rfl | (simp; done) | (simp [*]; done)), H', ⟨Nat.le_refl _⟩, ⟨by (with_reducible repeat (first | apply Kd.R_alloc | apply Kd.R_drewN | apply Kd.R_drew)); exact HO_7.out⟩, ⟨by (with_reducible repeat (first | refine blk_drewN ?_ _ | refine blk_drew ?_ | refine blk_alloc ?_ _)); exact BK185.out⟩, ⟨by (with_reducible repeat (first | refine blk_drewN ?_ _ | refine blk_drew ?_ | refine blk_alloc ?_ _)); exact BK186.out⟩, ⟨by repeat (first | (with_reducible first | exact HB.out | apply below_alloc | apply pw_below_drewN | apply below_drew1 | refine below_set ?_ GE185.out | refine below_set ?_ GE186.out) | exact HB.out)⟩⟩
                case round =>
                  clear H'
                  try clear c1
                  try clear p1
                  try clear q1
                  try clear hx1
                  try clear qi1
                  try clear c2
                  try clear p2
                  try clear c3
                  try clear c7
                  try clear c8
                  try clear c10
                  try clear c12
                  try clear c17
                  try clear p19
                  try clear q19
                  try clear hx19
                  try clear qi19
                  try clear c21
                  try clear c25
                  try clear c27
                  try clear c31
                  try clear c31b0
                  try clear c31b1
                  try clear c31b2
                  try clear c32
                  try clear c32b0
                  try clear c32b1
                  try clear c34
                  try clear c37
                  try clear c39
                  try clear hcz13_0
                  try clear hcz13_1
                  try clear hcz15_0
                  try clear hcz15_1
                  try clear hcz18_0
                  try clear hcz18_1
                  try clear hcz28_0
                  try clear hcz28_1
                  try clear hcz29_0
                  try clear hcz29_1
                  try clear hcz35_0
                  try clear hcz35_1
                  try clear hcz38_0
                  try clear hcz38_1
                  try clear hfz13_0
                  try clear hfz13_1
                  try clear hfz15_0
                  try clear hfz15_1
                  try clear hfz18_0
                  try clear hfz18_1
                  try clear hfz28_0
                  try clear hfz28_1
                  try clear hfz29_0
                  try clear hfz29_1
                  try clear hfz35_0
                  try clear hfz35_1
                  try clear hfz38_0
                  try clear hfz38_1
                  try clear hx194_0
                  try clear p1
                  try clear p19
                  try clear p194
                  try clear p2
                  try clear q1
                  try clear q19
                  try clear q194
                  obtain ⟨x9_3, rfl, HA, HK3, HO_7, BK185, BK186, HB⟩ := hrel
                  cases gk with
                  | zero => exact absurd HA.out (by simp [foundrylaw19_ClassesMet.l0])
                  | succ k3 =>
                    have H := HA.out
                    clear HA
                    simp only [foundrylaw19_ClassesMet.l0] at H
                    by_cases c40 : x9_3 < (t190.length : Int)
                    · rw [if_pos c40] at H
                      have c40b0 : decide (x9_3 < (t190.length : Int)) = true := decide_eq_true c40
                      clear c40
                      have HC41 := Aside0.mk H
                      clear H
                      obtain ⟨Ao42, co42, eo42⟩ := Kd.R_slice HO_7.out
                      subst eo42
                      go_upto_region 11 with (fail)
                      repeat (go_quiet (fail); go_upto_region 11 with (fail))
                      go_cut [108] (fun v108 wc => ∃ (kq : Nat) (x108_40 : Bool), v108 = .bool x108_40 ∧ Aside0 (foundrylaw19_ClassesMet.j3 kq a1 t190 x9_3 x108_40 l0_0 l0_1 l2_0 a2_1 = some r) ∧ Aside0 (kq ≤ k3) ∧ Aside0 (Kd.R (Kd.int .i64) 3 wc w.heap.size (fun _ => True) (.slice Ao42 t190.length co42) t190) ∧ Aside0 (wc.heap[gb185]? = some (.cells #[(.slice A0_0 l0_0.length c0_0), (.slice A0_1 l0_1.length c0_1)] 25 (0, 0))) ∧ Aside0 (wc.heap[gb186]? = some (.cells #[(.slice A2_0 l2_0.length c2_0), .bool a2_1] 34 (0, 0))) ∧ Aside0 (Below w.heap.size w wc))
                      case first =>
                        have H := HC41.out
                        clear HC41
                        by_cases c43 : 0 ≤ x9_3
                        · rw [if_pos c43] at H
                          have c43b0 : decide (0 ≤ x9_3) = true := decide_eq_true c43
                          clear c43
                          (first | rw [c43b0] | (simp only [i64_w, i32_w]; rw [c43b0]) | skip)
                          by_cases c44 : (rd t190 x9_3) < 0
                          · rw [if_pos c44] at H
                            have c44b0 : decide ((rd t190 x9_3) < 0) = true := decide_eq_true c44
                            clear c44
                            have H' := Aside0.mk H
                            clear H
                            have p195 : 0 ≤ (x9_3 : Int) := of_decide_eq_true (by first | (with_reducible assumption) | assumption)
                            have q195 : x9_3 < (t190.length : Int) := of_decide_eq_true (by first | (with_reducible assumption) | assumption)
                            obtain ⟨ad195, e195, hx195_0⟩ := Kd.at_int (Kd.R_reads' HO_7.out).2.2 x9_3 p195 q195
                            cases e195
                            replace p195 := eq_true p195
                            replace q195 := eq_true q195
                            go_wp2
                            repeat (go_quiet (fail); try go_wp2)
                            go_meet
                            case rel => exact ⟨_, (true), (by first | rfl | (simp; done) | (simp [*]; done)), H', ⟨by have := HJ3.out; have := HJ25.out; have := HK3.out; first | omega | exact Nat.le_refl _⟩, ⟨by (with_reducible repeat (first | apply Kd.R_alloc | apply Kd.R_drewN | apply Kd.R_drew)); exact HO_7.out⟩, ⟨by (with_reducible repeat (first | refine blk_drewN ?_ _ | refine blk_drew ?_ | refine blk_alloc ?_ _)); exact BK185.out⟩, ⟨by (with_reducible repeat (first | refine blk_drewN ?_ _ | refine blk_drew ?_ | refine blk_alloc ?_ _)); exact BK186.out⟩, ⟨by repeat (first | (with_reducible first | exact HB.out | apply below_alloc | apply pw_below_drewN | apply below_drew1 | refine below_set ?_ GE185.out | refine below_set ?_ GE186.out) | exact HB.out)⟩⟩
                          · rw [if_neg c44] at H
                            have c44b0 : decide ((rd t190 x9_3) < 0) = false := decide_eq_false c44
                            clear c44
                            by_cases c45 : (rd t190 x9_3) ≥ (l0_0.length : Int)
                            · rw [if_pos c45] at H
                              have c45b0 : decide ((l0_0.length : Int) ≤ (rd t190 x9_3)) = true := decide_eq_true c45
                              clear c45
                              have H' := Aside0.mk H
                              clear H
                              have p195 : 0 ≤ (x9_3 : Int) := of_decide_eq_true (by first | (with_reducible assumption) | assumption)
                              have q195 : x9_3 < (t190.length : Int) := of_decide_eq_true (by first | (with_reducible assumption) | assumption)
                              obtain ⟨ad195, e195, hx195_0⟩ := Kd.at_int (Kd.R_reads' HO_7.out).2.2 x9_3 p195 q195
                              cases e195
                              replace p195 := eq_true p195
                              replace q195 := eq_true q195
                              have p196 : 0 ≤ (x9_3 : Int) := of_decide_eq_true (by first | (with_reducible assumption) | assumption)
                              have q196 : x9_3 < (t190.length : Int) := of_decide_eq_true (by first | (with_reducible assumption) | assumption)
                              obtain ⟨ad196, e196, hx196_0⟩ := Kd.at_int (Kd.R_reads' HO_7.out).2.2 x9_3 p196 q196
                              obtain rfl : ad195 = ad196 := (by injection e196)
                              replace p196 := eq_true p196
                              replace q196 := eq_true q196
                              have hnb46 := NB185_186.out
                              have hnc46 := NB186_185.out
                              have hcz47_0 : wr.cell? ⟨gb185, 0, none⟩ = some (.slice A0_0 l0_0.length c0_0) := (blk_cell BK185.out 0).trans rfl
                              have hcz47_1 : wr.cell? ⟨gb185, 1, none⟩ = some (.slice A0_1 l0_1.length c0_1) := (blk_cell BK185.out 1).trans rfl
                              have hfz47_0 := blk_frozen BK185.out 0
                              have hfz47_1 := blk_frozen BK185.out 1
                              go_wp2
                              repeat (go_quiet (fail); try go_wp2)
                              go_meet
                              case rel => exact ⟨_, (true), (by first | rfl | (simp; done) | (simp [*]; done)), H', ⟨by have := HJ3.out; have := HJ25.out; have := HK3.out; first | omega | exact Nat.le_refl _⟩, ⟨by (with_reducible repeat (first | apply Kd.R_alloc | apply Kd.R_drewN | apply Kd.R_drew)); exact HO_7.out⟩, ⟨by (with_reducible repeat (first | refine blk_drewN ?_ _ | refine blk_drew ?_ | refine blk_alloc ?_ _)); exact BK185.out⟩, ⟨by (with_reducible repeat (first | refine blk_drewN ?_ _ | refine blk_drew ?_ | refine blk_alloc ?_ _)); exact BK186.out⟩, ⟨by repeat (first | (with_reducible first | exact HB.out | apply below_alloc | apply pw_below_drewN | apply below_drew1 | refine below_set ?_ GE185.out | refine below_set ?_ GE186.out) | exact HB.out)⟩⟩
                            · rw [if_neg c45] at H
                              have c45b0 : decide ((l0_0.length : Int) ≤ (rd t190 x9_3)) = false := decide_eq_false c45
                              clear c45
                              by_cases c48 : 0 ≤ (rd t190 x9_3)
                              · rw [if_pos c48] at H
                                have c48b0 : decide (0 ≤ (rd t190 x9_3)) = true := decide_eq_true c48
                                clear c48
                                by_cases c49 : (rd t190 x9_3) < (l0_0.length : Int)
                                · rw [if_pos c49] at H
                                  have c49b0 : decide ((rd t190 x9_3) < (l0_0.length : Int)) = true := decide_eq_true c49
                                  clear c49
                                  by_cases c50 : x9_3 < (l2_0.length : Int)
                                  · rw [if_pos c50] at H
                                    have c50b0 : decide (x9_3 < (l2_0.length : Int)) = true := decide_eq_true c50
                                    clear c50
                                    by_cases c51 : (rd l0_0 (rd t190 x9_3)) = (rd l2_0 x9_3)
                                    · rw [if_pos c51] at H
                                      have c51b0 : ((rd l0_0 (rd t190 x9_3)) == (rd l2_0 x9_3)) = true := beq_iff_eq.mpr c51
                                      have c51b1 : ((rd l0_0 (rd t190 x9_3)) != (rd l2_0 x9_3)) = false := bne_eq_false_iff_eq.mpr c51
                                      clear c51
                                      by_cases c52 : x9_3 > 0
                                      · rw [if_pos c52] at H
                                        have c52b0 : decide (0 < x9_3) = true := decide_eq_true c52
                                        clear c52
                                        obtain ⟨ji53, hji53⟩ : ∃ j_ : Int, (wrap64 (x9_3 - 1)) = j_ := ⟨_, rfl⟩
                                        replace H : (if 0 ≤ (ji53) then (if (ji53) < (t190.length : Int) then (foundrylaw19_ClassesMet.j3 k3 a1 t190 x9_3 (decide ((rd t190 x9_3) ≤ (rd t190 (ji53)))) l0_0 l0_1 l2_0 a2_1) else (none)) else (none)) = some r := by first | (rw [hji53] at H; exact H) | (simp only [hji53] at H ⊢; exact H)
                                        have hji53w : (IntKind.i64.wrap (x9_3 - 1)) = ji53 := (i64_w _).trans hji53
                                        by_cases c54 : 0 ≤ (ji53)
                                        · rw [if_pos c54] at H
                                          have c54b0 : decide (0 ≤ (ji53)) = true := decide_eq_true c54
                                          clear c54
                                          by_cases c55 : (ji53) < (t190.length : Int)
                                          · rw [if_pos c55] at H
                                            have c55b0 : decide ((ji53) < (t190.length : Int)) = true := decide_eq_true c55
                                            clear c55
                                            have H' := Aside0.mk H
                                            clear H
                                            have p195 : 0 ≤ (x9_3 : Int) := of_decide_eq_true (by first | (with_reducible assumption) | assumption)
                                            have q195 : x9_3 < (t190.length : Int) := of_decide_eq_true (by first | (with_reducible assumption) | assumption)
                                            obtain ⟨ad195, e195, hx195_0⟩ := Kd.at_int (Kd.R_reads' HO_7.out).2.2 x9_3 p195 q195
                                            cases e195
                                            replace p195 := eq_true p195
                                            replace q195 := eq_true q195
                                            have p196 : 0 ≤ (x9_3 : Int) := of_decide_eq_true (by first | (with_reducible assumption) | assumption)
                                            have q196 : x9_3 < (t190.length : Int) := of_decide_eq_true (by first | (with_reducible assumption) | assumption)
                                            obtain ⟨ad196, e196, hx196_0⟩ := Kd.at_int (Kd.R_reads' HO_7.out).2.2 x9_3 p196 q196
                                            obtain rfl : ad195 = ad196 := (by injection e196)
                                            replace p196 := eq_true p196
                                            replace q196 := eq_true q196
                                            have hnb56 := NB185_186.out
                                            have hnc56 := NB186_185.out
                                            have hcz57_0 : wr.cell? ⟨gb185, 0, none⟩ = some (.slice A0_0 l0_0.length c0_0) := (blk_cell BK185.out 0).trans rfl
                                            have hcz57_1 : wr.cell? ⟨gb185, 1, none⟩ = some (.slice A0_1 l0_1.length c0_1) := (blk_cell BK185.out 1).trans rfl
                                            have hfz57_0 := blk_frozen BK185.out 0
                                            have hfz57_1 := blk_frozen BK185.out 1
                                            have p197 : 0 ≤ (x9_3 : Int) := of_decide_eq_true (by first | (with_reducible assumption) | assumption)
                                            have q197 : x9_3 < (t190.length : Int) := of_decide_eq_true (by first | (with_reducible assumption) | assumption)
                                            obtain ⟨ad197, e197, hx197_0⟩ := Kd.at_int (Kd.R_reads' HO_7.out).2.2 x9_3 p197 q197
                                            obtain rfl : ad195 = ad197 := (by injection e197)
                                            replace p197 := eq_true p197
                                            replace q197 := eq_true q197
                                            have p198 : 0 ≤ ((rd t190 x9_3) : Int) := of_decide_eq_true (by first | (with_reducible assumption) | assumption)
                                            have q198 : (rd t190 x9_3) < (l0_0.length : Int) := of_decide_eq_true (by first | (with_reducible assumption) | assumption)
                                            obtain ⟨ad198, e198, hx198_0⟩ := Kd.at_int HR0_0.out (rd t190 x9_3) p198 q198
                                            cases e198
                                            replace hx198_0 := (HB.out.cell (World.block_lt_of_cell? w _ hx198_0)).trans hx198_0
                                            replace p198 := eq_true p198
                                            replace q198 := eq_true q198
                                            have hcz58_0 : wr.cell? ⟨gb186, 0, none⟩ = some (.slice A2_0 l2_0.length c2_0) := (blk_cell BK186.out 0).trans rfl
                                            have hcz58_1 : wr.cell? ⟨gb186, 1, none⟩ = some (.bool a2_1) := (blk_cell BK186.out 1).trans rfl
                                            have hfz58_0 := blk_frozen BK186.out 0
                                            have hfz58_1 := blk_frozen BK186.out 1
                                            have p199 : 0 ≤ (x9_3 : Int) := of_decide_eq_true (by first | (with_reducible assumption) | assumption)
                                            have q199 : x9_3 < (l2_0.length : Int) := of_decide_eq_true (by first | (with_reducible assumption) | assumption)
                                            obtain ⟨ad199, e199, hx199_0⟩ := Kd.at_int HR2_0.out x9_3 p199 q199
                                            cases e199
                                            replace hx199_0 := (HB.out.cell (World.block_lt_of_cell? w _ hx199_0)).trans hx199_0
                                            replace p199 := eq_true p199
                                            replace q199 := eq_true q199
                                            have p200 : 0 ≤ (x9_3 : Int) := of_decide_eq_true (by first | (with_reducible assumption) | assumption)
                                            have q200 : x9_3 < (t190.length : Int) := of_decide_eq_true (by first | (with_reducible assumption) | assumption)
                                            obtain ⟨ad200, e200, hx200_0⟩ := Kd.at_int (Kd.R_reads' HO_7.out).2.2 x9_3 p200 q200
                                            obtain rfl : ad195 = ad200 := (by injection e200)
                                            replace p200 := eq_true p200
                                            replace q200 := eq_true q200
                                            have p201 : 0 ≤ ((ji53) : Int) := of_decide_eq_true (by first | (with_reducible assumption) | assumption)
                                            have q201 : (ji53) < (t190.length : Int) := of_decide_eq_true (by first | (with_reducible assumption) | assumption)
                                            obtain ⟨ad201, e201, hx201_0⟩ := Kd.at_int (Kd.R_reads' HO_7.out).2.2 (ji53) p201 q201
                                            obtain rfl : ad195 = ad201 := (by injection e201)
                                            replace p201 := eq_true p201
                                            replace q201 := eq_true q201
                                            go_wp2
                                            repeat (go_quiet (fail); try go_wp2)
                                            go_meet
                                            case rel => exact ⟨_, (decide ((rd t190 x9_3) ≤ (rd t190 (ji53)))), (by first | rfl | (simp; done) | (simp only [← hji53] <;> (first | rfl | simp)) | (simp [*]; done)), H', ⟨by have := HJ3.out; have := HJ25.out; have := HK3.out; first | omega | exact Nat.le_refl _⟩, ⟨by (with_reducible repeat (first | apply Kd.R_alloc | apply Kd.R_drewN | apply Kd.R_drew)); exact HO_7.out⟩, ⟨by (with_reducible repeat (first | refine blk_drewN ?_ _ | refine blk_drew ?_ | refine blk_alloc ?_ _)); exact BK185.out⟩, ⟨by (with_reducible repeat (first | refine blk_drewN ?_ _ | refine blk_drew ?_ | refine blk_alloc ?_ _)); exact BK186.out⟩, ⟨by repeat (first | (with_reducible first | exact HB.out | apply below_alloc | apply pw_below_drewN | apply below_drew1 | refine below_set ?_ GE185.out | refine below_set ?_ GE186.out) | exact HB.out)⟩⟩
                                          · rw [if_neg c55] at H
                                            exact absurd H (by simp)
                                        · rw [if_neg c54] at H
                                          exact absurd H (by simp)
                                      · rw [if_neg c52] at H
                                        have c52b0 : decide (0 < x9_3) = false := decide_eq_false c52
                                        clear c52
                                        have H' := Aside0.mk H
                                        clear H
                                        have p195 : 0 ≤ (x9_3 : Int) := of_decide_eq_true (by first | (with_reducible assumption) | assumption)
                                        have q195 : x9_3 < (t190.length : Int) := of_decide_eq_true (by first | (with_reducible assumption) | assumption)
                                        obtain ⟨ad195, e195, hx195_0⟩ := Kd.at_int (Kd.R_reads' HO_7.out).2.2 x9_3 p195 q195
                                        cases e195
                                        replace p195 := eq_true p195
                                        replace q195 := eq_true q195
                                        have p196 : 0 ≤ (x9_3 : Int) := of_decide_eq_true (by first | (with_reducible assumption) | assumption)
                                        have q196 : x9_3 < (t190.length : Int) := of_decide_eq_true (by first | (with_reducible assumption) | assumption)
                                        obtain ⟨ad196, e196, hx196_0⟩ := Kd.at_int (Kd.R_reads' HO_7.out).2.2 x9_3 p196 q196
                                        obtain rfl : ad195 = ad196 := (by injection e196)
                                        replace p196 := eq_true p196
                                        replace q196 := eq_true q196
                                        have hnb59 := NB185_186.out
                                        have hnc59 := NB186_185.out
                                        have hcz60_0 : wr.cell? ⟨gb185, 0, none⟩ = some (.slice A0_0 l0_0.length c0_0) := (blk_cell BK185.out 0).trans rfl
                                        have hcz60_1 : wr.cell? ⟨gb185, 1, none⟩ = some (.slice A0_1 l0_1.length c0_1) := (blk_cell BK185.out 1).trans rfl
                                        have hfz60_0 := blk_frozen BK185.out 0
                                        have hfz60_1 := blk_frozen BK185.out 1
                                        have p197 : 0 ≤ (x9_3 : Int) := of_decide_eq_true (by first | (with_reducible assumption) | assumption)
                                        have q197 : x9_3 < (t190.length : Int) := of_decide_eq_true (by first | (with_reducible assumption) | assumption)
                                        obtain ⟨ad197, e197, hx197_0⟩ := Kd.at_int (Kd.R_reads' HO_7.out).2.2 x9_3 p197 q197
                                        obtain rfl : ad195 = ad197 := (by injection e197)
                                        replace p197 := eq_true p197
                                        replace q197 := eq_true q197
                                        have p198 : 0 ≤ ((rd t190 x9_3) : Int) := of_decide_eq_true (by first | (with_reducible assumption) | assumption)
                                        have q198 : (rd t190 x9_3) < (l0_0.length : Int) := of_decide_eq_true (by first | (with_reducible assumption) | assumption)
                                        obtain ⟨ad198, e198, hx198_0⟩ := Kd.at_int HR0_0.out (rd t190 x9_3) p198 q198
                                        cases e198
                                        replace hx198_0 := (HB.out.cell (World.block_lt_of_cell? w _ hx198_0)).trans hx198_0
                                        replace p198 := eq_true p198
                                        replace q198 := eq_true q198
                                        have hcz61_0 : wr.cell? ⟨gb186, 0, none⟩ = some (.slice A2_0 l2_0.length c2_0) := (blk_cell BK186.out 0).trans rfl
                                        have hcz61_1 : wr.cell? ⟨gb186, 1, none⟩ = some (.bool a2_1) := (blk_cell BK186.out 1).trans rfl
                                        have hfz61_0 := blk_frozen BK186.out 0
                                        have hfz61_1 := blk_frozen BK186.out 1
                                        have p199 : 0 ≤ (x9_3 : Int) := of_decide_eq_true (by first | (with_reducible assumption) | assumption)
                                        have q199 : x9_3 < (l2_0.length : Int) := of_decide_eq_true (by first | (with_reducible assumption) | assumption)
                                        obtain ⟨ad199, e199, hx199_0⟩ := Kd.at_int HR2_0.out x9_3 p199 q199
                                        cases e199
                                        replace hx199_0 := (HB.out.cell (World.block_lt_of_cell? w _ hx199_0)).trans hx199_0
                                        replace p199 := eq_true p199
                                        replace q199 := eq_true q199
                                        go_wp2
                                        repeat (go_quiet (fail); try go_wp2)
                                        go_meet
                                        case rel => exact ⟨_, (false), (by first | rfl | (simp; done) | (simp [*]; done)), H', ⟨by have := HJ3.out; have := HJ25.out; have := HK3.out; first | omega | exact Nat.le_refl _⟩, ⟨by (with_reducible repeat (first | apply Kd.R_alloc | apply Kd.R_drewN | apply Kd.R_drew)); exact HO_7.out⟩, ⟨by (with_reducible repeat (first | refine blk_drewN ?_ _ | refine blk_drew ?_ | refine blk_alloc ?_ _)); exact BK185.out⟩, ⟨by (with_reducible repeat (first | refine blk_drewN ?_ _ | refine blk_drew ?_ | refine blk_alloc ?_ _)); exact BK186.out⟩, ⟨by repeat (first | (with_reducible first | exact HB.out | apply below_alloc | apply pw_below_drewN | apply below_drew1 | refine below_set ?_ GE185.out | refine below_set ?_ GE186.out) | exact HB.out)⟩⟩
                                    · rw [if_neg c51] at H
                                      have c51b0 : ((rd l0_0 (rd t190 x9_3)) == (rd l2_0 x9_3)) = false := beq_eq_false_iff_ne.mpr c51
                                      have c51b1 : ((rd l0_0 (rd t190 x9_3)) != (rd l2_0 x9_3)) = true := bne_iff_ne.mpr c51
                                      have H' := Aside0.mk H
                                      clear H
                                      have p195 : 0 ≤ (x9_3 : Int) := of_decide_eq_true (by first | (with_reducible assumption) | assumption)
                                      have q195 : x9_3 < (t190.length : Int) := of_decide_eq_true (by first | (with_reducible assumption) | assumption)
                                      obtain ⟨ad195, e195, hx195_0⟩ := Kd.at_int (Kd.R_reads' HO_7.out).2.2 x9_3 p195 q195
                                      cases e195
                                      replace p195 := eq_true p195
                                      replace q195 := eq_true q195
                                      have p196 : 0 ≤ (x9_3 : Int) := of_decide_eq_true (by first | (with_reducible assumption) | assumption)
                                      have q196 : x9_3 < (t190.length : Int) := of_decide_eq_true (by first | (with_reducible assumption) | assumption)
                                      obtain ⟨ad196, e196, hx196_0⟩ := Kd.at_int (Kd.R_reads' HO_7.out).2.2 x9_3 p196 q196
                                      obtain rfl : ad195 = ad196 := (by injection e196)
                                      replace p196 := eq_true p196
                                      replace q196 := eq_true q196
                                      have hnb62 := NB185_186.out
                                      have hnc62 := NB186_185.out
                                      have hcz63_0 : wr.cell? ⟨gb185, 0, none⟩ = some (.slice A0_0 l0_0.length c0_0) := (blk_cell BK185.out 0).trans rfl
                                      have hcz63_1 : wr.cell? ⟨gb185, 1, none⟩ = some (.slice A0_1 l0_1.length c0_1) := (blk_cell BK185.out 1).trans rfl
                                      have hfz63_0 := blk_frozen BK185.out 0
                                      have hfz63_1 := blk_frozen BK185.out 1
                                      have p197 : 0 ≤ (x9_3 : Int) := of_decide_eq_true (by first | (with_reducible assumption) | assumption)
                                      have q197 : x9_3 < (t190.length : Int) := of_decide_eq_true (by first | (with_reducible assumption) | assumption)
                                      obtain ⟨ad197, e197, hx197_0⟩ := Kd.at_int (Kd.R_reads' HO_7.out).2.2 x9_3 p197 q197
                                      obtain rfl : ad195 = ad197 := (by injection e197)
                                      replace p197 := eq_true p197
                                      replace q197 := eq_true q197
                                      have p198 : 0 ≤ ((rd t190 x9_3) : Int) := of_decide_eq_true (by first | (with_reducible assumption) | assumption)
                                      have q198 : (rd t190 x9_3) < (l0_0.length : Int) := of_decide_eq_true (by first | (with_reducible assumption) | assumption)
                                      obtain ⟨ad198, e198, hx198_0⟩ := Kd.at_int HR0_0.out (rd t190 x9_3) p198 q198
                                      cases e198
                                      replace hx198_0 := (HB.out.cell (World.block_lt_of_cell? w _ hx198_0)).trans hx198_0
                                      replace p198 := eq_true p198
                                      replace q198 := eq_true q198
                                      have hcz64_0 : wr.cell? ⟨gb186, 0, none⟩ = some (.slice A2_0 l2_0.length c2_0) := (blk_cell BK186.out 0).trans rfl
                                      have hcz64_1 : wr.cell? ⟨gb186, 1, none⟩ = some (.bool a2_1) := (blk_cell BK186.out 1).trans rfl
                                      have hfz64_0 := blk_frozen BK186.out 0
                                      have hfz64_1 := blk_frozen BK186.out 1
                                      have p199 : 0 ≤ (x9_3 : Int) := of_decide_eq_true (by first | (with_reducible assumption) | assumption)
                                      have q199 : x9_3 < (l2_0.length : Int) := of_decide_eq_true (by first | (with_reducible assumption) | assumption)
                                      obtain ⟨ad199, e199, hx199_0⟩ := Kd.at_int HR2_0.out x9_3 p199 q199
                                      cases e199
                                      replace hx199_0 := (HB.out.cell (World.block_lt_of_cell? w _ hx199_0)).trans hx199_0
                                      replace p199 := eq_true p199
                                      replace q199 := eq_true q199
                                      go_wp2
                                      repeat (go_quiet (fail); try go_wp2)
                                      go_meet
                                      case rel => exact ⟨_, (true), (by first | rfl | (simp; done) | (simp [*]; done)), H', ⟨by have := HJ3.out; have := HJ25.out; have := HK3.out; first | omega | exact Nat.le_refl _⟩, ⟨by (with_reducible repeat (first | apply Kd.R_alloc | apply Kd.R_drewN | apply Kd.R_drew)); exact HO_7.out⟩, ⟨by (with_reducible repeat (first | refine blk_drewN ?_ _ | refine blk_drew ?_ | refine blk_alloc ?_ _)); exact BK185.out⟩, ⟨by (with_reducible repeat (first | refine blk_drewN ?_ _ | refine blk_drew ?_ | refine blk_alloc ?_ _)); exact BK186.out⟩, ⟨by repeat (first | (with_reducible first | exact HB.out | apply below_alloc | apply pw_below_drewN | apply below_drew1 | refine below_set ?_ GE185.out | refine below_set ?_ GE186.out) | exact HB.out)⟩⟩
                                  · rw [if_neg c50] at H
                                    exact absurd H (by simp)
                                · rw [if_neg c49] at H
                                  exact absurd H (by simp)
                              · rw [if_neg c48] at H
                                exact absurd H (by simp)
                        · rw [if_neg c43] at H
                          exact absurd H (by simp)
                      case rest =>
                        clear HC41
                        try clear c1
                        try clear p1
                        try clear q1
                        try clear hx1
                        try clear qi1
                        try clear c2
                        try clear p2
                        try clear q2
                        try clear hx2
                        try clear c3
                        try clear c4
                        try clear c5
                        try clear c6
                        try clear p6
                        try clear c7
                        try clear c8
                        try clear c10
                        try clear c12
                        try clear c17
                        try clear p19
                        try clear q19
                        try clear hx19
                        try clear qi19
                        try clear p20
                        try clear q20
                        try clear hx20
                        try clear c21
                        try clear c25
                        try clear c27
                        try clear c31
                        try clear c31b0
                        try clear c31b1
                        try clear c31b2
                        try clear c32
                        try clear c32b0
                        try clear c32b1
                        try clear c34
                        try clear c37
                        try clear c39
                        try clear c40
                        try clear c40b0
                        try clear c43
                        try clear c43b0
                        try clear c44
                        try clear c44b0
                        try clear c45
                        try clear c45b0
                        try clear c46
                        try clear c48
                        try clear c48b0
                        try clear c49
                        try clear c49b0
                        try clear c50
                        try clear c50b0
                        try clear c51
                        try clear c51b0
                        try clear c51b1
                        try clear c52
                        try clear c52b0
                        try clear c54
                        try clear c54b0
                        try clear c55
                        try clear c55b0
                        try clear c56
                        try clear c59
                        try clear c62
                        try clear p64
                        try clear hcz13_0
                        try clear hcz13_1
                        try clear hcz15_0
                        try clear hcz15_1
                        try clear hcz18_0
                        try clear hcz18_1
                        try clear hcz28_0
                        try clear hcz28_1
                        try clear hcz29_0
                        try clear hcz29_1
                        try clear hcz35_0
                        try clear hcz35_1
                        try clear hcz38_0
                        try clear hcz38_1
                        try clear hcz47_0
                        try clear hcz47_1
                        try clear hcz57_0
                        try clear hcz57_1
                        try clear hcz58_0
                        try clear hcz58_1
                        try clear hcz60_0
                        try clear hcz60_1
                        try clear hcz61_0
                        try clear hcz61_1
                        try clear hcz63_0
                        try clear hcz63_1
                        try clear hcz64_0
                        try clear hcz64_1
                        try clear hfz13_0
                        try clear hfz13_1
                        try clear hfz15_0
                        try clear hfz15_1
                        try clear hfz18_0
                        try clear hfz18_1
                        try clear hfz28_0
                        try clear hfz28_1
                        try clear hfz29_0
                        try clear hfz29_1
                        try clear hfz35_0
                        try clear hfz35_1
                        try clear hfz38_0
                        try clear hfz38_1
                        try clear hfz47_0
                        try clear hfz47_1
                        try clear hfz57_0
                        try clear hfz57_1
                        try clear hfz58_0
                        try clear hfz58_1
                        try clear hfz60_0
                        try clear hfz60_1
                        try clear hfz61_0
                        try clear hfz61_1
                        try clear hfz63_0
                        try clear hfz63_1
                        try clear hfz64_0
                        try clear hfz64_1
                        try clear hx194_0
                        try clear hx195_0
                        try clear hx196_0
                        try clear hx197_0
                        try clear hx198_0
                        try clear hx199_0
                        try clear hx200_0
                        try clear hx201_0
                        try clear p1
                        try clear p19
                        try clear p194
                        try clear p195
                        try clear p196
                        try clear p197
                        try clear p198
                        try clear p199
                        try clear p2
                        try clear p200
                        try clear p201
                        try clear q1
                        try clear q19
                        try clear q194
                        try clear q195
                        try clear q196
                        try clear q197
                        try clear q198
                        try clear q199
                        try clear q200
                        try clear q201
                        obtain ⟨kq, x108_40, rfl, HA, HJ40, HO_7, BK185, BK186, HB⟩ := hcut
                        cases kq with
                        | zero => exact absurd HA.out (by simp [foundrylaw19_ClassesMet.j3])
                        | succ kj40 =>
                          have H := HA.out
                          clear HA
                          simp only [foundrylaw19_ClassesMet.j3] at H
                          by_cases c65 : x108_40 = true
                          · subst c65
                            have H1 : (some false) = some r := by rw [if_pos rfl] at H; exact H
                            clear H
                            have H := H1
                            clear H1
                            obtain rfl := Option.some.inj H
                            go_wp2
                            repeat (go_quiet (fail); try go_wp2)
                            go_ret
                            exact ⟨by first | rfl | (simp [errW_none, errW_some] <;> rfl) | (simp [*, errW_none, errW_some] <;> rfl), by repeat (first | (with_reducible first | exact HB.out | apply below_alloc | apply pw_below_drewN | apply below_drew1 | refine below_set ?_ GE185.out | refine below_set ?_ GE186.out) | exact HB.out)⟩
                          · replace c65 := Bool.eq_false_iff.mpr c65
                            subst c65
                            have H1 : (foundrylaw19_ClassesMet.l1 kj40 a1 t190 x9_3 (wrap64 (a1 + 1)) l0_0 l0_1 l2_0 a2_1) = some r := by rw [if_neg (show ¬ (false = true) by decide)] at H; exact H
                            clear H
                            have H := H1
                            clear H1
                            have H' := Aside0.mk H
                            clear H
                            go_wp2
                            repeat (go_quiet (fail); try go_wp2)
                            go_loopg [10] kj40 (fun kq v10 w' => ∃ (x10_5 : Int), v10 = .int .i64 x10_5 ∧ Aside0 (foundrylaw19_ClassesMet.l1 kq a1 t190 x9_3 x10_5 l0_0 l0_1 l2_0 a2_1 = some r) ∧ Aside0 (kq ≤ kj40) ∧ Aside0 (Kd.R (Kd.int .i64) 3 w' w.heap.size (fun _ => True) (.slice Ao42 t190.length co42) t190) ∧ Aside0 (w'.heap[gb185]? = some (.cells #[(.slice A0_0 l0_0.length c0_0), (.slice A0_1 l0_1.length c0_1)] 25 (0, 0))) ∧ Aside0 (w'.heap[gb186]? = some (.cells #[(.slice A2_0 l2_0.length c2_0), .bool a2_1] 34 (0, 0))) ∧ Aside0 (Below w.heap.size w w'))
                            case atStart => exact ⟨(wrap64 (a1 + 1)), (by first | rfl | (simp; done) | (simp [*]; done)), H', ⟨Nat.le_refl _⟩, ⟨by (with_reducible repeat (first | apply Kd.R_alloc | apply Kd.R_drewN | apply Kd.R_drew)); exact HO_7.out⟩, ⟨by (with_reducible repeat (first | refine blk_drewN ?_ _ | refine blk_drew ?_ | refine blk_alloc ?_ _)); exact BK185.out⟩, ⟨by (with_reducible repeat (first | refine blk_drewN ?_ _ | refine blk_drew ?_ | refine blk_alloc ?_ _)); exact BK186.out⟩, ⟨by repeat (first | (with_reducible first | exact HB.out | apply below_alloc | apply pw_below_drewN | apply below_drew1 | refine below_set ?_ GE185.out | refine below_set ?_ GE186.out) | exact HB.out)⟩⟩
                            case round =>
                              clear H'
                              try clear c1
                              try clear p1
                              try clear q1
                              try clear hx1
                              try clear qi1
                              try clear c2
                              try clear p2
                              try clear q2
                              try clear hx2
                              try clear c3
                              try clear c4
                              try clear c5
                              try clear c6
                              try clear p6
                              try clear c7
                              try clear c8
                              try clear c10
                              try clear c12
                              try clear c17
                              try clear p19
                              try clear q19
                              try clear hx19
                              try clear qi19
                              try clear p20
                              try clear q20
                              try clear hx20
                              try clear c21
                              try clear c25
                              try clear c27
                              try clear c31
                              try clear c31b0
                              try clear c31b1
                              try clear c31b2
                              try clear c32
                              try clear c32b0
                              try clear c32b1
                              try clear c34
                              try clear c37
                              try clear c39
                              try clear c40
                              try clear c40b0
                              try clear c43
                              try clear c43b0
                              try clear c44
                              try clear c44b0
                              try clear c45
                              try clear c45b0
                              try clear c46
                              try clear c48
                              try clear c48b0
                              try clear c49
                              try clear c49b0
                              try clear c50
                              try clear c50b0
                              try clear c51
                              try clear c51b0
                              try clear c51b1
                              try clear c52
                              try clear c52b0
                              try clear c54
                              try clear c54b0
                              try clear c55
                              try clear c55b0
                              try clear c56
                              try clear c59
                              try clear c62
                              try clear p64
                              try clear c65
                              try clear hcz13_0
                              try clear hcz13_1
                              try clear hcz15_0
                              try clear hcz15_1
                              try clear hcz18_0
                              try clear hcz18_1
                              try clear hcz28_0
                              try clear hcz28_1
                              try clear hcz29_0
                              try clear hcz29_1
                              try clear hcz35_0
                              try clear hcz35_1
                              try clear hcz38_0
                              try clear hcz38_1
                              try clear hcz47_0
                              try clear hcz47_1
                              try clear hcz57_0
                              try clear hcz57_1
                              try clear hcz58_0
                              try clear hcz58_1
                              try clear hcz60_0
                              try clear hcz60_1
                              try clear hcz61_0
                              try clear hcz61_1
                              try clear hcz63_0
                              try clear hcz63_1
                              try clear hcz64_0
                              try clear hcz64_1
                              try clear hfz13_0
                              try clear hfz13_1
                              try clear hfz15_0
                              try clear hfz15_1
                              try clear hfz18_0
                              try clear hfz18_1
                              try clear hfz28_0
                              try clear hfz28_1
                              try clear hfz29_0
                              try clear hfz29_1
                              try clear hfz35_0
                              try clear hfz35_1
                              try clear hfz38_0
                              try clear hfz38_1
                              try clear hfz47_0
                              try clear hfz47_1
                              try clear hfz57_0
                              try clear hfz57_1
                              try clear hfz58_0
                              try clear hfz58_1
                              try clear hfz60_0
                              try clear hfz60_1
                              try clear hfz61_0
                              try clear hfz61_1
                              try clear hfz63_0
                              try clear hfz63_1
                              try clear hfz64_0
                              try clear hfz64_1
                              try clear hx194_0
                              try clear hx195_0
                              try clear hx196_0
                              try clear hx197_0
                              try clear hx198_0
                              try clear hx199_0
                              try clear hx200_0
                              try clear hx201_0
                              try clear p1
                              try clear p19
                              try clear p194
                              try clear p195
                              try clear p196
                              try clear p197
                              try clear p198
                              try clear p199
                              try clear p2
                              try clear p20
                              try clear p200
                              try clear p201
                              try clear p6
                              try clear p64
                              try clear q1
                              try clear q19
                              try clear q194
                              try clear q195
                              try clear q196
                              try clear q197
                              try clear q198
                              try clear q199
                              try clear q2
                              try clear q20
                              try clear q200
                              try clear q201
                              obtain ⟨x10_5, rfl, HA, HK5, HO_7, BK185, BK186, HB⟩ := hrel
                              cases gk with
                              | zero => exact absurd HA.out (by simp [foundrylaw19_ClassesMet.l1])
                              | succ k5 =>
                                have H := HA.out
                                clear HA
                                simp only [foundrylaw19_ClassesMet.l1] at H
                                have HC66 := Aside0.mk H
                                clear H
                                go_upto_region 14 with (fail)
                                repeat (go_quiet (fail); go_upto_region 14 with (fail))
                                go_cut [120] (fun v120 wc => ∃ (kq : Nat) (x120_65 : Bool), v120 = .bool x120_65 ∧ Aside0 (foundrylaw19_ClassesMet.j5 kq a1 t190 x9_3 x10_5 x120_65 l0_0 l0_1 l2_0 a2_1 = some r) ∧ Aside0 (kq ≤ k5) ∧ Aside0 (Kd.R (Kd.int .i64) 3 wc w.heap.size (fun _ => True) (.slice Ao42 t190.length co42) t190) ∧ Aside0 (wc.heap[gb185]? = some (.cells #[(.slice A0_0 l0_0.length c0_0), (.slice A0_1 l0_1.length c0_1)] 25 (0, 0))) ∧ Aside0 (wc.heap[gb186]? = some (.cells #[(.slice A2_0 l2_0.length c2_0), .bool a2_1] 34 (0, 0))) ∧ Aside0 (Below w.heap.size w wc))
                                case first =>
                                  have H := HC66.out
                                  clear HC66
                                  by_cases c67 : x9_3 > 0
                                  · rw [if_pos c67] at H
                                    have c67b0 : decide (0 < x9_3) = true := decide_eq_true c67
                                    clear c67
                                    (first | rw [c67b0] | (simp only [i64_w, i32_w]; rw [c67b0]) | skip)
                                    by_cases c68 : 0 ≤ x9_3
                                    · rw [if_pos c68] at H
                                      have c68b0 : decide (0 ≤ x9_3) = true := decide_eq_true c68
                                      clear c68
                                      by_cases c69 : x9_3 < (t190.length : Int)
                                      · rw [if_pos c69] at H
                                        have c69b0 : decide (x9_3 < (t190.length : Int)) = true := decide_eq_true c69
                                        clear c69
                                        have H' := Aside0.mk H
                                        clear H
                                        have p202 : 0 ≤ (x9_3 : Int) := of_decide_eq_true (by first | (with_reducible assumption) | assumption)
                                        have q202 : x9_3 < (t190.length : Int) := of_decide_eq_true (by first | (with_reducible assumption) | assumption)
                                        obtain ⟨ad202, e202, hx202_0⟩ := Kd.at_int (Kd.R_reads' HO_7.out).2.2 x9_3 p202 q202
                                        cases e202
                                        replace p202 := eq_true p202
                                        replace q202 := eq_true q202
                                        go_wp2
                                        repeat (go_quiet (fail); try go_wp2)
                                        go_meet
                                        case rel => exact ⟨_, (decide (x10_5 < (rd t190 x9_3))), (by first | rfl | (simp; done) | (simp [*]; done)), H', ⟨by have := HJ3.out; have := HJ25.out; have := HK3.out; have := HJ40.out; have := HK5.out; first | omega | exact Nat.le_refl _⟩, ⟨by (with_reducible repeat (first | apply Kd.R_alloc | apply Kd.R_drewN | apply Kd.R_drew)); exact HO_7.out⟩, ⟨by (with_reducible repeat (first | refine blk_drewN ?_ _ | refine blk_drew ?_ | refine blk_alloc ?_ _)); exact BK185.out⟩, ⟨by (with_reducible repeat (first | refine blk_drewN ?_ _ | refine blk_drew ?_ | refine blk_alloc ?_ _)); exact BK186.out⟩, ⟨by repeat (first | (with_reducible first | exact HB.out | apply below_alloc | apply pw_below_drewN | apply below_drew1 | refine below_set ?_ GE185.out | refine below_set ?_ GE186.out) | exact HB.out)⟩⟩
                                      · rw [if_neg c69] at H
                                        exact absurd H (by simp)
                                    · rw [if_neg c68] at H
                                      exact absurd H (by simp)
                                  · rw [if_neg c67] at H
                                    have c67b0 : decide (0 < x9_3) = false := decide_eq_false c67
                                    clear c67
                                    (first | rw [c67b0] | (simp only [i64_w, i32_w]; rw [c67b0]) | skip)
                                    have H' := Aside0.mk H
                                    clear H
                                    go_wp2
                                    repeat (go_quiet (fail); try go_wp2)
                                    go_meet
                                    case rel => exact ⟨_, (false), (by first | rfl | (simp; done) | (simp [*]; done)), H', ⟨by have := HJ3.out; have := HJ25.out; have := HK3.out; have := HJ40.out; have := HK5.out; first | omega | exact Nat.le_refl _⟩, ⟨by (with_reducible repeat (first | apply Kd.R_alloc | apply Kd.R_drewN | apply Kd.R_drew)); exact HO_7.out⟩, ⟨by (with_reducible repeat (first | refine blk_drewN ?_ _ | refine blk_drew ?_ | refine blk_alloc ?_ _)); exact BK185.out⟩, ⟨by (with_reducible repeat (first | refine blk_drewN ?_ _ | refine blk_drew ?_ | refine blk_alloc ?_ _)); exact BK186.out⟩, ⟨by repeat (first | (with_reducible first | exact HB.out | apply below_alloc | apply pw_below_drewN | apply below_drew1 | refine below_set ?_ GE185.out | refine below_set ?_ GE186.out) | exact HB.out)⟩⟩
                                case rest =>
                                  clear HC66
                                  try clear c1
                                  try clear p1
                                  try clear q1
                                  try clear hx1
                                  try clear qi1
                                  try clear c2
                                  try clear p2
                                  try clear q2
                                  try clear hx2
                                  try clear c3
                                  try clear c4
                                  try clear c5
                                  try clear c6
                                  try clear p6
                                  try clear c7
                                  try clear c8
                                  try clear c10
                                  try clear c12
                                  try clear c17
                                  try clear p19
                                  try clear q19
                                  try clear hx19
                                  try clear qi19
                                  try clear p20
                                  try clear q20
                                  try clear hx20
                                  try clear c21
                                  try clear c25
                                  try clear c27
                                  try clear c31
                                  try clear c31b0
                                  try clear c31b1
                                  try clear c31b2
                                  try clear c32
                                  try clear c32b0
                                  try clear c32b1
                                  try clear c34
                                  try clear c37
                                  try clear c39
                                  try clear c40
                                  try clear c40b0
                                  try clear c43
                                  try clear c43b0
                                  try clear c44
                                  try clear c44b0
                                  try clear c45
                                  try clear c45b0
                                  try clear c46
                                  try clear c48
                                  try clear c48b0
                                  try clear c49
                                  try clear c49b0
                                  try clear c50
                                  try clear c50b0
                                  try clear c51
                                  try clear c51b0
                                  try clear c51b1
                                  try clear c52
                                  try clear c52b0
                                  try clear c54
                                  try clear c54b0
                                  try clear c55
                                  try clear c55b0
                                  try clear c56
                                  try clear c59
                                  try clear c62
                                  try clear p64
                                  try clear c65
                                  try clear c67
                                  try clear c67b0
                                  try clear c68
                                  try clear c68b0
                                  try clear c69
                                  try clear c69b0
                                  try clear hcz13_0
                                  try clear hcz13_1
                                  try clear hcz15_0
                                  try clear hcz15_1
                                  try clear hcz18_0
                                  try clear hcz18_1
                                  try clear hcz28_0
                                  try clear hcz28_1
                                  try clear hcz29_0
                                  try clear hcz29_1
                                  try clear hcz35_0
                                  try clear hcz35_1
                                  try clear hcz38_0
                                  try clear hcz38_1
                                  try clear hcz47_0
                                  try clear hcz47_1
                                  try clear hcz57_0
                                  try clear hcz57_1
                                  try clear hcz58_0
                                  try clear hcz58_1
                                  try clear hcz60_0
                                  try clear hcz60_1
                                  try clear hcz61_0
                                  try clear hcz61_1
                                  try clear hcz63_0
                                  try clear hcz63_1
                                  try clear hcz64_0
                                  try clear hcz64_1
                                  try clear hfz13_0
                                  try clear hfz13_1
                                  try clear hfz15_0
                                  try clear hfz15_1
                                  try clear hfz18_0
                                  try clear hfz18_1
                                  try clear hfz28_0
                                  try clear hfz28_1
                                  try clear hfz29_0
                                  try clear hfz29_1
                                  try clear hfz35_0
                                  try clear hfz35_1
                                  try clear hfz38_0
                                  try clear hfz38_1
                                  try clear hfz47_0
                                  try clear hfz47_1
                                  try clear hfz57_0
                                  try clear hfz57_1
                                  try clear hfz58_0
                                  try clear hfz58_1
                                  try clear hfz60_0
                                  try clear hfz60_1
                                  try clear hfz61_0
                                  try clear hfz61_1
                                  try clear hfz63_0
                                  try clear hfz63_1
                                  try clear hfz64_0
                                  try clear hfz64_1
                                  try clear hx194_0
                                  try clear hx195_0
                                  try clear hx196_0
                                  try clear hx197_0
                                  try clear hx198_0
                                  try clear hx199_0
                                  try clear hx200_0
                                  try clear hx201_0
                                  try clear hx202_0
                                  try clear p1
                                  try clear p19
                                  try clear p194
                                  try clear p195
                                  try clear p196
                                  try clear p197
                                  try clear p198
                                  try clear p199
                                  try clear p2
                                  try clear p20
                                  try clear p200
                                  try clear p201
                                  try clear p202
                                  try clear p6
                                  try clear p64
                                  try clear q1
                                  try clear q19
                                  try clear q194
                                  try clear q195
                                  try clear q196
                                  try clear q197
                                  try clear q198
                                  try clear q199
                                  try clear q2
                                  try clear q20
                                  try clear q200
                                  try clear q201
                                  try clear q202
                                  obtain ⟨kq, x120_65, rfl, HA, HJ65, HO_7, BK185, BK186, HB⟩ := hcut
                                  cases kq with
                                  | zero => exact absurd HA.out (by simp [foundrylaw19_ClassesMet.j5])
                                  | succ kj65 =>
                                    have H := HA.out
                                    clear HA
                                    simp only [foundrylaw19_ClassesMet.j5] at H
                                    by_cases c70 : x120_65 = true
                                    · subst c70
                                      have H1 : (if 0 ≤ (wrap64 (x9_3 - 1)) then (if (wrap64 (x9_3 - 1)) < (t190.length : Int) then (if x10_5 > (rd t190 (wrap64 (x9_3 - 1))) then (if a2_1 = true then (if 0 ≤ x10_5 then (if x10_5 < (l0_0.length : Int) then ((classes_Mark.f l0_1 (rd l0_0 x10_5)).bind fun t205 => (if t205 = true then (foundrylaw19_ClassesMet.l1 kj65 a1 t190 x9_3 (wrap64 (x10_5 + 1)) l0_0 l0_1 l2_0 a2_1) else (some false))) else (none)) else (none)) else (some false)) else (foundrylaw19_ClassesMet.l1 kj65 a1 t190 x9_3 (wrap64 (x10_5 + 1)) l0_0 l0_1 l2_0 a2_1)) else (none)) else (none)) = some r := by rw [if_pos rfl] at H; exact H
                                      clear H
                                      have H := H1
                                      clear H1
                                      obtain ⟨ji71, hji71⟩ : ∃ j_ : Int, (wrap64 (x9_3 - 1)) = j_ := ⟨_, rfl⟩
                                      replace H : (if 0 ≤ (ji71) then (if (ji71) < (t190.length : Int) then (if x10_5 > (rd t190 (ji71)) then (if a2_1 = true then (if 0 ≤ x10_5 then (if x10_5 < (l0_0.length : Int) then ((classes_Mark.f l0_1 (rd l0_0 x10_5)).bind fun t205 => (if t205 = true then (foundrylaw19_ClassesMet.l1 kj65 a1 t190 x9_3 (wrap64 (x10_5 + 1)) l0_0 l0_1 l2_0 a2_1) else (some false))) else (none)) else (none)) else (some false)) else (foundrylaw19_ClassesMet.l1 kj65 a1 t190 x9_3 (wrap64 (x10_5 + 1)) l0_0 l0_1 l2_0 a2_1)) else (none)) else (none)) = some r := by first | (rw [hji71] at H; exact H) | (simp only [hji71] at H ⊢; exact H)
                                      have hji71w : (IntKind.i64.wrap (x9_3 - 1)) = ji71 := (i64_w _).trans hji71
                                      by_cases c72 : 0 ≤ (ji71)
                                      · rw [if_pos c72] at H
                                        have c72b0 : decide (0 ≤ (ji71)) = true := decide_eq_true c72
                                        clear c72
                                        by_cases c73 : (ji71) < (t190.length : Int)
                                        · rw [if_pos c73] at H
                                          have c73b0 : decide ((ji71) < (t190.length : Int)) = true := decide_eq_true c73
                                          clear c73
                                          by_cases c74 : x10_5 > (rd t190 (ji71))
                                          · rw [if_pos c74] at H
                                            have c74b0 : decide ((rd t190 (ji71)) < x10_5) = true := decide_eq_true c74
                                            clear c74
                                            by_cases c75 : a2_1 = true
                                            · subst c75
                                              have H1 : (if 0 ≤ x10_5 then (if x10_5 < (l0_0.length : Int) then ((classes_Mark.f l0_1 (rd l0_0 x10_5)).bind fun t205 => (if t205 = true then (foundrylaw19_ClassesMet.l1 kj65 a1 t190 x9_3 (wrap64 (x10_5 + 1)) l0_0 l0_1 l2_0 true) else (some false))) else (none)) else (none)) = some r := by rw [if_pos rfl] at H; exact H
                                              clear H
                                              have H := H1
                                              clear H1
                                              by_cases c76 : 0 ≤ x10_5
                                              · rw [if_pos c76] at H
                                                have c76b0 : decide (0 ≤ x10_5) = true := decide_eq_true c76
                                                clear c76
                                                by_cases c77 : x10_5 < (l0_0.length : Int)
                                                · rw [if_pos c77] at H
                                                  have c77b0 : decide (x10_5 < (l0_0.length : Int)) = true := decide_eq_true c77
                                                  clear c77
                                                  replace H := Option.bind_eq_some_iff.mp H
                                                  obtain ⟨t205, A780, H⟩ := H
                                                  replace H : (if t205 = true then (foundrylaw19_ClassesMet.l1 kj65 a1 t190 x9_3 (wrap64 (x10_5 + 1)) l0_0 l0_1 l2_0 true) else (some false)) = some r := H
                                                  have A78 := Aside0.mk A780
                                                  clear A780
                                                  by_cases c79 : t205 = true
                                                  · subst c79
                                                    have H1 : (foundrylaw19_ClassesMet.l1 kj65 a1 t190 x9_3 (wrap64 (x10_5 + 1)) l0_0 l0_1 l2_0 true) = some r := by rw [if_pos rfl] at H; exact H
                                                    clear H
                                                    have H := H1
                                                    clear H1
                                                    have H' := Aside0.mk H
                                                    clear H
                                                    have p203 : 0 ≤ ((ji71) : Int) := of_decide_eq_true (by first | (with_reducible assumption) | assumption)
                                                    have q203 : (ji71) < (t190.length : Int) := of_decide_eq_true (by first | (with_reducible assumption) | assumption)
                                                    obtain ⟨ad203, e203, hx203_0⟩ := Kd.at_int (Kd.R_reads' HO_7.out).2.2 (ji71) p203 q203
                                                    cases e203
                                                    replace p203 := eq_true p203
                                                    replace q203 := eq_true q203
                                                    have hnb80 := NB186_185.out
                                                    have hnc80 := NB185_186.out
                                                    have hcz81_0 : wc.cell? ⟨gb186, 0, none⟩ = some (.slice A2_0 l2_0.length c2_0) := (blk_cell BK186.out 0).trans rfl
                                                    have hcz81_1 : wc.cell? ⟨gb186, 1, none⟩ = some (.bool true) := (blk_cell BK186.out 1).trans rfl
                                                    have hfz81_0 := blk_frozen BK186.out 0
                                                    have hfz81_1 := blk_frozen BK186.out 1
                                                    have hcz82_0 : wc.cell? ⟨gb185, 0, none⟩ = some (.slice A0_0 l0_0.length c0_0) := (blk_cell BK185.out 0).trans rfl
                                                    have hcz82_1 : wc.cell? ⟨gb185, 1, none⟩ = some (.slice A0_1 l0_1.length c0_1) := (blk_cell BK185.out 1).trans rfl
                                                    have hfz82_0 := blk_frozen BK185.out 0
                                                    have hfz82_1 := blk_frozen BK185.out 1
                                                    have p204 : 0 ≤ (x10_5 : Int) := of_decide_eq_true (by first | (with_reducible assumption) | assumption)
                                                    have q204 : x10_5 < (l0_0.length : Int) := of_decide_eq_true (by first | (with_reducible assumption) | assumption)
                                                    obtain ⟨ad204, e204, hx204_0⟩ := Kd.at_int HR0_0.out x10_5 p204 q204
                                                    cases e204
                                                    replace hx204_0 := (HB.out.cell (World.block_lt_of_cell? w _ hx204_0)).trans hx204_0
                                                    replace p204 := eq_true p204
                                                    replace q204 := eq_true q204
                                                    go_wp2_with (first | (go_at_call 20; (with_reducible refine (classes_Mark.calls _ _ l0_1 (rd l0_0 x10_5) true _ ?side1 ?side2 A78.out).mono ?_); (case side1 => repeat (first | exact (Kd.C_below HR0_1.out HB.out) | (with_reducible refine Kd.C_alloc ?_ _) | (with_reducible refine Kd.C_drewN ?_ _) | (with_reducible refine Kd.C_drew ?_))); (case side2 => exact HC0_1.out); rintro e w' ⟨rfl, ⟨nd, rfl⟩⟩; (try first | exact ⟨rfl, _, World.drewN_drewN _ _ _⟩ | exact ⟨rfl, _, Eq.trans (World.drewN_drewN _ _ _) (congrArg (World.drewN _) (Nat.add_assoc _ _ _))⟩)))
                                                    repeat (go_quiet (first | (go_at_call 20; (with_reducible refine (classes_Mark.calls _ _ l0_1 (rd l0_0 x10_5) true _ ?side1 ?side2 A78.out).mono ?_); (case side1 => repeat (first | exact (Kd.C_below HR0_1.out HB.out) | (with_reducible refine Kd.C_alloc ?_ _) | (with_reducible refine Kd.C_drewN ?_ _) | (with_reducible refine Kd.C_drew ?_))); (case side2 => exact HC0_1.out); rintro e w' ⟨rfl, ⟨nd, rfl⟩⟩; (try first | exact ⟨rfl, _, World.drewN_drewN _ _ _⟩ | exact ⟨rfl, _, Eq.trans (World.drewN_drewN _ _ _) (congrArg (World.drewN _) (Nat.add_assoc _ _ _))⟩))); try go_wp2_with (first | (go_at_call 20; (with_reducible refine (classes_Mark.calls _ _ l0_1 (rd l0_0 x10_5) true _ ?side1 ?side2 A78.out).mono ?_); (case side1 => repeat (first | exact (Kd.C_below HR0_1.out HB.out) | (with_reducible refine Kd.C_alloc ?_ _) | (with_reducible refine Kd.C_drewN ?_ _) | (with_reducible refine Kd.C_drew ?_))); (case side2 => exact HC0_1.out); rintro e w' ⟨rfl, ⟨nd, rfl⟩⟩; (try first | exact ⟨rfl, _, World.drewN_drewN _ _ _⟩ | exact ⟨rfl, _, Eq.trans (World.drewN_drewN _ _ _) (congrArg (World.drewN _) (Nat.add_assoc _ _ _))⟩))))
                                                    go_roundg kj65
                                                    case measure => have := HJ3.out; have := HJ25.out; have := HK3.out; have := HJ40.out; have := HK5.out; have := HJ65.out; omega
                                                    case rel => exact ⟨(wrap64 (x10_5 + 1)), (by first | rfl | (simp; done) | (simp [*]; done)), H', ⟨by have := HJ3.out; have := HJ25.out; have := HK3.out; have := HJ40.out; have := HK5.out; have := HJ65.out; omega⟩, ⟨by (with_reducible repeat (first | apply Kd.R_alloc | apply Kd.R_drewN | apply Kd.R_drew)); exact HO_7.out⟩, ⟨by (with_reducible repeat (first | refine blk_drewN ?_ _ | refine blk_drew ?_ | refine blk_alloc ?_ _)); exact BK185.out⟩, ⟨by (with_reducible repeat (first | refine blk_drewN ?_ _ | refine blk_drew ?_ | refine blk_alloc ?_ _)); exact BK186.out⟩, ⟨by repeat (first | (with_reducible first | exact HB.out | apply below_alloc | apply pw_below_drewN | apply below_drew1 | refine below_set ?_ GE185.out | refine below_set ?_ GE186.out) | exact HB.out)⟩⟩
                                                  · replace c79 := Bool.eq_false_iff.mpr c79
                                                    subst c79
                                                    have H1 : (some false) = some r := by rw [if_neg (show ¬ (false = true) by decide)] at H; exact H
                                                    clear H
                                                    have H := H1
                                                    clear H1
                                                    obtain rfl := Option.some.inj H
                                                    have p203 : 0 ≤ ((ji71) : Int) := of_decide_eq_true (by first | (with_reducible assumption) | assumption)
                                                    have q203 : (ji71) < (t190.length : Int) := of_decide_eq_true (by first | (with_reducible assumption) | assumption)
                                                    obtain ⟨ad203, e203, hx203_0⟩ := Kd.at_int (Kd.R_reads' HO_7.out).2.2 (ji71) p203 q203
                                                    cases e203
                                                    replace p203 := eq_true p203
                                                    replace q203 := eq_true q203
                                                    have hnb83 := NB186_185.out
                                                    have hnc83 := NB185_186.out
                                                    have hcz84_0 : wc.cell? ⟨gb186, 0, none⟩ = some (.slice A2_0 l2_0.length c2_0) := (blk_cell BK186.out 0).trans rfl
                                                    have hcz84_1 : wc.cell? ⟨gb186, 1, none⟩ = some (.bool true) := (blk_cell BK186.out 1).trans rfl
                                                    have hfz84_0 := blk_frozen BK186.out 0
                                                    have hfz84_1 := blk_frozen BK186.out 1
                                                    have hcz85_0 : wc.cell? ⟨gb185, 0, none⟩ = some (.slice A0_0 l0_0.length c0_0) := (blk_cell BK185.out 0).trans rfl
                                                    have hcz85_1 : wc.cell? ⟨gb185, 1, none⟩ = some (.slice A0_1 l0_1.length c0_1) := (blk_cell BK185.out 1).trans rfl
                                                    have hfz85_0 := blk_frozen BK185.out 0
                                                    have hfz85_1 := blk_frozen BK185.out 1
                                                    have p204 : 0 ≤ (x10_5 : Int) := of_decide_eq_true (by first | (with_reducible assumption) | assumption)
                                                    have q204 : x10_5 < (l0_0.length : Int) := of_decide_eq_true (by first | (with_reducible assumption) | assumption)
                                                    obtain ⟨ad204, e204, hx204_0⟩ := Kd.at_int HR0_0.out x10_5 p204 q204
                                                    cases e204
                                                    replace hx204_0 := (HB.out.cell (World.block_lt_of_cell? w _ hx204_0)).trans hx204_0
                                                    replace p204 := eq_true p204
                                                    replace q204 := eq_true q204
                                                    go_wp2_with (first | (go_at_call 20; (with_reducible refine (classes_Mark.calls _ _ l0_1 (rd l0_0 x10_5) false _ ?side1 ?side2 A78.out).mono ?_); (case side1 => repeat (first | exact (Kd.C_below HR0_1.out HB.out) | (with_reducible refine Kd.C_alloc ?_ _) | (with_reducible refine Kd.C_drewN ?_ _) | (with_reducible refine Kd.C_drew ?_))); (case side2 => exact HC0_1.out); rintro e w' ⟨rfl, ⟨nd, rfl⟩⟩; (try first | exact ⟨rfl, _, World.drewN_drewN _ _ _⟩ | exact ⟨rfl, _, Eq.trans (World.drewN_drewN _ _ _) (congrArg (World.drewN _) (Nat.add_assoc _ _ _))⟩)))
                                                    repeat (go_quiet (first | (go_at_call 20; (with_reducible refine (classes_Mark.calls _ _ l0_1 (rd l0_0 x10_5) false _ ?side1 ?side2 A78.out).mono ?_); (case side1 => repeat (first | exact (Kd.C_below HR0_1.out HB.out) | (with_reducible refine Kd.C_alloc ?_ _) | (with_reducible refine Kd.C_drewN ?_ _) | (with_reducible refine Kd.C_drew ?_))); (case side2 => exact HC0_1.out); rintro e w' ⟨rfl, ⟨nd, rfl⟩⟩; (try first | exact ⟨rfl, _, World.drewN_drewN _ _ _⟩ | exact ⟨rfl, _, Eq.trans (World.drewN_drewN _ _ _) (congrArg (World.drewN _) (Nat.add_assoc _ _ _))⟩))); try go_wp2_with (first | (go_at_call 20; (with_reducible refine (classes_Mark.calls _ _ l0_1 (rd l0_0 x10_5) false _ ?side1 ?side2 A78.out).mono ?_); (case side1 => repeat (first | exact (Kd.C_below HR0_1.out HB.out) | (with_reducible refine Kd.C_alloc ?_ _) | (with_reducible refine Kd.C_drewN ?_ _) | (with_reducible refine Kd.C_drew ?_))); (case side2 => exact HC0_1.out); rintro e w' ⟨rfl, ⟨nd, rfl⟩⟩; (try first | exact ⟨rfl, _, World.drewN_drewN _ _ _⟩ | exact ⟨rfl, _, Eq.trans (World.drewN_drewN _ _ _) (congrArg (World.drewN _) (Nat.add_assoc _ _ _))⟩))))
                                                    go_ret
                                                    exact ⟨by first | rfl | (simp [errW_none, errW_some] <;> rfl) | (simp only [← hji71]; first | rfl | (simp [errW_none, errW_some] <;> rfl)) | (simp [*, errW_none, errW_some] <;> rfl), by repeat (first | (with_reducible first | exact HB.out | apply below_alloc | apply pw_below_drewN | apply below_drew1 | refine below_set ?_ GE185.out | refine below_set ?_ GE186.out) | exact HB.out)⟩
                                                · rw [if_neg c77] at H
                                                  exact absurd H (by simp)
                                              · rw [if_neg c76] at H
                                                exact absurd H (by simp)
                                            · replace c75 := Bool.eq_false_iff.mpr c75
                                              subst c75
                                              have H1 : (some false) = some r := by rw [if_neg (show ¬ (false = true) by decide)] at H; exact H
                                              clear H
                                              have H := H1
                                              clear H1
                                              obtain rfl := Option.some.inj H
                                              have p203 : 0 ≤ ((ji71) : Int) := of_decide_eq_true (by first | (with_reducible assumption) | assumption)
                                              have q203 : (ji71) < (t190.length : Int) := of_decide_eq_true (by first | (with_reducible assumption) | assumption)
                                              obtain ⟨ad203, e203, hx203_0⟩ := Kd.at_int (Kd.R_reads' HO_7.out).2.2 (ji71) p203 q203
                                              cases e203
                                              replace p203 := eq_true p203
                                              replace q203 := eq_true q203
                                              have hnb86 := NB186_185.out
                                              have hnc86 := NB185_186.out
                                              have hcz87_0 : wc.cell? ⟨gb186, 0, none⟩ = some (.slice A2_0 l2_0.length c2_0) := (blk_cell BK186.out 0).trans rfl
                                              have hcz87_1 : wc.cell? ⟨gb186, 1, none⟩ = some (.bool false) := (blk_cell BK186.out 1).trans rfl
                                              have hfz87_0 := blk_frozen BK186.out 0
                                              have hfz87_1 := blk_frozen BK186.out 1
                                              go_wp2
                                              repeat (go_quiet (fail); try go_wp2)
                                              go_ret
                                              exact ⟨by first | rfl | (simp [errW_none, errW_some] <;> rfl) | (simp only [← hji71]; first | rfl | (simp [errW_none, errW_some] <;> rfl)) | (simp [*, errW_none, errW_some] <;> rfl), by repeat (first | (with_reducible first | exact HB.out | apply below_alloc | apply pw_below_drewN | apply below_drew1 | refine below_set ?_ GE185.out | refine below_set ?_ GE186.out) | exact HB.out)⟩
                                          · rw [if_neg c74] at H
                                            have c74b0 : decide ((rd t190 (ji71)) < x10_5) = false := decide_eq_false c74
                                            clear c74
                                            have H' := Aside0.mk H
                                            clear H
                                            have p203 : 0 ≤ ((ji71) : Int) := of_decide_eq_true (by first | (with_reducible assumption) | assumption)
                                            have q203 : (ji71) < (t190.length : Int) := of_decide_eq_true (by first | (with_reducible assumption) | assumption)
                                            obtain ⟨ad203, e203, hx203_0⟩ := Kd.at_int (Kd.R_reads' HO_7.out).2.2 (ji71) p203 q203
                                            cases e203
                                            replace p203 := eq_true p203
                                            replace q203 := eq_true q203
                                            go_wp2
                                            repeat (go_quiet (fail); try go_wp2)
                                            go_roundg kj65
                                            case measure => have := HJ3.out; have := HJ25.out; have := HK3.out; have := HJ40.out; have := HK5.out; have := HJ65.out; omega
                                            case rel => exact ⟨(wrap64 (x10_5 + 1)), (by first | rfl | (simp; done) | (simp [*]; done)), H', ⟨by have := HJ3.out; have := HJ25.out; have := HK3.out; have := HJ40.out; have := HK5.out; have := HJ65.out; omega⟩, ⟨by (with_reducible repeat (first | apply Kd.R_alloc | apply Kd.R_drewN | apply Kd.R_drew)); exact HO_7.out⟩, ⟨by (with_reducible repeat (first | refine blk_drewN ?_ _ | refine blk_drew ?_ | refine blk_alloc ?_ _)); exact BK185.out⟩, ⟨by (with_reducible repeat (first | refine blk_drewN ?_ _ | refine blk_drew ?_ | refine blk_alloc ?_ _)); exact BK186.out⟩, ⟨by repeat (first | (with_reducible first | exact HB.out | apply below_alloc | apply pw_below_drewN | apply below_drew1 | refine below_set ?_ GE185.out | refine below_set ?_ GE186.out) | exact HB.out)⟩⟩
                                        · rw [if_neg c73] at H
                                          exact absurd H (by simp)
                                      · rw [if_neg c72] at H
                                        exact absurd H (by simp)
                                    · replace c70 := Bool.eq_false_iff.mpr c70
                                      subst c70
                                      have H1 : (foundrylaw19_ClassesMet.l0 kj65 a1 t190 (wrap64 (x9_3 + 1)) l0_0 l0_1 l2_0 a2_1) = some r := by rw [if_neg (show ¬ (false = true) by decide)] at H; exact H
                                      clear H
                                      have H := H1
                                      clear H1
                                      have H' := Aside0.mk H
                                      clear H
                                      go_wp2
                                      repeat (go_quiet (fail); try go_wp2)
                                      go_roundg kj65
                                      case measure => have := HJ3.out; have := HJ25.out; have := HK3.out; have := HJ40.out; have := HK5.out; have := HJ65.out; omega
                                      case rel => exact ⟨(wrap64 (x9_3 + 1)), (by first | rfl | (simp; done) | (simp [*]; done)), H', ⟨by have := HJ3.out; have := HJ25.out; have := HK3.out; have := HJ40.out; have := HK5.out; have := HJ65.out; omega⟩, ⟨by (with_reducible repeat (first | apply Kd.R_alloc | apply Kd.R_drewN | apply Kd.R_drew)); exact HO_7.out⟩, ⟨by (with_reducible repeat (first | refine blk_drewN ?_ _ | refine blk_drew ?_ | refine blk_alloc ?_ _)); exact BK185.out⟩, ⟨by (with_reducible repeat (first | refine blk_drewN ?_ _ | refine blk_drew ?_ | refine blk_alloc ?_ _)); exact BK186.out⟩, ⟨by repeat (first | (with_reducible first | exact HB.out | apply below_alloc | apply pw_below_drewN | apply below_drew1 | refine below_set ?_ GE185.out | refine below_set ?_ GE186.out) | exact HB.out)⟩⟩
                    · rw [if_neg c40] at H
                      have c40b0 : decide (x9_3 < (t190.length : Int)) = false := decide_eq_false c40
                      clear c40
                      obtain rfl := Option.some.inj H
                      obtain ⟨Ao88, co88, eo88⟩ := Kd.R_slice HO_7.out
                      subst eo88
                      go_wp2
                      repeat (go_quiet (fail); try go_wp2)
                      go_ret
                      exact ⟨by first | rfl | (simp [errW_none, errW_some] <;> rfl) | (simp [*, errW_none, errW_some] <;> rfl), by repeat (first | (with_reducible first | exact HB.out | apply below_alloc | apply pw_below_drewN | apply below_drew1 | refine below_set ?_ GE185.out | refine below_set ?_ GE186.out) | exact HB.out)⟩
        · replace c25 := Bool.eq_false_iff.mpr c25
          subst c25
          have H1 : (some ((t190.length : Int) == 0)) = some r := by rw [if_neg (show ¬ (false = true) by decide)] at H; exact H
          clear H
          have H := H1
          clear H1
          obtain rfl := Option.some.inj H
          have hnb89 := NB185_186.out
          have hnc89 := NB186_185.out
          have hcz90_0 : wc.cell? ⟨gb185, 0, none⟩ = some (.slice A0_0 l0_0.length c0_0) := (blk_cell BK185.out 0).trans rfl
          have hcz90_1 : wc.cell? ⟨gb185, 1, none⟩ = some (.slice A0_1 l0_1.length c0_1) := (blk_cell BK185.out 1).trans rfl
          have hfz90_0 := blk_frozen BK185.out 0
          have hfz90_1 := blk_frozen BK185.out 1
          have hcz91_0 : wc.cell? ⟨gb186, 0, none⟩ = some (.slice A2_0 l2_0.length c2_0) := (blk_cell BK186.out 0).trans rfl
          have hcz91_1 : wc.cell? ⟨gb186, 1, none⟩ = some (.bool a2_1) := (blk_cell BK186.out 1).trans rfl
          have hfz91_0 := blk_frozen BK186.out 0
          have hfz91_1 := blk_frozen BK186.out 1
          go_wp2_with (first | (go_at_call 22; (with_reducible refine (classes_Meet.calls kj3 _ _ l0_0 _ _ l0_1 a1 _ _ l2_0 a2_1 t190 false _ ?side1 ?side2 ?side3 ?side4 ?side5 ?side6 A24.out).mono ?_); (case side1 => repeat (first | exact (Kd.C_below HR0_0.out HB.out) | (with_reducible refine Kd.C_alloc ?_ _) | (with_reducible refine Kd.C_drewN ?_ _) | (with_reducible refine Kd.C_drew ?_))); (case side2 => exact HC0_0.out); (case side3 => repeat (first | exact (Kd.C_below HR0_1.out HB.out) | (with_reducible refine Kd.C_alloc ?_ _) | (with_reducible refine Kd.C_drewN ?_ _) | (with_reducible refine Kd.C_drew ?_))); (case side4 => exact HC0_1.out); (case side5 => repeat (first | exact (Kd.C_below HR2_0.out HB.out) | (with_reducible refine Kd.C_alloc ?_ _) | (with_reducible refine Kd.C_drewN ?_ _) | (with_reducible refine Kd.C_drew ?_))); (case side6 => exact HC2_0.out); rintro e w92 ⟨v192, rfl, ho0, hb⟩; have n0_ := Aside0.mk (Kd.R_lower ho0 (below_size (by repeat (first | (with_reducible first | exact HB.out | apply below_alloc | apply pw_below_drewN | apply below_drew1 | refine below_set ?_ GE185.out | refine below_set ?_ GE186.out) | exact HB.out)))); have n1_ := Aside0.mk (blk_below (g := gb185) (o := .cells #[.slice A0_0 l0_0.length c0_0, .slice A0_1 l0_1.length c0_1] 25 (0, 0)) (by (with_reducible repeat (first | refine blk_drewN ?_ _ | refine blk_drew ?_ | refine blk_alloc ?_ _)); exact BK185.out) hb); have n2_ := Aside0.mk (blk_below (g := gb186) (o := .cells #[.slice A2_0 l2_0.length c2_0, .bool a2_1] 34 (0, 0)) (by (with_reducible repeat (first | refine blk_drewN ?_ _ | refine blk_drew ?_ | refine blk_alloc ?_ _)); exact BK186.out) hb); have n3_ := Aside0.mk (below_step (by repeat (first | (with_reducible first | exact HB.out | apply below_alloc | apply pw_below_drewN | apply below_drew1 | refine below_set ?_ GE185.out | refine below_set ?_ GE186.out) | exact HB.out)) hb); clear BK185; clear BK186; clear HB; have HO193 := n0_; have BK185 := n1_; have BK186 := n2_; have HB := n3_; clear n0_ n1_ n2_ n3_; (try clear hb); (try clear hb2); (try clear hk); (try clear hi); (try clear ho0); obtain ⟨Ao93, co93, eo93⟩ := Kd.R_slice HO193.out; subst eo93))
          repeat (go_quiet (first | (go_at_call 22; (with_reducible refine (classes_Meet.calls kj3 _ _ l0_0 _ _ l0_1 a1 _ _ l2_0 a2_1 t190 false _ ?side1 ?side2 ?side3 ?side4 ?side5 ?side6 A24.out).mono ?_); (case side1 => repeat (first | exact (Kd.C_below HR0_0.out HB.out) | (with_reducible refine Kd.C_alloc ?_ _) | (with_reducible refine Kd.C_drewN ?_ _) | (with_reducible refine Kd.C_drew ?_))); (case side2 => exact HC0_0.out); (case side3 => repeat (first | exact (Kd.C_below HR0_1.out HB.out) | (with_reducible refine Kd.C_alloc ?_ _) | (with_reducible refine Kd.C_drewN ?_ _) | (with_reducible refine Kd.C_drew ?_))); (case side4 => exact HC0_1.out); (case side5 => repeat (first | exact (Kd.C_below HR2_0.out HB.out) | (with_reducible refine Kd.C_alloc ?_ _) | (with_reducible refine Kd.C_drewN ?_ _) | (with_reducible refine Kd.C_drew ?_))); (case side6 => exact HC2_0.out); rintro e w92 ⟨v192, rfl, ho0, hb⟩; have n0_ := Aside0.mk (Kd.R_lower ho0 (below_size (by repeat (first | (with_reducible first | exact HB.out | apply below_alloc | apply pw_below_drewN | apply below_drew1 | refine below_set ?_ GE185.out | refine below_set ?_ GE186.out) | exact HB.out)))); have n1_ := Aside0.mk (blk_below (g := gb185) (o := .cells #[.slice A0_0 l0_0.length c0_0, .slice A0_1 l0_1.length c0_1] 25 (0, 0)) (by (with_reducible repeat (first | refine blk_drewN ?_ _ | refine blk_drew ?_ | refine blk_alloc ?_ _)); exact BK185.out) hb); have n2_ := Aside0.mk (blk_below (g := gb186) (o := .cells #[.slice A2_0 l2_0.length c2_0, .bool a2_1] 34 (0, 0)) (by (with_reducible repeat (first | refine blk_drewN ?_ _ | refine blk_drew ?_ | refine blk_alloc ?_ _)); exact BK186.out) hb); have n3_ := Aside0.mk (below_step (by repeat (first | (with_reducible first | exact HB.out | apply below_alloc | apply pw_below_drewN | apply below_drew1 | refine below_set ?_ GE185.out | refine below_set ?_ GE186.out) | exact HB.out)) hb); clear BK185; clear BK186; clear HB; have HO193 := n0_; have BK185 := n1_; have BK186 := n2_; have HB := n3_; clear n0_ n1_ n2_ n3_; (try clear hb); (try clear hb2); (try clear hk); (try clear hi); (try clear ho0); obtain ⟨Ao93, co93, eo93⟩ := Kd.R_slice HO193.out; subst eo93)); try go_wp2_with (first | (go_at_call 22; (with_reducible refine (classes_Meet.calls kj3 _ _ l0_0 _ _ l0_1 a1 _ _ l2_0 a2_1 t190 false _ ?side1 ?side2 ?side3 ?side4 ?side5 ?side6 A24.out).mono ?_); (case side1 => repeat (first | exact (Kd.C_below HR0_0.out HB.out) | (with_reducible refine Kd.C_alloc ?_ _) | (with_reducible refine Kd.C_drewN ?_ _) | (with_reducible refine Kd.C_drew ?_))); (case side2 => exact HC0_0.out); (case side3 => repeat (first | exact (Kd.C_below HR0_1.out HB.out) | (with_reducible refine Kd.C_alloc ?_ _) | (with_reducible refine Kd.C_drewN ?_ _) | (with_reducible refine Kd.C_drew ?_))); (case side4 => exact HC0_1.out); (case side5 => repeat (first | exact (Kd.C_below HR2_0.out HB.out) | (with_reducible refine Kd.C_alloc ?_ _) | (with_reducible refine Kd.C_drewN ?_ _) | (with_reducible refine Kd.C_drew ?_))); (case side6 => exact HC2_0.out); rintro e w92 ⟨v192, rfl, ho0, hb⟩; have n0_ := Aside0.mk (Kd.R_lower ho0 (below_size (by repeat (first | (with_reducible first | exact HB.out | apply below_alloc | apply pw_below_drewN | apply below_drew1 | refine below_set ?_ GE185.out | refine below_set ?_ GE186.out) | exact HB.out)))); have n1_ := Aside0.mk (blk_below (g := gb185) (o := .cells #[.slice A0_0 l0_0.length c0_0, .slice A0_1 l0_1.length c0_1] 25 (0, 0)) (by (with_reducible repeat (first | refine blk_drewN ?_ _ | refine blk_drew ?_ | refine blk_alloc ?_ _)); exact BK185.out) hb); have n2_ := Aside0.mk (blk_below (g := gb186) (o := .cells #[.slice A2_0 l2_0.length c2_0, .bool a2_1] 34 (0, 0)) (by (with_reducible repeat (first | refine blk_drewN ?_ _ | refine blk_drew ?_ | refine blk_alloc ?_ _)); exact BK186.out) hb); have n3_ := Aside0.mk (below_step (by repeat (first | (with_reducible first | exact HB.out | apply below_alloc | apply pw_below_drewN | apply below_drew1 | refine below_set ?_ GE185.out | refine below_set ?_ GE186.out) | exact HB.out)) hb); clear BK185; clear BK186; clear HB; have HO193 := n0_; have BK185 := n1_; have BK186 := n2_; have HB := n3_; clear n0_ n1_ n2_ n3_; (try clear hb); (try clear hb2); (try clear hk); (try clear hi); (try clear ho0); obtain ⟨Ao93, co93, eo93⟩ := Kd.R_slice HO193.out; subst eo93)))
          go_ret
          exact ⟨by first | rfl | (simp [errW_none, errW_some] <;> rfl) | (simp [*, errW_none, errW_some] <;> rfl), by repeat (first | (with_reducible first | exact HB.out | apply below_alloc | apply pw_below_drewN | apply below_drew1 | refine below_set ?_ GE185.out | refine below_set ?_ GE186.out) | exact HB.out)⟩

end Go.Proofs.Ytoldahmgjenlaaa.Q
