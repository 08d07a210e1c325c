/- subst.rule, walked by hand. -/
import Derived.Test.YtoldahmgjenlaaaF1
import Derived.Test.YtoldahmgjenlaaaQx1
import Derived.Test.YtoldahmgjenlaaaQx15
namespace Go.Proofs.Ytoldahmgjenlaaa.Q
open Go.RowKit Go.Proofs.YtoldahmgjenlaaaW.PrintWords Go.Proofs.YtoldahmgjenlaaaW.PrintLast Go.Proofs.YtoldahmgjenlaaaW.PrintMore
attribute [local go_sem] max2_int min2_int max_two min_two max_three min_three max_four min_four
attribute [local go_sem high] eqA41
set_option linter.unusedVariables false
set_option linter.unusedSimpArgs false

def putsv (kind : Int) : Bool := decide (1 ≤ kind) && decide (kind ≤ 4)
theorem puts_eq (kind : Int) : subst_puts.f kind = some (putsv kind) := by
  unfold subst_puts.f putsv
  by_cases h : kind ≥ 1
  · rw [if_pos h, decide_eq_true h]; simp
  · rw [if_neg h, decide_eq_false h]; rfl
def slot (x : S41) : Bool := (!(x.f0 == 0) || (!(x.f1 == 0)))
/-- A formed rule. -/
def rulev (l : List S46) (kind : Int) (r : S43) (glyphs : Int) (s0 s1 s2 s3 : Int) : Bool :=
  if (r.f0.length : Int) < s0 then false else if s1 < (r.f0.length : Int) then false else if (r.f1.length : Int) < s2 then false else if s3 < (r.f1.length : Int) then false else
  if r.f0.any (badv glyphs) = true then false else if r.f1.any (badv glyphs) = true then false else
  if (!(r.f4.f0 == 0) || (!(r.f4.f1 == 0))) = true then false else if (!(r.f5.f0 == 0) || (!(r.f5.f1 == 0))) = true then false else if (!(r.f6.f0 == 0) || (!(r.f6.f1 == 0))) = true then false else
  if kind = 4 then (if 0 ≤ r.f2 then if r.f2 < (r.f0.length : Int) then if 0 ≤ r.f3 then if r.f3 < (l.length : Int) then putsv (rd_T46 l r.f3).f0 else false else false else false else false)
  else if r.f2 = 0 then (r.f3 == 0) else false
set_option maxHeartbeats 8000000 in
set_option maxRecDepth 100000 in
theorem rule_calls (l : List S46) (kind : Int) (r : S43) (glyphs : Int) (s0 s1 s2 s3 : Int) (hs : shapev kind = (s0, s1, s2, s3)) (A : Option Addr) (c : Nat) (A0 : Option Addr) (c0 : Nat) (A1 : Option Addr) (c1 : Nat) (w : World)
    (hC : Kd.C k46 w A l.length l) (hC0 : Kd.C (Kd.int .i64) w A0 r.f0.length r.f0) (hC1 : Kd.C (Kd.int .i64) w A1 r.f1.length r.f1) (b : Bool) (h : rulev l kind r glyphs s0 s1 s2 s3 = b) :
    Calls Try.prog 44 #[.slice A l.length c, .int .i64 kind, .agg #[.slice A0 r.f0.length c0, .slice A1 r.f1.length c1, .int .i64 r.f2, .int .i64 r.f3, .int .i64 r.f4.f0, .int .i64 r.f4.f1, .int .i64 r.f5.f0, .int .i64 r.f5.f1, .int .i64 r.f6.f0, .int .i64 r.f6.f1], .int .i64 glyphs] w
      fun e w' => e = .returned (.bool b) ∧ Below w.heap.size w w' := by
  have hsh := fun W => shape_calls kind W
  rw [hs] at hsh
  clear hs
  have hu43 := Try.underlying43
  have hu41 := Try.underlying41
  have hu78 := Try.underlying78
  have HR := Aside0.mk hC
  have HR0 := Aside0.mk hC0
  have HR1 := Aside0.mk hC1
  have H := Aside0.mk h
  have HB := Aside0.mk (Below.refl w.heap.size w)
  clear hC hC0 hC1 h
  go_enter Try.func44, Try.ntmps44
  go_upto_region 2 with (first
    | ((with_reducible refine gate_dst (N := 6) rfl ?_); refine box_event ?hg (N := 6) ?hd (cs := #[.slice A0 r.f0.length c0, .slice A1 r.f1.length c1, .int .i64 r.f2, .int .i64 r.f3, .int .i64 r.f4.f0, .int .i64 r.f4.f1, .int .i64 r.f5.f0, .int .i64 r.f5.f1, .int .i64 r.f6.f0, .int .i64 r.f6.f1]) (t := 43) ?hr ?_; (case hd => rfl); (case hg => rfl); (case hr => first | (go_simp; done) | (go_simp; rfl)); intro g6 hg w6 hbox hb; have n0_ := Aside0.mk (below_step HB.out hb); have BK6 := Aside0.mk hbox; have GE6 := Aside0.mk ((by rw [hg]; exact below_size HB.out) : w.heap.size ≤ g6); clear HB; have HB := n0_; clear n0_ hb hbox hg)
    | ((with_reducible refine gate_dst (N := 7) rfl ?_); refine box_event ?hg (N := 7) ?hd (cs := #[.int .i64 glyphs]) (t := 3) ?hr ?_; (case hd => rfl); (case hg => rfl); (case hr => first | (go_simp; done) | (go_simp; rfl)); intro g7 hg w7 hbox hb; have N67 := Aside0.mk ((by rw [hg]; exact Nat.ne_of_lt (blk_lt BK6.out)) : g6 ≠ g7); have n0_ := Aside0.mk (below_step HB.out hb); have n1_ := Aside0.mk (blk_below BK6.out hb); have BK7 := Aside0.mk hbox; have GE7 := Aside0.mk ((by rw [hg]; exact below_size HB.out) : w.heap.size ≤ g7); clear HB BK6; have HB := n0_; have BK6 := n1_; clear n0_ n1_ hb hbox hg)
    | (go_at_call 52; refine (hsh _).mono ?_; rintro e w8 ⟨rfl, hb⟩; have n0_ := Aside0.mk (below_step HB.out hb); have n1_ := Aside0.mk (blk_below BK6.out hb); have n2_ := Aside0.mk (blk_below BK7.out hb); clear HB BK6 BK7; have HB := n0_; have BK6 := n1_; have BK7 := n2_; clear n0_ n1_ n2_ hb)
    | ((with_reducible refine gate_dst (N := 9) rfl ?_); refine box_event ?hg (N := 9) ?hd (cs := #[.int .i64 0, .int .i64 0, .int .i64 0, .int .i64 0]) (t := 78) ?hr ?_; (case hd => rfl); (case hg => rfl); (case hr => first | (go_simp; done) | (go_simp; rfl)); intro g9 hg w9 hbox hb; have N69 := Aside0.mk ((by rw [hg]; exact Nat.ne_of_lt (blk_lt BK6.out)) : g6 ≠ g9); have N79 := Aside0.mk ((by rw [hg]; exact Nat.ne_of_lt (blk_lt BK7.out)) : g7 ≠ g9); have GE9 := Aside0.mk ((by rw [hg]; exact below_size HB.out) : w.heap.size ≤ g9); have n0_ := Aside0.mk (below_step HB.out hb); have n1_ := Aside0.mk (blk_below BK6.out hb); have n2_ := Aside0.mk (blk_below BK7.out hb); have BK9 := Aside0.mk hbox; clear HB BK6 BK7; have HB := n0_; have BK6 := n1_; have BK7 := n2_; clear n0_ n1_ n2_ hb hbox hg; have z0 : w9.cell? ⟨g9, 0, none⟩ = some (.int .i64 0) := (blk_cell BK9.out 0).trans rfl; have z1 : w9.cell? ⟨g9, 1, none⟩ = some (.int .i64 0) := (blk_cell BK9.out 1).trans rfl; have z2 : w9.cell? ⟨g9, 2, none⟩ = some (.int .i64 0) := (blk_cell BK9.out 2).trans rfl; have z3 : w9.cell? ⟨g9, 3, none⟩ = some (.int .i64 0) := (blk_cell BK9.out 3).trans rfl; have y0 := blk_frozen BK9.out 0; have y1 := blk_frozen BK9.out 1; have y2 := blk_frozen BK9.out 2; have y3 := blk_frozen BK9.out 3))
  obtain ⟨W, hW⟩ : ∃ W, W = ((((w9.setCell ⟨g9, 0, none⟩ (.int .i64 s0)).setCell ⟨g9, 1, none⟩ (.int .i64 s1)).setCell ⟨g9, 2, none⟩ (.int .i64 s2)).setCell ⟨g9, 3, none⟩ (.int .i64 s3)) := ⟨_, rfl⟩
  have B6 : W.heap[g6]? = some (.cells #[.slice A0 r.f0.length c0, .slice A1 r.f1.length c1, .int .i64 r.f2, .int .i64 r.f3, .int .i64 r.f4.f0, .int .i64 r.f4.f1, .int .i64 r.f5.f0, .int .i64 r.f5.f1, .int .i64 r.f6.f0, .int .i64 r.f6.f1] 43 (0, 0)) := by
    rw [hW]; exact blk_far (blk_far (blk_far (blk_far BK6.out N69.out _) N69.out _) N69.out _) N69.out _
  have B7 : W.heap[g7]? = some (.cells #[.int .i64 glyphs] 3 (0, 0)) := by
    rw [hW]; exact blk_far (blk_far (blk_far (blk_far BK7.out N79.out _) N79.out _) N79.out _) N79.out _
  have B9 : W.heap[g9]? = some (.cells #[.int .i64 s0, .int .i64 s1, .int .i64 s2, .int .i64 s3] 78 (0, 0)) := by
    rw [hW]
    refine blk_put (cs := #[.int .i64 s0, .int .i64 s1, .int .i64 s2, .int .i64 0]) ?_ 3 _ rfl
    refine blk_put (cs := #[.int .i64 s0, .int .i64 s1, .int .i64 0, .int .i64 0]) ?_ 2 _ rfl
    refine blk_put (cs := #[.int .i64 s0, .int .i64 0, .int .i64 0, .int .i64 0]) ?_ 1 _ rfl
    exact blk_put (cs := #[.int .i64 0, .int .i64 0, .int .i64 0, .int .i64 0]) BK9.out 0 _ rfl
  have HBW : Below w.heap.size w W := by
    rw [hW]; exact below_set (below_set (below_set (below_set HB.out GE9.out) GE9.out) GE9.out) GE9.out
  rw [← hW]
  clear hW z0 z1 z2 z3 y0 y1 y2 y3 HB BK6 BK7 BK9
  have HB := Aside0.mk HBW
  have f0 : W.cell? ⟨g6, 0, none⟩ = some (.slice A0 r.f0.length c0) := (blk_cell B6 0).trans rfl
  have f1 : W.cell? ⟨g6, 1, none⟩ = some (.slice A1 r.f1.length c1) := (blk_cell B6 1).trans rfl
  have f2 : W.cell? ⟨g6, 2, none⟩ = some (.int .i64 r.f2) := (blk_cell B6 2).trans rfl
  have f3 : W.cell? ⟨g6, 3, none⟩ = some (.int .i64 r.f3) := (blk_cell B6 3).trans rfl
  have f4 : W.cell? ⟨g6, 4, none⟩ = some (.int .i64 r.f4.f0) := (blk_cell B6 4).trans rfl
  have f5 : W.cell? ⟨g6, 5, none⟩ = some (.int .i64 r.f4.f1) := (blk_cell B6 5).trans rfl
  have f6 : W.cell? ⟨g6, 6, none⟩ = some (.int .i64 r.f5.f0) := (blk_cell B6 6).trans rfl
  have f7 : W.cell? ⟨g6, 7, none⟩ = some (.int .i64 r.f5.f1) := (blk_cell B6 7).trans rfl
  have f8 : W.cell? ⟨g6, 8, none⟩ = some (.int .i64 r.f6.f0) := (blk_cell B6 8).trans rfl
  have f9 : W.cell? ⟨g6, 9, none⟩ = some (.int .i64 r.f6.f1) := (blk_cell B6 9).trans rfl
  have t0 : W.cell? ⟨g9, 0, none⟩ = some (.int .i64 s0) := (blk_cell B9 0).trans rfl
  have t1 : W.cell? ⟨g9, 1, none⟩ = some (.int .i64 s1) := (blk_cell B9 1).trans rfl
  have t2 : W.cell? ⟨g9, 2, none⟩ = some (.int .i64 s2) := (blk_cell B9 2).trans rfl
  have t3 : W.cell? ⟨g9, 3, none⟩ = some (.int .i64 s3) := (blk_cell B9 3).trans rfl
  have cg : W.cell? ⟨g7, 0, none⟩ = some (.int .i64 glyphs) := (blk_cell B7 0).trans rfl
  have C0 := Kd.C_below HR0.out HBW
  have C1 := Kd.C_below HR1.out HBW
  clear B6 B7 B9 HBW
  have H' := H.out
  clear H
  unfold rulev at H'
  by_cases c1_ : (r.f0.length : Int) < s0
  · rw [if_pos c1_] at H'
    subst H'
    have d1_ : decide ((r.f0.length : Int) < s0) = true := decide_eq_true c1_
    clear c1_
    go_wp2_with (first | (go_at_call 54; (with_reducible refine (containsInt_calls glyphs g7 A0 c0 r.f0 _ C0 cg).mono ?_); rintro e w' ⟨rfl, rfl⟩) | (go_at_call 54; (with_reducible refine (containsInt_calls glyphs g7 A1 c1 r.f1 _ C1 cg).mono ?_); rintro e w' ⟨rfl, rfl⟩) | (go_at_call 38; (with_reducible refine (subst_puts.calls _ _ _ hputs).mono ?_); rintro e w' ⟨rfl, ⟨nd, rfl⟩⟩))
    go_ret
    exact ⟨rfl, by repeat (first | (with_reducible first | exact HB.out | apply below_alloc | apply pw_below_drewN | apply below_drew1) | exact HB.out)⟩
  rw [if_neg c1_] at H'
  have d1_ : decide ((r.f0.length : Int) < s0) = false := decide_eq_false c1_
  clear c1_
  by_cases c2_ : s1 < (r.f0.length : Int)
  · rw [if_pos c2_] at H'
    subst H'
    have d2_ : decide (s1 < (r.f0.length : Int)) = true := decide_eq_true c2_
    clear c2_
    go_wp2_with (first | (go_at_call 54; (with_reducible refine (containsInt_calls glyphs g7 A0 c0 r.f0 _ C0 cg).mono ?_); rintro e w' ⟨rfl, rfl⟩) | (go_at_call 54; (with_reducible refine (containsInt_calls glyphs g7 A1 c1 r.f1 _ C1 cg).mono ?_); rintro e w' ⟨rfl, rfl⟩) | (go_at_call 38; (with_reducible refine (subst_puts.calls _ _ _ hputs).mono ?_); rintro e w' ⟨rfl, ⟨nd, rfl⟩⟩))
    go_ret
    exact ⟨rfl, by repeat (first | (with_reducible first | exact HB.out | apply below_alloc | apply pw_below_drewN | apply below_drew1) | exact HB.out)⟩
  rw [if_neg c2_] at H'
  have d2_ : decide (s1 < (r.f0.length : Int)) = false := decide_eq_false c2_
  clear c2_
  by_cases c3_ : (r.f1.length : Int) < s2
  · rw [if_pos c3_] at H'
    subst H'
    have d3_ : decide ((r.f1.length : Int) < s2) = true := decide_eq_true c3_
    clear c3_
    go_wp2_with (first | (go_at_call 54; (with_reducible refine (containsInt_calls glyphs g7 A0 c0 r.f0 _ C0 cg).mono ?_); rintro e w' ⟨rfl, rfl⟩) | (go_at_call 54; (with_reducible refine (containsInt_calls glyphs g7 A1 c1 r.f1 _ C1 cg).mono ?_); rintro e w' ⟨rfl, rfl⟩) | (go_at_call 38; (with_reducible refine (subst_puts.calls _ _ _ hputs).mono ?_); rintro e w' ⟨rfl, ⟨nd, rfl⟩⟩))
    go_ret
    exact ⟨rfl, by repeat (first | (with_reducible first | exact HB.out | apply below_alloc | apply pw_below_drewN | apply below_drew1) | exact HB.out)⟩
  rw [if_neg c3_] at H'
  have d3_ : decide ((r.f1.length : Int) < s2) = false := decide_eq_false c3_
  clear c3_
  by_cases c4_ : s3 < (r.f1.length : Int)
  · rw [if_pos c4_] at H'
    subst H'
    have d4_ : decide (s3 < (r.f1.length : Int)) = true := decide_eq_true c4_
    clear c4_
    go_wp2_with (first | (go_at_call 54; (with_reducible refine (containsInt_calls glyphs g7 A0 c0 r.f0 _ C0 cg).mono ?_); rintro e w' ⟨rfl, rfl⟩) | (go_at_call 54; (with_reducible refine (containsInt_calls glyphs g7 A1 c1 r.f1 _ C1 cg).mono ?_); rintro e w' ⟨rfl, rfl⟩) | (go_at_call 38; (with_reducible refine (subst_puts.calls _ _ _ hputs).mono ?_); rintro e w' ⟨rfl, ⟨nd, rfl⟩⟩))
    go_ret
    exact ⟨rfl, by repeat (first | (with_reducible first | exact HB.out | apply below_alloc | apply pw_below_drewN | apply below_drew1) | exact HB.out)⟩
  rw [if_neg c4_] at H'
  have d4_ : decide (s3 < (r.f1.length : Int)) = false := decide_eq_false c4_
  clear c4_
  by_cases c5_ : r.f0.any (badv glyphs) = true
  · rw [if_pos c5_] at H'
    subst H'
    have d5_ : (r.f0.any (badv glyphs)) = true := c5_
    clear c5_
    go_wp2_with (first | (go_at_call 54; (with_reducible refine (containsInt_calls glyphs g7 A0 c0 r.f0 _ C0 cg).mono ?_); rintro e w' ⟨rfl, rfl⟩) | (go_at_call 54; (with_reducible refine (containsInt_calls glyphs g7 A1 c1 r.f1 _ C1 cg).mono ?_); rintro e w' ⟨rfl, rfl⟩) | (go_at_call 38; (with_reducible refine (subst_puts.calls _ _ _ hputs).mono ?_); rintro e w' ⟨rfl, ⟨nd, rfl⟩⟩))
    go_ret
    exact ⟨rfl, by repeat (first | (with_reducible first | exact HB.out | apply below_alloc | apply pw_below_drewN | apply below_drew1) | exact HB.out)⟩
  rw [if_neg c5_] at H'
  have d5_ : (r.f0.any (badv glyphs)) = false := Bool.eq_false_iff.mpr c5_
  clear c5_
  by_cases c6_ : r.f1.any (badv glyphs) = true
  · rw [if_pos c6_] at H'
    subst H'
    have d6_ : (r.f1.any (badv glyphs)) = true := c6_
    clear c6_
    go_wp2_with (first | (go_at_call 54; (with_reducible refine (containsInt_calls glyphs g7 A0 c0 r.f0 _ C0 cg).mono ?_); rintro e w' ⟨rfl, rfl⟩) | (go_at_call 54; (with_reducible refine (containsInt_calls glyphs g7 A1 c1 r.f1 _ C1 cg).mono ?_); rintro e w' ⟨rfl, rfl⟩) | (go_at_call 38; (with_reducible refine (subst_puts.calls _ _ _ hputs).mono ?_); rintro e w' ⟨rfl, ⟨nd, rfl⟩⟩))
    go_ret
    exact ⟨rfl, by repeat (first | (with_reducible first | exact HB.out | apply below_alloc | apply pw_below_drewN | apply below_drew1) | exact HB.out)⟩
  rw [if_neg c6_] at H'
  have d6_ : (r.f1.any (badv glyphs)) = false := Bool.eq_false_iff.mpr c6_
  clear c6_
  by_cases c7_ : (!(r.f4.f0 == 0) || (!(r.f4.f1 == 0))) = true
  · rw [if_pos c7_] at H'
    subst H'
    have d7_ : ((!(r.f4.f0 == 0) || (!(r.f4.f1 == 0)))) = true := c7_
    clear c7_
    go_wp2_with (first | (go_at_call 54; (with_reducible refine (containsInt_calls glyphs g7 A0 c0 r.f0 _ C0 cg).mono ?_); rintro e w' ⟨rfl, rfl⟩) | (go_at_call 54; (with_reducible refine (containsInt_calls glyphs g7 A1 c1 r.f1 _ C1 cg).mono ?_); rintro e w' ⟨rfl, rfl⟩) | (go_at_call 38; (with_reducible refine (subst_puts.calls _ _ _ hputs).mono ?_); rintro e w' ⟨rfl, ⟨nd, rfl⟩⟩))
    go_ret
    exact ⟨rfl, by repeat (first | (with_reducible first | exact HB.out | apply below_alloc | apply pw_below_drewN | apply below_drew1) | exact HB.out)⟩
  rw [if_neg c7_] at H'
  have d7_ : ((!(r.f4.f0 == 0) || (!(r.f4.f1 == 0)))) = false := Bool.eq_false_iff.mpr c7_
  clear c7_
  by_cases c8_ : (!(r.f5.f0 == 0) || (!(r.f5.f1 == 0))) = true
  · rw [if_pos c8_] at H'
    subst H'
    have d8_ : ((!(r.f5.f0 == 0) || (!(r.f5.f1 == 0)))) = true := c8_
    clear c8_
    go_wp2_with (first | (go_at_call 54; (with_reducible refine (containsInt_calls glyphs g7 A0 c0 r.f0 _ C0 cg).mono ?_); rintro e w' ⟨rfl, rfl⟩) | (go_at_call 54; (with_reducible refine (containsInt_calls glyphs g7 A1 c1 r.f1 _ C1 cg).mono ?_); rintro e w' ⟨rfl, rfl⟩) | (go_at_call 38; (with_reducible refine (subst_puts.calls _ _ _ hputs).mono ?_); rintro e w' ⟨rfl, ⟨nd, rfl⟩⟩))
    go_ret
    exact ⟨rfl, by repeat (first | (with_reducible first | exact HB.out | apply below_alloc | apply pw_below_drewN | apply below_drew1) | exact HB.out)⟩
  rw [if_neg c8_] at H'
  have d8_ : ((!(r.f5.f0 == 0) || (!(r.f5.f1 == 0)))) = false := Bool.eq_false_iff.mpr c8_
  clear c8_
  by_cases c9_ : (!(r.f6.f0 == 0) || (!(r.f6.f1 == 0))) = true
  · rw [if_pos c9_] at H'
    subst H'
    have d9_ : ((!(r.f6.f0 == 0) || (!(r.f6.f1 == 0)))) = true := c9_
    clear c9_
    go_wp2_with (first | (go_at_call 54; (with_reducible refine (containsInt_calls glyphs g7 A0 c0 r.f0 _ C0 cg).mono ?_); rintro e w' ⟨rfl, rfl⟩) | (go_at_call 54; (with_reducible refine (containsInt_calls glyphs g7 A1 c1 r.f1 _ C1 cg).mono ?_); rintro e w' ⟨rfl, rfl⟩) | (go_at_call 38; (with_reducible refine (subst_puts.calls _ _ _ hputs).mono ?_); rintro e w' ⟨rfl, ⟨nd, rfl⟩⟩))
    go_ret
    exact ⟨rfl, by repeat (first | (with_reducible first | exact HB.out | apply below_alloc | apply pw_below_drewN | apply below_drew1) | exact HB.out)⟩
  rw [if_neg c9_] at H'
  have d9_ : ((!(r.f6.f0 == 0) || (!(r.f6.f1 == 0)))) = false := Bool.eq_false_iff.mpr c9_
  clear c9_
  by_cases ck : kind = 4
  · rw [if_pos ck] at H'
    have k1 : (kind == 4) = true := by simp [ck]
    clear ck
    by_cases c10_ : 0 ≤ r.f2
    · rw [if_pos c10_] at H'
      have d10_ : decide (0 ≤ r.f2) = true := decide_eq_true c10_
      by_cases c11_ : r.f2 < (r.f0.length : Int)
      · rw [if_pos c11_] at H'
        have d11_ : decide (r.f2 < (r.f0.length : Int)) = true := decide_eq_true c11_
        by_cases c12_ : 0 ≤ r.f3
        · rw [if_pos c12_] at H'
          have d12_ : decide (0 ≤ r.f3) = true := decide_eq_true c12_
          by_cases c13_ : r.f3 < (l.length : Int)
          · rw [if_pos c13_] at H'
            have d13_ : decide (r.f3 < (l.length : Int)) = true := decide_eq_true c13_
            obtain ⟨ad, A2, c2, rfl, hk0, _, _, _, _⟩ := at_T46 HR.out r.f3 c12_ c13_
            replace hk0 := (HB.out.cell (World.block_lt_of_cell? w _ hk0)).trans hk0
            have hputs := puts_eq (rd_T46 l r.f3).f0
            rw [H'] at hputs
            clear H'
            have x1 : (0 ≤ r.f3) = True := eq_true c12_
            have x2 : (r.f3 < (l.length : Int)) = True := eq_true c13_
            clear c10_ c11_ c12_ c13_
            go_wp2_with (first | (go_at_call 54; (with_reducible refine (containsInt_calls glyphs g7 A0 c0 r.f0 _ C0 cg).mono ?_); rintro e w' ⟨rfl, rfl⟩) | (go_at_call 54; (with_reducible refine (containsInt_calls glyphs g7 A1 c1 r.f1 _ C1 cg).mono ?_); rintro e w' ⟨rfl, rfl⟩) | (go_at_call 38; (with_reducible refine (subst_puts.calls _ _ _ hputs).mono ?_); rintro e w' ⟨rfl, ⟨nd, rfl⟩⟩))
            go_ret
            exact ⟨rfl, by repeat (first | (with_reducible first | exact HB.out | apply below_alloc | apply pw_below_drewN | apply below_drew1) | exact HB.out)⟩
          · rw [if_neg c13_] at H'
            subst H'
            have d13_ : decide (r.f3 < (l.length : Int)) = false := decide_eq_false c13_
            clear c10_ c11_ c12_ c13_
            go_wp2_with (first | (go_at_call 54; (with_reducible refine (containsInt_calls glyphs g7 A0 c0 r.f0 _ C0 cg).mono ?_); rintro e w' ⟨rfl, rfl⟩) | (go_at_call 54; (with_reducible refine (containsInt_calls glyphs g7 A1 c1 r.f1 _ C1 cg).mono ?_); rintro e w' ⟨rfl, rfl⟩) | (go_at_call 38; (with_reducible refine (subst_puts.calls _ _ _ hputs).mono ?_); rintro e w' ⟨rfl, ⟨nd, rfl⟩⟩))
            go_ret
            exact ⟨rfl, by repeat (first | (with_reducible first | exact HB.out | apply below_alloc | apply pw_below_drewN | apply below_drew1) | exact HB.out)⟩
        · rw [if_neg c12_] at H'
          subst H'
          have d12_ : decide (0 ≤ r.f3) = false := decide_eq_false c12_
          clear c10_ c11_ c12_
          go_wp2_with (first | (go_at_call 54; (with_reducible refine (containsInt_calls glyphs g7 A0 c0 r.f0 _ C0 cg).mono ?_); rintro e w' ⟨rfl, rfl⟩) | (go_at_call 54; (with_reducible refine (containsInt_calls glyphs g7 A1 c1 r.f1 _ C1 cg).mono ?_); rintro e w' ⟨rfl, rfl⟩) | (go_at_call 38; (with_reducible refine (subst_puts.calls _ _ _ hputs).mono ?_); rintro e w' ⟨rfl, ⟨nd, rfl⟩⟩))
          go_ret
          exact ⟨rfl, by repeat (first | (with_reducible first | exact HB.out | apply below_alloc | apply pw_below_drewN | apply below_drew1) | exact HB.out)⟩
      · rw [if_neg c11_] at H'
        subst H'
        have d11_ : decide (r.f2 < (r.f0.length : Int)) = false := decide_eq_false c11_
        clear c10_ c11_
        go_wp2_with (first | (go_at_call 54; (with_reducible refine (containsInt_calls glyphs g7 A0 c0 r.f0 _ C0 cg).mono ?_); rintro e w' ⟨rfl, rfl⟩) | (go_at_call 54; (with_reducible refine (containsInt_calls glyphs g7 A1 c1 r.f1 _ C1 cg).mono ?_); rintro e w' ⟨rfl, rfl⟩) | (go_at_call 38; (with_reducible refine (subst_puts.calls _ _ _ hputs).mono ?_); rintro e w' ⟨rfl, ⟨nd, rfl⟩⟩))
        go_ret
        exact ⟨rfl, by repeat (first | (with_reducible first | exact HB.out | apply below_alloc | apply pw_below_drewN | apply below_drew1) | exact HB.out)⟩
    · rw [if_neg c10_] at H'
      subst H'
      have d10_ : decide (0 ≤ r.f2) = false := decide_eq_false c10_
      clear c10_
      go_wp2_with (first | (go_at_call 54; (with_reducible refine (containsInt_calls glyphs g7 A0 c0 r.f0 _ C0 cg).mono ?_); rintro e w' ⟨rfl, rfl⟩) | (go_at_call 54; (with_reducible refine (containsInt_calls glyphs g7 A1 c1 r.f1 _ C1 cg).mono ?_); rintro e w' ⟨rfl, rfl⟩) | (go_at_call 38; (with_reducible refine (subst_puts.calls _ _ _ hputs).mono ?_); rintro e w' ⟨rfl, ⟨nd, rfl⟩⟩))
      go_ret
      exact ⟨rfl, by repeat (first | (with_reducible first | exact HB.out | apply below_alloc | apply pw_below_drewN | apply below_drew1) | exact HB.out)⟩
  · rw [if_neg ck] at H'
    have k1 : (kind == 4) = false := by simp [ck]
    clear ck
    by_cases c2_ : r.f2 = 0
    · rw [if_pos c2_] at H'
      subst H'
      have k2 : (r.f2 == 0) = true := by simp [c2_]
      clear c2_
      go_wp2_with (first | (go_at_call 54; (with_reducible refine (containsInt_calls glyphs g7 A0 c0 r.f0 _ C0 cg).mono ?_); rintro e w' ⟨rfl, rfl⟩) | (go_at_call 54; (with_reducible refine (containsInt_calls glyphs g7 A1 c1 r.f1 _ C1 cg).mono ?_); rintro e w' ⟨rfl, rfl⟩) | (go_at_call 38; (with_reducible refine (subst_puts.calls _ _ _ hputs).mono ?_); rintro e w' ⟨rfl, ⟨nd, rfl⟩⟩))
      go_ret
      exact ⟨rfl, by repeat (first | (with_reducible first | exact HB.out | apply below_alloc | apply pw_below_drewN | apply below_drew1) | exact HB.out)⟩
    · rw [if_neg c2_] at H'
      subst H'
      have k2 : (r.f2 == 0) = false := by simp [c2_]
      clear c2_
      go_wp2_with (first | (go_at_call 54; (with_reducible refine (containsInt_calls glyphs g7 A0 c0 r.f0 _ C0 cg).mono ?_); rintro e w' ⟨rfl, rfl⟩) | (go_at_call 54; (with_reducible refine (containsInt_calls glyphs g7 A1 c1 r.f1 _ C1 cg).mono ?_); rintro e w' ⟨rfl, rfl⟩) | (go_at_call 38; (with_reducible refine (subst_puts.calls _ _ _ hputs).mono ?_); rintro e w' ⟨rfl, ⟨nd, rfl⟩⟩))
      go_ret
      exact ⟨rfl, by repeat (first | (with_reducible first | exact HB.out | apply below_alloc | apply pw_below_drewN | apply below_drew1) | exact HB.out)⟩
end Go.Proofs.Ytoldahmgjenlaaa.Q
