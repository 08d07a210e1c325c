/- subst.Formed, walked by hand. -/
import Derived.Test.YtoldahmgjenlaaaF2
namespace Go.Proofs.Ytoldahmgjenlaaa.Q
open Go.RowKit Go.Proofs.YtoldahmgjenlaaaW.PrintWords Go.Proofs.YtoldahmgjenlaaaW.PrintLast Go.Proofs.YtoldahmgjenlaaaW.PrintMore
attribute [local go_sem] max2_int min2_int max_two min_two max_three min_three max_four min_four
set_option linter.unusedVariables false
set_option linter.unusedSimpArgs false

/-- A formed rule of a lookup. -/
def rulew (l : List S46) (kind : Int) (glyphs : Int) (r : S43) : Bool := rulev l kind r glyphs (shapev kind).1 (shapev kind).2.1 (shapev kind).2.2.1 (shapev kind).2.2.2
theorem rulew_calls (l : List S46) (kind : Int) (r : S43) (glyphs : Int) (A : Option Addr) (c : Nat) (A0 : Option Addr) (c0 : Nat) (A1 : Option Addr) (c1 : Nat) (w : World)
    (hC : Kd.C k46 w A l.length l) (hC0 : Kd.C (Kd.int .i64) w A0 r.f0.length r.f0) (hC1 : Kd.C (Kd.int .i64) w A1 r.f1.length r.f1) (b : Bool) (h : rulew l kind glyphs r = b) :
    Calls Try.prog 44 #[.slice A l.length c, .int .i64 kind, .agg #[.slice A0 r.f0.length c0, .slice A1 r.f1.length c1, .int .i64 r.f2, .int .i64 r.f3, .int .i64 r.f4.f0, .int .i64 r.f4.f1, .int .i64 r.f5.f0, .int .i64 r.f5.f1, .int .i64 r.f6.f0, .int .i64 r.f6.f1], .int .i64 glyphs] w
      fun e w' => e = .returned (.bool b) ∧ Below w.heap.size w w' :=
  rule_calls l kind r glyphs (shapev kind).1 (shapev kind).2.1 (shapev kind).2.2.1 (shapev kind).2.2.2 rfl A c A0 c0 A1 c1 w hC hC0 hC1 b h
/-- What the literal asks of memory: where the variables lie that it has captured. -/
structure Held (l : List S46) (kind glyphs : Int) (Bl Bx Bg : Nat) (A : Option Addr) (c : Nat) (w : World) : Prop where
  hl : w.cell? ⟨Bl, 0, none⟩ = some (.slice A l.length c)
  hx : w.cell? ⟨Bx, 0, none⟩ = some (.int .i64 kind)
  hg : w.cell? ⟨Bg, 0, none⟩ = some (.int .i64 glyphs)
  hC : Kd.C k46 w A l.length l
theorem Held.later {l : List S46} {kind glyphs : Int} {Bl Bx Bg : Nat} {A : Option Addr} {c : Nat} {w w1 : World} (h : Held l kind glyphs Bl Bx Bg A c w) (hb : Below w.heap.size w w1) : Held l kind glyphs Bl Bx Bg A c w1 :=
  ⟨(hb.cell (World.block_lt_of_cell? w _ h.hl)).trans h.hl, (hb.cell (World.block_lt_of_cell? w _ h.hx)).trans h.hx, (hb.cell (World.block_lt_of_cell? w _ h.hg)).trans h.hg, Kd.C_below h.hC hb⟩
set_option maxHeartbeats 8000000 in
set_option maxRecDepth 100000 in
theorem lit_calls (l : List S46) (kind glyphs : Int) (r : S43) (Bl Bx Bg : Nat) (A : Option Addr) (c : Nat) (A0 : Option Addr) (c0 : Nat) (A1 : Option Addr) (c1 : Nat) (w : World) (hh : Held l kind glyphs Bl Bx Bg A c w)
    (hC0 : Kd.C (Kd.int .i64) w A0 r.f0.length r.f0) (hC1 : Kd.C (Kd.int .i64) w A1 r.f1.length r.f1) (b : Bool) (h : rulew l kind glyphs r = b) :
    Calls Try.prog 43 #[.agg #[.slice A0 r.f0.length c0, .slice A1 r.f1.length c1, .int .i64 r.f2, .int .i64 r.f3, .int .i64 r.f4.f0, .int .i64 r.f4.f1, .int .i64 r.f5.f0, .int .i64 r.f5.f1, .int .i64 r.f6.f0, .int .i64 r.f6.f1], .pointer (some ⟨Bl, 0, none⟩), .pointer (some ⟨Bx, 0, none⟩), .pointer (some ⟨Bg, 0, none⟩)] w
      fun e w' => e = .returned (.bool (!b)) ∧ Below w.heap.size w w' := by
  have hu43 := Try.underlying43
  have hu46 := Try.underlying46
  have hu47 := Try.underlying47
  have HH := Aside0.mk hh
  have HR0 := Aside0.mk hC0
  have HR1 := Aside0.mk hC1
  have H := Aside0.mk h
  have HB := Aside0.mk (Below.refl w.heap.size w)
  clear hh hC0 hC1 h
  go_enter Try.func43, Try.ntmps43
  go_wp2_with (first
    | ((with_reducible refine gate_dst (N := 4) rfl ?_); refine box_event ?hg (N := 4) ?hd (cs := #[.slice A0 r.f0.length c0, .slice A1 r.f1.length c1, .int .i64 r.f2, .int .i64 r.f3, .int .i64 r.f4.f0, .int .i64 r.f4.f1, .int .i64 r.f5.f0, .int .i64 r.f5.f1, .int .i64 r.f6.f0, .int .i64 r.f6.f1]) (t := 43) ?hr ?_; (case hd => rfl); (case hg => rfl); (case hr => first | (go_simp; done) | (go_simp; rfl)); intro g6 hg w6 hbox hb; have n0_ := Aside0.mk (below_step HB.out hb); have BK6 := Aside0.mk hbox; have n1_ := Aside0.mk (HH.out.later hb); have n2_ := Aside0.mk (Kd.C_below HR0.out hb); have n3_ := Aside0.mk (Kd.C_below HR1.out hb); clear HB HH HR0 HR1; have HB := n0_; have HH := n1_; have HR0 := n2_; have HR1 := n3_; clear n0_ n1_ n2_ n3_ hb hbox hg; have q0 := HH.out.hl; have q1 := HH.out.hx; have q2 := HH.out.hg; have f0 : w6.cell? ⟨g6, 0, none⟩ = some (.slice A0 r.f0.length c0) := (blk_cell BK6.out 0).trans rfl; have f1 : w6.cell? ⟨g6, 1, none⟩ = some (.slice A1 r.f1.length c1) := (blk_cell BK6.out 1).trans rfl; have f2 : w6.cell? ⟨g6, 2, none⟩ = some (.int .i64 r.f2) := (blk_cell BK6.out 2).trans rfl; have f3 : w6.cell? ⟨g6, 3, none⟩ = some (.int .i64 r.f3) := (blk_cell BK6.out 3).trans rfl; have f4 : w6.cell? ⟨g6, 4, none⟩ = some (.int .i64 r.f4.f0) := (blk_cell BK6.out 4).trans rfl; have f5 : w6.cell? ⟨g6, 5, none⟩ = some (.int .i64 r.f4.f1) := (blk_cell BK6.out 5).trans rfl; have f6 : w6.cell? ⟨g6, 6, none⟩ = some (.int .i64 r.f5.f0) := (blk_cell BK6.out 6).trans rfl; have f7 : w6.cell? ⟨g6, 7, none⟩ = some (.int .i64 r.f5.f1) := (blk_cell BK6.out 7).trans rfl; have f8 : w6.cell? ⟨g6, 8, none⟩ = some (.int .i64 r.f6.f0) := (blk_cell BK6.out 8).trans rfl; have f9 : w6.cell? ⟨g6, 9, none⟩ = some (.int .i64 r.f6.f1) := (blk_cell BK6.out 9).trans rfl)
    | (go_at_call 44; (with_reducible refine (rulew_calls l kind r glyphs A c A0 c0 A1 c1 _ HH.out.hC HR0.out HR1.out b H.out).mono ?_); rintro e w7 ⟨rfl, hb⟩; have n0_ := Aside0.mk (below_step HB.out hb); clear HB; have HB := n0_; clear n0_ hb))
  go_ret
  exact ⟨rfl, HB.out⟩
set_option maxHeartbeats 8000000 in
set_option maxRecDepth 100000 in
theorem indexRule_calls (l : List S46) (kind glyphs : Int) (Bl Bx Bg : Nat) (A : Option Addr) (c : Nat) (B : Option Addr) (cc : Nat) (rs : List S43) (w : World) (hh : Held l kind glyphs Bl Bx Bg A c w) (hC : Kd.C k43 w B rs.length rs) :
    Calls Try.prog 51 #[.slice B rs.length cc, .func (.func 43) #[] #[.pointer (some ⟨Bl, 0, none⟩), .pointer (some ⟨Bx, 0, none⟩), .pointer (some ⟨Bg, 0, none⟩)]] w
      fun e w' => ∃ i : Int, e = .returned (.int .i64 i) ∧ decide (0 ≤ i) = rs.any (fun r => !rulew l kind glyphs r) ∧ Below w.heap.size w w' := by
  have hu43 := Try.underlying43
  have HH := Aside0.mk hh
  have HC := Aside0.mk hC
  have HL := Aside0.mk hC.2.1
  clear hh hC
  go_enter Try.func51, Try.ntmps51
  go_wp2
  go_loopg [5, 8] rs.length (fun gg _ v8 wr => ∃ k : Nat, k ≤ rs.length ∧ Aside0 (rs.length - k ≤ gg) ∧ v8 = .int .i64 k ∧ Aside0 (Below w.heap.size w wr) ∧ Aside0 (∀ j, j < k → (!rulew l kind glyphs (rs.getD j z43)) = false))
  case atStart => exact ⟨0, Nat.zero_le _, ⟨by omega⟩, rfl, ⟨Below.refl _ _⟩, ⟨fun j hj => absurd hj (Nat.not_lt_zero _)⟩⟩
  case round =>
    obtain ⟨k, hk, HG, rfl, HB, HA⟩ := hrel
    by_cases hlt : k < rs.length
    · have hlt2 : (k : Int) < (rs.length : Int) := by omega
      obtain ⟨ad, A0, c0, A1, c1, rfl, hx0, hx1, hx2, hx3, hx4, hx5, hx6, hx7, hx8, hx9, _, hC0, _, hC1⟩ := at_T43 HC.out (k : Int) (by omega) hlt2
      replace hx0 := (HB.out.cell (World.block_lt_of_cell? w _ hx0)).trans hx0
      replace hx1 := (HB.out.cell (World.block_lt_of_cell? w _ hx1)).trans hx1
      replace hx2 := (HB.out.cell (World.block_lt_of_cell? w _ hx2)).trans hx2
      replace hx3 := (HB.out.cell (World.block_lt_of_cell? w _ hx3)).trans hx3
      replace hx4 := (HB.out.cell (World.block_lt_of_cell? w _ hx4)).trans hx4
      replace hx5 := (HB.out.cell (World.block_lt_of_cell? w _ hx5)).trans hx5
      replace hx6 := (HB.out.cell (World.block_lt_of_cell? w _ hx6)).trans hx6
      replace hx7 := (HB.out.cell (World.block_lt_of_cell? w _ hx7)).trans hx7
      replace hx8 := (HB.out.cell (World.block_lt_of_cell? w _ hx8)).trans hx8
      replace hx9 := (HB.out.cell (World.block_lt_of_cell? w _ hx9)).trans hx9
      rw [Int.toNat_natCast] at hx0 hx1 hx2 hx3 hx4 hx5 hx6 hx7 hx8 hx9
      have HK := Aside0.mk hlt
      obtain ⟨q, hq⟩ : ∃ q, rulew l kind glyphs (rd_T43 rs (k : Int)) = q := ⟨_, rfl⟩
      have hcall := lit_calls l kind glyphs (rd_T43 rs (k : Int)) Bl Bx Bg A c A0 c0 A1 c1 _ (HH.out.later HB.out) (Kd.C_below hC0 HB.out) (Kd.C_below hC1 HB.out) q hq
      have HQ := Aside0.mk (show rulew l kind glyphs (rs.getD k z43) = q from hq)
      clear hq hlt hC0 hC1
      obtain ⟨y, hy⟩ : ∃ y, rd_T43 rs (k : Int) = y := ⟨_, rfl⟩
      rw [hy] at hx0 hx1 hx2 hx3 hx4 hx5 hx6 hx7 hx8 hx9 hcall
      clear hy
      cases q with
      | false =>
        go_wp2_with (go_at_call 43; (with_reducible refine hcall.mono ?_); rintro e w' ⟨rfl, hb⟩; have HB2 := Aside0.mk (below_step HB.out hb); clear HB hb)
        go_ret
        exact ⟨_, rfl, (decide_eq_true (by omega)).trans (any_hit _ _ z43 k HK.out (by show (!rulew l kind glyphs (rs.getD k z43)) = true; rw [HQ.out]; rfl)).symm, HB2.out⟩
      | true =>
        go_wp2_with (go_at_call 43; (with_reducible refine hcall.mono ?_); rintro e w' ⟨rfl, hb⟩; have HB2 := Aside0.mk (below_step HB.out hb); clear HB hb)
        go_roundg (rs.length - (k + 1))
        case measure => have := HG.out; have := HK.out; omega
        case rel =>
          refine ⟨k + 1, HK.out, ⟨Nat.le_refl _⟩, by rw [up_one HK.out HL.out], HB2, ⟨fun j hj => ?_⟩⟩
          by_cases e : j = k
          · subst e; rw [HQ.out]; rfl
          · exact HA.out j (by omega)
    · obtain rfl : k = rs.length := by omega
      go_wp2
      go_ret
      exact ⟨_, rfl, (decide_eq_false (by omega)).trans (any_miss _ _ z43 HA.out).symm, HB.out⟩
theorem containsRule_calls (l : List S46) (kind glyphs : Int) (Bl Bx Bg : Nat) (A : Option Addr) (c : Nat) (B : Option Addr) (cc : Nat) (rs : List S43) (w : World) (hh : Held l kind glyphs Bl Bx Bg A c w) (hC : Kd.C k43 w B rs.length rs) (q : Bool) (hq : rs.any (fun r => !rulew l kind glyphs r) = q) :
    Calls Try.prog 42 #[.slice B rs.length cc, .func (.func 43) #[] #[.pointer (some ⟨Bl, 0, none⟩), .pointer (some ⟨Bx, 0, none⟩), .pointer (some ⟨Bg, 0, none⟩)]] w
      fun e w' => e = .returned (.bool q) ∧ Below w.heap.size w w' := by
  have hcall := indexRule_calls l kind glyphs Bl Bx Bg A c B cc rs w hh hC
  rw [hq] at hcall
  clear hC hh hq
  go_enter Try.func42, Try.ntmps42
  go_wp2_with (go_at_call 51; (with_reducible refine hcall.mono ?_); rintro e w' ⟨i, rfl, hi, hb⟩)
  go_ret
  exact ⟨by rw [← hi]; rfl, hb⟩
end Go.Proofs.Ytoldahmgjenlaaa.Q
