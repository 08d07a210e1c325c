/- subst.Formed, walked by hand, in the form of the print. -/
import Derived.Test.YtoldahmgjenlaaaF3
import Derived.Test.YtoldahmgjenlaaaQx15
namespace Go.Proofs.Ytoldahmgjenlaaa.Q
open Go.RowKit Go.Proofs.YtoldahmgjenlaaaW.PrintWords Go.Proofs.YtoldahmgjenlaaaW.PrintLast Go.Proofs.YtoldahmgjenlaaaW.PrintMore
attribute [local go_sem] max2_int min2_int max_two min_two max_three min_three max_four min_four
set_option linter.unusedVariables false
set_option linter.unusedSimpArgs false

/-- A formed lookup. -/
def lookv (l : List S46) (glyphs : Int) (x : S46) : Bool := if putsv x.f0 = true then (if 40 < (x.f2.length : Int) then false else !(x.f2.any (fun r => !rulew l x.f0 glyphs r))) else true
def subst_Formed.f (l0 : List S46) (a1 : Int) : Option Bool := some (if l0.all (lookv l0 a1) = true then decide ((l0.length : Int) ≤ 10) else false)
theorem all_hit {l : List S46} {p : S46 → Bool} (h : ∀ j, j < l.length → p (l.getD j z46) = true) : l.all p = true := by
  rw [List.all_eq_true]
  intro x hx
  obtain ⟨i, hi, rfl⟩ := List.mem_iff_getElem.1 hx
  have := h i hi
  rwa [show l.getD i z46 = l[i] by simp [List.getD, hi]] at this
theorem all_miss {l : List S46} {p : S46 → Bool} {k : Nat} (h : k < l.length) (hp : p (l.getD k z46) = false) : l.all p = false := by
  rw [List.all_eq_false]
  exact ⟨l[k], List.getElem_mem h, by rw [show l.getD k z46 = l[k] by simp [List.getD, h]] at hp; simp [hp]⟩
set_option maxHeartbeats 8000000 in
set_option maxRecDepth 100000 in
theorem subst_Formed.calls (A0 : Option Addr) (c0 : Nat) (l0 : List S46) (a1 : Int) (r : Bool) (w : World) (hr0 : Kd.C k46 w A0 l0.length l0) (hc0 : l0.length ≤ c0) (h : subst_Formed.f l0 a1 = some r) :
    Calls Try.prog 31 #[.slice A0 l0.length c0, .int .i64 a1] w fun e w' => e = .returned (.bool r) ∧ Below w.heap.size w w' := by
  have hu43 := Try.underlying43
  have hu44 := Try.underlying44
  have hu46 := Try.underlying46
  have hu47 := Try.underlying47
  have HR := Aside0.mk hr0
  have HL := Aside0.mk hr0.2.1
  have H := Aside0.mk (Option.some.inj h)
  have HB := Aside0.mk (Below.refl w.heap.size w)
  clear hr0 hc0 h
  go_enter Try.func31, Try.ntmps31
  go_wp2_with (first
    | ((with_reducible refine gate_dst (N := 2) rfl ?_); refine box_event ?hg (N := 2) ?hd (cs := #[.slice A0 l0.length c0]) (t := 47) ?hr ?_; (case hd => rfl); (case hg => rfl); (case hr => first | (go_simp; done) | (go_simp; rfl)); intro g2 hg w2 hbox hb; have n0_ := Aside0.mk (below_step HB.out hb); have BK2 := Aside0.mk hbox; clear HB; have HB := n0_; clear n0_ hb hbox hg)
    | ((with_reducible refine gate_dst (N := 3) rfl ?_); refine box_event ?hg (N := 3) ?hd (cs := #[.int .i64 a1]) (t := 3) ?hr ?_; (case hd => rfl); (case hg => rfl); (case hr => first | (go_simp; done) | (go_simp; rfl)); intro g3 hg w3 hbox hb; have n0_ := Aside0.mk (below_step HB.out hb); have n1_ := Aside0.mk (blk_below BK2.out hb); have BK3 := Aside0.mk hbox; clear HB BK2; have HB := n0_; have BK2 := n1_; clear n0_ n1_ hb hbox hg; have q2 : w3.cell? ⟨g2, 0, none⟩ = some (.slice A0 l0.length c0) := (blk_cell BK2.out 0).trans rfl))
  go_loopg [6, 9] l0.length (fun gg _ v9 wr => ∃ k : Nat, k ≤ l0.length ∧ Aside0 (l0.length - k ≤ gg) ∧ v9 = .int .i64 k ∧ Aside0 (Below w.heap.size w wr) ∧ Aside0 (wr.heap[g2]? = some (.cells #[.slice A0 l0.length c0] 47 (0, 0))) ∧ Aside0 (wr.heap[g3]? = some (.cells #[.int .i64 a1] 3 (0, 0))) ∧ Aside0 (∀ j, j < k → lookv l0 a1 (l0.getD j z46) = true))
  case atStart => exact ⟨0, Nat.zero_le _, ⟨by omega⟩, rfl, HB, BK2, BK3, ⟨fun j hj => absurd hj (Nat.not_lt_zero _)⟩⟩
  case round =>
    clear HB BK2 BK3 q2
    obtain ⟨k, hk, HG, rfl, HB, BK2, BK3, HA⟩ := hrel
    by_cases hlt : k < l0.length
    · have hlt2 : (k : Int) < (l0.length : Int) := by omega
      obtain ⟨ad, A2, c2, rfl, hx0, hx1, hx2, _, hC2⟩ := at_T46 HR.out (k : Int) (by omega) hlt2
      replace hx0 := (HB.out.cell (World.block_lt_of_cell? w _ hx0)).trans hx0
      replace hx1 := (HB.out.cell (World.block_lt_of_cell? w _ hx1)).trans hx1
      replace hx2 := (HB.out.cell (World.block_lt_of_cell? w _ hx2)).trans hx2
      rw [Int.toNat_natCast] at hx0 hx1 hx2
      have HK := Aside0.mk hlt
      have HC2 := Aside0.mk hC2
      obtain ⟨y, hy⟩ : ∃ y, rd_T46 l0 (k : Int) = y := ⟨_, rfl⟩
      have HY := Aside0.mk (show l0.getD k z46 = y from hy)
      rw [hy] at hx0 hx1 hx2 HC2
      clear hy hlt hC2
      go_upto_region 4 with (first
        | ((with_reducible refine gate_dst (N := 6) rfl ?_); refine box_event ?hg (N := 6) ?hd (cs := #[.int .i64 0, .bool false, .slice none 0 0]) (t := 46) ?hr ?_; (case hd => rfl); (case hg => rfl); (case hr => first | (go_simp; done) | (go_simp; rfl)); intro g6 hg w6 hbox hb; have N26 := Aside0.mk ((by rw [hg]; exact Nat.ne_of_lt (blk_lt BK2.out)) : g2 ≠ g6); have N36 := Aside0.mk ((by rw [hg]; exact Nat.ne_of_lt (blk_lt BK3.out)) : g3 ≠ g6); have GE6 := Aside0.mk ((by rw [hg]; exact below_size HB.out) : w.heap.size ≤ g6); have n0_ := Aside0.mk (below_step HB.out hb); have n1_ := Aside0.mk (blk_below BK2.out hb); have n2_ := Aside0.mk (blk_below BK3.out hb); have BK6 := Aside0.mk hbox; clear HB BK2 BK3; have HB := n0_; have BK2 := n1_; have BK3 := n2_; clear n0_ n1_ n2_ hb hbox hg; have z0 : w6.cell? ⟨g6, 0, none⟩ = some (.int .i64 0) := (blk_cell BK6.out 0).trans rfl; have z1 : w6.cell? ⟨g6, 1, none⟩ = some (.bool false) := (blk_cell BK6.out 1).trans rfl; have z2 : w6.cell? ⟨g6, 2, none⟩ = some (.slice none 0 0) := (blk_cell BK6.out 2).trans rfl; have y0 := blk_frozen BK6.out 0; have y1 := blk_frozen BK6.out 1; have y2 := blk_frozen BK6.out 2))
      obtain ⟨W, hW⟩ : ∃ W, W = (((w6.setCell ⟨g6, 0, none⟩ (.int .i64 y.f0)).setCell ⟨g6, 1, none⟩ (.bool y.f1)).setCell ⟨g6, 2, none⟩ (.slice A2 y.f2.length c2)) := ⟨_, rfl⟩
      have B2 : Aside0 (W.heap[g2]? = some (.cells #[.slice (some ad) l0.length c0] 47 (0, 0))) := ⟨by rw [hW]; exact blk_far (blk_far (blk_far BK2.out N26.out _) N26.out _) N26.out _⟩
      have B3 : Aside0 (W.heap[g3]? = some (.cells #[.int .i64 a1] 3 (0, 0))) := ⟨by rw [hW]; exact blk_far (blk_far (blk_far BK3.out N36.out _) N36.out _) N36.out _⟩
      have B6 : Aside0 (W.heap[g6]? = some (.cells #[.int .i64 y.f0, .bool y.f1, .slice A2 y.f2.length c2] 46 (0, 0))) := ⟨by
        rw [hW]
        refine blk_put (cs := #[.int .i64 y.f0, .bool y.f1, .slice none 0 0]) ?_ 2 _ rfl
        refine blk_put (cs := #[.int .i64 y.f0, .bool false, .slice none 0 0]) ?_ 1 _ rfl
        exact blk_put (cs := #[.int .i64 0, .bool false, .slice none 0 0]) BK6.out 0 _ rfl⟩
      have HBW : Aside0 (Below w.heap.size w W) := ⟨by rw [hW]; exact below_set (below_set (below_set HB.out GE6.out) GE6.out) GE6.out⟩
      rw [← hW]
      clear hW z0 z1 z2 y0 y1 y2 HB BK2 BK3 BK6 hx0 hx1 hx2
      have f0 : W.cell? ⟨g6, 0, none⟩ = some (.int .i64 y.f0) := (blk_cell B6.out 0).trans rfl
      have f2 : W.cell? ⟨g6, 2, none⟩ = some (.slice A2 y.f2.length c2) := (blk_cell B6.out 2).trans rfl
      have hputs := puts_eq y.f0
      have HH : Aside0 (Held l0 y.f0 a1 g2 g6 g3 (some ad) c0 W) := ⟨⟨(blk_cell B2.out 0).trans rfl, f0, (blk_cell B3.out 0).trans rfl, Kd.C_below HR.out HBW.out⟩⟩
      have HD := Aside0.mk (Kd.C_below HC2.out HBW.out)
      have HV := Aside0.mk (show lookv l0 a1 (l0.getD k z46) = (if putsv y.f0 = true then (if 40 < (y.f2.length : Int) then false else !(y.f2.any (fun r => !rulew l0 y.f0 a1 r))) else true) by rw [HY.out]; rfl)
      clear HC2 HY
      obtain ⟨p, hp⟩ : ∃ p, putsv y.f0 = p := ⟨_, rfl⟩
      rw [hp] at hputs HV
      clear hp
      cases p with
      | false =>
        go_wp2_with (go_at_call 38; (with_reducible refine (subst_puts.calls _ _ _ hputs).mono ?_); rintro e w' ⟨rfl, ⟨nd, rfl⟩⟩)
        go_roundg (l0.length - (k + 1))
        case measure => have := HG.out; have := HK.out; omega
        case rel =>
          refine ⟨k + 1, HK.out, ⟨Nat.le_refl _⟩, by rw [up_one HK.out HL.out], ?_, ?_, ?_, ⟨fun j hj => ?_⟩⟩
          · exact ⟨by repeat (first | (with_reducible first | exact HBW.out | apply below_alloc | apply pw_below_drewN | apply below_drew1) | exact HBW.out)⟩
          · exact ⟨by (with_reducible repeat (first | refine blk_drewN ?_ _ | refine blk_drew ?_ | refine blk_alloc ?_ _)); exact B2.out⟩
          · exact ⟨by (with_reducible repeat (first | refine blk_drewN ?_ _ | refine blk_drew ?_ | refine blk_alloc ?_ _)); exact B3.out⟩
          · by_cases e : j = k
            · subst e; exact HV.out.trans (if_neg (by simp))
            · exact HA.out j (by omega)
      | true =>
        by_cases h40 : 40 < (y.f2.length : Int)
        · have d40 : decide (40 < (y.f2.length : Int)) = true := decide_eq_true h40
          have HV2 := Aside0.mk (HV.out.trans ((if_pos rfl).trans (if_pos h40)))
          clear h40
          have hr := H.out
          rw [if_neg (by rw [all_miss HK.out HV2.out]; simp)] at hr
          subst hr
          clear H
          go_wp2_with (go_at_call 38; (with_reducible refine (subst_puts.calls _ _ _ hputs).mono ?_); rintro e w' ⟨rfl, ⟨nd, rfl⟩⟩)
          go_ret
          exact ⟨rfl, by repeat (first | (with_reducible first | exact HBW.out | apply below_alloc | apply pw_below_drewN | apply below_drew1) | exact HBW.out)⟩
        · have d40 : decide (40 < (y.f2.length : Int)) = false := decide_eq_false h40
          obtain ⟨q, hq⟩ : ∃ q, y.f2.any (fun r => !rulew l0 y.f0 a1 r) = q := ⟨_, rfl⟩
          have HV2 := Aside0.mk (HV.out.trans ((if_pos rfl).trans (if_neg h40)))
          rw [hq] at HV2
          have HQ := Aside0.mk hq
          clear h40 hq
          cases q with
          | true =>
            have hr := H.out
            rw [if_neg (by rw [all_miss HK.out HV2.out]; simp)] at hr
            subst hr
            clear H
            go_wp2_with (first | (go_at_call 38; (with_reducible refine (subst_puts.calls _ _ _ hputs).mono ?_); rintro e w' ⟨rfl, ⟨nd, rfl⟩⟩) | (go_at_call 42; (refine (containsRule_calls l0 y.f0 a1 g2 g6 g3 (some ad) c0 A2 c2 y.f2 _ (HH.out.later ?hb1) (Kd.C_below HD.out ?hb2) true HQ.out).mono ?_); (case hb1 => repeat (first | (with_reducible first | exact Below.refl _ _ | apply below_alloc | apply pw_below_drewN | apply below_drew1) | exact Below.refl _ _)); (case hb2 => repeat (first | (with_reducible first | exact Below.refl _ _ | apply below_alloc | apply pw_below_drewN | apply below_drew1) | exact Below.refl _ _)); rintro e w8 ⟨rfl, hb⟩; have HB8 := Aside0.mk (below_step (by repeat (first | (with_reducible first | exact HBW.out | apply below_alloc | apply pw_below_drewN | apply below_drew1) | exact HBW.out)) hb); clear hb))
            go_ret
            exact ⟨rfl, HB8.out⟩
          | false =>
            go_wp2_with (first | (go_at_call 38; (with_reducible refine (subst_puts.calls _ _ _ hputs).mono ?_); rintro e w' ⟨rfl, ⟨nd, rfl⟩⟩) | (go_at_call 42; (refine (containsRule_calls l0 y.f0 a1 g2 g6 g3 (some ad) c0 A2 c2 y.f2 _ (HH.out.later ?hb1) (Kd.C_below HD.out ?hb2) false HQ.out).mono ?_); (case hb1 => repeat (first | (with_reducible first | exact Below.refl _ _ | apply below_alloc | apply pw_below_drewN | apply below_drew1) | exact Below.refl _ _)); (case hb2 => repeat (first | (with_reducible first | exact Below.refl _ _ | apply below_alloc | apply pw_below_drewN | apply below_drew1) | exact Below.refl _ _)); rintro e w8 ⟨rfl, hb⟩; have HB8 := Aside0.mk (below_step (by repeat (first | (with_reducible first | exact HBW.out | apply below_alloc | apply pw_below_drewN | apply below_drew1) | exact HBW.out)) hb); have K2 := Aside0.mk (blk_below (by (with_reducible repeat (first | refine blk_drewN ?_ _ | refine blk_drew ?_ | refine blk_alloc ?_ _)); exact B2.out) hb); have K3 := Aside0.mk (blk_below (by (with_reducible repeat (first | refine blk_drewN ?_ _ | refine blk_drew ?_ | refine blk_alloc ?_ _)); exact B3.out) hb); clear hb))
            go_roundg (l0.length - (k + 1))
            case measure => have := HG.out; have := HK.out; omega
            case rel =>
              refine ⟨k + 1, HK.out, ⟨Nat.le_refl _⟩, by rw [up_one HK.out HL.out], HB8, K2, K3, ⟨fun j hj => ?_⟩⟩
              by_cases e : j = k
              · subst e; exact HV2.out
              · exact HA.out j (by omega)
    · obtain rfl : k = l0.length := by omega
      have hr := H.out
      rw [if_pos (all_hit HA.out)] at hr
      subst hr
      clear H
      have q2 : wr.cell? ⟨g2, 0, none⟩ = some (.slice A0 l0.length c0) := (blk_cell BK2.out 0).trans rfl
      go_wp2
      go_ret
      exact ⟨rfl, HB.out⟩
end Go.Proofs.Ytoldahmgjenlaaa.Q
