/- chars.Glyph, its literal, and slices.IndexFunc over it: walked by hand. -/
import Derived.WalkSpells
import Derived.Handy
import Derived.Test.YtimiapghmehnaaaQx0
namespace Go.Proofs.Ytimiapghmehnaaa.Q
open Go.RowKit Go.Proofs.YtimiapghmehnaaaW.PrintWords Go.Proofs.YtimiapghmehnaaaW.PrintLast Go.Proofs.YtimiapghmehnaaaW.PrintMore
attribute [local go_sem] max2_int min2_int max_two min_two max_three min_three max_four min_four
set_option linter.unusedVariables false
set_option linter.unusedSimpArgs false

/-- A character lies in a range. -/
def inr (c : Int) (x : S33) : Bool := decide (x.f0 ≤ c) && decide (c ≤ x.f1)
/-- A character's glyph. -/
def glyphv (c : Int) : List S33 → Int
  | [] => 0
  | x :: xs => if inr c x = true then wrap64 (wrap64 (x.f2 + c) - x.f0) else glyphv c xs
theorem glyph_none {c : Int} : ∀ {l : List S33}, (∀ j, j < l.length → inr c (l.getD j z33) = false) → glyphv c l = 0 := by
  intro l
  induction l with
  | nil => intro _; rfl
  | cons x xs ih =>
    intro h
    have h0 := h 0 (by simp)
    simp only [List.getD_cons_zero] at h0
    unfold glyphv
    rw [h0, if_neg Bool.false_ne_true]
    exact ih fun j hj => by have := h (j + 1) (by simpa using hj); simpa using this
theorem glyph_at {c : Int} : ∀ {l : List S33} {i : Nat}, i < l.length → inr c (l.getD i z33) = true → (∀ j, j < i → inr c (l.getD j z33) = false) → glyphv c l = wrap64 (wrap64 ((l.getD i z33).f2 + c) - (l.getD i z33).f0) := by
  intro l
  induction l with
  | nil => intro i h; simp at h
  | cons x xs ih =>
    intro i hi hp h
    cases i with
    | zero => simp only [List.getD_cons_zero] at hp ⊢; unfold glyphv; rw [if_pos hp]
    | succ i =>
      have h0 := h 0 (by omega)
      simp only [List.getD_cons_zero] at h0
      simp only [List.getD_cons_succ] at hp ⊢
      unfold glyphv
      rw [h0, if_neg Bool.false_ne_true]
      exact ih (by simpa using hi) hp fun j hj => by have := h (j + 1) (by omega); simpa using this
theorem up_one {k n : Nat} (h : k < n) (hn : n ≤ 9223372036854775807) : wrap64 ((k : Int) + 1) = ((k + 1 : Nat) : Int) := by unfold wrap64; omega
set_option maxHeartbeats 4000000 in
theorem lit_calls (x : S33) (c : Int) (B : Nat) (w : World) (hc : w.cell? ⟨B, 0, none⟩ = some (.int .i64 c)) :
    Calls Try.prog 14 #[.agg #[.int .i64 x.f0, .int .i64 x.f1, .int .i64 x.f2], .pointer (some ⟨B, 0, none⟩)] w fun e w' => e = .returned (.bool (inr c x)) ∧ Below w.heap.size w w' := by
  have hu33 := Try.underlying33
  have HC := Aside0.mk hc
  have HB := Aside0.mk (Below.refl w.heap.size w)
  clear hc
  unfold inr
  by_cases h : x.f0 ≤ c
  · have d1 : decide (x.f0 ≤ c) = true := decide_eq_true h
    clear h
    go_enter Try.func14, Try.ntmps14
    go_wp2_with (first
      | ((with_reducible refine gate_dst (N := 2) rfl ?_); refine box_event ?hg (N := 2) ?hd (cs := #[.int .i64 x.f0, .int .i64 x.f1, .int .i64 x.f2]) (t := 33) ?hr ?_; (case hd => rfl); (case hg => rfl); (case hr => first | (go_simp; done) | (go_simp; rfl)); intro g2 hg w2 hbox hb; have n0_ := Aside0.mk (below_step HB.out hb); have BK2 := Aside0.mk hbox; clear HB; have HB := n0_; have q := (hb.cell (World.block_lt_of_cell? w _ HC.out)).trans HC.out; clear n0_ hb hbox hg; have f0 : w2.cell? ⟨g2, 0, none⟩ = some (.int .i64 x.f0) := (blk_cell BK2.out 0).trans rfl; have f1 : w2.cell? ⟨g2, 1, none⟩ = some (.int .i64 x.f1) := (blk_cell BK2.out 1).trans rfl; have f2 : w2.cell? ⟨g2, 2, none⟩ = some (.int .i64 x.f2) := (blk_cell BK2.out 2).trans rfl))
    go_ret
    exact ⟨by rw [d1]; rfl, HB.out⟩
  · have d1 : decide (x.f0 ≤ c) = false := decide_eq_false h
    clear h
    go_enter Try.func14, Try.ntmps14
    go_wp2_with (first
      | ((with_reducible refine gate_dst (N := 2) rfl ?_); refine box_event ?hg (N := 2) ?hd (cs := #[.int .i64 x.f0, .int .i64 x.f1, .int .i64 x.f2]) (t := 33) ?hr ?_; (case hd => rfl); (case hg => rfl); (case hr => first | (go_simp; done) | (go_simp; rfl)); intro g2 hg w2 hbox hb; have n0_ := Aside0.mk (below_step HB.out hb); have BK2 := Aside0.mk hbox; clear HB; have HB := n0_; have q := (hb.cell (World.block_lt_of_cell? w _ HC.out)).trans HC.out; clear n0_ hb hbox hg; have f0 : w2.cell? ⟨g2, 0, none⟩ = some (.int .i64 x.f0) := (blk_cell BK2.out 0).trans rfl; have f1 : w2.cell? ⟨g2, 1, none⟩ = some (.int .i64 x.f1) := (blk_cell BK2.out 1).trans rfl; have f2 : w2.cell? ⟨g2, 2, none⟩ = some (.int .i64 x.f2) := (blk_cell BK2.out 2).trans rfl))
    go_ret
    exact ⟨by rw [d1]; rfl, HB.out⟩
set_option maxHeartbeats 4000000 in
theorem index_calls (c : Int) (Bc : Nat) (B : Option Addr) (cc : Nat) (l : List S33) (w : World) (hc : w.cell? ⟨Bc, 0, none⟩ = some (.int .i64 c)) (hC : Kd.C k33 w B l.length l) :
    Calls Try.prog 13 #[.slice B l.length cc, .func (.func 14) #[] #[.pointer (some ⟨Bc, 0, none⟩)]] w
      fun e w' => ∃ i : Int, e = .returned (.int .i64 i) ∧ ((i = -1 ∧ glyphv c l = 0) ∨ (∃ k : Nat, i = (k : Int) ∧ k < l.length ∧ glyphv c l = wrap64 (wrap64 ((l.getD k z33).f2 + c) - (l.getD k z33).f0))) ∧ Below w.heap.size w w' := by
  have hu33 := Try.underlying33
  have HH := Aside0.mk hc
  have HC := Aside0.mk hC
  have HL := Aside0.mk hC.2.1
  clear hc hC
  go_enter Try.func13, Try.ntmps13
  go_wp2
  go_loopg [5, 8] l.length (fun gg _ v8 wr => ∃ k : Nat, k ≤ l.length ∧ Aside0 (l.length - k ≤ gg) ∧ v8 = .int .i64 k ∧ Aside0 (Below w.heap.size w wr) ∧ Aside0 (∀ j, j < k → inr c (l.getD j z33) = false))
  case atStart => exact ⟨0, Nat.zero_le _, ⟨by omega⟩, rfl, ⟨Below.refl _ _⟩, ⟨fun j hj => absurd hj (Nat.not_lt_zero _)⟩⟩
  case round =>
    obtain ⟨k, hk, HG, rfl, HB, HA⟩ := hrel
    by_cases hlt : k < l.length
    · have hlt2 : (k : Int) < (l.length : Int) := by omega
      obtain ⟨ad, rfl, hx0, hx1, hx2⟩ := at_T33 HC.out (k : Int) (by omega) hlt2
      replace hx0 := (HB.out.cell (World.block_lt_of_cell? w _ hx0)).trans hx0
      replace hx1 := (HB.out.cell (World.block_lt_of_cell? w _ hx1)).trans hx1
      replace hx2 := (HB.out.cell (World.block_lt_of_cell? w _ hx2)).trans hx2
      rw [Int.toNat_natCast] at hx0 hx1 hx2
      have HK := Aside0.mk hlt
      obtain ⟨q, hq⟩ : ∃ q, inr c (rd_T33 l (k : Int)) = q := ⟨_, rfl⟩
      have hcall := fun W (hW : Below w.heap.size w W) => lit_calls (rd_T33 l (k : Int)) c Bc W ((hW.cell (World.block_lt_of_cell? w _ HH.out)).trans HH.out)
      have hcall := hcall _ HB.out
      rw [hq] at hcall
      have HQ := Aside0.mk (show inr c (l.getD k z33) = q from hq)
      clear hq hlt
      obtain ⟨y, hy⟩ : ∃ y, rd_T33 l (k : Int) = y := ⟨_, rfl⟩
      rw [hy] at hx0 hx1 hx2 hcall
      clear hy
      cases q with
      | true =>
        go_wp2_with (go_at_call 14; (with_reducible refine hcall.mono ?_); rintro e w' ⟨rfl, hb⟩; have HB2 := Aside0.mk (below_step HB.out hb); clear HB hb)
        go_ret
        exact ⟨_, rfl, .inr ⟨k, rfl, HK.out, glyph_at HK.out HQ.out HA.out⟩, HB2.out⟩
      | false =>
        go_wp2_with (go_at_call 14; (with_reducible refine hcall.mono ?_); rintro e w' ⟨rfl, hb⟩; have HB2 := Aside0.mk (below_step HB.out hb); clear HB hb)
        go_roundg (l.length - (k + 1))
        case measure => have := HG.out; have := HK.out; omega
        case rel =>
          refine ⟨k + 1, HK.out, ⟨Nat.le_refl _⟩, by rw [up_one HK.out HL.out], HB2, ⟨fun j hj => ?_⟩⟩
          by_cases e : j = k
          · subst e; exact HQ.out
          · exact HA.out j (by omega)
    · obtain rfl : k = l.length := by omega
      go_wp2
      go_ret
      exact ⟨_, rfl, .inl ⟨rfl, glyph_none HA.out⟩, HB.out⟩
def chars_Glyph.f (l0 : List S33) (a1 : Int) : Option Int := some (glyphv a1 l0)
set_option maxHeartbeats 4000000 in
theorem chars_Glyph.calls (A0 : Option Addr) (c0 : Nat) (l0 : List S33) (a1 : Int) (r : Int) (w : World) (hr0 : Kd.C k33 w A0 l0.length l0) (hc0 : l0.length ≤ c0) (h : chars_Glyph.f l0 a1 = some r) :
    Calls Try.prog 7 #[.slice A0 l0.length c0, .int .i64 a1] w fun e w' => e = .returned (.int .i64 r) ∧ Below w.heap.size w w' := by
  have hu33 := Try.underlying33
  have HR := Aside0.mk hr0
  have H := Aside0.mk (Option.some.inj h)
  have HB := Aside0.mk (Below.refl w.heap.size w)
  clear hr0 hc0 h
  go_enter Try.func7, Try.ntmps7
  go_upto_region 2 with (first
    | ((with_reducible refine gate_dst (N := 3) rfl ?_); refine box_event ?hg (N := 3) ?hd (cs := #[.int .i64 a1]) (t := 3) ?hr ?_; (case hd => rfl); (case hg => rfl); (case hr => first | (go_simp; done) | (go_simp; rfl)); intro g2 hg w2 hbox hb; have n0_ := Aside0.mk (below_step HB.out hb); have BK2 := Aside0.mk hbox; clear HB; have HB := n0_; clear n0_ hb hbox hg)
    | (go_at_call 13; (with_reducible refine (index_calls a1 g2 A0 c0 l0 _ ((blk_cell BK2.out 0).trans rfl) (Kd.C_below HR.out HB.out)).mono ?_); rintro e w3 ⟨i, rfl, hi, hb⟩; have n0_ := Aside0.mk (below_step HB.out hb); have n1_ := Aside0.mk (blk_below BK2.out hb); clear HB BK2; have HB := n0_; have BK2 := n1_; clear n0_ n1_ hb; have HI := Aside0.mk hi; clear hi))
  obtain hi := HI.out
  clear HI
  rcases hi with ⟨rfl, hg⟩ | ⟨k, rfl, hk, hg⟩
  · go_wp2
    go_ret
    exact ⟨by rw [← H.out, hg]; rfl, HB.out⟩
  · have hlt2 : (k : Int) < (l0.length : Int) := by omega
    obtain ⟨ad, rfl, hx0, hx1, hx2⟩ := at_T33 HR.out (k : Int) (by omega) hlt2
    replace hx0 := (HB.out.cell (World.block_lt_of_cell? w _ hx0)).trans hx0
    replace hx1 := (HB.out.cell (World.block_lt_of_cell? w _ hx1)).trans hx1
    replace hx2 := (HB.out.cell (World.block_lt_of_cell? w _ hx2)).trans hx2
    rw [Int.toNat_natCast] at hx0 hx1 hx2
    have q2 : w3.cell? ⟨g2, 0, none⟩ = some (.int .i64 a1) := (blk_cell BK2.out 0).trans rfl
    have HE := Aside0.mk (hg.symm.trans H.out)
    have d0 : decide ((k : Int) < 0) = false := decide_eq_false (by omega)
    clear hg H
    obtain ⟨y, hy⟩ : ∃ y, rd_T33 l0 (k : Int) = y := ⟨_, rfl⟩
    rw [show l0.getD k z33 = y from hy] at HE
    rw [hy] at hx0 hx1 hx2
    clear hy
    go_wp2
    repeat (go_quiet (fail); try go_wp2)
    go_ret
    exact ⟨by rw [← HE.out]; rfl, by repeat (first | (with_reducible first | exact HB.out | apply below_alloc | apply pw_below_drewN | apply below_drew1) | exact HB.out)⟩
end Go.Proofs.Ytimiapghmehnaaa.Q
