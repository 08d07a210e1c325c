/- slices.Clone and slices.Concat at []int, walked by hand, in the form of the print. -/
import Derived.WalkSpells
import Derived.Lib.SliceRun
import Derived.Test.YtoldahmgjenlaaaQx0
namespace Go.Proofs.Ytoldahmgjenlaaa.Q
open Go.RowKit Go.Proofs.YtoldahmgjenlaaaW.PrintWords Go.Proofs.YtoldahmgjenlaaaW.PrintLast Go.Proofs.YtoldahmgjenlaaaW.PrintMore
attribute [local go_sem] max2_int min2_int max_two min_two max_three min_three max_four min_four
set_option linter.unusedVariables false
set_option linter.unusedSimpArgs false

theorem infoG3 : (Try.prog.info? 3).map (fun i => (i.zero, i.size, i.bytes)) = some (some (.int .i64 0), 1, 8) := by kernel_rfl
theorem own_empty (w : World) (e : TypeId) {d : Kd Int} (_h : d.sz = 1) : Kd.R d e (w.alloc (.cells #[] e)) w.heap.size (fun _ => True) (.slice (some ⟨w.heap.size, 0, none⟩) 0 0) [] :=
  ⟨fun _ _ => trivial, [], World.ownsRow_made w #[] 0 (Nat.le_refl _) (by decide) (by simp), Reps.none _ _⟩
def slices_Clone_int_int.f (l0 : List Int) : Option (List Int) := if ([] : List Int).length + l0.length < 17592186044416 then (some (([] : List Int) ++ l0)) else (none)
set_option maxHeartbeats 8000000 in
set_option maxRecDepth 100000 in
theorem slices_Clone_int_int.calls (A0 : Option Addr) (c0 : Nat) (l0 : List Int) (r : List Int) (w : World) (hr0 : Kd.C (Kd.int .i64) w A0 l0.length l0) (hc0 : l0.length ≤ c0) (h : slices_Clone_int_int.f l0 = some r) :
    Calls Try.prog 37 #[.slice A0 l0.length c0] w fun e w' => ∃ v0_ : Value, e = .returned (v0_) ∧ Kd.R (Kd.int .i64) 3 w' w.heap.size (fun _ => True) v0_ r ∧ Below w.heap.size w w' := by
  unfold slices_Clone_int_int.f at h
  by_cases c2 : ([] : List Int).length + l0.length < 17592186044416
  · rw [if_pos c2] at h
    obtain rfl := Option.some.inj h
    have LM := Aside0.mk c2
    clear c2 h
    have HR0 := Aside0.mk hr0
    have HC0 := Aside0.mk hc0
    clear hr0 hc0
    have hnil := fun (w : World) (a : Option Addr) (n c : Nat) => Lib.run_eql_slice_nil (P := Try.prog) w 22 3 a n c 0 0 Try.underlying22
    cases A0 with
    | none =>
      have hl : l0 = [] := by
        cases l0 with
        | nil => rfl
        | cons x xs =>
          obtain ⟨ad, h1, _⟩ := HR0.out.2.2 (by simp)
          cases h1
      subst hl
      clear HR0 HC0 LM
      go_enter Try.func37, Try.ntmps37
      go_wp2
      go_ret
      exact ⟨_, rfl, Kd.R_nil _ _ _ _ _, by repeat (first | (with_reducible first | exact Below.refl _ _ | apply below_alloc | apply pw_below_drewN | apply below_drew1))⟩
    | some ad =>
      go_enter Try.func37, Try.ntmps37
      go_wp2_with (first | ((with_reducible refine gate_builtin (b := .append) (xs := #[.tmp 5, .tmp 6]) rfl ?_); at_builtin; refine Kd.R_append_rows (Kd.int .i64) (w0 := w) w.heap.size rfl (.tmp 5) (.tmp 6) 22 3 (.int .i64 0) 8 rfl Try.underlying22 infoG3 rfl (by decide) (by omega) (.slice (some ⟨w.heap.size, 0, none⟩) 0 0) ([] : List Int) l0 _ _ _ (fun _ => True) (fun _ => False) rfl rfl ?aO ?aR (fun _ _ h => h) (fun _ h => h.elim) ?aF ?aB ?aS ?aL ?_; (case aR => exact (Kd.C_alloc HR0.out _)); (case aB => exact (below_alloc (Below.refl _ _) _)); (case aF => exact (fun _ _ => trivial)); (case aO => exact (own_empty w 3 rfl)); (case aS => exact (below_size (below_alloc (Below.refl _ _) _))); (case aL => have := LM.out; simp at this ⊢; omega); intro v1 w1 ho hb hg hat; have n0_ := Aside0.mk hb; have n1_ := Aside0.mk ho; clear ho hb hg hat))
      go_ret
      exact ⟨_, rfl, by (with_reducible repeat (first | apply Kd.R_alloc | apply Kd.R_drewN | apply Kd.R_drew)); exact n1_.out, by repeat (first | (with_reducible first | exact n0_.out | apply below_alloc | apply pw_below_drewN | apply below_drew1) | exact n0_.out)⟩
  · rw [if_neg c2] at h
    exact absurd h (by simp)
/-- slices.Grow of nil: an empty slice with room. -/
theorem Grow_nil (n : Int) (h0 : 0 ≤ n) (hn : n ≤ 17592186044416) (w : World) :
    Calls Try.prog 50 #[.slice none 0 0, .int .i64 n] w fun e w' => ∃ v0_ : Value, e = .returned v0_ ∧ Kd.R (Kd.int .i64) 3 w' w.heap.size (fun _ => True) v0_ [] ∧ Below w.heap.size w w' := by
  by_cases hz : n = 0
  · subst hz
    go_enter Try.func50, Try.ntmps50
    go_wp2
    go_ret
    exact ⟨_, rfl, Kd.R_nil _ _ _ _ _, by repeat (first | (with_reducible first | exact Below.refl _ _ | apply below_alloc | apply pw_below_drewN | apply below_drew1))⟩
  · have h1 : decide (0 < n) = true := decide_eq_true (by omega)
    have h2 : decide (n < 0) = false := decide_eq_false (by omega)
    obtain ⟨i0, hi0, _, _, _⟩ := info_parts infoG3
    go_enter Try.func50, Try.ntmps50
    go_wp2_with (first | ((with_reducible refine gate_builtin (b := .append) (xs := #[.tmp 20, .tmp 21]) rfl ?_); at_builtin; refine Kd.R_append_zeros (Kd.int .i64) (w0 := w) w.heap.size rfl (.tmp 20) (.tmp 21) 22 3 3 (.int .i64 0) 8 rfl Try.underlying22 Try.underlying3 infoG3 rfl (by decide) (by omega) (.slice none 0 0) ([] : List Int) (0 : Int) n (fun _ => True) rfl rfl rfl (fun _ _ => trivial) ?aO h0 ?aB ?aS ?aL ?_; (case aB => exact (Below.refl _ _)); (case aO => exact (Kd.R_nil _ _ _ _ _)); (case aS => exact (Nat.le_refl _)); (case aL => simp; omega); intro v1 w1 ho hb hg hat; obtain ⟨A1, c1, hv⟩ := Kd.R_slice ho; rw [hv] at ho ⊢; have hcut := cut_to (P := Try.prog) 22 3 .i64 Try.underlying22 hi0 A1 (([] : List Int) ++ List.replicate n.toNat 0).length c1 0 (by omega) (by omega) (Kd.R_reads' ho).2.1; have n0_ := Aside0.mk hb; have n1_ := Aside0.mk (Kd.R_take (m := 0) ho (by omega)); clear ho hb hg hat hv))
    go_ret
    exact ⟨_, rfl, n1_.out, n0_.out⟩
/-! ### slices.Concat -/
def sumLen (ls : List (List Int)) : Nat := (ls.map List.length).sum
theorem sumLen_snoc (ls : List (List Int)) (k : Nat) (hk : k < ls.length) : sumLen (ls.take (k + 1)) = sumLen (ls.take k) + (ls.getD k []).length := by
  have h : ls.getD k [] = ls[k] := by simp [List.getD, hk]
  unfold sumLen; rw [List.take_succ_eq_append_getElem hk, h, List.map_append, List.sum_append]; simp
theorem flat_snoc (ls : List (List Int)) (k : Nat) (hk : k < ls.length) : (ls.take (k + 1)).flatten = (ls.take k).flatten ++ ls.getD k [] := by
  have h : ls.getD k [] = ls[k] := by simp [List.getD, hk]
  rw [List.take_succ_eq_append_getElem hk, h, List.flatten_append]; simp
theorem sumLen_le (ls : List (List Int)) (k : Nat) : sumLen (ls.take k) ≤ sumLen ls := by
  have h2 : sumLen ls = sumLen (ls.take k) + sumLen (ls.drop k) := by
    unfold sumLen; rw [← List.sum_append, ← List.map_append, List.take_append_drop]
  omega
theorem flat_len (ls : List (List Int)) : ls.flatten.length = sumLen ls := by simp [sumLen, List.length_flatten]
theorem concat_get {w : World} {A0 : Option Addr} {l0 : List (List Int)} (h : Kd.C (Kd.slice 3 (Kd.int .i64)) w A0 l0.length l0) :
    ∀ k : Nat, k < l0.length → ∃ ad Ak ck, A0 = some ad ∧ w.cell? (ad.add k) = some (.slice Ak (l0.getD k []).length ck) ∧ (l0.getD k []).length ≤ ck ∧ Kd.C (Kd.int .i64) w Ak (l0.getD k []).length (l0.getD k []) := by
  intro k hk
  obtain ⟨ad, c, e1, _, ⟨Ak, ck, rfl, hle, hC⟩, hcell⟩ := Kd.C_get h [] (k : Int) (by omega) (by omega)
  refine ⟨ad, Ak, ck, e1, ?_, hle, hC⟩
  have := hcell 0 _ rfl
  rw [show ((k : Int).toNat * (Kd.slice 3 (Kd.int .i64)).sz + 0) = k from Nat.mul_one k] at this
  exact this
theorem concat_at {w : World} {A0 : Option Addr} {l0 : List (List Int)} (h : ∀ k : Nat, k < l0.length → ∃ ad Ak ck, A0 = some ad ∧ w.cell? (ad.add k) = some (.slice Ak (l0.getD k []).length ck) ∧ (l0.getD k []).length ≤ ck ∧ Kd.C (Kd.int .i64) w Ak (l0.getD k []).length (l0.getD k [])) (hs : sumLen l0 < 17592186044416) (k : Nat) (hk : k < l0.length) :
    ∃ lk : List Int, Aside0 (sumLen (l0.take (k + 1)) = sumLen (l0.take k) + lk.length ∧ (l0.take (k + 1)).flatten = (l0.take k).flatten ++ lk ∧ (l0.take k).flatten.length = sumLen (l0.take k)) ∧ sumLen (l0.take k) + lk.length < 17592186044416 ∧ ∃ ad Ak ck, A0 = some ad ∧ w.cell? (ad.add k) = some (.slice Ak lk.length ck) ∧ lk.length ≤ ck ∧ Kd.C (Kd.int .i64) w Ak lk.length lk := by
  have h1 := sumLen_snoc l0 k hk
  have h2 := sumLen_le l0 (k + 1)
  exact ⟨l0.getD k [], ⟨h1, flat_snoc l0 k hk, flat_len _⟩, by omega, h k hk⟩
def slices_Concat_int_int.f (l0 : List (List Int)) : Option (List Int) := if sumLen l0 < 17592186044416 then some l0.flatten else none
set_option maxHeartbeats 8000000 in
set_option maxRecDepth 100000 in
theorem slices_Concat_int_int.calls (A0 : Option Addr) (c0 : Nat) (l0 : List (List Int)) (r : List Int) (w : World) (hr0 : Kd.C (Kd.slice 3 (Kd.int .i64)) w A0 l0.length l0) (hc0 : l0.length ≤ c0) (h : slices_Concat_int_int.f l0 = some r) :
    Calls Try.prog 40 #[.slice A0 l0.length c0] w fun e w' => ∃ v0_ : Value, e = .returned (v0_) ∧ Kd.R (Kd.int .i64) 3 w' w.heap.size (fun _ => True) v0_ r ∧ Below w.heap.size w w' := by
  unfold slices_Concat_int_int.f at h
  by_cases c2 : sumLen l0 < 17592186044416
  · rw [if_pos c2] at h
    obtain rfl := Option.some.inj h
    have LM := Aside0.mk c2
    have HL := Aside0.mk hr0.2.1
    clear c2 h
    have HR0 := Aside0.mk hr0
    have HC0 := Aside0.mk hc0
    clear hr0 hc0
    -- what lies at place k
    have GET := Aside0.mk (concat_get HR0.out)
    go_enter Try.func40, Try.ntmps40
    go_wp2
    go_loop [3, 11] (fun v3 v11 => ∃ k : Nat, k ≤ l0.length ∧ v11 = .int .i64 k ∧ v3 = .int .i64 (sumLen (l0.take k) : Nat)) (fun _ v11 => l0.length - (intOf v11).toNat)
    case atStart => exact ⟨0, Nat.zero_le _, rfl, rfl⟩
    case round =>
      obtain ⟨k, hk, rfl, rfl⟩ := hrel
      have hl := HL.out
      by_cases hlt : k < l0.length
      · obtain ⟨lk, HS, hb1, ad, Ak, ck, rfl, hcell, _, _⟩ := concat_at GET.out LM.out k hlt
        have hc9 : decide ((sumLen (l0.take k) : Int) + (lk.length : Int) < 0) = false := decide_eq_false (by omega)
        go_wp2
        go_round
        case rel => exact ⟨k + 1, by omega, by go_num, by rw [HS.out.1]; go_num⟩
        case measure => simp [intOf]; omega
      · obtain rfl : k = l0.length := by omega
        rw [List.take_length]
        have hs0 : 0 ≤ (sumLen l0 : Int) := Int.natCast_nonneg _
        have hs1 : (sumLen l0 : Int) ≤ 17592186044416 := by have := LM.out; omega
        go_wp2_with (go_at_call 50; refine (Grow_nil _ hs0 hs1 _).mono ?_; rintro e w1 ⟨v1, rfl, ho, hb⟩)
        have HO1 := Aside0.mk ho
        have HB1 := Aside0.mk hb
        clear ho hb hs0 hs1 hlt
        go_loopw [6, 27] (fun v6 v27 wr => ∃ k : Nat, k ≤ l0.length ∧ v27 = .int .i64 k ∧ Aside0 (Kd.R (Kd.int .i64) 3 wr w.heap.size (fun _ => True) v6 (l0.take k).flatten) ∧ Aside0 (Below w.heap.size w wr)) (fun _ v27 _ => l0.length - (intOf v27).toNat)
        case atStart => exact ⟨0, Nat.zero_le _, rfl, by simpa using HO1, HB1⟩
        case round =>
          clear HO1 HB1
          obtain ⟨k, hk, rfl, HO, HB⟩ := hrel
          by_cases hlt : k < l0.length
          · obtain ⟨lk, HS, hb1, ad, Ak, ck, rfl, hcell0, hle, hC⟩ := concat_at GET.out LM.out k hlt
            have hcell := (HB.out.cell (World.block_lt_of_cell? w _ hcell0)).trans hcell0
            have HC1 := Aside0.mk (Kd.C_below hC HB.out)
            have LM1 := Aside0.mk hb1
            clear hcell0 hle hC hb1
            obtain ⟨lf, hlf⟩ : ∃ lf, (l0.take k).flatten = lf := ⟨_, rfl⟩
            have HLF := Aside0.mk hlf
            rw [hlf] at HO
            clear hlf
            go_wp2_with (first | ((with_reducible refine gate_builtin (b := .append) (xs := #[.tmp 31, .tmp 32]) rfl ?_); at_builtin; refine Kd.R_append_rows (Kd.int .i64) (w0 := w) w.heap.size rfl (.tmp 31) (.tmp 32) 22 3 (.int .i64 0) 8 rfl Try.underlying22 infoG3 rfl (by decide) (by omega) _ lf lk _ _ _ (fun _ => True) (fun _ => False) rfl rfl ?aO ?aR (fun _ _ h => h) (fun _ h => h.elim) ?aF ?aB ?aS ?aL ?_; (case aR => exact HC1.out); (case aB => exact HB.out); (case aF => exact (fun _ _ => trivial)); (case aO => exact HO.out); (case aS => exact HB.out.size); (case aL => have h1 := LM1.out; have h2 := HS.out.2.2; rw [HLF.out] at h2; omega); intro v3 w3 ho hb hg hat; have n0_ := Aside0.mk hb; have n1_ := Aside0.mk ho; clear ho hb hg hat))
            go_roundw
            case rel => exact ⟨k + 1, by omega, by go_num, ⟨by rw [HS.out.2.1, HLF.out]; exact n1_.out⟩, n0_⟩
            case measure => simp [intOf]; omega
          · obtain rfl : k = l0.length := by omega
            go_wp2
            go_ret
            exact ⟨_, rfl, by simpa using HO.out, HB.out⟩
  · rw [if_neg c2] at h
    exact absurd h (by simp)
end Go.Proofs.Ytoldahmgjenlaaa.Q
