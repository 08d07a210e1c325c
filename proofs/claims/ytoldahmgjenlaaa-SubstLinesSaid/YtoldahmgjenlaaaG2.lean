/- classes.Put, walked by hand, in the form of the print. -/
import Derived.Test.YtoldahmgjenlaaaG1
import Derived.StillTailTactics
namespace Go.Proofs.Ytoldahmgjenlaaa.Q
open Go.RowKit Go.Proofs.YtoldahmgjenlaaaW.PrintWords Go.Proofs.YtoldahmgjenlaaaW.PrintLast Go.Proofs.YtoldahmgjenlaaaW.PrintMore
set_option linter.unusedVariables false
set_option linter.unusedSimpArgs false
def classes_Put.f (l0 : List Int) (a1 : Int) (a2 : Int) (l3 : List Int) : Option (List Int) :=
  if a1 < 0 ∨ a2 < a1 ∨ (l0.length : Int) < a2 then slices_Clone_int_int.f l0 else slices_Concat_int_int.f [l0.take a1.toNat, l3, l0.drop a2.toNat]
theorem three_C {W : World} {g : Nat} {x y z : List Int} {A B C : Option Addr} {a b c : Nat} (hb : W.heap[g]? = some (.cells #[.slice A x.length a, .slice B y.length b, .slice C z.length c] 22 (0, 0)))
    (hx : Kd.C (Kd.int .i64) W A x.length x) (ha : x.length ≤ a) (hy : Kd.C (Kd.int .i64) W B y.length y) (hb2 : y.length ≤ b) (hz : Kd.C (Kd.int .i64) W C z.length z) (hc : z.length ≤ c) :
    Kd.C (Kd.slice 3 (Kd.int .i64)) W (some ⟨g, 0, none⟩) ([x, y, z] : List (List Int)).length [x, y, z] := by
  have hcell : ∀ i : Nat, W.cell? ⟨g, i, none⟩ = #[Value.slice A x.length a, .slice B y.length b, .slice C z.length c][i]? := by
    intro i; simp [World.cell?, hb]
  refine ⟨rfl, by simp, fun _ => ⟨_, rfl, fun j p hp => ?_⟩⟩
  match j, hp with
  | 0, hp =>
    obtain rfl : x = p := by simpa using hp
    refine ⟨[.slice A x.length a], rfl, ⟨A, a, rfl, ha, hx⟩, fun i u hu => ?_⟩
    cases i with
    | zero => rw [add_plain, hcell]; rw [← hu]; rfl
    | succ i => simp at hu
  | 1, hp =>
    obtain rfl : y = p := by simpa using hp
    refine ⟨[.slice B y.length b], rfl, ⟨B, b, rfl, hb2, hy⟩, fun i u hu => ?_⟩
    cases i with
    | zero => rw [add_plain, hcell]; rw [← hu]; rfl
    | succ i => simp at hu
  | 2, hp =>
    obtain rfl : z = p := by simpa using hp
    refine ⟨[.slice C z.length c], rfl, ⟨C, c, rfl, hc, hz⟩, fun i u hu => ?_⟩
    cases i with
    | zero => rw [add_plain, hcell]; rw [← hu]; rfl
    | succ i => simp at hu
  | n + 3, hp => simp at hp
set_option maxHeartbeats 8000000 in
set_option maxRecDepth 100000 in
theorem classes_Put.calls (A0 : Option Addr) (c0 : Nat) (l0 : List Int) (a1 a2 : Int) (A3 : Option Addr) (c3 : Nat) (l3 : List Int) (r : List Int) (w : World) (hr0 : Kd.C (Kd.int .i64) w A0 l0.length l0) (hc0 : l0.length ≤ c0) (hr3 : Kd.C (Kd.int .i64) w A3 l3.length l3) (hc3 : l3.length ≤ c3) (h : classes_Put.f l0 a1 a2 l3 = some r) :
    Calls Try.prog 28 #[.slice A0 l0.length c0, .int .i64 a1, .int .i64 a2, .slice A3 l3.length c3] w fun e w' => ∃ v0_ : Value, e = .returned (v0_) ∧ Kd.R (Kd.int .i64) 3 w' w.heap.size (fun _ => True) v0_ r ∧ Below w.heap.size w w' := by
  unfold classes_Put.f at h
  have HR0 := Aside0.mk hr0
  have HC0 := Aside0.mk hc0
  have HR3 := Aside0.mk hr3
  have HC3 := Aside0.mk hc3
  clear hr0 hc0 hr3 hc3
  by_cases hcl : a1 < 0 ∨ a2 < a1 ∨ (l0.length : Int) < a2
  · rw [if_pos hcl] at h
    have H := Aside0.mk h
    clear h
    by_cases c1 : a1 < 0
    · have d1 : decide (a1 < 0) = true := decide_eq_true c1
      clear hcl c1
      go_enter Try.func28, Try.ntmps28
      go_wp2_with (go_at_call 37; refine (slices_Clone_int_int.calls A0 c0 l0 r _ HR0.out HC0.out H.out).mono ?_; rintro e w1 ⟨v1, rfl, ho, hb⟩)
      go_ret
      exact ⟨_, rfl, ho, hb⟩
    · by_cases c2 : a2 < a1
      · have d1 : decide (a1 < 0) = false := decide_eq_false c1
        have d2 : decide (a2 < a1) = true := decide_eq_true c2
        clear hcl c1 c2
        go_enter Try.func28, Try.ntmps28
        go_wp2_with (go_at_call 37; refine (slices_Clone_int_int.calls A0 c0 l0 r _ HR0.out HC0.out H.out).mono ?_; rintro e w1 ⟨v1, rfl, ho, hb⟩)
        go_ret
        exact ⟨_, rfl, ho, hb⟩
      · have d1 : decide (a1 < 0) = false := decide_eq_false c1
        have d2 : decide (a2 < a1) = false := decide_eq_false c2
        have d3 : decide ((l0.length : Int) < a2) = true := decide_eq_true (by omega)
        clear hcl c1 c2
        go_enter Try.func28, Try.ntmps28
        go_wp2_with (go_at_call 37; refine (slices_Clone_int_int.calls A0 c0 l0 r _ HR0.out HC0.out H.out).mono ?_; rintro e w1 ⟨v1, rfl, ho, hb⟩)
        go_ret
        exact ⟨_, rfl, ho, hb⟩
  · rw [if_neg hcl] at h
    have H := Aside0.mk h
    clear h
    have p1 : 0 ≤ a1 := by omega
    have p2 : a1 ≤ a2 := by omega
    have p3 : a2 ≤ (l0.length : Int) := by omega
    have d1 : decide (a1 < 0) = false := decide_eq_false (by omega)
    have d2 : decide (a2 < a1) = false := decide_eq_false (by omega)
    have d3 : decide ((l0.length : Int) < a2) = false := decide_eq_false (by omega)
    obtain ⟨i0, hi0, _, hsz, _⟩ := info_parts infoG3
    obtain ⟨hcutA, hA, hCA⟩ := print_take_of (P := Try.prog) (Value.int .i64) 0 22 3 .i64 Try.underlying22 hi0 hsz A0 c0 l0 a1 p1 (by omega) HC0.out
    obtain ⟨A2, hcutB, hB, hCB⟩ := print_drop_of (P := Try.prog) (Value.int .i64) 0 22 3 .i64 Try.underlying22 hi0 hsz A0 c0 l0 a2 (by omega) p3 HC0.out
    have HA := Aside0.mk (Kd.C_of_reads (h1 := fun _ => rfl) (hA _ (Kd.reads_of_C HR0.out)))
    have HB := Aside0.mk (Kd.C_of_reads (h1 := fun _ => rfl) (hB _ (Kd.reads_of_C HR0.out)))
    have HCA := Aside0.mk hCA
    have HCB := Aside0.mk hCB
    clear hA hB hCA hCB hcl
    generalize l0.take a1.toNat = x at *
    generalize l0.drop a2.toNat = y at *
    go_enter Try.func28, Try.ntmps28
    go_wp2_with fail
    go_still_tail 7, (by kernel_rfl)
    change wpList _ _ _ _ _ w.drew
    go_wp2_with fail
    refine (slices_Concat_int_int.calls (some ⟨w.heap.size, 0, none⟩) 3 [x, l3, y] r _ (three_C (A := A0) (B := A3) (C := A2) (a := c0) (b := c3) (c := c0 - a2.toNat) (g := w.heap.size) ?hb ?hx HCA.out ?hy HC3.out ?hz HCB.out) (Nat.le_refl _) H.out).mono ?_
    case hb => exact heap_alloc_new w _
    case hx => exact Kd.C_drew (Kd.C_alloc HA.out _)
    case hy => exact Kd.C_drew (Kd.C_alloc HR3.out _)
    case hz => exact Kd.C_drew (Kd.C_alloc HB.out _)
    rintro e w1 ⟨v1, rfl, ho, hb⟩
    have HO := Aside0.mk (Kd.R_lower (base' := w.heap.size) ho (by simp))
    have HB1 : Aside0 (Below w.heap.size w w1) := ⟨below_step (by repeat (first | (with_reducible first | exact Below.refl _ _ | apply below_alloc | apply pw_below_drewN | apply below_drew1))) hb⟩
    clear ho hb
    go_wp2
    go_ret
    exact ⟨_, rfl, HO.out, HB1.out⟩
end Go.Proofs.Ytoldahmgjenlaaa.Q
