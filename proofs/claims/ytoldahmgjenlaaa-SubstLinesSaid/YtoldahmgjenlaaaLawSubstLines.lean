-- Written by a program of this session, out of the kit's print tool (see NOTES.md: mypr)
import Derived.Test.YtoldahmgjenlaaaRows
import Derived.Test.YtoldahmgjenlaaaQx33
import Derived.Test.YtoldahmgjenlaaaOpens
import Derived.Test.YtoldahmgjenlaaaPureSubstLines
import Derived.WalkKit
import Derived.ProofKit
import Derived.OpenShut
import Derived.ShutString
import Derived.ChangeOld
import Derived.Below
import Derived.SizedLaws
namespace Go.Proofs.Ytoldahmgjenlaaa.substLines
open Go.ChangeShapes Go.WideShapes Go.ChangeAt Go.RowKit Go.Proofs.YtoldahmgjenlaaaW.PrintWords Go.Proofs.Ytoldahmgjenlaaa.Op Go.Proofs.Ytoldahmgjenlaaa.Q
open Go.ChangeMaps (open_string shut_string)
set_option linter.unusedVariables false
theorem own : ownKnob Try.prog.godebug = none := by kernel_rfl
theorem laidOut : laidOutB Try.prog = true := by kernel_rfl
set_option maxRecDepth 100000 in
theorem lifted (os : Os) (started : os.Started) (H : Type) (enc : TypeId × Value → H) :
    ReturnsInHanded {} Try.checked os 13 .any (Rows.substLinesSpec.pre6 enc Try.prog Try.f13 Rows.substLinesRow.domain false) (Rows.substLinesSpec.post enc Try.prog Try.f13 false true false false) := by
  refine returnsInHanded_of_change_sized (C := Try.checked) own started (by kernel_rfl) Try.func13
    (ChangeSpec.witness6 (enc := enc) (C := Try.checked) false ⟨#[], #[.slice none 0 0, .slice none 0 0, .agg #[.slice none 0 0, .slice none 0 0]], []⟩ 8 (by kernel_rfl) (by kernel_rfl) (by kernel_rfl) (by kernel_rfl)) ?_
  intro W base args ds gs before hval0 hW hcnd hsz0 _
  have hval : ∀ (j : Nat) t v, Try.f13.params[j]? = some t → args[j]? = some v → Value.okWide Try.prog W .any base t v := hval0
  have hW' := hW
  obtain ⟨p, q, hA0, hV, rfl, hfz, hnd⟩ := hW
  have hA : DataW.TrodAll enc Try.prog W 0 (fun _ => true) true Try.f13.params.toList args.toList ds p := hA0
  rw [Try.params13] at hA hval
  obtain ⟨v0, vs0, d0, ds0, p0, q0, hargs, rfl, rfl, h0, r0⟩ := trodAll_cons hA
  obtain ⟨v1, vs1, d1, ds1, p1, q1, rfl, rfl, rfl, h1, r1⟩ := trodAll_cons r0
  obtain ⟨v2, vs2, d2, ds2, p2, q2, rfl, rfl, rfl, h2, r2⟩ := trodAll_cons r1
  obtain ⟨rfl, rfl, rfl⟩ := trodAll_nil r2
  obtain rfl : args = #[v0, v1, v2] := by cases args; simp_all
  obtain ⟨rfl, rfl⟩ := trodVars_none hV
  obtain ⟨a0, len0, cap0, rfl⟩ := okWide_slice Try.underlying47 (hval 0 47 v0 rfl rfl)
  have k0 := h0
  have lt0 : ∀ x ∈ p0, x.block < W.heap.size := by obtain ⟨m, hm⟩ := k0; exact DataW.trod_lt m _ _ _ hm
  obtain ⟨l0, rfl, hl0, hC0, hW0⟩ := arg_slice h0 (d := k46) (opens_slice Try.underlying47 (by kernel_rfl) opens46)
  obtain ⟨a1, len1, cap1, rfl⟩ := okWide_slice Try.underlying22 (hval 1 22 v1 rfl rfl)
  have k1 := h1
  have lt1 : ∀ x ∈ p1, x.block < W.heap.size := by obtain ⟨m, hm⟩ := k1; exact DataW.trod_lt m _ _ _ hm
  obtain ⟨l1, rfl, hl1, hC1, hW1⟩ := arg_slice h1 (d := (Kd.int .i64)) (opens_slice Try.underlying22 (by kernel_rfl) (opens_int Try.underlying3))
  obtain ⟨cs2, rfl⟩ := okWide_agg Try.underlying56 (hval 2 56 v2 rfl rfl)
  have k2 := h2
  have lt2 : ∀ x ∈ p2, x.block < W.heap.size := by obtain ⟨m, hm⟩ := k2; exact DataW.trod_lt m _ _ _ hm
  obtain ⟨x2, hK2, hW2⟩ := arg_agg h2 (d := (Kd.pair (Kd.slice 3 (Kd.int .i64)) (Kd.slice 4 Kd.bool))) opens56
  obtain ⟨_, _, e2_0, ⟨A2_0, c2_0, rfl, hl2_0, hC2_0⟩, ⟨A2_1, c2_1, rfl, hl2_1, hC2_1⟩⟩ := hK2
  obtain rfl : cs2 = #[.slice A2_0 x2.1.length c2_0, .slice A2_1 x2.2.length c2_1] := by cases cs2; simpa using e2_0
  clear hA0 hval0 hsz0
  obtain ⟨k, h⟩ := Pure.SubstLines l0 l1 x2.1 x2.2 hW0 hW1 (by first | exact hW2.1 | exact hW2) (by first | exact hW2.2 | exact hW2.2)
  refine (foundrylaw20_SubstLines.calls k _ _ l0 _ _ l1 _ _ x2.1 _ _ x2.2 true W hC0 hl0 hC1 hl1 hC2_0 hl2_0 hC2_1 hl2_1 h).mono fun e W' ⟨he, bel0⟩ => ?_
  have bel := bel0
  subst he
  exact ⟨_, rfl, _, _, _, [], _, [], hW', trodAll_mk1 (shut_bool Try.underlying4 _), (trodAll_cons_mk (Below.trod laidOut (by kernel_rfl) (of_decide_eq_true (by kernel_rfl)) k0 bel lt0) (trodAll_cons_mk (Below.trod laidOut (by kernel_rfl) (of_decide_eq_true (by kernel_rfl)) k1 bel lt1) (trodAll_cons_mk (Below.trod laidOut (by kernel_rfl) (of_decide_eq_true (by kernel_rfl)) k2 bel lt2) trodAll_mk0))), rfl, bel.frame _, fun h => by cases h⟩
theorem over : Rows.substLinesRow.holds Try.pinned (OpenSpec.ofChange Rows.substLinesSpec) :=
  OpenClaim.holds_of_wide 13 Try.f13 rfl rfl rfl rfl rfl rfl rfl ⟨rfl, rfl, rfl, rfl, rfl⟩ rfl rfl rfl rfl rfl (by kernel_rfl) Try.func13 (by kernel_rfl)
    (of_decide_eq_true (by kernel_rfl)) (by unfold Func.isWrapper; first | (rw [if_pos (by decide +kernel)]; kernel_rfl) | (rw [if_neg (by decide +kernel)]; exact ⟨rfl, rfl⟩))
    (fun os started H enc _ => lifted os started H enc)
theorem proved : Rows.SubstLinesSaid := over
#print axioms proved
end Go.Proofs.Ytoldahmgjenlaaa.substLines
namespace Go.Proofs.Ytoldahmgjenlaaa
/-- The row, under a short name, for the claim. -/
theorem substLines_holds : Rows.SubstLinesSaid := substLines.proved
end Go.Proofs.Ytoldahmgjenlaaa
