-- Written by a program of this session, out of the kit's print tool (see NOTES.md: mypr)
import Derived.Test.YtoldahmgjenlaaaRows
import Derived.Test.YtoldahmgjenlaaaQx24
import Derived.Test.YtoldahmgjenlaaaQx24c
import Derived.Test.YtoldahmgjenlaaaOpens
import Derived.Test.YtoldahmgjenlaaaPureSubstSingle
import Derived.WalkKit
import Derived.ProofKit
import Derived.OpenShut
import Derived.ShutString
import Derived.ChangeOld
import Derived.Below
import Derived.SizedLaws
namespace Go.Proofs.Ytoldahmgjenlaaa.substSingle
open Go.ChangeShapes Go.WideShapes Go.ChangeAt Go.RowKit Go.Proofs.YtoldahmgjenlaaaW.PrintWords Go.Proofs.Ytoldahmgjenlaaa.Op Go.Proofs.Ytoldahmgjenlaaa.Q
open Go.ChangeMaps (open_string shut_string)
set_option linter.unusedVariables false
theorem own : ownKnob Try.prog.godebug = none := by kernel_rfl
theorem laidOut : laidOutB Try.prog = true := by kernel_rfl
set_option maxRecDepth 100000 in
theorem lifted (os : Os) (started : os.Started) (H : Type) (enc : TypeId × Value → H) :
    ReturnsInHanded {} Try.checked os 10 .any (Rows.substSingleSpec.pre6 enc Try.prog Try.f10 Rows.substSingleRow.domain false) (Rows.substSingleSpec.post enc Try.prog Try.f10 false true false false) := by
  refine returnsInHanded_of_change_sized (C := Try.checked) own started (by kernel_rfl) Try.func10
    (ChangeSpec.witness6 (enc := enc) (C := Try.checked) false ⟨#[], #[.agg #[.slice none 0 0, .slice none 0 0], .agg #[.int .u8 0, .int .u8 0], .bool false], []⟩ 8 (by kernel_rfl) (by kernel_rfl) (by kernel_rfl) (by kernel_rfl)) ?_
  intro W base args ds gs before hval0 hW hcnd hsz0 _
  have hval : ∀ (j : Nat) t v, Try.f10.params[j]? = some t → args[j]? = some v → Value.okWide Try.prog W .any base t v := hval0
  have hW' := hW
  obtain ⟨p, q, hA0, hV, rfl, hfz, hnd⟩ := hW
  have hA : DataW.TrodAll enc Try.prog W 0 (fun _ => true) true Try.f10.params.toList args.toList ds p := hA0
  rw [Try.params10] at hA hval
  obtain ⟨v0, vs0, d0, ds0, p0, q0, hargs, rfl, rfl, h0, r0⟩ := trodAll_cons hA
  obtain ⟨v1, vs1, d1, ds1, p1, q1, rfl, rfl, rfl, h1, r1⟩ := trodAll_cons r0
  obtain ⟨v2, vs2, d2, ds2, p2, q2, rfl, rfl, rfl, h2, r2⟩ := trodAll_cons r1
  obtain ⟨rfl, rfl, rfl⟩ := trodAll_nil r2
  obtain rfl : args = #[v0, v1, v2] := by cases args; simp_all
  obtain ⟨rfl, rfl⟩ := trodVars_none hV
  obtain ⟨cs0, rfl⟩ := okWide_agg Try.underlying56 (hval 0 56 v0 rfl rfl)
  have k0 := h0
  have lt0 : ∀ x ∈ p0, x.block < W.heap.size := by obtain ⟨m, hm⟩ := k0; exact DataW.trod_lt m _ _ _ hm
  obtain ⟨x0, hK0, hW0⟩ := arg_agg h0 (d := (Kd.pair (Kd.slice 3 (Kd.int .i64)) (Kd.slice 4 Kd.bool))) opens56
  obtain ⟨_, _, e0_0, ⟨A0_0, c0_0, rfl, hl0_0, hC0_0⟩, ⟨A0_1, c0_1, rfl, hl0_1, hC0_1⟩⟩ := hK0
  obtain rfl : cs0 = #[.slice A0_0 x0.1.length c0_0, .slice A0_1 x0.2.length c0_1] := by cases cs0; simpa using e0_0
  obtain ⟨cs1, rfl⟩ := okWide_arr Try.underlying60 (hval 1 60 v1 rfl rfl)
  have k1 := h1
  have lt1 : ∀ x ∈ p1, x.block < W.heap.size := by obtain ⟨m, hm⟩ := k1; exact DataW.trod_lt m _ _ _ hm
  obtain ⟨x1, hK1, hW1⟩ := arg_agg h1 (d := (Kd.pair (Kd.int .u8) (Kd.int .u8))) opens60
  obtain ⟨_, _, e1_0, rfl, rfl⟩ := hK1
  obtain rfl : cs1 = #[.int .u8 x1.1, .int .u8 x1.2] := by cases cs1; simpa using e1_0
  obtain ⟨a2, rfl, rfl, rfl⟩ := open_bool Try.underlying4 (hval 2 4 v2 rfl rfl) h2
  clear hA0 hval0 hsz0
  obtain ⟨k, h⟩ := Pure.SubstSingle x0.1 x0.2 x1.1 x1.2 a2 (by first | exact hW0.1 | exact hW0) (by first | exact hW0.2 | exact hW0.2) (by first | exact hW1.1 | exact hW1) (by first | exact hW1.2 | exact hW1.2)
  refine (foundrylaw20_SubstSingle.calls k _ _ x0.1 _ _ x0.2 x1.1 x1.2 a2 true W hC0_0 hl0_0 hC0_1 hl0_1 h).mono fun e W' ⟨he, bel0⟩ => ?_
  have bel := bel0
  subst he
  exact ⟨_, rfl, _, _, _, [], _, [], hW', trodAll_mk1 (shut_bool Try.underlying4 _), (trodAll_cons_mk (Below.trod laidOut (by kernel_rfl) (of_decide_eq_true (by kernel_rfl)) k0 bel lt0) (trodAll_cons_mk (Below.trod laidOut (by kernel_rfl) (of_decide_eq_true (by kernel_rfl)) k1 bel lt1) (trodAll_cons_mk (shut_bool Try.underlying4 _) trodAll_mk0))), rfl, bel.frame _, fun h => by cases h⟩
theorem over : Rows.substSingleRow.holds Try.pinned (OpenSpec.ofChange Rows.substSingleSpec) :=
  OpenClaim.holds_of_wide 10 Try.f10 rfl rfl rfl rfl rfl rfl rfl ⟨rfl, rfl, rfl, rfl, rfl⟩ rfl rfl rfl rfl rfl (by kernel_rfl) Try.func10 (by kernel_rfl)
    (of_decide_eq_true (by kernel_rfl)) (by unfold Func.isWrapper; first | (rw [if_pos (by decide +kernel)]; kernel_rfl) | (rw [if_neg (by decide +kernel)]; exact ⟨rfl, rfl⟩))
    (fun os started H enc _ => lifted os started H enc)
theorem proved : Rows.SubstSingleSaid := over
#print axioms proved
end Go.Proofs.Ytoldahmgjenlaaa.substSingle
namespace Go.Proofs.Ytoldahmgjenlaaa
/-- The row, under a short name, for the claim. -/
theorem substSingle_holds : Rows.SubstSingleSaid := substSingle.proved
end Go.Proofs.Ytoldahmgjenlaaa
