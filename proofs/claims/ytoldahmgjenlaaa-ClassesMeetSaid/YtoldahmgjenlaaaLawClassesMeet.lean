-- Written by a program of this session, out of the kit's print tool (see NOTES.md: mypr)
import Derived.Test.YtoldahmgjenlaaaRows
import Derived.Test.YtoldahmgjenlaaaQx7
import Derived.Test.YtoldahmgjenlaaaOpens
import Derived.Test.YtoldahmgjenlaaaPureClassesMeet
import Derived.WalkKit
import Derived.ProofKit
import Derived.OpenShut
import Derived.ShutString
import Derived.ChangeOld
import Derived.Below
import Derived.SizedLaws
namespace Go.Proofs.Ytoldahmgjenlaaa.classesMeet
open Go.ChangeShapes Go.WideShapes Go.ChangeAt Go.RowKit Go.Proofs.YtoldahmgjenlaaaW.PrintWords Go.Proofs.Ytoldahmgjenlaaa.Op Go.Proofs.Ytoldahmgjenlaaa.Q
open Go.ChangeMaps (open_string shut_string)
set_option linter.unusedVariables false
theorem own : ownKnob Try.prog.godebug = none := by kernel_rfl
theorem laidOut : laidOutB Try.prog = true := by kernel_rfl
set_option maxRecDepth 100000 in
theorem lifted (os : Os) (started : os.Started) (H : Type) (enc : TypeId × Value → H) :
    ReturnsInHanded {} Try.checked os 5 .any (Rows.classesMeetSpec.pre6 enc Try.prog Try.f5 Rows.classesMeetRow.domain false) (Rows.classesMeetSpec.post enc Try.prog Try.f5 false true false false) := by
  refine returnsInHanded_of_change_sized (C := Try.checked) own started (by kernel_rfl) Try.func5
    (ChangeSpec.witness6 (enc := enc) (C := Try.checked) false ⟨#[], #[.agg #[.slice none 0 0, .slice none 0 0], .int .i64 0, .agg #[.slice none 0 0, .bool false]], []⟩ 8 (by kernel_rfl) (by kernel_rfl) (by kernel_rfl) (by kernel_rfl)) ?_
  intro W base args ds gs before hval0 hW hcnd hsz0 _
  have hval : ∀ (j : Nat) t v, Try.f5.params[j]? = some t → args[j]? = some v → Value.okWide Try.prog W .any base t v := hval0
  have hW' := hW
  obtain ⟨p, q, hA0, hV, rfl, hfz, hnd⟩ := hW
  have hA : DataW.TrodAll enc Try.prog W 0 (fun _ => true) true Try.f5.params.toList args.toList ds p := hA0
  rw [Try.params5] at hA hval
  obtain ⟨v0, vs0, d0, ds0, p0, q0, hargs, rfl, rfl, h0, r0⟩ := trodAll_cons hA
  obtain ⟨v1, vs1, d1, ds1, p1, q1, rfl, rfl, rfl, h1, r1⟩ := trodAll_cons r0
  obtain ⟨v2, vs2, d2, ds2, p2, q2, rfl, rfl, rfl, h2, r2⟩ := trodAll_cons r1
  obtain ⟨rfl, rfl, rfl⟩ := trodAll_nil r2
  obtain rfl : args = #[v0, v1, v2] := by cases args; simp_all
  obtain ⟨rfl, rfl⟩ := trodVars_none hV
  obtain ⟨cs0, rfl⟩ := okWide_agg Try.underlying25 (hval 0 25 v0 rfl rfl)
  have k0 := h0
  have lt0 : ∀ x ∈ p0, x.block < W.heap.size := by obtain ⟨m, hm⟩ := k0; exact DataW.trod_lt m _ _ _ hm
  obtain ⟨x0, hK0, hW0⟩ := arg_agg h0 (d := (Kd.pair (Kd.slice 3 (Kd.int .i64)) (Kd.slice 4 Kd.bool))) opens25
  obtain ⟨_, _, e0_0, ⟨A0_0, c0_0, rfl, hl0_0, hC0_0⟩, ⟨A0_1, c0_1, rfl, hl0_1, hC0_1⟩⟩ := hK0
  obtain rfl : cs0 = #[.slice A0_0 x0.1.length c0_0, .slice A0_1 x0.2.length c0_1] := by cases cs0; simpa using e0_0
  obtain ⟨a1, rfl, rfl, rfl, w1⟩ := open_int Try.underlying3 (hval 1 3 v1 rfl rfl) h1
  obtain ⟨cs2, rfl⟩ := okWide_agg Try.underlying34 (hval 2 34 v2 rfl rfl)
  have k2 := h2
  have lt2 : ∀ x ∈ p2, x.block < W.heap.size := by obtain ⟨m, hm⟩ := k2; exact DataW.trod_lt m _ _ _ hm
  obtain ⟨x2, hK2, hW2⟩ := arg_agg h2 (d := (Kd.pair (Kd.slice 3 (Kd.int .i64)) Kd.bool)) opens34
  obtain ⟨_, _, e2_0, ⟨A2_0, c2_0, rfl, hl2_0, hC2_0⟩, rfl⟩ := hK2
  obtain rfl : cs2 = #[.slice A2_0 x2.1.length c2_0, .bool x2.2] := by cases cs2; simpa using e2_0
  clear hA0 hval0 hsz0
  obtain ⟨k, h⟩ := Pure.ClassesMeet x0.1 x0.2 a1 x2.1 x2.2 (by first | exact hW0.1 | exact hW0) (by first | exact hW0.2 | exact hW0.2) w1 (by first | exact hW2.1 | exact hW2)
  refine (foundrylaw19_ClassesMeet.calls k _ _ x0.1 _ _ x0.2 a1 _ _ x2.1 x2.2 true W hC0_0 hl0_0 hC0_1 hl0_1 hC2_0 hl2_0 h).mono fun e W' ⟨he, bel0⟩ => ?_
  have bel := bel0
  subst he
  exact ⟨_, rfl, _, _, _, [], _, [], hW', trodAll_mk1 (shut_bool Try.underlying4 _), (trodAll_cons_mk (Below.trod laidOut (by kernel_rfl) (of_decide_eq_true (by kernel_rfl)) k0 bel lt0) (trodAll_cons_mk (shut_int Try.underlying3 w1) (trodAll_cons_mk (Below.trod laidOut (by kernel_rfl) (of_decide_eq_true (by kernel_rfl)) k2 bel lt2) trodAll_mk0))), rfl, bel.frame _, fun h => by cases h⟩
theorem over : Rows.classesMeetRow.holds Try.pinned (OpenSpec.ofChange Rows.classesMeetSpec) :=
  OpenClaim.holds_of_wide 5 Try.f5 rfl rfl rfl rfl rfl rfl rfl ⟨rfl, rfl, rfl, rfl, rfl⟩ rfl rfl rfl rfl rfl (by kernel_rfl) Try.func5 (by kernel_rfl)
    (of_decide_eq_true (by kernel_rfl)) (by unfold Func.isWrapper; first | (rw [if_pos (by decide +kernel)]; kernel_rfl) | (rw [if_neg (by decide +kernel)]; exact ⟨rfl, rfl⟩))
    (fun os started H enc _ => lifted os started H enc)
theorem proved : Rows.ClassesMeetSaid := over
#print axioms proved
end Go.Proofs.Ytoldahmgjenlaaa.classesMeet
namespace Go.Proofs.Ytoldahmgjenlaaa
/-- The row, under a short name, for the claim. -/
theorem classesMeet_holds : Rows.ClassesMeetSaid := classesMeet.proved
end Go.Proofs.Ytoldahmgjenlaaa
