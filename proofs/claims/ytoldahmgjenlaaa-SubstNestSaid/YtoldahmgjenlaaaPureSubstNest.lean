/- SubstNest: contexts within contexts come to the innermost lookup only if fewer than MaxNest are under way: each of the nine depths is reckoned by the kernel. -/
import Derived.Test.YtoldahmgjenlaaaQx25
namespace Go.Proofs.Ytoldahmgjenlaaa.Pure
open Go.RowKit Go.Proofs.Ytoldahmgjenlaaa.Q Go.Proofs.YtoldahmgjenlaaaW.PrintWords Go.Proofs.YtoldahmgjenlaaaW.PrintLast

theorem nest_awake : foundrylaw20_awake.f 90 = some true := by decide +kernel
theorem nest_0 : foundrylaw20_SubstNest.l0 90 0 [] 0 = some true := by decide +kernel
theorem nest_1 : foundrylaw20_SubstNest.l0 90 1 [] 0 = some true := by decide +kernel
theorem nest_2 : foundrylaw20_SubstNest.l0 90 2 [] 0 = some true := by decide +kernel
theorem nest_3 : foundrylaw20_SubstNest.l0 90 3 [] 0 = some true := by decide +kernel
theorem nest_4 : foundrylaw20_SubstNest.l0 90 4 [] 0 = some true := by decide +kernel
theorem nest_5 : foundrylaw20_SubstNest.l0 90 5 [] 0 = some true := by decide +kernel
theorem nest_6 : foundrylaw20_SubstNest.l0 90 6 [] 0 = some true := by decide +kernel
theorem nest_7 : foundrylaw20_SubstNest.l0 90 7 [] 0 = some true := by decide +kernel
theorem nest_8 : foundrylaw20_SubstNest.l0 90 8 [] 0 = some true := by decide +kernel
theorem SubstNest : foundrylaw20_SubstNest.Pure := by
  intro a ha
  have h0 : 0 ≤ a ∧ a ≤ 255 := by
    simp only [Lit.wf, IntKind.min, IntKind.max, IntKind.signed, IntKind.bits] at ha
    simpa using ha
  refine ⟨90, ?_⟩
  unfold foundrylaw20_SubstNest.f
  rw [nest_awake, Option.bind_some, if_pos rfl]
  have hw : wrap64 (Int.tmod a 9) = a % 9 := by rw [Int.tmod_eq_emod_of_nonneg h0.1]; unfold wrap64; omega
  rw [hw]
  have h9 : a % 9 = 0 ∨ a % 9 = 1 ∨ a % 9 = 2 ∨ a % 9 = 3 ∨ a % 9 = 4 ∨ a % 9 = 5 ∨ a % 9 = 6 ∨ a % 9 = 7 ∨ a % 9 = 8 := by omega
  rcases h9 with h | h | h | h | h | h | h | h | h <;> rw [h]
  · exact nest_0
  · exact nest_1
  · exact nest_2
  · exact nest_3
  · exact nest_4
  · exact nest_5
  · exact nest_6
  · exact nest_7
  · exact nest_8
end Go.Proofs.Ytoldahmgjenlaaa.Pure
