-- Written by a program of this session, out of the kit's print tool (see NOTES.md: mypr)
import Derived.Test.YtoldahmgjenlaaaOpens
import Derived.Test.YtoldahmgjenlaaaQx24
namespace Go.Proofs.Ytoldahmgjenlaaa.Q
open Go.RowKit Go.Proofs.YtoldahmgjenlaaaW.PrintWords
/-- THE ONE PURE STATEMENT of foundrylaw20_SubstSingle. -/
def foundrylaw20_SubstSingle.Pure : Prop := ∀ (l0_0 : (List Int)) (l0_1 : (List Bool)) (a1_0 : Int) (a1_1 : Int) (a2 : Bool), (fun xs : List Int => xs.length ≤ maxLen ∧ ∀ x ∈ xs, (fun n : Int => (Lit.int .i64 n).wf = true) x) l0_0 → (fun xs : List Bool => xs.length ≤ maxLen ∧ ∀ x ∈ xs, (fun _ : Bool => True) x) l0_1 → (fun n : Int => (Lit.int .u8 n).wf = true) a1_0 → (fun n : Int => (Lit.int .u8 n).wf = true) a1_1 → ∃ k, foundrylaw20_SubstSingle.f k l0_0 l0_1 a1_0 a1_1 a2 = some true
end Go.Proofs.Ytoldahmgjenlaaa.Q
