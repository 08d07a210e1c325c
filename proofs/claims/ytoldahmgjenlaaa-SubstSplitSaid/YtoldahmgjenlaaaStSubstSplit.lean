-- Written by a program of this session, out of the kit's print tool (see NOTES.md: mypr)
import Derived.Test.YtoldahmgjenlaaaOpens
import Derived.Test.YtoldahmgjenlaaaQx21
namespace Go.Proofs.Ytoldahmgjenlaaa.Q
open Go.RowKit Go.Proofs.YtoldahmgjenlaaaW.PrintWords
/-- THE ONE PURE STATEMENT of foundrylaw20_SubstSplit. -/
def foundrylaw20_SubstSplit.Pure : Prop := ∀ (l0 : (List Int)) (a1_0 : Int) (a1_1 : Int) (a1_2 : Int), (fun xs : List Int => xs.length ≤ maxLen ∧ ∀ x ∈ xs, (fun n : Int => (Lit.int .i64 n).wf = true) x) l0 → (fun n : Int => (Lit.int .u8 n).wf = true) a1_0 → (fun n : Int => (Lit.int .u8 n).wf = true) a1_1 → (fun n : Int => (Lit.int .u8 n).wf = true) a1_2 → ∃ k, foundrylaw20_SubstSplit.f k l0 a1_0 a1_1 a1_2 = some true
end Go.Proofs.Ytoldahmgjenlaaa.Q
