-- Written by a program of this session, out of the kit's print tool (see NOTES.md: mypr)
import Derived.Test.YtoldahmgjenlaaaOpens
import Derived.Test.YtoldahmgjenlaaaQx33
namespace Go.Proofs.Ytoldahmgjenlaaa.Q
open Go.RowKit Go.Proofs.YtoldahmgjenlaaaW.PrintWords
/-- THE ONE PURE STATEMENT of foundrylaw20_SubstLines. -/
def foundrylaw20_SubstLines.Pure : Prop := ∀ (l0 : (List S46)) (l1 : (List Int)) (l2_0 : (List Int)) (l2_1 : (List Bool)), (fun xs : List S46 => xs.length ≤ maxLen ∧ ∀ x ∈ xs, W46 x) l0 → (fun xs : List Int => xs.length ≤ maxLen ∧ ∀ x ∈ xs, (fun n : Int => (Lit.int .i64 n).wf = true) x) l1 → (fun xs : List Int => xs.length ≤ maxLen ∧ ∀ x ∈ xs, (fun n : Int => (Lit.int .i64 n).wf = true) x) l2_0 → (fun xs : List Bool => xs.length ≤ maxLen ∧ ∀ x ∈ xs, (fun _ : Bool => True) x) l2_1 → ∃ k, foundrylaw20_SubstLines.f k l0 l1 l2_0 l2_1 = some true
end Go.Proofs.Ytoldahmgjenlaaa.Q
