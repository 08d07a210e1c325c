-- Written by a program of this session, out of the kit's print tool (see NOTES.md: mypr)
import Derived.Test.YtoldahmgjenlaaaOpens
import Derived.Test.YtoldahmgjenlaaaQx5
namespace Go.Proofs.Ytoldahmgjenlaaa.Q
open Go.RowKit Go.Proofs.YtoldahmgjenlaaaW.PrintWords
/-- THE ONE PURE STATEMENT of foundrylaw19_ClassesBack. -/
def foundrylaw19_ClassesBack.Pure : Prop := ∀ (l0_0 : (List Int)) (l0_1 : (List Bool)) (a1 : Int), (fun xs : List Int => xs.length ≤ maxLen ∧ ∀ x ∈ xs, (fun n : Int => (Lit.int .i64 n).wf = true) x) l0_0 → (fun xs : List Bool => xs.length ≤ maxLen ∧ ∀ x ∈ xs, (fun _ : Bool => True) x) l0_1 → (fun n : Int => (Lit.int .i64 n).wf = true) a1 → ∃ k, foundrylaw19_ClassesBack.f k l0_0 l0_1 a1 = some true
end Go.Proofs.Ytoldahmgjenlaaa.Q
