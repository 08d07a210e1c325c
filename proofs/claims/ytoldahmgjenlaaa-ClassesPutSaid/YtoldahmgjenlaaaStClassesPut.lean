-- Written by a program of this session, out of the kit's print tool (see NOTES.md: mypr)
import Derived.Test.YtoldahmgjenlaaaOpens
import Derived.Test.YtoldahmgjenlaaaQx9
namespace Go.Proofs.Ytoldahmgjenlaaa.Q
open Go.RowKit Go.Proofs.YtoldahmgjenlaaaW.PrintWords
/-- THE ONE PURE STATEMENT of foundrylaw19_ClassesPut. -/
def foundrylaw19_ClassesPut.Pure : Prop := ∀ (l0 : (List Int)) (l1 : (List Int)) (a2_0 : Int) (a2_1 : Int), (fun xs : List Int => xs.length ≤ maxLen ∧ ∀ x ∈ xs, (fun n : Int => (Lit.int .i64 n).wf = true) x) l0 → (fun xs : List Int => xs.length ≤ maxLen ∧ ∀ x ∈ xs, (fun n : Int => (Lit.int .i64 n).wf = true) x) l1 → (fun n : Int => (Lit.int .i64 n).wf = true) a2_0 → (fun n : Int => (Lit.int .i64 n).wf = true) a2_1 → ∃ k, foundrylaw19_ClassesPut.f k l0 l1 a2_0 a2_1 = some true
end Go.Proofs.Ytoldahmgjenlaaa.Q
