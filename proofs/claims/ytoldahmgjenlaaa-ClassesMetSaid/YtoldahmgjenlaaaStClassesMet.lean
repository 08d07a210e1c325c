-- Written by a program of this session, out of the kit's print tool (see NOTES.md: mypr)
import Derived.Test.YtoldahmgjenlaaaOpens
import Derived.Test.YtoldahmgjenlaaaQx8
namespace Go.Proofs.Ytoldahmgjenlaaa.Q
open Go.RowKit Go.Proofs.YtoldahmgjenlaaaW.PrintWords
/-- THE ONE PURE STATEMENT of foundrylaw19_ClassesMet. -/
def foundrylaw19_ClassesMet.Pure : Prop := ∀ (l0_0 : (List Int)) (l0_1 : (List Bool)) (a1 : Int) (l2_0 : (List Int)) (a2_1 : Bool), (fun xs : List Int => xs.length ≤ maxLen ∧ ∀ x ∈ xs, (fun n : Int => (Lit.int .i64 n).wf = true) x) l0_0 → (fun xs : List Bool => xs.length ≤ maxLen ∧ ∀ x ∈ xs, (fun _ : Bool => True) x) l0_1 → (fun n : Int => (Lit.int .i64 n).wf = true) a1 → (fun xs : List Int => xs.length ≤ maxLen ∧ ∀ x ∈ xs, (fun n : Int => (Lit.int .i64 n).wf = true) x) l2_0 → ∃ k, foundrylaw19_ClassesMet.f k l0_0 l0_1 a1 l2_0 a2_1 = some true
end Go.Proofs.Ytoldahmgjenlaaa.Q
