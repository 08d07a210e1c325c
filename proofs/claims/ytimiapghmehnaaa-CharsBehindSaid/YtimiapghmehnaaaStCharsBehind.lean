-- Written by a program of this session, out of the kit's print tool (see NOTES.md: mypr)
import Derived.Test.YtimiapghmehnaaaOpens
import Derived.Test.YtimiapghmehnaaaQx11
namespace Go.Proofs.Ytimiapghmehnaaa.Q
open Go.RowKit Go.Proofs.YtimiapghmehnaaaW.PrintWords
/-- THE ONE PURE STATEMENT of foundrylaw17_CharsBehind. -/
def foundrylaw17_CharsBehind.Pure : Prop := ∀ (l0 : (List S33)) (l1 : (List Int)) (a2 : ByteArray), (fun xs : List S33 => xs.length ≤ maxLen ∧ ∀ x ∈ xs, W33 x) l0 → (fun xs : List Int => xs.length ≤ maxLen ∧ ∀ x ∈ xs, (fun n : Int => (Lit.int .i32 n).wf = true) x) l1 → (fun s : ByteArray => s.size ≤ maxLen) a2 → ∃ k, foundrylaw17_CharsBehind.f k l0 l1 a2 = some true
end Go.Proofs.Ytimiapghmehnaaa.Q
