-- Written by a program of this session, out of the kit's print tool (see NOTES.md: mypr)
import Derived.Test.YtimiapghmehnaaaOpens
import Derived.Test.YtimiapghmehnaaaQx10
namespace Go.Proofs.Ytimiapghmehnaaa.Q
open Go.RowKit Go.Proofs.YtimiapghmehnaaaW.PrintWords
/-- THE ONE PURE STATEMENT of foundrylaw17_CharsMap. -/
def foundrylaw17_CharsMap.Pure : Prop := ∀ (l0 : (List S33)) (a1 : ByteArray) (a2 : Int), (fun xs : List S33 => xs.length ≤ maxLen ∧ ∀ x ∈ xs, W33 x) l0 → (fun s : ByteArray => s.size ≤ maxLen) a1 → (fun n : Int => (Lit.int .i64 n).wf = true) a2 → ∃ k, foundrylaw17_CharsMap.f k l0 a1 a2 = some true
end Go.Proofs.Ytimiapghmehnaaa.Q
