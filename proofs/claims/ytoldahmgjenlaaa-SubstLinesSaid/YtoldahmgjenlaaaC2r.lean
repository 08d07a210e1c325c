/- Contracts: the reference's Put. -/
import Derived.Test.YtoldahmgjenlaaaC1r
import Derived.Test.YtoldahmgjenlaaaC2
import Derived.Test.YtoldahmgjenlaaaQx13
namespace Go.Proofs.Ytoldahmgjenlaaa.C
open Go.RowKit Go.Proofs.Ytoldahmgjenlaaa.Q Go.Proofs.YtoldahmgjenlaaaW.PrintWords Go.Proofs.YtoldahmgjenlaaaW.PrintLast
set_option linter.unusedVariables false
theorem rput_eq {l o : List Int} (a b : Int) (h : l.length ≤ 1000000000) (h' : o.length ≤ 1000000000) : foundryref19_Put.f l a b o = some (putv l a b o) := by
  have hn : ([] : List Int).length + l.length < 17592186044416 := by simp; omega
  unfold foundryref19_Put.f putv
  by_cases c1 : a < 0
  · rw [if_pos c1, if_pos hn, if_pos (.inl c1), List.nil_append]
  by_cases c2 : b < a
  · rw [if_neg c1, if_pos c2, if_pos hn, if_pos (.inr (.inl c2)), List.nil_append]
  by_cases c3 : b > (l.length : Int)
  · rw [if_neg c1, if_neg c2, if_pos c3, if_pos hn, if_pos (.inr (.inr c3)), List.nil_append]
  · have h1 : (l.take a.toNat).length ≤ 1000000000 := by rw [List.length_take]; omega
    have h2 : (l.drop b.toNat).length ≤ 1000000000 := by rw [List.length_drop]; omega
    rw [if_neg c1, if_neg c2, if_neg c3, if_pos (by omega), if_pos (by omega), if_pos (by simp; omega), Option.bind_some, if_pos (by rw [List.nil_append]; omega), Option.bind_some, if_pos (by omega), if_pos (by omega), if_pos (by rw [List.nil_append, List.length_append]; omega), if_neg (by omega)]
    simp
end Go.Proofs.Ytoldahmgjenlaaa.C
