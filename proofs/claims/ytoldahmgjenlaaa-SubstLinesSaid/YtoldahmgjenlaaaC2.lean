/- Contracts: classes.Put. -/
import Derived.Test.YtoldahmgjenlaaaC1
import Derived.Test.YtoldahmgjenlaaaG2
namespace Go.Proofs.Ytoldahmgjenlaaa.C
open Go.RowKit Go.Proofs.Ytoldahmgjenlaaa.Q Go.Proofs.YtoldahmgjenlaaaW.PrintWords Go.Proofs.YtoldahmgjenlaaaW.PrintLast
set_option linter.unusedVariables false
/-- Glyphs put in the place of others. -/
def putv (l : List Int) (a b : Int) (o : List Int) : List Int := if a < 0 ∨ b < a ∨ (l.length : Int) < b then l else l.take a.toNat ++ (o ++ l.drop b.toNat)
theorem putv_len (l : List Int) (a b : Int) (o : List Int) : (putv l a b o).length ≤ l.length + o.length := by
  unfold putv
  split
  · omega
  · simp only [List.length_append, List.length_take, List.length_drop]; omega
theorem clone_eq {l : List Int} (h : l.length ≤ 1000000000) : slices_Clone_int_int.f l = some l := by
  unfold slices_Clone_int_int.f
  rw [if_pos (by simp; omega), List.nil_append]
theorem put_eq {l o : List Int} (a b : Int) (h : l.length ≤ 1000000000) (h' : o.length ≤ 1000000000) : classes_Put.f l a b o = some (putv l a b o) := by
  unfold classes_Put.f putv
  by_cases c : a < 0 ∨ b < a ∨ (l.length : Int) < b
  · rw [if_pos c, if_pos c, clone_eq h]
  · rw [if_neg c, if_neg c]
    unfold slices_Concat_int_int.f
    rw [if_pos (by simp only [sumLen, List.map_cons, List.map_nil, List.sum_cons, List.sum_nil, List.length_take, List.length_drop]; omega)]
    simp
end Go.Proofs.Ytoldahmgjenlaaa.C
