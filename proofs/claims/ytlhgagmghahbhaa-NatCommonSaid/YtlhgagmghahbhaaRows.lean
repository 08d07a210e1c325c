/-
  No cell of these rows narrows 'for every input' (looked for: loops, veiled, ifaces, maps, wideKeys, modest, calm, conditions, laid).
  DERIVED. THE GIVEN ROWS OF THIS SEAT. 11 by the template 'for every input the law returns true; each argument reads behind the call as it read before'; 0 by the template 'total and deterministic' (their statements: YtlhgagmghahbhaaTotals.lean).
  GIVEN WITH THE SEED: the statements are not yours to turn. If you find one false, say at which input.
  Laid BY PROGRAM, IN A SANDBOX (cutbox-rows.mjs): the forced cells as the released guide's own fill.sh prints them over the translation a4940d53b016ab10… (all of the seat's roots in one cut). By AI agents, Wed Nov 11 2026. No macro, syntax, notation, axiom, sorry.
-/
import Derived.Test.YtlhgagmghahbhaaChecked
import GoSem.Claim
import GoSem.ClaimJoined
import GoSem.ClaimMapViews
import Derived.JoinedTies
import Derived.KernelRfl
namespace Go.Proofs.Ytlhgagmghahbhaa
/- THE CELL 'sum', in the pinned program and in every row, IS THE sha256 OF THE DUMP (.gsa) THAT YtlhgagmghahbhaaProg.lean LOADS. Nothing in Lean hashes anything: it is a label: what it is worth is what the hold of that sum in a sandbox is worth. -/
noncomputable def Try.pinned : Pinned := { name := "ytlhgagmghahbhaa", sum := "a4940d53b016ab10e5835149059ed0b3c0184abd5f2d9611883be5dcf207a12d", checked := Try.checked }
namespace Rows
def none {H : Type} : Left H := { results := [], args := [] }

/-- 'foundrylaw01.NatCompares': WHATEVER THE INPUT: true; the input reads as it did. -/
def natComparesSpec : ChangeSpec := { name := "natCompares", fn := fun _ => fun
  | [d1, d2] => { results := [.lit (.bool true)], args := [d1, d2] }
  | _ => none }
def natComparesRow : OpenClaim := { program := "ytlhgagmghahbhaa", sum := "a4940d53b016ab10e5835149059ed0b3c0184abd5f2d9611883be5dcf207a12d", func := "foundry/foundrylaw01.NatCompares", spec := "natCompares", apart := false }
def NatComparesSaid : Prop := natComparesRow.holds Try.pinned (OpenSpec.ofChange natComparesSpec)

/-- ITS FALSE NEIGHBOUR: 'it returns false'. Refute it at one input. -/
def natComparesWrong : ChangeSpec := { name := "natCompares", fn := fun _ => fun
  | [d1, d2] => { results := [.lit (.bool false)], args := [d1, d2] }
  | _ => none }
def NatComparesWrongFalsely : Prop := natComparesRow.holds Try.pinned (OpenSpec.ofChange natComparesWrong)

/-- 'foundrylaw01.NatValues': WHATEVER THE INPUT: true; the input reads as it did. -/
def natValuesSpec : ChangeSpec := { name := "natValues", fn := fun _ => fun
  | [d1, d2] => { results := [.lit (.bool true)], args := [d1, d2] }
  | _ => none }
def natValuesRow : OpenClaim := { program := "ytlhgagmghahbhaa", sum := "a4940d53b016ab10e5835149059ed0b3c0184abd5f2d9611883be5dcf207a12d", func := "foundry/foundrylaw01.NatValues", spec := "natValues", apart := false }
def NatValuesSaid : Prop := natValuesRow.holds Try.pinned (OpenSpec.ofChange natValuesSpec)

/-- ITS FALSE NEIGHBOUR: 'it returns false'. Refute it at one input. -/
def natValuesWrong : ChangeSpec := { name := "natValues", fn := fun _ => fun
  | [d1, d2] => { results := [.lit (.bool false)], args := [d1, d2] }
  | _ => none }
def NatValuesWrongFalsely : Prop := natValuesRow.holds Try.pinned (OpenSpec.ofChange natValuesWrong)

/-- 'foundrylaw01.NatMultiplies': WHATEVER THE INPUT: true; the input reads as it did. -/
def natMultipliesSpec : ChangeSpec := { name := "natMultiplies", fn := fun _ => fun
  | [d1, d2] => { results := [.lit (.bool true)], args := [d1, d2] }
  | _ => none }
def natMultipliesRow : OpenClaim := { program := "ytlhgagmghahbhaa", sum := "a4940d53b016ab10e5835149059ed0b3c0184abd5f2d9611883be5dcf207a12d", func := "foundry/foundrylaw01.NatMultiplies", spec := "natMultiplies", apart := false }
def NatMultipliesSaid : Prop := natMultipliesRow.holds Try.pinned (OpenSpec.ofChange natMultipliesSpec)

/-- ITS FALSE NEIGHBOUR: 'it returns false'. Refute it at one input. -/
def natMultipliesWrong : ChangeSpec := { name := "natMultiplies", fn := fun _ => fun
  | [d1, d2] => { results := [.lit (.bool false)], args := [d1, d2] }
  | _ => none }
def NatMultipliesWrongFalsely : Prop := natMultipliesRow.holds Try.pinned (OpenSpec.ofChange natMultipliesWrong)

/-- 'foundrylaw01.NatAdds': WHATEVER THE INPUT: true; the input reads as it did. -/
def natAddsSpec : ChangeSpec := { name := "natAdds", fn := fun _ => fun
  | [d1, d2] => { results := [.lit (.bool true)], args := [d1, d2] }
  | _ => none }
def natAddsRow : OpenClaim := { program := "ytlhgagmghahbhaa", sum := "a4940d53b016ab10e5835149059ed0b3c0184abd5f2d9611883be5dcf207a12d", func := "foundry/foundrylaw01.NatAdds", spec := "natAdds", apart := false }
def NatAddsSaid : Prop := natAddsRow.holds Try.pinned (OpenSpec.ofChange natAddsSpec)

/-- ITS FALSE NEIGHBOUR: 'it returns false'. Refute it at one input. -/
def natAddsWrong : ChangeSpec := { name := "natAdds", fn := fun _ => fun
  | [d1, d2] => { results := [.lit (.bool false)], args := [d1, d2] }
  | _ => none }
def NatAddsWrongFalsely : Prop := natAddsRow.holds Try.pinned (OpenSpec.ofChange natAddsWrong)

/-- 'foundrylaw01.NatTakes': WHATEVER THE INPUT: true; the input reads as it did. -/
def natTakesSpec : ChangeSpec := { name := "natTakes", fn := fun _ => fun
  | [d1, d2] => { results := [.lit (.bool true)], args := [d1, d2] }
  | _ => none }
def natTakesRow : OpenClaim := { program := "ytlhgagmghahbhaa", sum := "a4940d53b016ab10e5835149059ed0b3c0184abd5f2d9611883be5dcf207a12d", func := "foundry/foundrylaw01.NatTakes", spec := "natTakes", apart := false }
def NatTakesSaid : Prop := natTakesRow.holds Try.pinned (OpenSpec.ofChange natTakesSpec)

/-- ITS FALSE NEIGHBOUR: 'it returns false'. Refute it at one input. -/
def natTakesWrong : ChangeSpec := { name := "natTakes", fn := fun _ => fun
  | [d1, d2] => { results := [.lit (.bool false)], args := [d1, d2] }
  | _ => none }
def NatTakesWrongFalsely : Prop := natTakesRow.holds Try.pinned (OpenSpec.ofChange natTakesWrong)

/-- 'foundrylaw01.NatLaws': WHATEVER THE INPUT: true; the input reads as it did. -/
def natLawsSpec : ChangeSpec := { name := "natLaws", fn := fun _ => fun
  | [d1, d2, d3] => { results := [.lit (.bool true)], args := [d1, d2, d3] }
  | _ => none }
def natLawsRow : OpenClaim := { program := "ytlhgagmghahbhaa", sum := "a4940d53b016ab10e5835149059ed0b3c0184abd5f2d9611883be5dcf207a12d", func := "foundry/foundrylaw01.NatLaws", spec := "natLaws", apart := false }
def NatLawsSaid : Prop := natLawsRow.holds Try.pinned (OpenSpec.ofChange natLawsSpec)

/-- ITS FALSE NEIGHBOUR: 'it returns false'. Refute it at one input. -/
def natLawsWrong : ChangeSpec := { name := "natLaws", fn := fun _ => fun
  | [d1, d2, d3] => { results := [.lit (.bool false)], args := [d1, d2, d3] }
  | _ => none }
def NatLawsWrongFalsely : Prop := natLawsRow.holds Try.pinned (OpenSpec.ofChange natLawsWrong)

/-- 'foundrylaw01.NatQuotients': WHATEVER THE INPUT: true; the input reads as it did. -/
def natQuotientsSpec : ChangeSpec := { name := "natQuotients", fn := fun _ => fun
  | [d1, d2] => { results := [.lit (.bool true)], args := [d1, d2] }
  | _ => none }
def natQuotientsRow : OpenClaim := { program := "ytlhgagmghahbhaa", sum := "a4940d53b016ab10e5835149059ed0b3c0184abd5f2d9611883be5dcf207a12d", func := "foundry/foundrylaw01.NatQuotients", spec := "natQuotients", apart := false }
def NatQuotientsSaid : Prop := natQuotientsRow.holds Try.pinned (OpenSpec.ofChange natQuotientsSpec)

/-- ITS FALSE NEIGHBOUR: 'it returns false'. Refute it at one input. -/
def natQuotientsWrong : ChangeSpec := { name := "natQuotients", fn := fun _ => fun
  | [d1, d2] => { results := [.lit (.bool false)], args := [d1, d2] }
  | _ => none }
def NatQuotientsWrongFalsely : Prop := natQuotientsRow.holds Try.pinned (OpenSpec.ofChange natQuotientsWrong)

/-- 'foundrylaw01.NatCommon': WHATEVER THE INPUT: true; the input reads as it did. -/
def natCommonSpec : ChangeSpec := { name := "natCommon", fn := fun _ => fun
  | [d1, d2] => { results := [.lit (.bool true)], args := [d1, d2] }
  | _ => none }
def natCommonRow : OpenClaim := { program := "ytlhgagmghahbhaa", sum := "a4940d53b016ab10e5835149059ed0b3c0184abd5f2d9611883be5dcf207a12d", func := "foundry/foundrylaw01.NatCommon", spec := "natCommon", apart := false }
def NatCommonSaid : Prop := natCommonRow.holds Try.pinned (OpenSpec.ofChange natCommonSpec)

/-- ITS FALSE NEIGHBOUR: 'it returns false'. Refute it at one input. -/
def natCommonWrong : ChangeSpec := { name := "natCommon", fn := fun _ => fun
  | [d1, d2] => { results := [.lit (.bool false)], args := [d1, d2] }
  | _ => none }
def NatCommonWrongFalsely : Prop := natCommonRow.holds Try.pinned (OpenSpec.ofChange natCommonWrong)

/-- 'foundrylaw01.NatGcd': WHATEVER THE INPUT: true; the input reads as it did. -/
def natGcdSpec : ChangeSpec := { name := "natGcd", fn := fun _ => fun
  | [d1, d2] => { results := [.lit (.bool true)], args := [d1, d2] }
  | _ => none }
def natGcdRow : OpenClaim := { program := "ytlhgagmghahbhaa", sum := "a4940d53b016ab10e5835149059ed0b3c0184abd5f2d9611883be5dcf207a12d", func := "foundry/foundrylaw01.NatGcd", spec := "natGcd", apart := false }
def NatGcdSaid : Prop := natGcdRow.holds Try.pinned (OpenSpec.ofChange natGcdSpec)

/-- ITS FALSE NEIGHBOUR: 'it returns false'. Refute it at one input. -/
def natGcdWrong : ChangeSpec := { name := "natGcd", fn := fun _ => fun
  | [d1, d2] => { results := [.lit (.bool false)], args := [d1, d2] }
  | _ => none }
def NatGcdWrongFalsely : Prop := natGcdRow.holds Try.pinned (OpenSpec.ofChange natGcdWrong)

/-- 'foundrylaw01.NatDivides': WHATEVER THE INPUT: true; the input reads as it did. -/
def natDividesSpec : ChangeSpec := { name := "natDivides", fn := fun _ => fun
  | [d1, d2] => { results := [.lit (.bool true)], args := [d1, d2] }
  | _ => none }
def natDividesRow : OpenClaim := { program := "ytlhgagmghahbhaa", sum := "a4940d53b016ab10e5835149059ed0b3c0184abd5f2d9611883be5dcf207a12d", func := "foundry/foundrylaw01.NatDivides", spec := "natDivides", apart := false }
def NatDividesSaid : Prop := natDividesRow.holds Try.pinned (OpenSpec.ofChange natDividesSpec)

/-- ITS FALSE NEIGHBOUR: 'it returns false'. Refute it at one input. -/
def natDividesWrong : ChangeSpec := { name := "natDivides", fn := fun _ => fun
  | [d1, d2] => { results := [.lit (.bool false)], args := [d1, d2] }
  | _ => none }
def NatDividesWrongFalsely : Prop := natDividesRow.holds Try.pinned (OpenSpec.ofChange natDividesWrong)

/-- 'foundrylaw01.NatSmall': WHATEVER THE INPUT: true; the input reads as it did. -/
def natSmallSpec : ChangeSpec := { name := "natSmall", fn := fun _ => fun
  | [d1, d2] => { results := [.lit (.bool true)], args := [d1, d2] }
  | _ => none }
def natSmallRow : OpenClaim := { program := "ytlhgagmghahbhaa", sum := "a4940d53b016ab10e5835149059ed0b3c0184abd5f2d9611883be5dcf207a12d", func := "foundry/foundrylaw01.NatSmall", spec := "natSmall", apart := false }
def NatSmallSaid : Prop := natSmallRow.holds Try.pinned (OpenSpec.ofChange natSmallSpec)

/-- ITS FALSE NEIGHBOUR: 'it returns false'. Refute it at one input. -/
def natSmallWrong : ChangeSpec := { name := "natSmall", fn := fun _ => fun
  | [d1, d2] => { results := [.lit (.bool false)], args := [d1, d2] }
  | _ => none }
def NatSmallWrongFalsely : Prop := natSmallRow.holds Try.pinned (OpenSpec.ofChange natSmallWrong)

/- THE SECOND FORM. 'bulk': how many values and letters a reading holds, each counted each time it is reached (what is shared counts as often as it is met; a slice's spare places count too). A statement '..UptoSaid' is the law's where the arguments, and the package variables that the reading takes, are together of bulk at most 1048576: NARROWER than '..Said'. Prove '..Said' where nothing that the law and all that it calls make is longer than what came in: it says more and counts as full. Else prove '..UptoSaid'. A law counts once. -/
mutual
def uptoBulk {H : Type} : DataW H → Nat
  | .lit (.string bytes) => bytes.length + 1
  | .lit _ => 1
  | .nil => 1
  | .ptr d => uptoBulk d + 1
  | .slice elems spare => uptoBulkAll elems + uptoBulkAll spare + 1
  | .agg parts => uptoBulkAll parts + 1
  | .iface _ d => uptoBulk d + 1
  | .map entries => uptoBulkEntries entries + 1
  | .held _ => 1
def uptoBulkAll {H : Type} : List (DataW H) → Nat
  | [] => 0
  | d :: r => uptoBulk d + uptoBulkAll r
def uptoBulkEntries {H : Type} : List (Lit × DataW H) → Nat
  | [] => 0
  | x :: r => uptoBulkEntry x + uptoBulkEntries r
def uptoBulkEntry {H : Type} : Lit × DataW H → Nat
  | (.string bytes, d) => bytes.length + uptoBulk d + 1
  | (_, d) => uptoBulk d + 1
 end
def uptoSmall : (H : Type) → List (DataW H) → Bool := fun _ ds => decide (uptoBulkAll ds ≤ 1048576)
def OpenSpec.upto (s : _root_.Go.ChangeSpec) : _root_.Go.OpenSpec := { _root_.Go.OpenSpec.ofChange s with cond := some uptoSmall }

/-- 'foundrylaw01.NatCompares', WHERE WHAT IT READS IS OF BULK AT MOST 1048576: true; the input reads as it did. -/
def natComparesUptoRow : OpenClaim := { program := "ytlhgagmghahbhaa", sum := "a4940d53b016ab10e5835149059ed0b3c0184abd5f2d9611883be5dcf207a12d", func := "foundry/foundrylaw01.NatCompares", spec := "natCompares", apart := false, narrowed := true }
def NatComparesUptoSaid : Prop := natComparesUptoRow.holds Try.pinned (OpenSpec.upto natComparesSpec)

/-- 'foundrylaw01.NatValues', WHERE WHAT IT READS IS OF BULK AT MOST 1048576: true; the input reads as it did. -/
def natValuesUptoRow : OpenClaim := { program := "ytlhgagmghahbhaa", sum := "a4940d53b016ab10e5835149059ed0b3c0184abd5f2d9611883be5dcf207a12d", func := "foundry/foundrylaw01.NatValues", spec := "natValues", apart := false, narrowed := true }
def NatValuesUptoSaid : Prop := natValuesUptoRow.holds Try.pinned (OpenSpec.upto natValuesSpec)

/-- 'foundrylaw01.NatMultiplies', WHERE WHAT IT READS IS OF BULK AT MOST 1048576: true; the input reads as it did. -/
def natMultipliesUptoRow : OpenClaim := { program := "ytlhgagmghahbhaa", sum := "a4940d53b016ab10e5835149059ed0b3c0184abd5f2d9611883be5dcf207a12d", func := "foundry/foundrylaw01.NatMultiplies", spec := "natMultiplies", apart := false, narrowed := true }
def NatMultipliesUptoSaid : Prop := natMultipliesUptoRow.holds Try.pinned (OpenSpec.upto natMultipliesSpec)

/-- 'foundrylaw01.NatAdds', WHERE WHAT IT READS IS OF BULK AT MOST 1048576: true; the input reads as it did. -/
def natAddsUptoRow : OpenClaim := { program := "ytlhgagmghahbhaa", sum := "a4940d53b016ab10e5835149059ed0b3c0184abd5f2d9611883be5dcf207a12d", func := "foundry/foundrylaw01.NatAdds", spec := "natAdds", apart := false, narrowed := true }
def NatAddsUptoSaid : Prop := natAddsUptoRow.holds Try.pinned (OpenSpec.upto natAddsSpec)

/-- 'foundrylaw01.NatTakes', WHERE WHAT IT READS IS OF BULK AT MOST 1048576: true; the input reads as it did. -/
def natTakesUptoRow : OpenClaim := { program := "ytlhgagmghahbhaa", sum := "a4940d53b016ab10e5835149059ed0b3c0184abd5f2d9611883be5dcf207a12d", func := "foundry/foundrylaw01.NatTakes", spec := "natTakes", apart := false, narrowed := true }
def NatTakesUptoSaid : Prop := natTakesUptoRow.holds Try.pinned (OpenSpec.upto natTakesSpec)

/-- 'foundrylaw01.NatLaws', WHERE WHAT IT READS IS OF BULK AT MOST 1048576: true; the input reads as it did. -/
def natLawsUptoRow : OpenClaim := { program := "ytlhgagmghahbhaa", sum := "a4940d53b016ab10e5835149059ed0b3c0184abd5f2d9611883be5dcf207a12d", func := "foundry/foundrylaw01.NatLaws", spec := "natLaws", apart := false, narrowed := true }
def NatLawsUptoSaid : Prop := natLawsUptoRow.holds Try.pinned (OpenSpec.upto natLawsSpec)

/-- 'foundrylaw01.NatQuotients', WHERE WHAT IT READS IS OF BULK AT MOST 1048576: true; the input reads as it did. -/
def natQuotientsUptoRow : OpenClaim := { program := "ytlhgagmghahbhaa", sum := "a4940d53b016ab10e5835149059ed0b3c0184abd5f2d9611883be5dcf207a12d", func := "foundry/foundrylaw01.NatQuotients", spec := "natQuotients", apart := false, narrowed := true }
def NatQuotientsUptoSaid : Prop := natQuotientsUptoRow.holds Try.pinned (OpenSpec.upto natQuotientsSpec)

/-- 'foundrylaw01.NatCommon', WHERE WHAT IT READS IS OF BULK AT MOST 1048576: true; the input reads as it did. -/
def natCommonUptoRow : OpenClaim := { program := "ytlhgagmghahbhaa", sum := "a4940d53b016ab10e5835149059ed0b3c0184abd5f2d9611883be5dcf207a12d", func := "foundry/foundrylaw01.NatCommon", spec := "natCommon", apart := false, narrowed := true }
def NatCommonUptoSaid : Prop := natCommonUptoRow.holds Try.pinned (OpenSpec.upto natCommonSpec)

/-- 'foundrylaw01.NatGcd', WHERE WHAT IT READS IS OF BULK AT MOST 1048576: true; the input reads as it did. -/
def natGcdUptoRow : OpenClaim := { program := "ytlhgagmghahbhaa", sum := "a4940d53b016ab10e5835149059ed0b3c0184abd5f2d9611883be5dcf207a12d", func := "foundry/foundrylaw01.NatGcd", spec := "natGcd", apart := false, narrowed := true }
def NatGcdUptoSaid : Prop := natGcdUptoRow.holds Try.pinned (OpenSpec.upto natGcdSpec)

/-- 'foundrylaw01.NatDivides', WHERE WHAT IT READS IS OF BULK AT MOST 1048576: true; the input reads as it did. -/
def natDividesUptoRow : OpenClaim := { program := "ytlhgagmghahbhaa", sum := "a4940d53b016ab10e5835149059ed0b3c0184abd5f2d9611883be5dcf207a12d", func := "foundry/foundrylaw01.NatDivides", spec := "natDivides", apart := false, narrowed := true }
def NatDividesUptoSaid : Prop := natDividesUptoRow.holds Try.pinned (OpenSpec.upto natDividesSpec)

/-- 'foundrylaw01.NatSmall', WHERE WHAT IT READS IS OF BULK AT MOST 1048576: true; the input reads as it did. -/
def natSmallUptoRow : OpenClaim := { program := "ytlhgagmghahbhaa", sum := "a4940d53b016ab10e5835149059ed0b3c0184abd5f2d9611883be5dcf207a12d", func := "foundry/foundrylaw01.NatSmall", spec := "natSmall", apart := false, narrowed := true }
def NatSmallUptoSaid : Prop := natSmallUptoRow.holds Try.pinned (OpenSpec.upto natSmallSpec)

end Rows
end Go.Proofs.Ytlhgagmghahbhaa
