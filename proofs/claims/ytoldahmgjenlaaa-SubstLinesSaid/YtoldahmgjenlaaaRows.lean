/-
  No cell of these rows narrows 'for every input' (looked for: loops, veiled, ifaces, maps, wideKeys, modest, calm, conditions, laid).
  DERIVED. THE GIVEN ROWS OF THIS SEAT. 11 by the template 'for every input the law returns true; each argument reads behind the call as it read before'; 0 by the template 'total and deterministic' (their statements: YtoldahmgjenlaaaTotals.lean).
  GIVEN WITH THE SEED: the statements are not yours to turn. If you find one false, say at which input.
  Laid BY PROGRAM, IN A SANDBOX (cutbox-rows.mjs): the forced cells as the released guide's own fill.sh prints them over the translation acd1f6748c0cdd8c… (all of the seat's roots in one cut). By AI agents, Wed Nov 11 2026. No macro, syntax, notation, axiom, sorry.
-/
import Derived.Test.YtoldahmgjenlaaaChecked
import GoSem.Claim
import GoSem.ClaimJoined
import GoSem.ClaimMapViews
import Derived.JoinedTies
import Derived.KernelRfl
namespace Go.Proofs.Ytoldahmgjenlaaa
/- THE CELL 'sum', in the pinned program and in every row, IS THE sha256 OF THE DUMP (.gsa) THAT YtoldahmgjenlaaaProg.lean LOADS. Nothing in Lean hashes anything: it is a label: what it is worth is what the hold of that sum in a sandbox is worth. -/
noncomputable def Try.pinned : Pinned := { name := "ytoldahmgjenlaaa", sum := "acd1f6748c0cdd8c4cdb9d80123de97faec9613443fb20f54746fe390aaea825", checked := Try.checked }
namespace Rows
def none {H : Type} : Left H := { results := [], args := [] }

/-- 'foundrylaw19.ClassesSteps': WHATEVER THE INPUT: true; the input reads as it did. -/
def classesStepsSpec : ChangeSpec := { name := "classesSteps", fn := fun _ => fun
  | [d1, d2, d3] => { results := [.lit (.bool true)], args := [d1, d2, d3] }
  | _ => none }
def classesStepsRow : OpenClaim := { program := "ytoldahmgjenlaaa", sum := "acd1f6748c0cdd8c4cdb9d80123de97faec9613443fb20f54746fe390aaea825", func := "foundry/foundrylaw19.ClassesSteps", spec := "classesSteps", apart := false }
def ClassesStepsSaid : Prop := classesStepsRow.holds Try.pinned (OpenSpec.ofChange classesStepsSpec)

/-- ITS FALSE NEIGHBOUR: 'it returns false'. Refute it at one input. -/
def classesStepsWrong : ChangeSpec := { name := "classesSteps", fn := fun _ => fun
  | [d1, d2, d3] => { results := [.lit (.bool false)], args := [d1, d2, d3] }
  | _ => none }
def ClassesStepsWrongFalsely : Prop := classesStepsRow.holds Try.pinned (OpenSpec.ofChange classesStepsWrong)

/-- 'foundrylaw19.ClassesBack': WHATEVER THE INPUT: true; the input reads as it did. -/
def classesBackSpec : ChangeSpec := { name := "classesBack", fn := fun _ => fun
  | [d1, d2] => { results := [.lit (.bool true)], args := [d1, d2] }
  | _ => none }
def classesBackRow : OpenClaim := { program := "ytoldahmgjenlaaa", sum := "acd1f6748c0cdd8c4cdb9d80123de97faec9613443fb20f54746fe390aaea825", func := "foundry/foundrylaw19.ClassesBack", spec := "classesBack", apart := false }
def ClassesBackSaid : Prop := classesBackRow.holds Try.pinned (OpenSpec.ofChange classesBackSpec)

/-- ITS FALSE NEIGHBOUR: 'it returns false'. Refute it at one input. -/
def classesBackWrong : ChangeSpec := { name := "classesBack", fn := fun _ => fun
  | [d1, d2] => { results := [.lit (.bool false)], args := [d1, d2] }
  | _ => none }
def ClassesBackWrongFalsely : Prop := classesBackRow.holds Try.pinned (OpenSpec.ofChange classesBackWrong)

/-- 'foundrylaw19.ClassesMeet': WHATEVER THE INPUT: true; the input reads as it did. -/
def classesMeetSpec : ChangeSpec := { name := "classesMeet", fn := fun _ => fun
  | [d1, d2, d3] => { results := [.lit (.bool true)], args := [d1, d2, d3] }
  | _ => none }
def classesMeetRow : OpenClaim := { program := "ytoldahmgjenlaaa", sum := "acd1f6748c0cdd8c4cdb9d80123de97faec9613443fb20f54746fe390aaea825", func := "foundry/foundrylaw19.ClassesMeet", spec := "classesMeet", apart := false }
def ClassesMeetSaid : Prop := classesMeetRow.holds Try.pinned (OpenSpec.ofChange classesMeetSpec)

/-- ITS FALSE NEIGHBOUR: 'it returns false'. Refute it at one input. -/
def classesMeetWrong : ChangeSpec := { name := "classesMeet", fn := fun _ => fun
  | [d1, d2, d3] => { results := [.lit (.bool false)], args := [d1, d2, d3] }
  | _ => none }
def ClassesMeetWrongFalsely : Prop := classesMeetRow.holds Try.pinned (OpenSpec.ofChange classesMeetWrong)

/-- 'foundrylaw20.SubstSplit': WHATEVER THE INPUT: true; the input reads as it did. -/
def substSplitSpec : ChangeSpec := { name := "substSplit", fn := fun _ => fun
  | [d1, d2] => { results := [.lit (.bool true)], args := [d1, d2] }
  | _ => none }
def substSplitRow : OpenClaim := { program := "ytoldahmgjenlaaa", sum := "acd1f6748c0cdd8c4cdb9d80123de97faec9613443fb20f54746fe390aaea825", func := "foundry/foundrylaw20.SubstSplit", spec := "substSplit", unfollowed := true, recurses := true, apart := false }
def SubstSplitSaid : Prop := substSplitRow.holds Try.pinned (OpenSpec.ofChange substSplitSpec)

/-- ITS FALSE NEIGHBOUR: 'it returns false'. Refute it at one input. -/
def substSplitWrong : ChangeSpec := { name := "substSplit", fn := fun _ => fun
  | [d1, d2] => { results := [.lit (.bool false)], args := [d1, d2] }
  | _ => none }
def SubstSplitWrongFalsely : Prop := substSplitRow.holds Try.pinned (OpenSpec.ofChange substSplitWrong)

/-- 'foundrylaw19.ClassesMet': WHATEVER THE INPUT: true; the input reads as it did. -/
def classesMetSpec : ChangeSpec := { name := "classesMet", fn := fun _ => fun
  | [d1, d2, d3] => { results := [.lit (.bool true)], args := [d1, d2, d3] }
  | _ => none }
def classesMetRow : OpenClaim := { program := "ytoldahmgjenlaaa", sum := "acd1f6748c0cdd8c4cdb9d80123de97faec9613443fb20f54746fe390aaea825", func := "foundry/foundrylaw19.ClassesMet", spec := "classesMet", apart := false }
def ClassesMetSaid : Prop := classesMetRow.holds Try.pinned (OpenSpec.ofChange classesMetSpec)

/-- ITS FALSE NEIGHBOUR: 'it returns false'. Refute it at one input. -/
def classesMetWrong : ChangeSpec := { name := "classesMet", fn := fun _ => fun
  | [d1, d2, d3] => { results := [.lit (.bool false)], args := [d1, d2, d3] }
  | _ => none }
def ClassesMetWrongFalsely : Prop := classesMetRow.holds Try.pinned (OpenSpec.ofChange classesMetWrong)

/-- 'foundrylaw19.ClassesPut': WHATEVER THE INPUT: true; the input reads as it did. -/
def classesPutSpec : ChangeSpec := { name := "classesPut", fn := fun _ => fun
  | [d1, d2, d3] => { results := [.lit (.bool true)], args := [d1, d2, d3] }
  | _ => none }
def classesPutRow : OpenClaim := { program := "ytoldahmgjenlaaa", sum := "acd1f6748c0cdd8c4cdb9d80123de97faec9613443fb20f54746fe390aaea825", func := "foundry/foundrylaw19.ClassesPut", spec := "classesPut", apart := false }
def ClassesPutSaid : Prop := classesPutRow.holds Try.pinned (OpenSpec.ofChange classesPutSpec)

/-- ITS FALSE NEIGHBOUR: 'it returns false'. Refute it at one input. -/
def classesPutWrong : ChangeSpec := { name := "classesPut", fn := fun _ => fun
  | [d1, d2, d3] => { results := [.lit (.bool false)], args := [d1, d2, d3] }
  | _ => none }
def ClassesPutWrongFalsely : Prop := classesPutRow.holds Try.pinned (OpenSpec.ofChange classesPutWrong)

/-- 'foundrylaw20.SubstLengths': WHATEVER THE INPUT: true; the input reads as it did. -/
def substLengthsSpec : ChangeSpec := { name := "substLengths", fn := fun _ => fun
  | [d1, d2, d3] => { results := [.lit (.bool true)], args := [d1, d2, d3] }
  | _ => none }
def substLengthsRow : OpenClaim := { program := "ytoldahmgjenlaaa", sum := "acd1f6748c0cdd8c4cdb9d80123de97faec9613443fb20f54746fe390aaea825", func := "foundry/foundrylaw20.SubstLengths", spec := "substLengths", unfollowed := true, recurses := true, apart := false }
def SubstLengthsSaid : Prop := substLengthsRow.holds Try.pinned (OpenSpec.ofChange substLengthsSpec)

/-- ITS FALSE NEIGHBOUR: 'it returns false'. Refute it at one input. -/
def substLengthsWrong : ChangeSpec := { name := "substLengths", fn := fun _ => fun
  | [d1, d2, d3] => { results := [.lit (.bool false)], args := [d1, d2, d3] }
  | _ => none }
def SubstLengthsWrongFalsely : Prop := substLengthsRow.holds Try.pinned (OpenSpec.ofChange substLengthsWrong)

/-- 'foundrylaw20.SubstSingle': WHATEVER THE INPUT: true; the input reads as it did. -/
def substSingleSpec : ChangeSpec := { name := "substSingle", fn := fun _ => fun
  | [d1, d2, d3] => { results := [.lit (.bool true)], args := [d1, d2, d3] }
  | _ => none }
def substSingleRow : OpenClaim := { program := "ytoldahmgjenlaaa", sum := "acd1f6748c0cdd8c4cdb9d80123de97faec9613443fb20f54746fe390aaea825", func := "foundry/foundrylaw20.SubstSingle", spec := "substSingle", unfollowed := true, recurses := true, apart := false }
def SubstSingleSaid : Prop := substSingleRow.holds Try.pinned (OpenSpec.ofChange substSingleSpec)

/-- ITS FALSE NEIGHBOUR: 'it returns false'. Refute it at one input. -/
def substSingleWrong : ChangeSpec := { name := "substSingle", fn := fun _ => fun
  | [d1, d2, d3] => { results := [.lit (.bool false)], args := [d1, d2, d3] }
  | _ => none }
def SubstSingleWrongFalsely : Prop := substSingleRow.holds Try.pinned (OpenSpec.ofChange substSingleWrong)

/-- 'foundrylaw20.SubstNest': WHATEVER THE INPUT: true; the input reads as it did. -/
def substNestSpec : ChangeSpec := { name := "substNest", fn := fun _ => fun
  | [d] => { results := [.lit (.bool true)], args := [d] }
  | _ => none }
def substNestRow : OpenClaim := { program := "ytoldahmgjenlaaa", sum := "acd1f6748c0cdd8c4cdb9d80123de97faec9613443fb20f54746fe390aaea825", func := "foundry/foundrylaw20.SubstNest", spec := "substNest", unfollowed := true, recurses := true, apart := false }
def SubstNestSaid : Prop := substNestRow.holds Try.pinned (OpenSpec.ofChange substNestSpec)

/-- ITS FALSE NEIGHBOUR: 'it returns false'. Refute it at one input. -/
def substNestWrong : ChangeSpec := { name := "substNest", fn := fun _ => fun
  | [d] => { results := [.lit (.bool false)], args := [d] }
  | _ => none }
def SubstNestWrongFalsely : Prop := substNestRow.holds Try.pinned (OpenSpec.ofChange substNestWrong)

/-- 'foundrylaw20.SubstPlaces': WHATEVER THE INPUT: true; the input reads as it did. -/
def substPlacesSpec : ChangeSpec := { name := "substPlaces", fn := fun _ => fun
  | [d1, d2, d3] => { results := [.lit (.bool true)], args := [d1, d2, d3] }
  | _ => none }
def substPlacesRow : OpenClaim := { program := "ytoldahmgjenlaaa", sum := "acd1f6748c0cdd8c4cdb9d80123de97faec9613443fb20f54746fe390aaea825", func := "foundry/foundrylaw20.SubstPlaces", spec := "substPlaces", unfollowed := true, recurses := true, apart := false }
def SubstPlacesSaid : Prop := substPlacesRow.holds Try.pinned (OpenSpec.ofChange substPlacesSpec)

/-- ITS FALSE NEIGHBOUR: 'it returns false'. Refute it at one input. -/
def substPlacesWrong : ChangeSpec := { name := "substPlaces", fn := fun _ => fun
  | [d1, d2, d3] => { results := [.lit (.bool false)], args := [d1, d2, d3] }
  | _ => none }
def SubstPlacesWrongFalsely : Prop := substPlacesRow.holds Try.pinned (OpenSpec.ofChange substPlacesWrong)

/-- 'foundrylaw20.SubstLines': WHATEVER THE INPUT: true; the input reads as it did. -/
def substLinesSpec : ChangeSpec := { name := "substLines", fn := fun _ => fun
  | [d1, d2, d3] => { results := [.lit (.bool true)], args := [d1, d2, d3] }
  | _ => none }
def substLinesRow : OpenClaim := { program := "ytoldahmgjenlaaa", sum := "acd1f6748c0cdd8c4cdb9d80123de97faec9613443fb20f54746fe390aaea825", func := "foundry/foundrylaw20.SubstLines", spec := "substLines", unfollowed := true, recurses := true, apart := false }
def SubstLinesSaid : Prop := substLinesRow.holds Try.pinned (OpenSpec.ofChange substLinesSpec)

/-- ITS FALSE NEIGHBOUR: 'it returns false'. Refute it at one input. -/
def substLinesWrong : ChangeSpec := { name := "substLines", fn := fun _ => fun
  | [d1, d2, d3] => { results := [.lit (.bool false)], args := [d1, d2, d3] }
  | _ => none }
def SubstLinesWrongFalsely : Prop := substLinesRow.holds Try.pinned (OpenSpec.ofChange substLinesWrong)

/- THE SECOND FORM. 'bulk': how many values and letters a reading holds, each counted each time it is reached (what is shared counts as often as it is met; a slice's spare places count too). A statement '..UptoSaid' is the law's where the arguments, and the package variables that the reading takes, are together of bulk at most 1048576: NARROWER than '..Said'. Prove '..Said' where nothing that the law and all that it calls make is longer than what came in: it says more and counts as full. Else prove '..UptoSaid'. A law counts once. -/
mutual
def uptoBulk {H : Type} : DataW H → Nat
  | .lit (.string bytes) => bytes.length + 1
  | .lit _ => 1
  | .nil => 1
  | .ptr d => uptoBulk d + 1
  | .slice elems spare => uptoBulkAll elems + uptoBulkAll spare + 1
  | .agg parts => uptoBulkAll parts + 1
  | .iface _ d => uptoBulk d + 1
  | .map entries => uptoBulkEntries entries + 1
  | .held _ => 1
def uptoBulkAll {H : Type} : List (DataW H) → Nat
  | [] => 0
  | d :: r => uptoBulk d + uptoBulkAll r
def uptoBulkEntries {H : Type} : List (Lit × DataW H) → Nat
  | [] => 0
  | x :: r => uptoBulkEntry x + uptoBulkEntries r
def uptoBulkEntry {H : Type} : Lit × DataW H → Nat
  | (.string bytes, d) => bytes.length + uptoBulk d + 1
  | (_, d) => uptoBulk d + 1
 end
def uptoSmall : (H : Type) → List (DataW H) → Bool := fun _ ds => decide (uptoBulkAll ds ≤ 1048576)
def OpenSpec.upto (s : _root_.Go.ChangeSpec) : _root_.Go.OpenSpec := { _root_.Go.OpenSpec.ofChange s with cond := some uptoSmall }

/-- 'foundrylaw19.ClassesSteps', WHERE WHAT IT READS IS OF BULK AT MOST 1048576: true; the input reads as it did. -/
def classesStepsUptoRow : OpenClaim := { program := "ytoldahmgjenlaaa", sum := "acd1f6748c0cdd8c4cdb9d80123de97faec9613443fb20f54746fe390aaea825", func := "foundry/foundrylaw19.ClassesSteps", spec := "classesSteps", apart := false, narrowed := true }
def ClassesStepsUptoSaid : Prop := classesStepsUptoRow.holds Try.pinned (OpenSpec.upto classesStepsSpec)

/-- 'foundrylaw19.ClassesBack', WHERE WHAT IT READS IS OF BULK AT MOST 1048576: true; the input reads as it did. -/
def classesBackUptoRow : OpenClaim := { program := "ytoldahmgjenlaaa", sum := "acd1f6748c0cdd8c4cdb9d80123de97faec9613443fb20f54746fe390aaea825", func := "foundry/foundrylaw19.ClassesBack", spec := "classesBack", apart := false, narrowed := true }
def ClassesBackUptoSaid : Prop := classesBackUptoRow.holds Try.pinned (OpenSpec.upto classesBackSpec)

/-- 'foundrylaw19.ClassesMeet', WHERE WHAT IT READS IS OF BULK AT MOST 1048576: true; the input reads as it did. -/
def classesMeetUptoRow : OpenClaim := { program := "ytoldahmgjenlaaa", sum := "acd1f6748c0cdd8c4cdb9d80123de97faec9613443fb20f54746fe390aaea825", func := "foundry/foundrylaw19.ClassesMeet", spec := "classesMeet", apart := false, narrowed := true }
def ClassesMeetUptoSaid : Prop := classesMeetUptoRow.holds Try.pinned (OpenSpec.upto classesMeetSpec)

/-- 'foundrylaw20.SubstSplit', WHERE WHAT IT READS IS OF BULK AT MOST 1048576: true; the input reads as it did. -/
def substSplitUptoRow : OpenClaim := { program := "ytoldahmgjenlaaa", sum := "acd1f6748c0cdd8c4cdb9d80123de97faec9613443fb20f54746fe390aaea825", func := "foundry/foundrylaw20.SubstSplit", spec := "substSplit", unfollowed := true, recurses := true, apart := false, narrowed := true }
def SubstSplitUptoSaid : Prop := substSplitUptoRow.holds Try.pinned (OpenSpec.upto substSplitSpec)

/-- 'foundrylaw19.ClassesMet', WHERE WHAT IT READS IS OF BULK AT MOST 1048576: true; the input reads as it did. -/
def classesMetUptoRow : OpenClaim := { program := "ytoldahmgjenlaaa", sum := "acd1f6748c0cdd8c4cdb9d80123de97faec9613443fb20f54746fe390aaea825", func := "foundry/foundrylaw19.ClassesMet", spec := "classesMet", apart := false, narrowed := true }
def ClassesMetUptoSaid : Prop := classesMetUptoRow.holds Try.pinned (OpenSpec.upto classesMetSpec)

/-- 'foundrylaw19.ClassesPut', WHERE WHAT IT READS IS OF BULK AT MOST 1048576: true; the input reads as it did. -/
def classesPutUptoRow : OpenClaim := { program := "ytoldahmgjenlaaa", sum := "acd1f6748c0cdd8c4cdb9d80123de97faec9613443fb20f54746fe390aaea825", func := "foundry/foundrylaw19.ClassesPut", spec := "classesPut", apart := false, narrowed := true }
def ClassesPutUptoSaid : Prop := classesPutUptoRow.holds Try.pinned (OpenSpec.upto classesPutSpec)

/-- 'foundrylaw20.SubstLengths', WHERE WHAT IT READS IS OF BULK AT MOST 1048576: true; the input reads as it did. -/
def substLengthsUptoRow : OpenClaim := { program := "ytoldahmgjenlaaa", sum := "acd1f6748c0cdd8c4cdb9d80123de97faec9613443fb20f54746fe390aaea825", func := "foundry/foundrylaw20.SubstLengths", spec := "substLengths", unfollowed := true, recurses := true, apart := false, narrowed := true }
def SubstLengthsUptoSaid : Prop := substLengthsUptoRow.holds Try.pinned (OpenSpec.upto substLengthsSpec)

/-- 'foundrylaw20.SubstSingle', WHERE WHAT IT READS IS OF BULK AT MOST 1048576: true; the input reads as it did. -/
def substSingleUptoRow : OpenClaim := { program := "ytoldahmgjenlaaa", sum := "acd1f6748c0cdd8c4cdb9d80123de97faec9613443fb20f54746fe390aaea825", func := "foundry/foundrylaw20.SubstSingle", spec := "substSingle", unfollowed := true, recurses := true, apart := false, narrowed := true }
def SubstSingleUptoSaid : Prop := substSingleUptoRow.holds Try.pinned (OpenSpec.upto substSingleSpec)

/-- 'foundrylaw20.SubstNest', WHERE WHAT IT READS IS OF BULK AT MOST 1048576: true; the input reads as it did. -/
def substNestUptoRow : OpenClaim := { program := "ytoldahmgjenlaaa", sum := "acd1f6748c0cdd8c4cdb9d80123de97faec9613443fb20f54746fe390aaea825", func := "foundry/foundrylaw20.SubstNest", spec := "substNest", unfollowed := true, recurses := true, apart := false, narrowed := true }
def SubstNestUptoSaid : Prop := substNestUptoRow.holds Try.pinned (OpenSpec.upto substNestSpec)

/-- 'foundrylaw20.SubstPlaces', WHERE WHAT IT READS IS OF BULK AT MOST 1048576: true; the input reads as it did. -/
def substPlacesUptoRow : OpenClaim := { program := "ytoldahmgjenlaaa", sum := "acd1f6748c0cdd8c4cdb9d80123de97faec9613443fb20f54746fe390aaea825", func := "foundry/foundrylaw20.SubstPlaces", spec := "substPlaces", unfollowed := true, recurses := true, apart := false, narrowed := true }
def SubstPlacesUptoSaid : Prop := substPlacesUptoRow.holds Try.pinned (OpenSpec.upto substPlacesSpec)

/-- 'foundrylaw20.SubstLines', WHERE WHAT IT READS IS OF BULK AT MOST 1048576: true; the input reads as it did. -/
def substLinesUptoRow : OpenClaim := { program := "ytoldahmgjenlaaa", sum := "acd1f6748c0cdd8c4cdb9d80123de97faec9613443fb20f54746fe390aaea825", func := "foundry/foundrylaw20.SubstLines", spec := "substLines", unfollowed := true, recurses := true, apart := false, narrowed := true }
def SubstLinesUptoSaid : Prop := substLinesUptoRow.holds Try.pinned (OpenSpec.upto substLinesSpec)

end Rows
end Go.Proofs.Ytoldahmgjenlaaa
