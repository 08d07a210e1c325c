-- Written by a program of this session, out of the kit's print tool (see NOTES.md: mypr)
import Derived.Test.YtoldahmgjenlaaaOp
import Derived.Test.YtoldahmgjenlaaaQx0
import Derived.KernelRfl
namespace Go.Proofs.Ytoldahmgjenlaaa.Q
open Go.RowKit Go.Proofs.YtoldahmgjenlaaaW.PrintWords Go.Proofs.Ytoldahmgjenlaaa.Op
set_option linter.unusedVariables false
def W25 (x : ((List Int) × (List Bool))) : Prop := (fun xs : List Int => xs.length ≤ maxLen ∧ ∀ x ∈ xs, (fun n : Int => (Lit.int .i64 n).wf = true) x) x.1 ∧ (fun xs : List Bool => xs.length ≤ maxLen ∧ ∀ x ∈ xs, (fun _ : Bool => True) x) x.2
theorem opens25 : Opens Try.prog (Kd.pair (Kd.slice 3 (Kd.int .i64)) (Kd.slice 4 Kd.bool)) 25 W25 := by
  intro H enc w base spare held fuel cs x h
  obtain ⟨xs, n, rfl, _, hl, hn, hf⟩ := DataW.trod_struct Try.underlying25 h
  have hl2 : cs.length = 2 := hl.trans (by kernel_rfl)
  have g0 := fieldF (m := 1) hn hf 0 _ rfl ((opens_slice Try.underlying22 (by kernel_rfl) (opens_int Try.underlying3)) : Opens Try.prog (Kd.slice 3 (Kd.int .i64)) 22 (fun xs : List Int => xs.length ≤ maxLen ∧ ∀ x ∈ xs, (fun n : Int => (Lit.int .i64 n).wf = true) x)) (by kernel_rfl)
  have g1 := fieldF (m := 1) hn hf 1 _ rfl ((opens_slice Try.underlying23 (by kernel_rfl) (opens_bool Try.underlying4)) : Opens Try.prog (Kd.slice 4 Kd.bool) 23 (fun xs : List Bool => xs.length ≤ maxLen ∧ ∀ x ∈ xs, (fun _ : Bool => True) x)) (by kernel_rfl)
  obtain ⟨b, hb, wb⟩ := (pairF (o := 0) (s := 1) (o' := 1) (by omega) g0 (lastF (o := 1) (s := 1) (by omega) g1))
  exact ⟨b, hb, wb⟩
def W34 (x : ((List Int) × Bool)) : Prop := (fun xs : List Int => xs.length ≤ maxLen ∧ ∀ x ∈ xs, (fun n : Int => (Lit.int .i64 n).wf = true) x) x.1 ∧ (fun _ : Bool => True) x.2
theorem opens34 : Opens Try.prog (Kd.pair (Kd.slice 3 (Kd.int .i64)) Kd.bool) 34 W34 := by
  intro H enc w base spare held fuel cs x h
  obtain ⟨xs, n, rfl, _, hl, hn, hf⟩ := DataW.trod_struct Try.underlying34 h
  have hl2 : cs.length = 2 := hl.trans (by kernel_rfl)
  have g0 := fieldF (m := 1) hn hf 0 _ rfl ((opens_slice Try.underlying22 (by kernel_rfl) (opens_int Try.underlying3)) : Opens Try.prog (Kd.slice 3 (Kd.int .i64)) 22 (fun xs : List Int => xs.length ≤ maxLen ∧ ∀ x ∈ xs, (fun n : Int => (Lit.int .i64 n).wf = true) x)) (by kernel_rfl)
  have g1 := fieldF (m := 1) hn hf 1 _ rfl ((opens_bool Try.underlying4) : Opens Try.prog Kd.bool 4 (fun _ : Bool => True)) (by kernel_rfl)
  obtain ⟨b, hb, wb⟩ := (pairF (o := 0) (s := 1) (o' := 1) (by omega) g0 (lastF (o := 1) (s := 1) (by omega) g1))
  exact ⟨b, hb, wb⟩
def W53 (x : (Int × Int)) : Prop := (fun n : Int => (Lit.int .i64 n).wf = true) x.1 ∧ (fun n : Int => (Lit.int .i64 n).wf = true) x.2
theorem opens53 : Opens Try.prog (Kd.pair (Kd.int .i64) (Kd.int .i64)) 53 W53 := by
  intro H enc w base spare held fuel cs x h
  obtain ⟨xs, n, rfl, _, hl, hn, hf⟩ := DataW.trod_array Try.underlying53 h
  have hl2 : cs.length = 2 := hl.trans (by kernel_rfl)
  have g0 := arrF (m := n) (s := 1) (o := 0) hn hf 0 (by omega) ((opens_int Try.underlying3) : Opens Try.prog (Kd.int .i64) 3 (fun n : Int => (Lit.int .i64 n).wf = true)) (by kernel_rfl) (by omega)
  have g1 := arrF (m := n) (s := 1) (o := 1) hn hf 1 (by omega) ((opens_int Try.underlying3) : Opens Try.prog (Kd.int .i64) 3 (fun n : Int => (Lit.int .i64 n).wf = true)) (by kernel_rfl) (by omega)
  obtain ⟨b, hb, wb⟩ := (pairF (o := 0) (s := 1) (o' := 1) (by omega) g0 (lastF (o := 1) (s := 1) (by omega) g1))
  exact ⟨b, hb, wb⟩
end Go.Proofs.Ytoldahmgjenlaaa.Q
