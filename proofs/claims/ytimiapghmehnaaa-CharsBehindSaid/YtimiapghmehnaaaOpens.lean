-- Written by a program of this session, out of the kit's print tool (see NOTES.md: mypr)
import Derived.Test.YtimiapghmehnaaaOp
import Derived.Test.YtimiapghmehnaaaQx0
import Derived.KernelRfl
namespace Go.Proofs.Ytimiapghmehnaaa.Q
open Go.RowKit Go.Proofs.YtimiapghmehnaaaW.PrintWords Go.Proofs.Ytimiapghmehnaaa.Op
set_option linter.unusedVariables false
def W33 (x : S33) : Prop := (fun n : Int => (Lit.int .i64 n).wf = true) x.f0 ∧ (fun n : Int => (Lit.int .i64 n).wf = true) x.f1 ∧ (fun n : Int => (Lit.int .i64 n).wf = true) x.f2
theorem opens33 : Opens Try.prog k33 33 W33 := by
  intro H enc w base spare held fuel cs x h
  obtain ⟨xs, n, rfl, _, hl, hn, hf⟩ := DataW.trod_struct Try.underlying33 h
  have hl2 : cs.length = 3 := hl.trans (by kernel_rfl)
  have g0 := fieldF (m := 1) hn hf 0 _ rfl ((opens_int Try.underlying3) : Opens Try.prog (Kd.int .i64) 3 (fun n : Int => (Lit.int .i64 n).wf = true)) (by kernel_rfl)
  have g1 := fieldF (m := 1) hn hf 1 _ rfl ((opens_int Try.underlying3) : Opens Try.prog (Kd.int .i64) 3 (fun n : Int => (Lit.int .i64 n).wf = true)) (by kernel_rfl)
  have g2 := fieldF (m := 1) hn hf 2 _ rfl ((opens_int Try.underlying3) : Opens Try.prog (Kd.int .i64) 3 (fun n : Int => (Lit.int .i64 n).wf = true)) (by kernel_rfl)
  have e := isoF (f := fun x : S33 => (x.f0, x.f1, x.f2)) (fun p => (⟨p.1, p.2.1, p.2.2⟩ : S33)) (fun _ => rfl) (pairF (o := 0) (s := 1) (o' := 1) (by omega) g0 (pairF (o := 1) (s := 1) (o' := 2) (by omega) g1 (lastF (o := 2) (s := 1) (by omega) g2)))
  obtain ⟨b, hb, wb⟩ := e
  exact ⟨b, hb, wb⟩
end Go.Proofs.Ytimiapghmehnaaa.Q
