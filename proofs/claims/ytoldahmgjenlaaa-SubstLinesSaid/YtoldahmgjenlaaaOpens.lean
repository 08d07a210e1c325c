-- Written by a program of this session, out of the kit's print tool (see NOTES.md: mypr)
import Derived.Test.YtoldahmgjenlaaaOp
import Derived.Test.YtoldahmgjenlaaaQx0
import Derived.KernelRfl
namespace Go.Proofs.Ytoldahmgjenlaaa.Q
open Go.RowKit Go.Proofs.YtoldahmgjenlaaaW.PrintWords Go.Proofs.Ytoldahmgjenlaaa.Op
set_option linter.unusedVariables false
def W25 (x : ((List Int) × (List Bool))) : Prop := (fun xs : List Int => xs.length ≤ maxLen ∧ ∀ x ∈ xs, (fun n : Int => (Lit.int .i64 n).wf = true) x) x.1 ∧ (fun xs : List Bool => xs.length ≤ maxLen ∧ ∀ x ∈ xs, (fun _ : Bool => True) x) x.2
theorem opens25 : Opens Try.prog (Kd.pair (Kd.slice 3 (Kd.int .i64)) (Kd.slice 4 Kd.bool)) 25 W25 := by
  intro H enc w base spare held fuel cs x h
  obtain ⟨xs, n, rfl, _, hl, hn, hf⟩ := DataW.trod_struct Try.underlying25 h
  have hl2 : cs.length = 2 := hl.trans (by kernel_rfl)
  have g0 := fieldF (m := 1) hn hf 0 _ rfl ((opens_slice Try.underlying22 (by kernel_rfl) (opens_int Try.underlying3)) : Opens Try.prog (Kd.slice 3 (Kd.int .i64)) 22 (fun xs : List Int => xs.length ≤ maxLen ∧ ∀ x ∈ xs, (fun n : Int => (Lit.int .i64 n).wf = true) x)) (by kernel_rfl)
  have g1 := fieldF (m := 1) hn hf 1 _ rfl ((opens_slice Try.underlying23 (by kernel_rfl) (opens_bool Try.underlying4)) : Opens Try.prog (Kd.slice 4 Kd.bool) 23 (fun xs : List Bool => xs.length ≤ maxLen ∧ ∀ x ∈ xs, (fun _ : Bool => True) x)) (by kernel_rfl)
  obtain ⟨b, hb, wb⟩ := (pairF (o := 0) (s := 1) (o' := 1) (by omega) g0 (lastF (o := 1) (s := 1) (by omega) g1))
  exact ⟨b, hb, wb⟩
def W34 (x : ((List Int) × Bool)) : Prop := (fun xs : List Int => xs.length ≤ maxLen ∧ ∀ x ∈ xs, (fun n : Int => (Lit.int .i64 n).wf = true) x) x.1 ∧ (fun _ : Bool => True) x.2
theorem opens34 : Opens Try.prog (Kd.pair (Kd.slice 3 (Kd.int .i64)) Kd.bool) 34 W34 := by
  intro H enc w base spare held fuel cs x h
  obtain ⟨xs, n, rfl, _, hl, hn, hf⟩ := DataW.trod_struct Try.underlying34 h
  have hl2 : cs.length = 2 := hl.trans (by kernel_rfl)
  have g0 := fieldF (m := 1) hn hf 0 _ rfl ((opens_slice Try.underlying22 (by kernel_rfl) (opens_int Try.underlying3)) : Opens Try.prog (Kd.slice 3 (Kd.int .i64)) 22 (fun xs : List Int => xs.length ≤ maxLen ∧ ∀ x ∈ xs, (fun n : Int => (Lit.int .i64 n).wf = true) x)) (by kernel_rfl)
  have g1 := fieldF (m := 1) hn hf 1 _ rfl ((opens_bool Try.underlying4) : Opens Try.prog Kd.bool 4 (fun _ : Bool => True)) (by kernel_rfl)
  obtain ⟨b, hb, wb⟩ := (pairF (o := 0) (s := 1) (o' := 1) (by omega) g0 (lastF (o := 1) (s := 1) (by omega) g1))
  exact ⟨b, hb, wb⟩
def W53 (x : (Int × Int)) : Prop := (fun n : Int => (Lit.int .i64 n).wf = true) x.1 ∧ (fun n : Int => (Lit.int .i64 n).wf = true) x.2
theorem opens53 : Opens Try.prog (Kd.pair (Kd.int .i64) (Kd.int .i64)) 53 W53 := by
  intro H enc w base spare held fuel cs x h
  obtain ⟨xs, n, rfl, _, hl, hn, hf⟩ := DataW.trod_array Try.underlying53 h
  have hl2 : cs.length = 2 := hl.trans (by kernel_rfl)
  have g0 := arrF (m := n) (s := 1) (o := 0) hn hf 0 (by omega) ((opens_int Try.underlying3) : Opens Try.prog (Kd.int .i64) 3 (fun n : Int => (Lit.int .i64 n).wf = true)) (by kernel_rfl) (by omega)
  have g1 := arrF (m := n) (s := 1) (o := 1) hn hf 1 (by omega) ((opens_int Try.underlying3) : Opens Try.prog (Kd.int .i64) 3 (fun n : Int => (Lit.int .i64 n).wf = true)) (by kernel_rfl) (by omega)
  obtain ⟨b, hb, wb⟩ := (pairF (o := 0) (s := 1) (o' := 1) (by omega) g0 (lastF (o := 1) (s := 1) (by omega) g1))
  exact ⟨b, hb, wb⟩
def W39 (x : (Int × Int × Int)) : Prop := (fun n : Int => (Lit.int .u8 n).wf = true) x.1 ∧ (fun n : Int => (Lit.int .u8 n).wf = true) x.2.1 ∧ (fun n : Int => (Lit.int .u8 n).wf = true) x.2.2
theorem opens39 : Opens Try.prog (Kd.pair (Kd.int .u8) (Kd.pair (Kd.int .u8) (Kd.int .u8))) 39 W39 := by
  intro H enc w base spare held fuel cs x h
  obtain ⟨xs, n, rfl, _, hl, hn, hf⟩ := DataW.trod_array Try.underlying39 h
  have hl2 : cs.length = 3 := hl.trans (by kernel_rfl)
  have g0 := arrF (m := n) (s := 1) (o := 0) hn hf 0 (by omega) ((opens_int Try.underlying5) : Opens Try.prog (Kd.int .u8) 5 (fun n : Int => (Lit.int .u8 n).wf = true)) (by kernel_rfl) (by omega)
  have g1 := arrF (m := n) (s := 1) (o := 1) hn hf 1 (by omega) ((opens_int Try.underlying5) : Opens Try.prog (Kd.int .u8) 5 (fun n : Int => (Lit.int .u8 n).wf = true)) (by kernel_rfl) (by omega)
  have g2 := arrF (m := n) (s := 1) (o := 2) hn hf 2 (by omega) ((opens_int Try.underlying5) : Opens Try.prog (Kd.int .u8) 5 (fun n : Int => (Lit.int .u8 n).wf = true)) (by kernel_rfl) (by omega)
  obtain ⟨b, hb, wb⟩ := (pairF (o := 0) (s := 1) (o' := 1) (by omega) g0 (pairF (o := 1) (s := 1) (o' := 2) (by omega) g1 (lastF (o := 2) (s := 1) (by omega) g2)))
  exact ⟨b, hb, wb⟩
def W41 (x : S41) : Prop := (fun n : Int => (Lit.int .i64 n).wf = true) x.f0 ∧ (fun n : Int => (Lit.int .i64 n).wf = true) x.f1
theorem opens41 : Opens Try.prog k41 41 W41 := by
  intro H enc w base spare held fuel cs x h
  obtain ⟨xs, n, rfl, _, hl, hn, hf⟩ := DataW.trod_struct Try.underlying41 h
  have hl2 : cs.length = 2 := hl.trans (by kernel_rfl)
  have g0 := fieldF (m := 1) hn hf 0 _ rfl ((opens_int Try.underlying3) : Opens Try.prog (Kd.int .i64) 3 (fun n : Int => (Lit.int .i64 n).wf = true)) (by kernel_rfl)
  have g1 := fieldF (m := 1) hn hf 1 _ rfl ((opens_int Try.underlying3) : Opens Try.prog (Kd.int .i64) 3 (fun n : Int => (Lit.int .i64 n).wf = true)) (by kernel_rfl)
  have e := isoF (f := fun x : S41 => (x.f0, x.f1)) (fun p => (⟨p.1, p.2⟩ : S41)) (fun _ => rfl) (pairF (o := 0) (s := 1) (o' := 1) (by omega) g0 (lastF (o := 1) (s := 1) (by omega) g1))
  obtain ⟨b, hb, wb⟩ := e
  exact ⟨b, hb, wb⟩
def W43 (x : S43) : Prop := (fun xs : List Int => xs.length ≤ maxLen ∧ ∀ x ∈ xs, (fun n : Int => (Lit.int .i64 n).wf = true) x) x.f0 ∧ (fun xs : List Int => xs.length ≤ maxLen ∧ ∀ x ∈ xs, (fun n : Int => (Lit.int .i64 n).wf = true) x) x.f1 ∧ (fun n : Int => (Lit.int .i64 n).wf = true) x.f2 ∧ (fun n : Int => (Lit.int .i64 n).wf = true) x.f3 ∧ W41 x.f4 ∧ W41 x.f5 ∧ W41 x.f6
theorem opens43 : Opens Try.prog k43 43 W43 := by
  intro H enc w base spare held fuel cs x h
  obtain ⟨xs, n, rfl, _, hl, hn, hf⟩ := DataW.trod_struct Try.underlying43 h
  have hl2 : cs.length = 10 := hl.trans (by kernel_rfl)
  have g0 := fieldF (m := 1) hn hf 0 _ rfl ((opens_slice Try.underlying22 (by kernel_rfl) (opens_int Try.underlying3)) : Opens Try.prog (Kd.slice 3 (Kd.int .i64)) 22 (fun xs : List Int => xs.length ≤ maxLen ∧ ∀ x ∈ xs, (fun n : Int => (Lit.int .i64 n).wf = true) x)) (by kernel_rfl)
  have g1 := fieldF (m := 1) hn hf 1 _ rfl ((opens_slice Try.underlying22 (by kernel_rfl) (opens_int Try.underlying3)) : Opens Try.prog (Kd.slice 3 (Kd.int .i64)) 22 (fun xs : List Int => xs.length ≤ maxLen ∧ ∀ x ∈ xs, (fun n : Int => (Lit.int .i64 n).wf = true) x)) (by kernel_rfl)
  have g2 := fieldF (m := 1) hn hf 2 _ rfl ((opens_int Try.underlying3) : Opens Try.prog (Kd.int .i64) 3 (fun n : Int => (Lit.int .i64 n).wf = true)) (by kernel_rfl)
  have g3 := fieldF (m := 1) hn hf 3 _ rfl ((opens_int Try.underlying3) : Opens Try.prog (Kd.int .i64) 3 (fun n : Int => (Lit.int .i64 n).wf = true)) (by kernel_rfl)
  have g4 := fieldF (m := 2) hn hf 4 _ rfl (opens41 : Opens Try.prog k41 41 W41) (by kernel_rfl)
  have g5 := fieldF (m := 2) hn hf 5 _ rfl (opens41 : Opens Try.prog k41 41 W41) (by kernel_rfl)
  have g6 := fieldF (m := 2) hn hf 6 _ rfl (opens41 : Opens Try.prog k41 41 W41) (by kernel_rfl)
  have e := isoF (f := fun x : S43 => (x.f0, x.f1, x.f2, x.f3, x.f4, x.f5, x.f6)) (fun p => (⟨p.1, p.2.1, p.2.2.1, p.2.2.2.1, p.2.2.2.2.1, p.2.2.2.2.2.1, p.2.2.2.2.2.2⟩ : S43)) (fun _ => rfl) (pairF (o := 0) (s := 1) (o' := 1) (by omega) g0 (pairF (o := 1) (s := 1) (o' := 2) (by omega) g1 (pairF (o := 2) (s := 1) (o' := 3) (by omega) g2 (pairF (o := 3) (s := 1) (o' := 4) (by omega) g3 (pairF (o := 4) (s := 2) (o' := 6) (by omega) g4 (pairF (o := 6) (s := 2) (o' := 8) (by omega) g5 (lastF (o := 8) (s := 2) (by omega) g6)))))))
  obtain ⟨b, hb, wb⟩ := e
  exact ⟨b, hb, wb⟩
def W46 (x : S46) : Prop := (fun n : Int => (Lit.int .i64 n).wf = true) x.f0 ∧ (fun _ : Bool => True) x.f1 ∧ (fun xs : List S43 => xs.length ≤ maxLen ∧ ∀ x ∈ xs, W43 x) x.f2
theorem opens46 : Opens Try.prog k46 46 W46 := by
  intro H enc w base spare held fuel cs x h
  obtain ⟨xs, n, rfl, _, hl, hn, hf⟩ := DataW.trod_struct Try.underlying46 h
  have hl2 : cs.length = 3 := hl.trans (by kernel_rfl)
  have g0 := fieldF (m := 1) hn hf 0 _ rfl ((opens_int Try.underlying3) : Opens Try.prog (Kd.int .i64) 3 (fun n : Int => (Lit.int .i64 n).wf = true)) (by kernel_rfl)
  have g1 := fieldF (m := 1) hn hf 1 _ rfl ((opens_bool Try.underlying4) : Opens Try.prog Kd.bool 4 (fun _ : Bool => True)) (by kernel_rfl)
  have g2 := fieldF (m := 1) hn hf 2 _ rfl ((opens_slice Try.underlying44 (by kernel_rfl) opens43) : Opens Try.prog (Kd.slice 43 k43) 44 (fun xs : List S43 => xs.length ≤ maxLen ∧ ∀ x ∈ xs, W43 x)) (by kernel_rfl)
  have e := isoF (f := fun x : S46 => (x.f0, x.f1, x.f2)) (fun p => (⟨p.1, p.2.1, p.2.2⟩ : S46)) (fun _ => rfl) (pairF (o := 0) (s := 1) (o' := 1) (by omega) g0 (pairF (o := 1) (s := 1) (o' := 2) (by omega) g1 (lastF (o := 2) (s := 1) (by omega) g2)))
  obtain ⟨b, hb, wb⟩ := e
  exact ⟨b, hb, wb⟩
def W56 (x : ((List Int) × (List Bool))) : Prop := (fun xs : List Int => xs.length ≤ maxLen ∧ ∀ x ∈ xs, (fun n : Int => (Lit.int .i64 n).wf = true) x) x.1 ∧ (fun xs : List Bool => xs.length ≤ maxLen ∧ ∀ x ∈ xs, (fun _ : Bool => True) x) x.2
theorem opens56 : Opens Try.prog (Kd.pair (Kd.slice 3 (Kd.int .i64)) (Kd.slice 4 Kd.bool)) 56 W56 := by
  intro H enc w base spare held fuel cs x h
  obtain ⟨xs, n, rfl, _, hl, hn, hf⟩ := DataW.trod_struct Try.underlying56 h
  have hl2 : cs.length = 2 := hl.trans (by kernel_rfl)
  have g0 := fieldF (m := 1) hn hf 0 _ rfl ((opens_slice Try.underlying22 (by kernel_rfl) (opens_int Try.underlying3)) : Opens Try.prog (Kd.slice 3 (Kd.int .i64)) 22 (fun xs : List Int => xs.length ≤ maxLen ∧ ∀ x ∈ xs, (fun n : Int => (Lit.int .i64 n).wf = true) x)) (by kernel_rfl)
  have g1 := fieldF (m := 1) hn hf 1 _ rfl ((opens_slice Try.underlying23 (by kernel_rfl) (opens_bool Try.underlying4)) : Opens Try.prog (Kd.slice 4 Kd.bool) 23 (fun xs : List Bool => xs.length ≤ maxLen ∧ ∀ x ∈ xs, (fun _ : Bool => True) x)) (by kernel_rfl)
  obtain ⟨b, hb, wb⟩ := (pairF (o := 0) (s := 1) (o' := 1) (by omega) g0 (lastF (o := 1) (s := 1) (by omega) g1))
  exact ⟨b, hb, wb⟩
def W60 (x : (Int × Int)) : Prop := (fun n : Int => (Lit.int .u8 n).wf = true) x.1 ∧ (fun n : Int => (Lit.int .u8 n).wf = true) x.2
theorem opens60 : Opens Try.prog (Kd.pair (Kd.int .u8) (Kd.int .u8)) 60 W60 := by
  intro H enc w base spare held fuel cs x h
  obtain ⟨xs, n, rfl, _, hl, hn, hf⟩ := DataW.trod_array Try.underlying60 h
  have hl2 : cs.length = 2 := hl.trans (by kernel_rfl)
  have g0 := arrF (m := n) (s := 1) (o := 0) hn hf 0 (by omega) ((opens_int Try.underlying5) : Opens Try.prog (Kd.int .u8) 5 (fun n : Int => (Lit.int .u8 n).wf = true)) (by kernel_rfl) (by omega)
  have g1 := arrF (m := n) (s := 1) (o := 1) hn hf 1 (by omega) ((opens_int Try.underlying5) : Opens Try.prog (Kd.int .u8) 5 (fun n : Int => (Lit.int .u8 n).wf = true)) (by kernel_rfl) (by omega)
  obtain ⟨b, hb, wb⟩ := (pairF (o := 0) (s := 1) (o' := 1) (by omega) g0 (lastF (o := 1) (s := 1) (by omega) g1))
  exact ⟨b, hb, wb⟩
end Go.Proofs.Ytoldahmgjenlaaa.Q
