/- Contracts: the sizes that are looked at, and the statements' first question. -/
import Derived.Test.YtoldahmgjenlaaaS4
import Derived.Test.YtoldahmgjenlaaaQx22
namespace Go.Proofs.Ytoldahmgjenlaaa.S
open Go.RowKit Go.Proofs.Ytoldahmgjenlaaa.Q Go.Proofs.YtoldahmgjenlaaaW.PrintWords Go.Proofs.YtoldahmgjenlaaaW.PrintLast Go.Proofs.Ytoldahmgjenlaaa.C
set_option linter.unusedVariables false

theorem awake20 : foundrylaw20_awake.f 40 = some true := by decide +kernel
theorem awake20_ev : Ev (fun k => foundrylaw20_awake.f k) true := Ev.of foundrylaw20_awake.mono awake20
/-- Of lists that can be: no longer than memory. -/
def Sized (l : List S46) : Prop := l.length ≤ 9223372036854775807 ∧ ∀ i : Nat, (rd_T46 l (i : Int)).f2.length ≤ 9223372036854775807
theorem few_l1 (e : Nat) : ∀ (l : List S46) (n : Int) (i k : Nat), i < l.length → Sized l → k + e = (rd_T46 l (i : Int)).f2.length → (∀ n, ∃ b, Ev (fun f => foundryref20_Few.l0 f l n (wrap64 ((i : Int) + 1))) b) → ∃ b, Ev (fun f => foundryref20_Few.l1 f l n (i : Int) (k : Int)) b := by
  induction e with
  | zero =>
    intro l n i k hi hs hk h
    obtain ⟨b, hb⟩ := h n
    exact ⟨b, Ev.step (fun f => (foundryref20_Few.l1.eq_2 l n (i : Int) (k : Int) f).trans ((if_pos (Int.natCast_nonneg i)).trans ((if_pos (by omega)).trans (if_neg (by omega))))) hb⟩
  | succ e ih =>
    intro l n i k hi hs hk h
    have h1 := hs.2 i
    have e1 : wrap64 ((k : Int) + 1) = ((k + 1 : Nat) : Int) := up_one (n := (rd_T46 l (i : Int)).f2.length) (by omega) h1
    have hq : ∀ f, foundryref20_Few.l1 (f + 1) l n (i : Int) (k : Int) = _ := fun f => (foundryref20_Few.l1.eq_2 l n (i : Int) (k : Int) f).trans ((if_pos (Int.natCast_nonneg i)).trans ((if_pos (by omega)).trans (if_pos (by omega))))
    by_cases hn : n ≤ 600
    · obtain ⟨b, hb⟩ := ih l (wrap64 (n + (wrap64 ((wrap64 (1 + (((rd_T43 ((rd_T46 l (i : Int)).f2) (k : Int)).f0).length : Int))) + (((rd_T43 ((rd_T46 l (i : Int)).f2) (k : Int)).f1).length : Int))))) i (k + 1) hi hs (by omega) h
      exact ⟨b, Ev.step (fun f => (hq f).trans ((if_pos hn).trans ((if_pos (Int.natCast_nonneg k)).trans (by rw [e1])))) hb⟩
    · obtain ⟨b, hb⟩ := h n
      exact ⟨b, Ev.step (fun f => (hq f).trans (if_neg hn)) hb⟩
theorem few_l0 (d : Nat) : ∀ (l : List S46) (n : Int) (i : Nat), Sized l → i + d = l.length → ∃ b, Ev (fun f => foundryref20_Few.l0 f l n (i : Int)) b := by
  induction d with
  | zero =>
    intro l n i hs hi
    refine ⟨_, Ev.step (fun f => (foundryref20_Few.l0.eq_2 l n (i : Int) f).trans (if_neg (by omega))) (Ev.step (fun f => (foundryref20_Few.j1.eq_2 l n (i : Int) false f).trans (if_neg (by simp))) (Ev.now _))⟩
  | succ d ih =>
    intro l n i hs hi
    have h0 := hs.1
    have e1 : wrap64 ((i : Int) + 1) = ((i + 1 : Nat) : Int) := up_one (n := l.length) (by omega) h0
    by_cases hn : n ≤ 600
    · obtain ⟨b, hb⟩ := few_l1 (rd_T46 l (i : Int)).f2.length l (wrap64 (n + 1)) i 0 (by omega) hs (by omega) (fun n => by rw [e1]; exact ih l n (i + 1) hs (by omega))
      exact ⟨b, Ev.step (fun f => (foundryref20_Few.l0.eq_2 l n (i : Int) f).trans ((if_pos (by omega)).trans (by rw [decide_eq_true hn]))) (Ev.step (fun f => (foundryref20_Few.j1.eq_2 l n (i : Int) true f).trans (if_pos rfl)) hb)⟩
    · exact ⟨_, Ev.step (fun f => (foundryref20_Few.l0.eq_2 l n (i : Int) f).trans ((if_pos (by omega)).trans (by rw [decide_eq_false hn]))) (Ev.step (fun f => (foundryref20_Few.j1.eq_2 l n (i : Int) false f).trans (if_neg (by simp))) (Ev.now _))⟩
theorem few20_ev (l : List S46) (x : List Int) (m : List Bool) (hs : Sized l) : ∃ b, Ev (fun f => foundrylaw20_few.f f l x m) b ∧ (b = true → x.length ≤ 150 ∧ m.length ≤ 1000) := by
  obtain ⟨b, hb⟩ := few_l0 l.length l 0 0 hs (by omega)
  cases b with
  | false => exact ⟨false, Ev.bind (f := fun f t => if t = true then _ else some false) hb (Ev.congr (fun f => if_neg (by simp)) (Ev.now false)), fun h => by cases h⟩
  | true =>
    by_cases h1 : (x.length : Int) ≤ 150
    · exact ⟨decide ((m.length : Int) ≤ 1000), Ev.bind hb (Ev.congr (fun f => (if_pos rfl).trans (if_pos h1)) (Ev.now _)), fun h => ⟨by omega, by have := of_decide_eq_true h; omega⟩⟩
    · exact ⟨false, Ev.bind hb (Ev.congr (fun f => (if_pos rfl).trans (if_neg h1)) (Ev.now _)), fun h => by cases h⟩
end Go.Proofs.Ytoldahmgjenlaaa.S
