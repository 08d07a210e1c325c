/- Contracts: SameInts of a list and itself; fair; awake. -/
import Derived.Test.YtimiapghmehnaaaF3
import Derived.Test.YtimiapghmehnaaaQx4
import Derived.Test.YtimiapghmehnaaaQx6
import Derived.Test.YtimiapghmehnaaaQx8
namespace Go.Proofs.Ytimiapghmehnaaa.C
open Go.RowKit Go.Proofs.Ytimiapghmehnaaa.Q Go.Proofs.YtimiapghmehnaaaW.PrintWords Go.Proofs.YtimiapghmehnaaaW.PrintLast
set_option linter.unusedVariables false
theorem same_l0 (d : Nat) : ∀ (a : List Int) (i : Nat), a.length ≤ 9223372036854775807 → i + d = a.length → Ev (fun k => foundryref06_SameInts.l0 k a a (i : Int)) true := by
  induction d with
  | zero =>
    intro a i h hi
    exact Ev.step (fun k => (foundryref06_SameInts.l0.eq_2 a a (i : Int) k).trans (if_neg (by omega))) (Ev.now true)
  | succ d ih =>
    intro a i h hi
    have hil : i < a.length := by omega
    have e1 := up_one hil h
    have hn := ih a (i + 1) h (by omega)
    rw [← e1] at hn
    exact Ev.step (fun k => (foundryref06_SameInts.l0.eq_2 a a (i : Int) k).trans ((if_pos (Int.ofNat_lt.2 hil)).trans ((if_pos (Int.natCast_nonneg i)).trans ((if_pos (Int.ofNat_lt.2 hil)).trans (if_pos rfl))))) hn
theorem same_refl {a : List Int} (h : a.length ≤ 9223372036854775807) : Ev (fun k => foundryref06_SameInts.f k a a) true :=
  Ev.congr (fun k => if_pos rfl) (same_l0 a.length a 0 h (by omega))
theorem small_some (n : Int) : ∃ b, foundrylaw17_small.f n = some b := by
  unfold foundrylaw17_small.f
  split <;> exact ⟨_, rfl⟩
theorem fair_l0 (c : Int) (d : Nat) : ∀ (l : List S33) (i : Nat), l.length ≤ 9223372036854775807 → i + d = l.length → ∃ b, Ev (fun k => foundrylaw17_fair.l0 k l c (i : Int)) b := by
  induction d with
  | zero =>
    intro l i h hi
    obtain ⟨b, hb⟩ := small_some c
    exact ⟨b, Ev.step (fun k => (foundrylaw17_fair.l0.eq_2 l c (i : Int) k).trans ((if_neg (by omega)).trans (by rw [hb, Option.bind_some]))) (Ev.now b)⟩
  | succ d ih =>
    intro l i h hi
    have hil : i < l.length := by omega
    have e1 := up_one hil h
    obtain ⟨b, hn⟩ := ih l (i + 1) h (by omega)
    rw [← e1] at hn
    obtain ⟨b0, h0⟩ := small_some (rd_T33 l (i : Int)).f0
    obtain ⟨b1, h1⟩ := small_some (rd_T33 l (i : Int)).f1
    obtain ⟨b2, h2⟩ := small_some (rd_T33 l (i : Int)).f2
    have hs : ∀ k, foundrylaw17_fair.l0 (k + 1) l c (i : Int) = (if b0 = true then (if b1 = true then (if b2 = true then foundrylaw17_fair.l0 k l c (wrap64 ((i : Int) + 1)) else some false) else some false) else some false) := fun k =>
      (foundrylaw17_fair.l0.eq_2 l c (i : Int) k).trans ((if_pos (Int.ofNat_lt.2 hil)).trans ((if_pos (Int.natCast_nonneg i)).trans (by rw [h0, h1, h2]; rfl)))
    cases b0 with
    | false => exact ⟨false, Ev.step (fun k => (hs k).trans (if_neg Bool.false_ne_true)) (Ev.now false)⟩
    | true =>
      cases b1 with
      | false => exact ⟨false, Ev.step (fun k => (hs k).trans ((if_pos rfl).trans (if_neg Bool.false_ne_true))) (Ev.now false)⟩
      | true =>
        cases b2 with
        | false => exact ⟨false, Ev.step (fun k => (hs k).trans ((if_pos rfl).trans ((if_pos rfl).trans (if_neg Bool.false_ne_true)))) (Ev.now false)⟩
        | true => exact ⟨b, Ev.step (fun k => (hs k).trans ((if_pos rfl).trans ((if_pos rfl).trans (if_pos rfl)))) hn⟩
theorem fair_ev (c : Int) {l : List S33} (h : l.length ≤ 9223372036854775807) : ∃ b, Ev (fun k => foundrylaw17_fair.f k l c) b := fair_l0 c l.length l 0 h (by omega)
theorem awake : foundrylaw17_awake.f = some true := by decide +kernel
theorem map_eq (l : List S33) {s : ByteArray} (h : s.size ≤ 1000000) : chars_Map.f l s = some (mapv l (runesL s s.size 0)) := by unfold chars_Map.f; rw [if_pos h]
theorem rmap_eq (l : List S33) {s : ByteArray} (h : s.size ≤ 1000000) : foundryref17_Map.f l s = some (mapv l (runesL s s.size 0)) := by unfold foundryref17_Map.f; rw [if_pos h]
theorem map_len (l : List S33) (s : ByteArray) : (mapv l (runesL s s.size 0)).length ≤ s.size := by
  unfold mapv; rw [List.length_map]; exact runesL_len s s.size 0
end Go.Proofs.Ytimiapghmehnaaa.C
