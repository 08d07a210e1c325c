/- Contracts: the reference's Puts, all, rule and Formed. -/
import Derived.Test.YtoldahmgjenlaaaS4
import Derived.Test.YtoldahmgjenlaaaQx27
namespace Go.Proofs.Ytoldahmgjenlaaa.S
open Go.RowKit Go.Proofs.Ytoldahmgjenlaaa.Q Go.Proofs.YtoldahmgjenlaaaW.PrintWords Go.Proofs.YtoldahmgjenlaaaW.PrintLast Go.Proofs.Ytoldahmgjenlaaa.C
set_option linter.unusedVariables false

theorem rputs_eq (kind : Int) : foundryref20_Puts.f kind = some (putsv kind) := by
  unfold foundryref20_Puts.f
  by_cases h1 : kind = 1
  · rw [if_pos h1, h1]; rfl
  by_cases h2 : kind = 2
  · rw [if_neg h1, if_pos h2, h2]; rfl
  by_cases h3 : kind = 3
  · rw [if_neg h1, if_neg h2, if_pos h3, h3]; rfl
  by_cases h4 : kind = 4
  · rw [if_neg h1, if_neg h2, if_neg h3, h4]; rfl
  · rw [if_neg h1, if_neg h2, if_neg h3]
    congr 1
    rw [beq_eq_false_iff_ne.mpr h4]
    symm
    rw [Bool.eq_false_iff]
    intro h
    rcases puts_kinds h with h | h | h | h <;> contradiction
def allv (gs : List Int) (n lo hi : Int) : Bool := if gs.any (badv n) = true then false else if (gs.length : Int) ≥ lo then decide ((gs.length : Int) ≤ hi) else false
theorem bad_iff (n g : Int) : badv n g = true ↔ g < 0 ∨ g ≥ n := by unfold badv; simp
theorem rall_l0 (d : Nat) : ∀ (gs : List Int) (n lo hi : Int) (i : Nat), gs.length ≤ 9223372036854775807 → i + d = gs.length →
    Ev (fun f => foundryref20_all.l0 f gs n lo hi (i : Int)) (if (gs.drop i).any (badv n) = true then false else if (gs.length : Int) ≥ lo then decide ((gs.length : Int) ≤ hi) else false) := by
  induction d with
  | zero =>
    intro gs n lo hi i hl hi
    rw [List.drop_of_length_le (by omega), if_neg (by simp)]
    refine Ev.step (fun f => (foundryref20_all.l0.eq_2 gs n lo _ (i : Int) f).trans (if_neg (by omega))) (ev_some fun f => ?_)
    split <;> rfl
  | succ d ih =>
    intro gs n lo hi i hl hi2
    have hil : i < gs.length := by omega
    have e1 : wrap64 ((i : Int) + 1) = ((i + 1 : Nat) : Int) := up_one hil hl
    rw [C.drop_cons gs i hil, List.any_cons]
    refine Ev.step (fun f => (foundryref20_all.l0.eq_2 gs n lo hi (i : Int) f).trans ((if_pos (Int.ofNat_lt.2 hil)).trans (if_pos (Int.natCast_nonneg i)))) ?_
    rw [rd_nat]
    by_cases h1 : gs.getD i 0 < 0
    · rw [(bad_iff n _).2 (.inl h1), Bool.true_or, if_pos rfl]
      exact Ev.congr (fun f => if_pos h1) (Ev.now false)
    by_cases h2 : gs.getD i 0 ≥ n
    · rw [(bad_iff n _).2 (.inr h2), Bool.true_or, if_pos rfl]
      exact Ev.congr (fun f => (if_neg h1).trans (if_pos h2)) (Ev.now false)
    · have hb : badv n (gs.getD i 0) = false := by rw [Bool.eq_false_iff]; intro h; exact ((bad_iff n _).1 h).elim h1 h2
      rw [hb, Bool.false_or]
      exact Ev.congr (fun f => (if_neg h1).trans ((if_neg h2).trans (by rw [e1]))) (ih gs n lo hi (i + 1) hl (by omega))
theorem rall_ev {gs : List Int} (n lo hi : Int) (hl : gs.length ≤ 9223372036854775807) : Ev (fun f => foundryref20_all.f f gs n lo hi) (allv gs n lo hi) := by
  have h := rall_l0 gs.length gs n lo hi 0 hl (by omega)
  rw [List.drop_zero] at h
  exact h
/-- What the reference asks of a rule. -/
def rrule (l : List S46) (kind glyphs : Int) (r : S43) : Bool :=
  if (!(r.f4.f0 == 0) || (!(r.f4.f1 == 0))) = true then false else if (!(r.f5.f0 == 0) || (!(r.f5.f1 == 0))) = true then false else if (!(r.f6.f0 == 0) || (!(r.f6.f1 == 0))) = true then false else
  if kind = 4 then (if allv r.f0 glyphs 1 8 = true then (if (r.f1.length : Int) = 0 then (if r.f2 ≥ 0 then (if r.f2 < (r.f0.length : Int) then (if r.f3 ≥ 0 then (if r.f3 < (l.length : Int) then putsv (rd_T46 l r.f3).f0 else false) else false) else false) else false) else false) else false)
  else if r.f2 = 0 then (if r.f3 = 0 then (if kind = 1 then (if allv r.f0 glyphs 1 1 = true then allv r.f1 glyphs 1 1 else false) else if kind = 2 then (if allv r.f0 glyphs 1 1 = true then allv r.f1 glyphs 0 8 else false) else (if allv r.f0 glyphs 2 8 = true then allv r.f1 glyphs 1 1 else false)) else false) else false
theorem rrule_eq {l : List S46} {kind glyphs : Int} {r : S43} (hk : putsv kind = true) : rrule l kind glyphs r = rulew l kind glyphs r := by
  have hb1 : r.f1.length = 0 → r.f1.any (badv glyphs) = false := fun h => by rw [List.length_eq_zero_iff.1 h]; rfl
  unfold rulew rulev rrule allv
  generalize (!(r.f4.f0 == 0) || (!(r.f4.f1 == 0))) = s4
  generalize (!(r.f5.f0 == 0) || (!(r.f5.f1 == 0))) = s5
  generalize (!(r.f6.f0 == 0) || (!(r.f6.f1 == 0))) = s6
  generalize r.f0.any (badv glyphs) = b0
  generalize r.f1.any (badv glyphs) = b1 at *
  generalize putsv (rd_T46 l r.f3).f0 = pp
  generalize r.f0.length = n0
  generalize r.f1.length = n1 at *
  generalize r.f2 = at0
  generalize r.f3 = at1
  generalize l.length = nl
  rcases puts_kinds hk with rfl | rfl | rfl | rfl <;> simp [shapev] <;> grind
theorem rrule_ev {l : List S46} {kind glyphs : Int} {r : S43} (h0 : r.f0.length ≤ 9223372036854775807) (h1 : r.f1.length ≤ 9223372036854775807) :
    Ev (fun f => foundryref20_rule.f f l kind r.f0 r.f1 r.f2 r.f3 r.f4.f0 r.f4.f1 r.f5.f0 r.f5.f1 r.f6.f0 r.f6.f1 glyphs) (rrule l kind glyphs r) := by
  have hj0 : ∀ b, Ev (fun f => foundryref20_rule.j0 f l kind glyphs b r.f0 r.f1 r.f2 r.f3 r.f4.f0 r.f4.f1 r.f5.f0 r.f5.f1 r.f6.f0 r.f6.f1) (if b = true then false else (if kind = 4 then (if allv r.f0 glyphs 1 8 = true then (if (r.f1.length : Int) = 0 then (if r.f2 ≥ 0 then (if r.f2 < (r.f0.length : Int) then (if r.f3 ≥ 0 then (if r.f3 < (l.length : Int) then putsv (rd_T46 l r.f3).f0 else false) else false) else false) else false) else false) else false)
  else if r.f2 = 0 then (if r.f3 = 0 then (if kind = 1 then (if allv r.f0 glyphs 1 1 = true then allv r.f1 glyphs 1 1 else false) else if kind = 2 then (if allv r.f0 glyphs 1 1 = true then allv r.f1 glyphs 0 8 else false) else (if allv r.f0 glyphs 2 8 = true then allv r.f1 glyphs 1 1 else false)) else false) else false)) := by
    intro b
    refine Ev.step (fun f => foundryref20_rule.j0.eq_2 l kind glyphs b r.f0 r.f1 r.f2 r.f3 r.f4.f0 r.f4.f1 r.f5.f0 r.f5.f1 r.f6.f0 r.f6.f1 f) ?_
    cases b with
    | true => exact Ev.congr (fun f => if_pos rfl) (Ev.now false)
    | false =>
      refine Ev.congr (fun f => if_neg Bool.false_ne_true) ?_
      rw [if_neg Bool.false_ne_true]
      by_cases k4 : kind = 4
      · refine Ev.congr (fun f => if_pos k4) (Ev.bind (rall_ev glyphs 1 8 h0) ?_)
        rw [if_pos k4]
        by_cases c1 : allv r.f0 glyphs 1 8 = true
        · refine Ev.congr (fun f => if_pos c1) ?_
          rw [if_pos c1]
          by_cases c2 : (r.f1.length : Int) = 0
          · refine Ev.congr (fun f => if_pos c2) ?_
            rw [if_pos c2]
            by_cases c3 : r.f2 ≥ 0
            · refine Ev.congr (fun f => if_pos c3) ?_
              rw [if_pos c3]
              by_cases c4 : r.f2 < (r.f0.length : Int)
              · refine Ev.congr (fun f => if_pos c4) ?_
                rw [if_pos c4]
                by_cases c5 : r.f3 ≥ 0
                · refine Ev.congr (fun f => if_pos c5) ?_
                  rw [if_pos c5, if_pos c5]
                  by_cases c6 : r.f3 < (l.length : Int)
                  · exact Ev.congr (fun f => (if_pos c6).trans (by rw [rputs_eq, Option.bind_some])) (by rw [if_pos c6]; exact Ev.now _)
                  · exact Ev.congr (fun f => if_neg c6) (by rw [if_neg c6]; exact Ev.now _)
                · exact Ev.congr (fun f => if_neg c5) (by rw [if_neg c5]; exact Ev.now _)
              · exact Ev.congr (fun f => if_neg c4) (by rw [if_neg c4]; exact Ev.now _)
            · exact Ev.congr (fun f => if_neg c3) (by rw [if_neg c3]; exact Ev.now _)
          · exact Ev.congr (fun f => if_neg c2) (by rw [if_neg c2]; exact Ev.now _)
        · exact Ev.congr (fun f => if_neg c1) (by rw [if_neg c1]; exact Ev.now _)
      · refine Ev.congr (fun f => if_neg k4) ?_
        rw [if_neg k4]
        have hj1 : ∀ b, Ev (fun f => foundryref20_rule.j1 f kind glyphs b r.f0 r.f1 r.f2 r.f3 r.f4.f0 r.f4.f1 r.f5.f0 r.f5.f1 r.f6.f0 r.f6.f1) (if b = true then false else (if kind = 1 then (if allv r.f0 glyphs 1 1 = true then allv r.f1 glyphs 1 1 else false) else if kind = 2 then (if allv r.f0 glyphs 1 1 = true then allv r.f1 glyphs 0 8 else false) else (if allv r.f0 glyphs 2 8 = true then allv r.f1 glyphs 1 1 else false))) := by
          intro b
          have two : ∀ (a b c d : Int), Ev (fun f => (foundryref20_all.f f r.f0 glyphs a b).bind fun t => if t = true then (foundryref20_all.f f r.f1 glyphs c d).bind fun t => some t else some false) (if allv r.f0 glyphs a b = true then allv r.f1 glyphs c d else false) := by
            intro a b c d
            refine Ev.bind (rall_ev glyphs a b h0) ?_
            by_cases c1 : allv r.f0 glyphs a b = true
            · rw [if_pos c1]; exact Ev.congr (fun f => if_pos c1) (Ev.bind (rall_ev glyphs c d h1) (Ev.now _))
            · rw [if_neg c1]; exact Ev.congr (fun f => if_neg c1) (Ev.now _)
          refine Ev.step (fun f => foundryref20_rule.j1.eq_2 kind glyphs b r.f0 r.f1 r.f2 r.f3 r.f4.f0 r.f4.f1 r.f5.f0 r.f5.f1 r.f6.f0 r.f6.f1 f) ?_
          cases b with
          | true => exact Ev.congr (fun f => if_pos rfl) (Ev.now false)
          | false =>
            refine Ev.congr (fun f => if_neg Bool.false_ne_true) ?_
            rw [if_neg Bool.false_ne_true]
            by_cases k1 : kind = 1
            · rw [if_pos k1]; exact Ev.congr (fun f => if_pos k1) (two 1 1 1 1)
            by_cases k2 : kind = 2
            · rw [if_neg k1, if_pos k2]; exact Ev.congr (fun f => (if_neg k1).trans (if_pos k2)) (two 1 1 0 8)
            · rw [if_neg k1, if_neg k2]; exact Ev.congr (fun f => (if_neg k1).trans (if_neg k2)) (two 2 8 1 1)
        by_cases c2 : r.f2 = 0
        · refine Ev.congr (fun f => if_pos c2) ?_
          rw [if_pos c2]
          have h := hj1 (r.f3 != 0)
          by_cases c3 : r.f3 = 0
          · rw [if_pos c3]; rw [if_neg (by simp [c3])] at h; exact h
          · rw [if_neg c3]; rw [if_pos (by simp [c3])] at h; exact h
        · refine Ev.congr (fun f => if_neg c2) ?_
          rw [if_neg c2]
          exact hj1 true
  unfold foundryref20_rule.f rrule
  by_cases s4 : (!(r.f4.f0 == 0) || (!(r.f4.f1 == 0))) = true
  · rw [if_pos s4]; exact Ev.congr (fun f => if_pos s4) (hj0 true)
  by_cases s5 : (!(r.f5.f0 == 0) || (!(r.f5.f1 == 0))) = true
  · rw [if_neg s4, if_pos s5]; exact Ev.congr (fun f => (if_neg s4).trans (if_pos s5)) (hj0 true)
  · rw [if_neg s4, if_neg s5]; exact Ev.congr (fun f => (if_neg s4).trans (if_neg s5)) (hj0 _)
/-- Of rules that can be. -/
def Big (l : List S46) : Prop := l.length ≤ 9223372036854775807 ∧ ∀ i k : Nat, (rd_T43 (rd_T46 l (i : Int)).f2 (k : Int)).f0.length ≤ 9223372036854775807 ∧ (rd_T43 (rd_T46 l (i : Int)).f2 (k : Int)).f1.length ≤ 9223372036854775807
theorem rform_l1 (e : Nat) : ∀ (l : List S46) (glyphs : Int) (i k : Nat) (b : Bool), i < l.length → Big l → putsv (rd_T46 l (i : Int)).f0 = true → (rd_T46 l (i : Int)).f2.length ≤ 40 → k + e = (rd_T46 l (i : Int)).f2.length → Ev (fun f => foundryref20_Formed.l0 f l glyphs (wrap64 ((i : Int) + 1))) b →
    Ev (fun f => foundryref20_Formed.l1 f l glyphs (i : Int) (k : Int)) (if (((rd_T46 l (i : Int)).f2.drop k).any fun r => !rulew l (rd_T46 l (i : Int)).f0 glyphs r) = true then false else b) := by
  induction e with
  | zero =>
    intro l glyphs i k b hi hB hp h40 hk h
    rw [List.drop_of_length_le (by omega), if_neg (by simp)]
    refine Ev.step (fun f => (foundryref20_Formed.l1.eq_2 l glyphs (i : Int) (k : Int) f).trans ((if_pos (Int.natCast_nonneg i)).trans ((if_pos (Int.ofNat_lt.2 hi)).trans (if_neg (by omega))))) ?_
    exact Ev.step (fun f => (foundryref20_Formed.j3.eq_2 l glyphs (i : Int) (k : Int) false f).trans (if_neg (by simp))) h
  | succ e ih =>
    intro l glyphs i k b hi hB hp h40 hk h
    have hkl : k < (rd_T46 l (i : Int)).f2.length := by omega
    have e1 : wrap64 ((k : Int) + 1) = ((k + 1 : Nat) : Int) := up_one hkl (by omega)
    have hdrop : (rd_T46 l (i : Int)).f2.drop k = rd_T43 (rd_T46 l (i : Int)).f2 (k : Int) :: (rd_T46 l (i : Int)).f2.drop (k + 1) := by
      rw [List.drop_eq_getElem_cons hkl]; unfold rd_T43; simp [List.getD, hkl]
    obtain ⟨b0, b1⟩ := hB.2 i k
    have hr := rrule_ev (l := l) (kind := (rd_T46 l (i : Int)).f0) (glyphs := glyphs) b0 b1
    rw [rrule_eq hp] at hr
    have hn := ih l glyphs i (k + 1) b hi hB hp h40 (by omega) h
    rw [hdrop, List.any_cons]
    refine Ev.step (fun f => (foundryref20_Formed.l1.eq_2 l glyphs (i : Int) (k : Int) f).trans ((if_pos (Int.natCast_nonneg i)).trans ((if_pos (Int.ofNat_lt.2 hi)).trans ((if_pos (Int.ofNat_lt.2 hkl)).trans (by rw [rputs_eq, Option.bind_some, hp]))))) ?_
    refine Ev.step (fun f => (foundryref20_Formed.j3.eq_2 l glyphs (i : Int) (k : Int) true f).trans ((if_pos rfl).trans ((if_pos (Int.natCast_nonneg i)).trans ((if_pos (Int.ofNat_lt.2 hi)).trans ((if_pos (Int.natCast_nonneg k)).trans (if_pos (Int.ofNat_lt.2 hkl))))))) (Ev.bind hr ?_)
    rw [e1]
    cases rulew l (rd_T46 l (i : Int)).f0 glyphs (rd_T43 (rd_T46 l (i : Int)).f2 (k : Int)) with
    | true => exact Ev.congr (fun f => if_pos rfl) (by simpa using hn)
    | false => exact Ev.congr (fun f => if_neg (by simp)) (by simpa using Ev.now false)
theorem rform_l0 (d : Nat) : ∀ (l : List S46) (glyphs : Int) (i : Nat), Big l → i + d = l.length → Ev (fun f => foundryref20_Formed.l0 f l glyphs (i : Int)) ((l.drop i).all (lookv l glyphs)) := by
  induction d with
  | zero =>
    intro l glyphs i hB hi
    rw [List.drop_of_length_le (by omega)]
    exact Ev.step (fun f => (foundryref20_Formed.l0.eq_2 l glyphs (i : Int) f).trans (if_neg (by omega))) (Ev.now true)
  | succ d ih =>
    intro l glyphs i hB hi
    have hil : i < l.length := by omega
    have e1 : wrap64 ((i : Int) + 1) = ((i + 1 : Nat) : Int) := up_one hil hB.1
    have hn := ih l glyphs (i + 1) hB (by omega)
    have hdrop : l.drop i = rd_T46 l (i : Int) :: l.drop (i + 1) := by
      rw [List.drop_eq_getElem_cons hil]; unfold rd_T46; simp [List.getD, hil]
    rw [hdrop, List.all_cons]
    refine Ev.step (fun f => (foundryref20_Formed.l0.eq_2 l glyphs (i : Int) f).trans ((if_pos (Int.ofNat_lt.2 hil)).trans ((if_pos (Int.natCast_nonneg i)).trans (by rw [rputs_eq, Option.bind_some])))) ?_
    rw [← e1] at hn
    unfold lookv
    by_cases hp : putsv (rd_T46 l (i : Int)).f0 = true
    · rw [if_pos hp]
      by_cases h40 : 40 < ((rd_T46 l (i : Int)).f2.length : Int)
      · rw [if_pos h40, Bool.false_and]
        exact Ev.congr (fun f => (if_pos hp).trans (by rw [decide_eq_true (by omega)])) (Ev.step (fun f => (foundryref20_Formed.j1.eq_2 l glyphs (i : Int) true f).trans (if_pos rfl)) (Ev.now false))
      · rw [if_neg h40]
        have h1 := rform_l1 (rd_T46 l (i : Int)).f2.length l glyphs i 0 _ hil hB hp (by omega) (by omega) hn
        rw [List.drop_zero] at h1
        refine Ev.congr (fun f => (if_pos hp).trans (by rw [decide_eq_false (by omega)])) (Ev.step (fun f => (foundryref20_Formed.j1.eq_2 l glyphs (i : Int) false f).trans (if_neg (by simp))) ?_)
        revert h1
        cases ((rd_T46 l (i : Int)).f2.any fun r => !rulew l (rd_T46 l (i : Int)).f0 glyphs r) with
        | true => intro h1; exact h1
        | false => intro h1; rw [Bool.not_false, Bool.true_and]; exact h1
    · rw [if_neg hp, Bool.true_and]
      refine Ev.congr (fun f => if_neg hp) (Ev.step (fun f => (foundryref20_Formed.j1.eq_2 l glyphs (i : Int) false f).trans (if_neg (by simp))) ?_)
      have hz : ∀ b, b = false → Ev (fun f => foundryref20_Formed.j3 f l glyphs (i : Int) 0 b) ((l.drop (i + 1)).all (lookv l glyphs)) := fun b hb => by
        subst hb
        exact Ev.step (fun f => (foundryref20_Formed.j3.eq_2 l glyphs (i : Int) 0 false f).trans (if_neg (by simp))) hn
      refine Ev.step (fun f => (foundryref20_Formed.l1.eq_2 l glyphs (i : Int) 0 f).trans ((if_pos (Int.natCast_nonneg i)).trans (if_pos (Int.ofNat_lt.2 hil)))) ?_
      by_cases h0 : (0 : Int) < ((rd_T46 l (i : Int)).f2.length : Int)
      · exact Ev.congr (fun f => (if_pos h0).trans (by rw [rputs_eq, Option.bind_some])) (hz _ (Bool.eq_false_iff.2 hp))
      · exact Ev.congr (fun f => if_neg h0) (hz false rfl)
theorem rformed_ev {l : List S46} (glyphs : Int) (hB : Big l) : Ev (fun f => foundryref20_Formed.f f l glyphs) (formedv l glyphs) := by
  have h := rform_l0 l.length l glyphs 0 hB (by omega)
  rw [List.drop_zero] at h
  unfold formedv
  by_cases h1 : (l.length : Int) > 10
  · refine Ev.congr (fun f => if_pos h1) ?_
    rw [decide_eq_false (by omega)]
    split <;> exact Ev.now false
  · refine Ev.congr (fun f => if_neg h1) ?_
    rw [decide_eq_true (by omega)]
    revert h
    cases l.all (lookv l glyphs) <;> exact id
end Go.Proofs.Ytoldahmgjenlaaa.S
