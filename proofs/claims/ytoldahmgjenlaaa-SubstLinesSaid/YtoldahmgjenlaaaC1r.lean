/- Contracts of layer 19's reference, as printed. -/
import Derived.Test.YtoldahmgjenlaaaC1
import Derived.Test.YtoldahmgjenlaaaQx4
namespace Go.Proofs.Ytoldahmgjenlaaa.C
open Go.RowKit Go.Proofs.Ytoldahmgjenlaaa.Q Go.Proofs.YtoldahmgjenlaaaW.PrintWords Go.Proofs.YtoldahmgjenlaaaW.PrintLast Go.Proofs.YtoldahmgjenlaaaW.PrintMore
set_option linter.unusedVariables false
set_option linter.unusedSimpArgs false

theorem rmark_eq (m : List Bool) (g : Int) : foundryref19_Mark.f m g = some (markv m g) := by
  unfold foundryref19_Mark.f markv
  by_cases h0 : 0 ≤ g
  · by_cases h1 : g < (m.length : Int)
    · rw [if_neg (by omega), if_neg (by omega), if_pos h0, if_pos h1, if_pos ⟨h0, h1⟩]
    · rw [if_neg (by omega), if_pos (by omega), if_neg (by omega)]
  · rw [if_pos (by omega), if_neg (by omega)]
theorem rnext_l0 (d : Nat) : ∀ (line : List Int) (marks : List Bool) (skip : Bool) (i : Nat), i + d = line.length → line.length ≤ 9000000000000000000 →
    Ev (fun k => foundryref19_Next.l0 k line marks (i : Int) skip) (up line marks skip d i) := by
  induction d with
  | zero =>
    intro line marks skip i hi hl
    refine ev_some fun k => ?_
    · simp only [foundryref19_Next.l0]; rw [if_neg (by omega), if_pos (by omega)]; rfl
  | succ d ih =>
    intro line marks skip i hi hl
    have h1 := ih line marks skip (i + 1) (by omega) hl
    have hil : (i : Int) < (line.length : Int) := by omega
    have hw : wrap64 ((i : Int) + 1) = ((i + 1 : Nat) : Int) := by rw [w64 (by omega) (by omega)]; rfl
    unfold up
    by_cases hs : skip = true
    · by_cases hm : markv marks (line.getD i 0) = true
      · rw [if_pos ⟨hs, hm⟩]
        refine Ev.step (fun k => ?_) h1
        · simp only [foundryref19_Next.l0]; rw [if_pos hil, if_pos hs, if_pos (by omega), rd_nat, rmark_eq]; simp only [Option.bind_some]; rw [if_pos hm, hw]
      · rw [if_neg (fun h => hm h.2)]
        refine ev_some fun k => ?_
        · simp only [foundryref19_Next.l0]; rw [if_pos hil, if_pos hs, if_pos (by omega), rd_nat, rmark_eq]; simp only [Option.bind_some]; rw [if_neg hm, if_neg (by omega)]
    · rw [if_neg (fun h => hs h.1)]
      refine ev_some fun k => ?_
      · simp only [foundryref19_Next.l0]; rw [if_pos hil, if_neg hs, if_neg (by omega)]
theorem place_eq (line : List Int) (a : Int) : foundryref19_place.f line a = some (decide (Place line a)) := by
  unfold foundryref19_place.f Place
  by_cases h : a ≥ 0
  · rw [if_pos h]; congr 1; by_cases h2 : a < (line.length : Int) <;> simp [h, h2] <;> omega
  · rw [if_neg h]; simp [h]
theorem rnext_ev (line : List Int) (marks : List Bool) (a : Int) (skip : Bool) (hl : line.length ≤ 9000000000000000000) : Ev (fun k => foundryref19_Next.f k line marks a skip) (nextv line marks a skip) := by
  unfold nextv
  by_cases h : Place line a
  · obtain ⟨h0, h1⟩ := h
    rw [if_pos ⟨h0, h1⟩]
    have := rnext_l0 (line.length - (a.toNat + 1)) line marks skip (a.toNat + 1) (by omega) hl
    refine Ev.congr (fun k => ?_) this
    unfold foundryref19_Next.f; rw [place_eq, decide_eq_true (show Place line a from ⟨h0, h1⟩)]; simp only [Option.bind_some, if_true]; rw [w64 (by omega) (by omega)]; congr 1; omega
  · rw [if_neg h]
    refine Ev.congr (fun k => ?_) (Ev.now _)
    unfold foundryref19_Next.f; rw [place_eq, decide_eq_false h]; rfl
/-! ### awake, few, SameInts -/
theorem rmeet_l0 (d : Nat) : ∀ (line : List Int) (marks : List Bool) (a : Int) (skip : Bool) (acc gs : List Int) (i : Nat), line.length ≤ 9000000000000000000 → gs.length ≤ 1000000 → i + d = gs.length → acc.length = i →
    Ev (fun k => foundryref19_Meet.l0 k line marks a gs skip [] acc (i : Int))
      (match meetFrom line marks skip (gs.drop i) (nextv line marks a skip) with
        | some l => (acc ++ l, true)
        | none => ([], false)) := by
  induction d with
  | zero =>
    intro line marks a skip acc gs i hl hg hi ha
    rw [List.drop_of_length_le (by omega)]
    refine ev_some fun k => ?_
    simp only [foundryref19_Meet.l0, meetFrom, List.append_nil]; rw [if_neg (by omega)]
  | succ d ih =>
    intro line marks a skip acc gs i hl hg hi ha
    have hil : (i : Int) < (gs.length : Int) := by omega
    have hw : wrap64 ((i : Int) + 1) = ((i + 1 : Nat) : Int) := by rw [w64 (by omega) (by omega)]; rfl
    rw [drop_cons gs i (by omega)]
    have hn := rnext_ev line marks a skip hl
    have hm1 := nextv_lt line marks a skip
    generalize hb' : nextv line marks a skip = b at *
    by_cases hb : Place line b ∧ rd line b = gs.getD i 0
    · have h1 := ih line marks b skip (acc ++ [b]) gs (i + 1) hl hg (by omega) (by simp [ha])
      have h2 : (match meetFrom line marks skip (gs.getD i 0 :: gs.drop (i + 1)) b with | some l => (acc ++ l, true) | none => (([] : List Int), false)) = (match meetFrom line marks skip (gs.drop (i + 1)) (nextv line marks b skip) with | some l => ((acc ++ [b]) ++ l, true) | none => ([], false)) := by
        simp only [meetFrom]
        rw [if_pos hb]
        cases meetFrom line marks skip (gs.drop (i + 1)) (nextv line marks b skip) with
        | none => rfl
        | some l => simp
      rw [h2]
      refine Ev.step (fun k => by simp only [foundryref19_Meet.l0]; rw [if_pos hil]) (Ev.bind (f := fun k t => _) hn (Ev.congr (fun k => ?_) h1))
      obtain ⟨⟨g1, g2⟩, g3⟩ := hb
      rw [if_neg (by omega), if_pos g1, if_pos g2, if_pos (by omega), if_pos (by rw [g3]; rfl), if_pos (by omega), hw]
    · have h2 : (match meetFrom line marks skip (gs.getD i 0 :: gs.drop (i + 1)) b with | some l => (acc ++ l, true) | none => (([] : List Int), false)) = ([], false) := by
        simp only [meetFrom]; rw [if_neg hb]
      rw [h2]
      refine Ev.step (fun k => by simp only [foundryref19_Meet.l0]; rw [if_pos hil]) (Ev.bind (f := fun k t => _) hn (Ev.congr (fun k => ?_) (Ev.now _)))
      by_cases hp : Place line b
      · have g3 : ¬ rd line b = gs.getD i 0 := fun h3 => hb ⟨hp, h3⟩
        obtain ⟨g1, g2⟩ := hp
        rw [if_neg (by omega), if_pos g1, if_pos g2, if_pos (by omega), rd_nat, if_neg g3]
      · rw [if_pos (hm1 hp)]
theorem rmeet_ev (line : List Int) (marks : List Bool) (a : Int) (gs : List Int) (skip : Bool) (hl : line.length ≤ 9000000000000000000) (hg : gs.length ≤ 1000000) :
    Ev (fun k => foundryref19_Meet.f k line marks a gs skip) (meetv line marks a gs skip) := by
  have hno : Ev (fun k => foundryref19_Meet.j0 k line marks a gs skip [] true) (([] : List Int), false) := ev_some fun k => by simp only [foundryref19_Meet.j0]; exact if_pos trivial
  unfold meetv
  cases gs with
  | nil =>
    rw [if_pos rfl]
    refine Ev.congr (fun k => ?_) hno
    unfold foundryref19_Meet.f; rw [if_pos (by simp)]
  | cons g gs =>
    rw [if_neg (by simp)]
    simp only [meetFrom]
    by_cases hp : Place line a
    · by_cases he : rd line a = g
      · have h1 := rmeet_l0 gs.length line marks a skip [a] (g :: gs) 1 hl hg (by simp; omega) rfl
        rw [if_pos ⟨hp, he⟩]
        have h2 : (match (meetFrom line marks skip gs (nextv line marks a skip)).map (a :: ·) with | some l => (l, true) | none => (([] : List Int), false)) = (match meetFrom line marks skip ((g :: gs).drop 1) (nextv line marks a skip) with | some l => ([a] ++ l, true) | none => ([], false)) := by
          simp only [List.drop_succ_cons, List.drop_zero]
          cases meetFrom line marks skip gs (nextv line marks a skip) <;> rfl
        refine ev_eq ?_ h2.symm
        refine Ev.congr (f := fun k => foundryref19_Meet.j0 k line marks a (g :: gs) skip [] false) (fun k => ?_) (Ev.step (fun k => ?_) h1)
        · unfold foundryref19_Meet.f
          rw [if_neg (by simp; omega), place_eq, decide_eq_true hp]
          simp only [Option.bind_some, if_true]
          rw [if_pos hp.1, if_pos hp.2, if_pos (by simp), he]
          congr 1; simp [rd]
        · simp only [foundryref19_Meet.j0]; rw [if_neg (by simp)]; rfl
      · rw [if_neg (fun h => he h.2)]
        refine Ev.congr (fun k => ?_) hno
        unfold foundryref19_Meet.f
        rw [if_neg (by simp; omega), place_eq, decide_eq_true hp]
        simp only [Option.bind_some, if_true]
        rw [if_pos hp.1, if_pos hp.2, if_pos (by simp)]
        congr 1; simp [rd] at he ⊢; exact he
    · rw [if_neg (fun h => hp h.1)]
      refine Ev.congr (fun k => ?_) hno
      unfold foundryref19_Meet.f
      rw [if_neg (by simp; omega), place_eq, decide_eq_false hp]
      simp
end Go.Proofs.Ytoldahmgjenlaaa.C
