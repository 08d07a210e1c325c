/- ClassesMet: places that are met rise, lie in the line (of at most 200 glyphs), and hold what was asked for; without skip they follow one another, with it only marks lie between. -/
import Derived.Test.YtoldahmgjenlaaaStClassesMet
import Derived.Test.YtoldahmgjenlaaaC1
namespace Go.Proofs.Ytoldahmgjenlaaa.Pure
open Go.RowKit Go.Proofs.Ytoldahmgjenlaaa.Q Go.Proofs.YtoldahmgjenlaaaW.PrintWords Go.Proofs.YtoldahmgjenlaaaW.PrintLast Go.Proofs.Ytoldahmgjenlaaa.C
set_option linter.unusedVariables false
/-- What is known of the places that are met. -/
theorem meetFrom_spec (line : List Int) (marks : List Bool) (skip : Bool) (gs : List Int) : ∀ (a : Int) (l : List Int), meetFrom line marks skip gs a = some l →
    (∀ i : Nat, i < l.length → C.Place line (l.getD i 0) ∧ rd line (l.getD i 0) = gs.getD i 0) ∧ (0 < l.length → l.getD 0 0 = a) ∧ (∀ i : Nat, i + 1 < l.length → l.getD (i + 1) 0 = nextv line marks (l.getD i 0) skip) := by
  induction gs with
  | nil =>
    intro a l h
    simp only [meetFrom, Option.some.injEq] at h
    subst h
    exact ⟨fun i hi => by simp at hi, fun h => by simp at h, fun i hi => by simp at hi⟩
  | cons g gs ih =>
    intro a l h
    simp only [meetFrom] at h
    split at h
    · rename_i hp
      obtain ⟨l2, h2, rfl⟩ := Option.map_eq_some_iff.1 h
      obtain ⟨h3, h4, h5⟩ := ih _ _ h2
      refine ⟨fun i hi => ?_, fun _ => rfl, fun i hi => ?_⟩
      · cases i with
        | zero => exact hp
        | succ i => exact h3 i (by simpa using hi)
      · cases i with
        | zero => exact h4 (by simpa using hi)
        | succ i => exact h5 i (by simpa using hi)
    · cases h
theorem met_l1 (d : Nat) : ∀ (line : List Int) (marks : List Bool) (gs l : List Int) (skip : Bool) (a : Int) (i x : Nat), line.length ≤ 200 → l.length ≤ 200 → 0 < i → i < l.length → C.Place line (l.getD i 0) →
    (x : Int) + d = l.getD i 0 → (∀ j : Nat, l.getD (i - 1) 0 < (j : Int) → (j : Int) < l.getD i 0 → skip = true ∧ markv marks (line.getD j 0) = true) →
    Ev (fun k => foundrylaw19_ClassesMet.l0 k a l ((i + 1 : Nat) : Int) line marks gs skip) true → Ev (fun k => foundrylaw19_ClassesMet.l1 k a l (i : Int) (x : Int) line marks gs skip) true := by
  induction d with
  | zero =>
    intro line marks gs l skip a i x hl hll h0 hi hp hx hj hend
    have hw : wrap64 ((i : Int) + 1) = ((i + 1 : Nat) : Int) := by rw [w64 (by omega) (by omega)]; rfl
    refine Ev.step (f := fun k => foundrylaw19_ClassesMet.j5 k a l (i : Int) (x : Int) false line marks gs skip) (fun k => ?_) (Ev.step (fun k => ?_) hend)
    · simp only [foundrylaw19_ClassesMet.l1]; rw [if_pos (by omega), if_pos (by omega), if_pos (by omega), rd_nat, decide_eq_false (by omega)]
    · simp only [foundrylaw19_ClassesMet.j5]; rw [if_neg (by simp), hw]
  | succ d ih =>
    intro line marks gs l skip a i x hl hll h0 hi hp hx hj hend
    have hpp := hp
    obtain ⟨p0, p1⟩ := hp
    have hxl : (x : Int) < (line.length : Int) := by omega
    have hw : wrap64 ((x : Int) + 1) = ((x + 1 : Nat) : Int) := by rw [w64 (by omega) (by omega)]; rfl
    have hwi : wrap64 ((i : Int) - 1) = ((i - 1 : Nat) : Int) := by rw [w64 (by omega) (by omega)]; omega
    have hgo := ih line marks gs l skip a i (x + 1) hl hll h0 hi hpp (by omega) hj hend
    refine Ev.step (f := fun k => foundrylaw19_ClassesMet.j5 k a l (i : Int) (x : Int) true line marks gs skip) (fun k => ?_) (Ev.step (fun k => ?_) hgo)
    · simp only [foundrylaw19_ClassesMet.l1]; rw [if_pos (by omega), if_pos (by omega), if_pos (by omega), rd_nat, decide_eq_true (by omega)]
    · simp only [foundrylaw19_ClassesMet.j5]
      rw [if_pos trivial, hwi, if_pos (by omega), if_pos (by omega), rd_nat]
      by_cases c : (x : Int) > l.getD (i - 1) 0
      · obtain ⟨hs, hm⟩ := hj x c (by omega)
        rw [if_pos c, if_pos hs, if_pos (by omega), if_pos hxl, rd_nat, mark_eq]; simp only [Option.bind_some]; rw [if_pos hm, hw]
      · rw [if_neg c, hw]
theorem met_l0 (d : Nat) : ∀ (line : List Int) (marks : List Bool) (gs l : List Int) (skip : Bool) (a : Int) (i : Nat), line.length ≤ 200 → l.length = gs.length → gs.length ≤ 200 → i + d = l.length → 0 ≤ a →
    (∀ i : Nat, i < l.length → C.Place line (l.getD i 0) ∧ rd line (l.getD i 0) = gs.getD i 0) → (0 < l.length → l.getD 0 0 = a) → (∀ i : Nat, i + 1 < l.length → l.getD (i + 1) 0 = nextv line marks (l.getD i 0) skip) →
    (∀ i : Nat, i < l.length → a ≤ l.getD i 0) → Ev (fun k => foundrylaw19_ClassesMet.l0 k a l (i : Int) line marks gs skip) true := by
  induction d with
  | zero =>
    intro line marks gs l skip a i hl hlg hg hi ha hp h0 hn hr
    refine ev_some fun k => ?_
    simp only [foundrylaw19_ClassesMet.l0]; rw [if_neg (by omega)]
  | succ d ih =>
    intro line marks gs l skip a i hl hlg hg hi ha hp h0 hn hr
    have hgo := ih line marks gs l skip a (i + 1) hl hlg hg (by omega) ha hp h0 hn hr
    obtain ⟨⟨p0, p1⟩, p2⟩ := hp i (by omega)
    have hri := hr i (by omega)
    have hwi : 0 < i → wrap64 ((i : Int) - 1) = ((i - 1 : Nat) : Int) := fun h => by rw [w64 (by omega) (by omega)]; omega
    have hw : wrap64 ((i : Int) + 1) = ((i + 1 : Nat) : Int) := by rw [w64 (by omega) (by omega)]; rfl
    -- behind the first tests
    have step : Ev (fun k => foundrylaw19_ClassesMet.j3 k a l (i : Int) false line marks gs skip) true → Ev (fun k => foundrylaw19_ClassesMet.l0 k a l (i : Int) line marks gs skip) true := by
      intro hj3
      refine Ev.step (fun k => ?_) hj3
      simp only [foundrylaw19_ClassesMet.l0]
      rw [if_pos (by omega), if_pos (by omega), rd_nat, if_neg (by omega), if_neg (by omega), if_pos (by omega), if_pos (by omega), if_pos (by omega), if_pos (by rw [p2]; rfl)]
      by_cases hi0 : i = 0
      · subst hi0; rw [if_neg (by omega)]
      · have hq := hn (i - 1) (by omega)
        rw [show i - 1 + 1 = i by omega] at hq
        have hpp := (hp (i - 1) (by omega)).1
        have hlt : l.getD (i - 1) 0 < l.getD i 0 := by
          rcases next_spec line marks (l.getD (i - 1) 0) skip hpp with ⟨e, _⟩ | ⟨n, e, g1, _⟩
          · omega
          · omega
        rw [if_pos (by omega), hwi (by omega), if_pos (by omega), if_pos (by omega), rd_nat, decide_eq_false (by omega)]
    refine step ?_
    refine Ev.step (f := fun k => foundrylaw19_ClassesMet.l1 k a l (i : Int) (wrap64 (a + 1)) line marks gs skip) (fun k => ?_) ?_
    · simp only [foundrylaw19_ClassesMet.j3]; rw [if_neg (by simp)]
    · have ha1 : a < (line.length : Int) := by omega
      rw [w64 (by omega) (by omega)]
      by_cases hi0 : i = 0
      · subst hi0
        refine Ev.step (f := fun k => foundrylaw19_ClassesMet.j5 k a l ((0 : Nat) : Int) (a + 1) false line marks gs skip) (fun k => ?_) (Ev.step (fun k => ?_) hgo)
        · simp only [foundrylaw19_ClassesMet.l1]; rw [if_neg (by omega)]
        · simp only [foundrylaw19_ClassesMet.j5]; rw [if_neg (by simp), hw]
      · have hq := hn (i - 1) (by omega)
        rw [show i - 1 + 1 = i by omega] at hq
        have hpp := (hp (i - 1) (by omega)).1
        have hra := hr (i - 1) (by omega)
        have e : (a + 1) = ((a.toNat + 1 : Nat) : Int) := by omega
        rw [e]
        rcases next_spec line marks (l.getD (i - 1) 0) skip hpp with ⟨e2, _⟩ | ⟨n, e2, g1, g2, _, g4⟩
        · omega
        · have hni : l.getD i 0 = (n : Int) := by omega
          exact met_l1 (n - (a.toNat + 1)) line marks gs l skip a i (a.toNat + 1) hl (by omega) (by omega) (by omega) ⟨p0, p1⟩ (by omega) (fun j q1 q2 => g4 j q1 (by omega)) hgo
theorem ClassesMet : foundrylaw19_ClassesMet.Pure := by
  intro line marks a gs skip _ _ _ _
  refine Ev.rounds ?_
  refine Ev.bind (f := fun k t => if t = true then (foundrylaw19_few.f line marks).bind fun s => (if s = true then foundrylaw19_ClassesMet.j0 k a (decide ((gs.length : Int) > 200)) line marks gs skip else foundrylaw19_ClassesMet.j0 k a true line marks gs skip) else foundrylaw19_ClassesMet.j0 k a true line marks gs skip) awake_ev ?_
  rw [few_eq]
  have hno : Ev (fun k => foundrylaw19_ClassesMet.j0 k a true line marks gs skip) true := by
    refine Ev.step (f := fun k => (foundrylaw19_awake.f k).bind fun s => some s) (fun k => by simp only [foundrylaw19_ClassesMet.j0]; exact if_pos trivial) ?_
    exact Ev.bind (f := fun k s => some s) awake_ev (Ev.now true)
  by_cases h : line.length ≤ 200 ∧ marks.length ≤ 1000
  · by_cases hg : gs.length ≤ 200
    · refine Ev.congr (f := fun k => foundrylaw19_ClassesMet.j0 k a false line marks gs skip) (fun k => by simp [h]; rw [decide_eq_false (show ¬ (200 : Int) < (gs.length : Int) by omega)]) ?_
      have hl : line.length ≤ 9000000000000000000 := by omega
      refine Ev.step (fun k => by simp only [foundrylaw19_ClassesMet.j0]; rw [if_neg (by simp)]) (Ev.bind (f := fun k s => _) (meet_ev line marks a gs skip hl (by omega)) ?_)
      unfold meetv
      by_cases hne : gs = []
      · rw [if_pos hne]
        exact Ev.congr (fun k => by rw [if_neg (by simp)]; rfl) (Ev.now true)
      · rw [if_neg hne]
        split
        · rename_i l hm
          obtain ⟨h1, h2, h3⟩ := meetFrom_spec line marks skip gs a l hm
          have hlen := meetFrom_len _ _ _ _ _ _ hm
          have hpos : 0 < l.length := by rw [hlen]; exact List.length_pos_iff.2 hne
          have e0 := h2 hpos
          have ha := (h1 0 hpos).1
          rw [e0] at ha
          have hr : ∀ i : Nat, i < l.length → a ≤ l.getD i 0 := by
            intro i
            induction i with
            | zero => intro _; omega
            | succ i ih =>
              intro hi
              have hp := (h1 i (by omega)).1
              have hq := h3 i hi
              have hp1 := (h1 (i + 1) hi).1
              have := ih (by omega)
              rcases next_spec line marks (l.getD i 0) skip hp with ⟨e, _⟩ | ⟨n, e, g1, _⟩
              · have := hp1.1; omega
              · omega
          have hgo := met_l0 l.length line marks gs l skip a 0 h.1 hlen hg (by omega) ha.1 h1 h2 h3 hr
          refine Ev.congr (f := fun k => foundrylaw19_ClassesMet.j1 k a l false line marks gs skip) (fun k => ?_) (Ev.step (fun k => ?_) hgo)
          · rw [if_pos rfl]
            dsimp only
            rw [if_pos (by omega), if_pos (by omega)]
            have : rd l 0 = a := e0
            rw [this]; simp
          · simp only [foundrylaw19_ClassesMet.j1]; rw [if_neg (by simp)]; rfl
        · exact Ev.congr (fun k => by rw [if_neg (by simp)]; rfl) (Ev.now true)
    · refine Ev.congr (fun k => ?_) hno
      simp [h]; rw [decide_eq_true (show (200 : Int) < (gs.length : Int) by omega)]
  · refine Ev.congr (fun k => ?_) hno
    simp [h]
end Go.Proofs.Ytoldahmgjenlaaa.Pure
