/- Contracts: subst.Formed, Line, All. -/
import Derived.Test.YtoldahmgjenlaaaS2
import Derived.Test.YtoldahmgjenlaaaQx20
namespace Go.Proofs.Ytoldahmgjenlaaa.S
open Go.RowKit Go.Proofs.Ytoldahmgjenlaaa.Q Go.Proofs.YtoldahmgjenlaaaW.PrintWords Go.Proofs.YtoldahmgjenlaaaW.PrintLast Go.Proofs.Ytoldahmgjenlaaa.C
set_option linter.unusedVariables false

/-! ### plain -/
def formedv (l : List S46) (glyphs : Int) : Bool := if l.all (lookv l glyphs) = true then decide ((l.length : Int) ≤ 10) else false
theorem formed_eq (l : List S46) (glyphs : Int) : subst_Formed.f l glyphs = some (formedv l glyphs) := rfl
theorem formedv_all {l : List S46} {glyphs : Int} (h : formedv l glyphs = true) : Formed l ∧ l.length ≤ 10 := by
  unfold formedv at h
  obtain ⟨h1, h2⟩ := ite_yes h
  exact ⟨formed_of h1, by have := of_decide_eq_true h2; omega⟩
/-- A lookup in a line, from a place on; d: at least how much of the line is left. -/
def lineF (l : List S46) (marks : List Bool) (k : Int) : Nat → List Int → Int → List Int × Int
  | 0, line, _ => (line, 0)
  | d + 1, line, a => if a < (line.length : Int) then
      (if (onev l marks 7 k line a).2.2 = true then (if ((onev l marks 7 k line a).1.length : Int) > 100 then ([], 3) else lineF l marks k d (onev l marks 7 k line a).1 (onev l marks 7 k line a).2.1) else lineF l marks k d line (a + 1))
    else (line, 0)
def linev (l : List S46) (k : Int) (marks : List Bool) (line : List Int) : List Int × Int :=
  if formedv l 65536 = true then (if (line.length : Int) > 100 then ([], 3) else if k < 0 then ([], 5) else if k ≥ (l.length : Int) then ([], 5) else if putsv (rd_T46 l k).f0 = true then lineF l marks k line.length line 0 else (line, 0)) else ([], 1)
theorem putv_in {line : List Int} {a : Int} {o : List Int} (h : C.Place line a) : (putv line a (a + 1) o).length + 1 = line.length + o.length := by
  obtain ⟨h0, h1⟩ := h
  unfold putv
  rw [if_neg (by omega)]
  simp only [List.length_append, List.length_take, List.length_drop]; omega
theorem putv_one {line : List Int} {a : Int} {o : List Int} (h : o.length ≤ 1) : (putv line a (a + 1) o).length ≤ line.length := by
  unfold putv
  split
  · exact Nat.le_refl _
  · simp only [List.length_append, List.length_take, List.length_drop]; omega
theorem ruleres_prog {l : List S46} {kind : Int} {r : S43} {line : List Int} {a : Int} {met inner : List Int} (hk : putsv kind = true) (hr : Rule l kind r) (ha : C.Place line a) (hm : met.length = r.f0.length) (hp : ∀ i : Nat, i < r.f0.length → C.Place line (met.getD i 0) ∧ a + i ≤ met.getD i 0) :
    a ≤ (ruleres kind line a met r.f1 inner).2 ∧ ((ruleres kind line a met r.f1 inner).1.length : Int) - (ruleres kind line a met r.f1 inner).2 < (line.length : Int) - a := by
  have hne := hr.ne
  unfold ruleres
  by_cases h12 : kind = 1 ∨ kind = 2
  · rw [if_pos h12]
    have := putv_in (o := r.f1) ha
    simp only; omega
  · rw [if_neg h12]
    by_cases h3 : kind = 3
    · rw [if_pos h3]
      have h1 := (hr.lig h3).2
      have h2 := ligv_len met (met.length - 1) line
      have h4 := putv_one (line := ligv met (met.length - 1) line) (a := a) (o := r.f1) (by omega)
      simp only; omega
    · rw [if_neg h3]
      have h5 := (hp (met.length - 1) (by omega)).2
      simp only; omega
theorem rulesv_prog {l : List S46} {marks : List Bool} {kind : Int} {skip : Bool} {line : List Int} {a : Int} {inner : S43 → List Int → List Int} {rs : List S43} (hk : putsv kind = true) (hr : ∀ r ∈ rs, Rule l kind r) (ha : C.Place line a) (h : (rulesv marks kind skip line a inner rs).2.2 = true) :
    a ≤ (rulesv marks kind skip line a inner rs).2.1 ∧ ((rulesv marks kind skip line a inner rs).1.length : Int) - (rulesv marks kind skip line a inner rs).2.1 < (line.length : Int) - a := by
  induction rs with
  | nil => simp [rulesv] at h
  | cons r rs ih =>
    simp only [rulesv] at h ⊢
    by_cases hm : (meetv line marks a r.f0 skip).2 = true
    · rw [if_pos hm]
      obtain ⟨p1, p2, p3⟩ := met_places hm
      exact ruleres_prog hk (hr r (List.mem_cons_self)) ha p1 p3
    · rw [if_neg hm] at h ⊢
      exact ih (fun r hr2 => hr r (List.mem_cons_of_mem _ hr2)) h
/-- Where a lookup was done, less of the line is left. -/
theorem onev_prog {l : List S46} {marks : List Bool} {n : Nat} {k : Int} {line : List Int} {a : Int} (hF : Formed l) (hk : Valid l k) (ha : C.Place line a) (h : (onev l marks n k line a).2.2 = true) :
    a ≤ (onev l marks n k line a).2.1 ∧ ((onev l marks n k line a).1.length : Int) - (onev l marks n k line a).2.1 < (line.length : Int) - a := by
  rw [onev_eq] at h ⊢
  unfold atv at h ⊢
  split at h
  · cases h
  · next hc => rw [if_neg hc]; exact rulesv_prog hk.2.2 (hF k hk.1 hk.2.1 hk.2.2).2 ha h

/-! ### subst.Line -/
theorem line_l0 (d : Nat) : ∀ (l : List S46) (marks : List Bool) (k : Int) (line : List Int) (a : Int), Formed l → Valid l k → line.length ≤ 100 → 0 ≤ a → (line.length : Int) - a ≤ (d : Int) →
    Ev (fun f => subst_Line.l0 f l k marks line a) (lineF l marks k d line a) := by
  induction d with
  | zero =>
    intro l marks k line a hF hk hl h0 hd
    refine Ev.step (fun f => (subst_Line.l0.eq_2 l k marks line a f).trans ((if_pos hk.1).trans ((if_pos hk.2.1).trans (by rw [puts_eq, Option.bind_some])))) ?_
    refine Ev.congr (fun f => if_pos hk.2.2) (ev_some fun f => ?_)
    rw [subst_Line.j1.eq_2, decide_eq_false (by omega), if_neg (by simp)]; rfl
  | succ d ih =>
    intro l marks k line a hF hk hl h0 hd
    refine Ev.step (fun f => (subst_Line.l0.eq_2 l k marks line a f).trans ((if_pos hk.1).trans ((if_pos hk.2.1).trans (by rw [puts_eq, Option.bind_some])))) ?_
    refine Ev.congr (fun f => if_pos hk.2.2) ?_
    simp only [lineF]
    by_cases hlt : a < (line.length : Int)
    · have ha : C.Place line a := ⟨h0, hlt⟩
      rw [if_pos hlt, decide_eq_true hlt]
      have ho := one_ev (marks := marks) hF 7 k line a 1 hk ha (by omega) (by omega)
      refine Ev.step (fun f => (subst_Line.j1.eq_2 l k marks line a true f).trans (if_pos rfl)) (Ev.bind ho ?_)
      by_cases hok : (onev l marks 7 k line a).2.2 = true
      · obtain ⟨p1, p2⟩ := onev_prog hF hk ha hok
        refine Ev.congr (fun f => if_pos hok) ?_
        rw [if_pos hok]
        by_cases h100 : ((onev l marks 7 k line a).1.length : Int) > 100
        · rw [if_pos h100]; exact Ev.congr (fun f => if_pos h100) (Ev.now _)
        · rw [if_neg h100]
          have hn := ih l marks k (onev l marks 7 k line a).1 (onev l marks 7 k line a).2.1 hF hk (by omega) (by omega) (by omega)
          refine Ev.congr (fun f => (if_neg h100).trans ?_) hn
          by_cases he : (onev l marks 7 k line a).2.1 = a
          · rw [if_pos he, if_pos (by omega)]
          · rw [if_neg he]
      · refine Ev.congr (fun f => (if_neg hok).trans (by rw [w1 (by omega) (by omega)])) ?_
        rw [if_neg hok]
        exact ih l marks k line (a + 1) hF hk hl (by omega) (by omega)
    · rw [if_neg hlt, decide_eq_false hlt]
      refine ev_some fun f => ?_
      rw [subst_Line.j1.eq_2, if_neg (by simp)]
theorem line_ev (l : List S46) (marks : List Bool) (k : Int) (line : List Int) : Ev (fun f => subst_Line.f f l k marks line) (linev l k marks line) := by
  unfold linev
  by_cases hf : formedv l 65536 = true
  · rw [if_pos hf]
    have hq : ∀ f, subst_Line.f f l k marks line = (if (line.length : Int) > 100 then (some (([] : List Int), 3)) else (if k < 0 then (some (([] : List Int), 5)) else (if k ≥ (l.length : Int) then (some (([] : List Int), 5)) else ((slices_Clone_int_int.f line).bind fun t273 => (subst_Line.l0 f l k marks t273 0))))) := by
      intro f; unfold subst_Line.f; rw [formed_eq, hf, Option.bind_some, if_pos rfl]
    refine Ev.congr hq ?_
    by_cases h1 : (line.length : Int) > 100
    · rw [if_pos h1]; exact Ev.congr (fun f => if_pos h1) (Ev.now _)
    by_cases h2 : k < 0
    · rw [if_neg h1, if_pos h2]; exact Ev.congr (fun f => (if_neg h1).trans (if_pos h2)) (Ev.now _)
    by_cases h3 : k ≥ (l.length : Int)
    · rw [if_neg h1, if_neg h2, if_pos h3]; exact Ev.congr (fun f => (if_neg h1).trans ((if_neg h2).trans (if_pos h3))) (Ev.now _)
    rw [if_neg h1, if_neg h2, if_neg h3]
    refine Ev.congr (fun f => (if_neg h1).trans ((if_neg h2).trans ((if_neg h3).trans (by rw [clone_eq (by omega), Option.bind_some])))) ?_
    by_cases h4 : putsv (rd_T46 l k).f0 = true
    · rw [if_pos h4]
      exact line_l0 line.length l marks k line 0 (formedv_all hf).1 ⟨by omega, by omega, h4⟩ (by omega) (by omega) (by omega)
    · rw [if_neg h4]
      refine Ev.step (fun f => (subst_Line.l0.eq_2 l k marks line 0 f).trans ((if_pos (by omega)).trans ((if_pos (by omega)).trans (by rw [puts_eq, Option.bind_some])))) ?_
      refine Ev.congr (fun f => if_neg h4) (ev_some fun f => ?_)
      rw [subst_Line.j1.eq_2, if_neg (by simp)]
  · rw [if_neg hf]
    refine Ev.congr (fun f => ?_) (Ev.now _)
    unfold subst_Line.f
    rw [formed_eq, Bool.eq_false_iff.mpr hf, Option.bind_some, if_neg (by simp)]

/-! ### subst.All -/
def allF (l : List S46) (marks : List Bool) : List Int → List Int → List Int × Int
  | [], line => (line, 0)
  | k :: ks, line => if (linev l k marks line).2 = 0 then allF l marks ks (linev l k marks line).1 else ([], (linev l k marks line).2)
theorem all_l0 (d : Nat) : ∀ (l : List S46) (marks : List Bool) (looks line : List Int) (i : Nat), looks.length ≤ 1000000 → i + d = looks.length →
    Ev (fun f => subst_All.l0 f l marks line looks (looks.length : Int) (i : Int)) (allF l marks (looks.drop i) line) := by
  induction d with
  | zero =>
    intro l marks looks line i hl hi
    refine ev_some fun f => ?_
    rw [subst_All.l0.eq_2, if_neg (by omega), List.drop_of_length_le (by omega)]; rfl
  | succ d ih =>
    intro l marks looks line i hl hi
    have hil : i < looks.length := by omega
    have e1 : wrap64 ((i : Int) + 1) = ((i + 1 : Nat) : Int) := by rw [w1 (by omega) (by omega)]; rfl
    rw [drop_cons looks i hil]
    simp only [allF]
    refine Ev.step (fun f => (subst_All.l0.eq_2 l marks line looks (looks.length : Int) (i : Int) f).trans ((if_pos (by omega)).trans ((if_pos (by omega)).trans (if_pos (by omega))))) (Ev.bind (line_ev l marks (rd looks (i : Int)) line) ?_)
    rw [rd_nat]
    by_cases h0 : (linev l (looks.getD i 0) marks line).2 = 0
    · rw [if_pos h0]
      exact Ev.congr (fun f => (if_pos h0).trans (by rw [e1])) (ih l marks looks (linev l (looks.getD i 0) marks line).1 (i + 1) hl (by omega))
    · rw [if_neg h0]
      exact Ev.congr (fun f => if_neg h0) (Ev.now _)
theorem all_ev (l : List S46) (looks : List Int) (marks : List Bool) (line : List Int) (hl : looks.length ≤ 1000000) (h2 : line.length ≤ 1000000) : Ev (fun f => subst_All.f f l looks marks line) (allF l marks looks line) := by
  have h := all_l0 looks.length l marks looks line 0 hl (by omega)
  rw [List.drop_zero] at h
  refine Ev.congr (fun f => ?_) h
  unfold subst_All.f
  rw [clone_eq (by omega), Option.bind_some]; rfl
end Go.Proofs.Ytoldahmgjenlaaa.S
