/- What a lookup does at a place: plain functions, and what is known of them. -/
import Derived.Test.YtoldahmgjenlaaaC2
import Derived.Test.YtoldahmgjenlaaaF4
namespace Go.Proofs.Ytoldahmgjenlaaa.S
open Go.RowKit Go.Proofs.Ytoldahmgjenlaaa.Q Go.Proofs.YtoldahmgjenlaaaW.PrintWords Go.Proofs.YtoldahmgjenlaaaW.PrintLast Go.Proofs.Ytoldahmgjenlaaa.C
set_option linter.unusedVariables false

/-- The glyphs of a ligature but for the first are taken out, the last one first. -/
def ligv (met : List Int) : Nat → List Int → List Int
  | 0, line => line
  | n + 1, line => ligv met n (putv line (met.getD (n + 1) 0) (met.getD (n + 1) 0 + 1) [])
/-- What a rule that is met makes of a line, and where it goes on. -/
def ruleres (kind : Int) (line : List Int) (a : Int) (met : List Int) (out : List Int) (inner : List Int) : List Int × Int :=
  if kind = 1 ∨ kind = 2 then (putv line a (a + 1) out, a + out.length)
  else if kind = 3 then (putv (ligv met (met.length - 1) line) a (a + 1) out, a + 1)
  else (inner, max a (met.getD (met.length - 1) 0 + 1 + inner.length - line.length))
/-- The first rule that is met. -/
def rulesv (marks : List Bool) (kind : Int) (skip : Bool) (line : List Int) (a : Int) (inner : S43 → List Int → List Int) : List S43 → List Int × Int × Bool
  | [] => (line, a, false)
  | r :: rs => if (meetv line marks a r.f0 skip).2 = true then
      ((ruleres kind line a (meetv line marks a r.f0 skip).1 r.f1 (inner r (meetv line marks a r.f0 skip).1)).1, (ruleres kind line a (meetv line marks a r.f0 skip).1 r.f1 (inner r (meetv line marks a r.f0 skip).1)).2, true)
    else rulesv marks kind skip line a inner rs
def atv (marks : List Bool) (x : S46) (line : List Int) (a : Int) (inner : S43 → List Int → List Int) : List Int × Int × Bool :=
  if x.f1 = true ∧ markv marks (rd line a) = true then (line, a, false) else rulesv marks x.f0 x.f1 line a inner x.f2
/-- A lookup at a place, n more of them to be done within. -/
def onev (l : List S46) (marks : List Bool) : Nat → Int → List Int → Int → List Int × Int × Bool
  | 0, k, line, a => atv marks (rd_T46 l k) line a (fun _ _ => line)
  | n + 1, k, line, a => atv marks (rd_T46 l k) line a (fun r met => (onev l marks n r.f3 line (rd met r.f2)).1)

/-! ### Meet -/
theorem meetv_spec {line : List Int} {marks : List Bool} {a : Int} {gs : List Int} {skip : Bool} (h : (meetv line marks a gs skip).2 = true) :
    meetFrom line marks skip gs a = some (meetv line marks a gs skip).1 ∧ gs ≠ [] := by
  unfold meetv at h ⊢
  by_cases hg : gs = []
  · rw [if_pos hg] at h; cases h
  · rw [if_neg hg] at h ⊢
    revert h
    cases meetFrom line marks skip gs a with
    | none => intro h; cases h
    | some l => intro _; exact ⟨rfl, hg⟩
theorem next_place {line : List Int} {marks : List Bool} {a : Int} {skip : Bool} (h : C.Place line (nextv line marks a skip)) : a < nextv line marks a skip := by
  by_cases hp : C.Place line a
  · rcases next_spec line marks a skip hp with ⟨e, _⟩ | ⟨n, e, h1, h2, _⟩
    · rw [e] at h; have := h.1; omega
    · rw [e]; unfold C.Place at hp; omega
  · unfold nextv at h; rw [if_neg hp] at h; have := h.1; omega
theorem meetFrom_places (line : List Int) (marks : List Bool) (skip : Bool) (gs : List Int) : ∀ (a : Int) (l : List Int), meetFrom line marks skip gs a = some l → ∀ i : Nat, i < l.length → C.Place line (l.getD i 0) ∧ a + i ≤ l.getD i 0 := by
  induction gs with
  | nil => intro a l h i hi; simp only [meetFrom, Option.some.injEq] at h; subst h; simp at hi
  | cons g gs ih =>
    intro a l h i hi
    simp only [meetFrom] at h
    split at h
    · next hp =>
      obtain ⟨l2, h2, rfl⟩ := Option.map_eq_some_iff.1 h
      cases i with
      | zero => exact ⟨hp.1, by simp⟩
      | succ i =>
        obtain ⟨h3, h4⟩ := ih _ _ h2 i (by simpa using hi)
        rw [List.getD_cons_succ]
        refine ⟨h3, ?_⟩
        have h5 : C.Place line (nextv line marks a skip) := by
          cases gs with
          | nil => simp only [meetFrom, Option.some.injEq] at h2; subst h2; simp at hi
          | cons g2 gs2 =>
            simp only [meetFrom] at h2
            split at h2
            · next hq => exact hq.1
            · cases h2
        have := next_place h5
        omega
    · cases h
/-- What is known of places that were met. -/
theorem met_places {line : List Int} {marks : List Bool} {a : Int} {gs : List Int} {skip : Bool} (h : (meetv line marks a gs skip).2 = true) :
    (meetv line marks a gs skip).1.length = gs.length ∧ gs ≠ [] ∧ ∀ i : Nat, i < gs.length → C.Place line ((meetv line marks a gs skip).1.getD i 0) ∧ a + i ≤ (meetv line marks a gs skip).1.getD i 0 := by
  obtain ⟨h1, h2⟩ := meetv_spec h
  have hl := meetFrom_len _ _ _ _ _ _ h1
  exact ⟨hl, h2, fun i hi => meetFrom_places _ _ _ _ _ _ h1 i (by omega)⟩

/-! ### lengths -/
theorem ligv_len (met : List Int) (n : Nat) : ∀ line : List Int, (ligv met n line).length ≤ line.length := by
  induction n with
  | zero => intro line; exact Nat.le_refl _
  | succ n ih => intro line; have h1 := ih (putv line (met.getD (n + 1) 0) (met.getD (n + 1) 0 + 1) []); have h2 := putv_len line (met.getD (n + 1) 0) (met.getD (n + 1) 0 + 1) []; simp only [List.length_nil] at h2; simp only [ligv]; omega
/-- What is asked of a rule: how many glyphs, and where it leads. -/
structure Rule (l : List S46) (kind : Int) (r : S43) : Prop where
  li : r.f0.length ≤ 8
  lo : r.f1.length ≤ 8
  ne : 0 < r.f0.length
  at0 : kind = 4 → 0 ≤ r.f2 ∧ r.f2 < (r.f0.length : Int) ∧ 0 ≤ r.f3 ∧ r.f3 < (l.length : Int) ∧ putsv (rd_T46 l r.f3).f0 = true
  one : kind = 1 → r.f0.length = 1 ∧ r.f1.length = 1
  lig : kind = 3 → 2 ≤ r.f0.length ∧ r.f1.length = 1
  many : kind = 2 → r.f0.length = 1
def Formed (l : List S46) : Prop := ∀ k : Int, 0 ≤ k → k < (l.length : Int) → putsv (rd_T46 l k).f0 = true → (rd_T46 l k).f2.length ≤ 40 ∧ ∀ r ∈ (rd_T46 l k).f2, Rule l (rd_T46 l k).f0 r
theorem puts_kinds {kind : Int} (h : putsv kind = true) : kind = 1 ∨ kind = 2 ∨ kind = 3 ∨ kind = 4 := by
  unfold putsv at h
  simp only [Bool.and_eq_true, decide_eq_true_eq] at h
  omega
theorem ite_no {c : Prop} [Decidable c] {b : Bool} (h : (if c then false else b) = true) : ¬ c ∧ b = true := by
  by_cases hc : c
  · rw [if_pos hc] at h; cases h
  · rw [if_neg hc] at h; exact ⟨hc, h⟩
theorem ite_yes {c : Prop} [Decidable c] {b : Bool} (h : (if c then b else false) = true) : c ∧ b = true := by
  by_cases hc : c
  · rw [if_pos hc] at h; exact ⟨hc, h⟩
  · rw [if_neg hc] at h; cases h
theorem rulev_rule {l : List S46} {kind : Int} {r : S43} {glyphs : Int} (hk : putsv kind = true) (h : rulew l kind glyphs r = true) : Rule l kind r := by
  unfold rulew rulev at h
  obtain ⟨c1, h⟩ := ite_no h
  obtain ⟨c2, h⟩ := ite_no h
  obtain ⟨c3, h⟩ := ite_no h
  obtain ⟨c4, h⟩ := ite_no h
  obtain ⟨_, h⟩ := ite_no h
  obtain ⟨_, h⟩ := ite_no h
  obtain ⟨_, h⟩ := ite_no h
  obtain ⟨_, h⟩ := ite_no h
  obtain ⟨_, h⟩ := ite_no h
  have hs : (1 ≤ (shapev kind).1 ∧ (shapev kind).2.1 ≤ 8 ∧ (shapev kind).2.2.2 ≤ 8) ∧ (kind = 1 → shapev kind = (1, 1, 1, 1)) ∧ (kind = 2 → (shapev kind).2.1 = 1) ∧ (kind = 3 → (shapev kind).1 = 2 ∧ (shapev kind).2.2 = (1, 1)) := by
    rcases puts_kinds hk with rfl | rfl | rfl | rfl <;> simp [shapev]
  obtain ⟨⟨hs1, hs2, hs3⟩, hs4, hs5, hs6⟩ := hs
  refine ⟨by omega, by omega, by omega, ?_, ?_, ?_, ?_⟩
  · intro h4
    rw [if_pos h4] at h
    obtain ⟨d1, h⟩ := ite_yes h
    obtain ⟨d2, h⟩ := ite_yes h
    obtain ⟨d3, h⟩ := ite_yes h
    obtain ⟨d4, h⟩ := ite_yes h
    exact ⟨d1, d2, d3, d4, h⟩
  · intro h1; have e := hs4 h1; rw [e] at c1 c2 c3 c4; simp only at c1 c2 c3 c4; omega
  · intro h3; obtain ⟨e1, e2⟩ := hs6 h3; rw [e1] at c1; rw [e2] at c3 c4; simp only at c3 c4; omega
  · intro h2; have e := hs5 h2; rw [e] at c2; omega
theorem formed_of {l : List S46} {glyphs : Int} (h : l.all (lookv l glyphs) = true) : Formed l := by
  intro k h0 h1 hp
  rw [List.all_eq_true] at h
  have hx : rd_T46 l k ∈ l := by
    unfold rd_T46
    rw [show l.getD k.toNat z46 = l[k.toNat] by simp [List.getD, show k.toNat < l.length by omega]]
    exact List.getElem_mem _
  have h2 := h _ hx
  unfold lookv at h2
  rw [if_pos hp] at h2
  obtain ⟨h4, h2⟩ := ite_no h2
  refine ⟨by omega, fun r hr => ?_⟩
  simp only [Bool.not_eq_true', List.any_eq_false] at h2
  have h3 := h2 r hr
  exact rulev_rule hp (by simpa using h3)

/-! ### what a lookup at a place comes to -/
/-- What the innermost lookup makes of the line. -/
def innerv (l : List S46) (marks : List Bool) (n : Nat) (line : List Int) (r : S43) (met : List Int) : List Int :=
  match n with
  | 0 => line
  | m + 1 => (onev l marks m r.f3 line (rd met r.f2)).1
theorem onev_eq (l : List S46) (marks : List Bool) (n : Nat) (k : Int) (line : List Int) (a : Int) : onev l marks n k line a = atv marks (rd_T46 l k) line a (innerv l marks n line) := by
  cases n <;> rfl
theorem ruleres_len {kind : Int} {line : List Int} {a : Int} {met out inner : List Int} (h1 : out.length ≤ 8) (h2 : ¬ (kind = 1 ∨ kind = 2) → kind ≠ 3 → inner.length ≤ line.length + 8) : (ruleres kind line a met out inner).1.length ≤ line.length + 8 := by
  unfold ruleres
  split
  · have := putv_len line a (a + 1) out; simp only; omega
  · next hk =>
    split
    · have h3 := ligv_len met (met.length - 1) line
      have := putv_len (ligv met (met.length - 1) line) a (a + 1) out; simp only; omega
    · next h3 => exact h2 hk h3
theorem rulesv_len {marks : List Bool} {kind : Int} {skip : Bool} {line : List Int} {a : Int} {inner : S43 → List Int → List Int} {rs : List S43} (h1 : ∀ r ∈ rs, r.f1.length ≤ 8)
    (h2 : ¬ (kind = 1 ∨ kind = 2) → kind ≠ 3 → ∀ r ∈ rs, (meetv line marks a r.f0 skip).2 = true → (inner r (meetv line marks a r.f0 skip).1).length ≤ line.length + 8) : (rulesv marks kind skip line a inner rs).1.length ≤ line.length + 8 := by
  induction rs with
  | nil => simp only [rulesv]; omega
  | cons r rs ih =>
    simp only [rulesv]
    split
    · next hm => exact ruleres_len (h1 r (List.mem_cons_self)) (fun c1 c2 => h2 c1 c2 r (List.mem_cons_self) hm)
    · exact ih (fun r hr => h1 r (List.mem_cons_of_mem _ hr)) (fun c1 c2 r hr => h2 c1 c2 r (List.mem_cons_of_mem _ hr))
theorem rd_met {line met : List Int} {gs : List Int} {a : Int} {i : Int} (h : ∀ j : Nat, j < gs.length → C.Place line (met.getD j 0) ∧ a + j ≤ met.getD j 0) (h0 : 0 ≤ i) (h1 : i < (gs.length : Int)) : C.Place line (rd met i) := by
  have := (h i.toNat (by omega)).1
  exact this
/-- A lookup leads on. -/
def Valid (l : List S46) (k : Int) : Prop := 0 ≤ k ∧ k < (l.length : Int) ∧ putsv (rd_T46 l k).f0 = true
theorem rd_eq (rs : List S43) (i : Nat) (h : i < rs.length) : rd_T43 rs (i : Int) ∈ rs := by
  have : rd_T43 rs (i : Int) = rs[i] := by unfold rd_T43; simp [List.getD, h]
  rw [this]; exact List.getElem_mem h
theorem onev_len {l : List S46} {marks : List Bool} (hF : Formed l) (n : Nat) : ∀ (k : Int) (line : List Int) (a : Int), Valid l k → C.Place line a → (onev l marks n k line a).1.length ≤ line.length + 8 := by
  induction n with
  | zero =>
    intro k line a hk ha
    rw [onev_eq]; unfold atv
    split
    · simp
    · exact rulesv_len (fun r hr => ((hF k hk.1 hk.2.1 hk.2.2).2 r hr).lo) (fun _ _ r hr _ => by simp [innerv])
  | succ n ih =>
    intro k line a hk ha
    rw [onev_eq]; unfold atv
    split
    · simp
    · refine rulesv_len (fun r hr => ((hF k hk.1 hk.2.1 hk.2.2).2 r hr).lo) (fun c1 c2 r hr hm => ?_)
      have hr2 := (hF k hk.1 hk.2.1 hk.2.2).2 r hr
      obtain ⟨h1, h2, h3⟩ := met_places hm
      have h4 : (rd_T46 l k).f0 = 4 := by rcases puts_kinds hk.2.2 with h | h | h | h <;> simp_all
      obtain ⟨e1, e2, e3, e4, e5⟩ := hr2.at0 h4
      exact ih r.f3 line _ ⟨e3, e4, e5⟩ (rd_met h3 e1 e2)
end Go.Proofs.Ytoldahmgjenlaaa.S
