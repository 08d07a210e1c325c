/- Contracts: subst.one. -/
import Derived.Test.YtoldahmgjenlaaaS1
import Derived.Test.YtoldahmgjenlaaaQx2
import Derived.Test.YtoldahmgjenlaaaQx19
namespace Go.Proofs.Ytoldahmgjenlaaa.S
open Go.RowKit Go.Proofs.Ytoldahmgjenlaaa.Q Go.Proofs.YtoldahmgjenlaaaW.PrintWords Go.Proofs.YtoldahmgjenlaaaW.PrintLast Go.Proofs.Ytoldahmgjenlaaa.C
set_option linter.unusedVariables false

theorem w1 {x : Int} (h : -1000000000 ≤ x) (h' : x ≤ 1000000000) : wrap64 x = x := w64 (by omega) (by omega)
theorem place_bd {line : List Int} {a : Int} (h : C.Place line a) (hl : line.length ≤ 1000000) : 0 ≤ a ∧ a ≤ 1000000 := ⟨h.1, by have := h.2; omega⟩
/-- The ligature's glyphs but for the first. -/
theorem lig_l1 (n : Nat) : ∀ (line : List Int) (a : Int) (met i o : List Int) (x2 x3 x4 x5 x6 x7 x8 x9 : Int), line.length ≤ 1000000 → o.length ≤ 1000000 → met.length ≤ 1000000 → 0 ≤ a → a ≤ 1000000 → (n = 0 ∨ n < met.length) → (∀ j : Nat, j < met.length → 0 ≤ met.getD j 0 ∧ met.getD j 0 ≤ 1000000) →
    Ev (fun k => subst_one.l1 k line a met (n : Int) i o x2 x3 x4 x5 x6 x7 x8 x9) (putv (ligv met n line) a (a + 1) o, a + 1, true) := by
  induction n with
  | zero =>
    intro line a met i o x2 x3 x4 x5 x6 x7 x8 x9 hl ho hm h0 h1 hn hp
    refine ev_some fun k => ?_
    simp only [subst_one.l1]
    rw [if_neg (by omega), w1 (by omega) (by omega), put_eq _ _ (by omega) (by omega)]
    rfl
  | succ n ih =>
    intro line a met i o x2 x3 x4 x5 x6 x7 x8 x9 hl ho hm h0 h1 hn hp
    have hn2 : n + 1 < met.length := by omega
    obtain ⟨p0, p1⟩ := hp (n + 1) hn2
    have hll := putv_len line (met.getD (n + 1) 0) (met.getD (n + 1) 0 + 1) []
    simp only [List.length_nil] at hll
    have he := ih (putv line (met.getD (n + 1) 0) (met.getD (n + 1) 0 + 1) []) a met i o x2 x3 x4 x5 x6 x7 x8 x9 (by omega) ho hm h0 h1 (.inr (by omega)) hp
    refine Ev.step (fun k => ?_) he
    simp only [subst_one.l1]
    have e1 : wrap64 (((n + 1 : Nat) : Int) - 1) = (n : Int) := by rw [w1 (by omega) (by omega)]; omega
    rw [if_pos (by omega), if_pos (by omega), if_pos (by omega), e1, rd_nat, w1 (by omega) (by omega), put_eq _ _ (by omega) (by simp), Option.bind_some]
theorem max_mx (x y : Int) : mx x y = max x y := by unfold mx; omega
/-- A rule that is met. -/
theorem one_j2 {l : List S46} {marks : List Bool} {line : List Int} {a under : Int} {n : Nat} {kind : Int} {r : S43} {met : List Int} (hk : putsv kind = true) (hr : Rule l kind r) (hl : line.length ≤ 1000000) (ha : C.Place line a) (hu : under + (n : Int) = 8 ∧ 1 ≤ under)
    (hm : met.length = r.f0.length) (hp : ∀ i : Nat, i < r.f0.length → C.Place line (met.getD i 0) ∧ a + i ≤ met.getD i 0)
    (hrec : ∀ m, n = m + 1 → ∀ k' a', Valid l k' → C.Place line a' → Ev (fun f => subst_one.f f l k' marks line a' (under + 1)) (onev l marks m k' line a'))
    (hlen : ∀ m k' a', Valid l k' → C.Place line a' → (onev l marks m k' line a').1.length ≤ line.length + 8) (b : Bool) (hb : b = decide (kind = 1 ∨ kind = 2)) :
    Ev (fun k => subst_one.j2 k l marks line a under met kind b r.f0 r.f1 r.f2 r.f3 r.f4.f0 r.f4.f1 r.f5.f0 r.f5.f1 r.f6.f0 r.f6.f1)
      ((ruleres kind line a met r.f1 (innerv l marks n line r met)).1, (ruleres kind line a met r.f1 (innerv l marks n line r met)).2, true) := by
  obtain ⟨a0, a1⟩ := place_bd ha hl
  have ho := hr.lo
  have hi := hr.li
  have hne := hr.ne
  by_cases h12 : kind = 1 ∨ kind = 2
  · have e : ruleres kind line a met r.f1 (innerv l marks n line r met) = (putv line a (a + 1) r.f1, a + r.f1.length) := by unfold ruleres; rw [if_pos h12]
    rw [e]
    refine ev_some fun k => ?_
    simp only [subst_one.j2]
    rw [hb, decide_eq_true h12, if_pos rfl, w1 (by omega) (by omega), put_eq _ _ (by omega) (by omega), w1 (by omega) (by omega)]
    rfl
  · have hbf : b = false := by rw [hb]; exact decide_eq_false h12
    by_cases h3 : kind = 3
    · have e : ruleres kind line a met r.f1 (innerv l marks n line r met) = (putv (ligv met (met.length - 1) line) a (a + 1) r.f1, a + 1) := by unfold ruleres; rw [if_neg h12, if_pos h3]
      rw [e]
      have he := lig_l1 (met.length - 1) line a met r.f0 r.f1 r.f2 r.f3 r.f4.f0 r.f4.f1 r.f5.f0 r.f5.f1 r.f6.f0 r.f6.f1 hl (by omega) (by omega) a0 a1 (by omega) (fun j hj => by have := (hp j (by omega)).1; exact ⟨this.1, by have := this.2; omega⟩)
      refine Ev.step (fun k => ?_) he
      simp only [subst_one.j2]
      have e1 : wrap64 ((met.length : Int) - 1) = ((met.length - 1 : Nat) : Int) := by rw [w1 (by omega) (by omega)]; omega
      rw [hbf, if_neg (by simp), if_pos h3, e1]
    · have h4 : kind = 4 := by rcases puts_kinds hk with h | h | h | h <;> simp_all
      have e : ruleres kind line a met r.f1 (innerv l marks n line r met) = (innerv l marks n line r met, max a (met.getD (met.length - 1) 0 + 1 + (innerv l marks n line r met).length - line.length)) := by unfold ruleres; rw [if_neg h12, if_neg h3]
      rw [e]
      obtain ⟨q0, q1, q2, q3, q4⟩ := hr.at0 h4
      have e1 : wrap64 ((met.length : Int) - 1) = ((met.length - 1 : Nat) : Int) := by rw [w1 (by omega) (by omega)]; omega
      have hlast := (hp (met.length - 1) (by omega)).1
      obtain ⟨m0, m1⟩ := place_bd hlast hl
      have c1 : (0 : Int) ≤ ((met.length - 1 : Nat) : Int) := Int.natCast_nonneg _
      have c2 : ((met.length - 1 : Nat) : Int) < (met.length : Int) := by omega
      cases n with
      | zero =>
        refine ev_some fun k => ?_
        simp only [subst_one.j2]
        rw [hbf, if_neg (by simp), if_neg h3, if_neg (by omega), e1, if_pos c1, if_pos c2, rd_nat, max_mx]
        simp only [innerv]
        rw [w1 (x := met.getD (met.length - 1) 0 + 1) (by omega) (by omega), w1 (x := met.getD (met.length - 1) 0 + 1 + (line.length : Int)) (by omega) (by omega), w1 (by omega) (by omega)]
      | succ m =>
        have hpl := rd_met hp q0 q1
        have he := hrec m rfl r.f3 (rd met r.f2) ⟨q2, q3, q4⟩ hpl
        have hln := hlen m r.f3 (rd met r.f2) ⟨q2, q3, q4⟩ hpl
        have ein : innerv l marks (m + 1) line r met = (onev l marks m r.f3 line (rd met r.f2)).1 := rfl
        rw [ein]
        refine Ev.step (f := fun k => (subst_one.f k l r.f3 marks line (rd met r.f2) (under + 1)).bind fun bt265 => (if 0 ≤ ((met.length - 1 : Nat) : Int) then (if ((met.length - 1 : Nat) : Int) < (met.length : Int) then (some (bt265.1, mx a (wrap64 ((wrap64 ((wrap64 ((rd met ((met.length - 1 : Nat) : Int)) + 1)) + (bt265.1.length : Int))) - (line.length : Int))), true)) else (none)) else (none))) (fun k => ?_) (Ev.bind he (Ev.congr (fun k => ?_) (Ev.now _)))
        · simp only [subst_one.j2]
          rw [hbf, if_neg (by simp), if_neg h3, if_pos (by omega), if_pos q0, if_pos (by omega), w1 (x := under + 1) (by omega) (by omega), e1]
        · rw [if_pos c1, if_pos c2, rd_nat, max_mx, w1 (x := met.getD (met.length - 1) 0 + 1) (by omega) (by omega), w1 (x := met.getD (met.length - 1) 0 + 1 + _) (by omega) (by omega), w1 (by omega) (by omega)]
/-- The rules from the i-th on. -/
theorem one_l0 (d : Nat) : ∀ (l : List S46) (marks : List Bool) (line : List Int) (a under : Int) (n : Nat) (kind : Int) (skip : Bool) (rs : List S43) (i : Nat), putsv kind = true → (∀ r ∈ rs, Rule l kind r) → rs.length ≤ 1000000 → line.length ≤ 1000000 → C.Place line a → (under + (n : Int) = 8 ∧ 1 ≤ under) → i + d = rs.length →
    (∀ m, n = m + 1 → ∀ k' a', Valid l k' → C.Place line a' → Ev (fun f => subst_one.f f l k' marks line a' (under + 1)) (onev l marks m k' line a')) →
    (∀ m k' a', Valid l k' → C.Place line a' → (onev l marks m k' line a').1.length ≤ line.length + 8) →
    Ev (fun k => subst_one.l0 k l marks line a under rs (rs.length : Int) (i : Int) kind skip rs) (rulesv marks kind skip line a (innerv l marks n line) (rs.drop i)) := by
  induction d with
  | zero =>
    intro l marks line a under n kind skip rs i hk hr hrl hl ha hu hi hrec hlen
    refine ev_some fun k => ?_
    simp only [subst_one.l0]
    rw [if_neg (by omega), List.drop_of_length_le (by omega)]; rfl
  | succ d ih =>
    intro l marks line a under n kind skip rs i hk hr hrl hl ha hu hi hrec hlen
    have hil : i < rs.length := by omega
    have hmem := rd_eq rs i hil
    have hrule := hr _ hmem
    have hdrop : rs.drop i = rd_T43 rs (i : Int) :: rs.drop (i + 1) := by
      rw [List.drop_eq_getElem_cons hil]; unfold rd_T43; simp [List.getD, hil]
    have hi1 := hrule.li
    have hmeet := meet_ev line marks a (rd_T43 rs (i : Int)).f0 skip (by omega) (by omega)
    have e1 : wrap64 ((i : Int) + 1) = ((i + 1 : Nat) : Int) := by rw [w1 (by omega) (by omega)]; rfl
    have hnext := ih l marks line a under n kind skip rs (i + 1) hk hr hrl hl ha hu (by omega) hrec hlen
    rw [hdrop]
    refine Ev.step (fun k => (subst_one.l0.eq_2 l marks line a under rs (rs.length : Int) (i : Int) kind skip rs k).trans ((if_pos (by omega)).trans ((if_pos (by omega)).trans (if_pos (by omega))))) (Ev.bind hmeet ?_)
    simp only [rulesv]
    by_cases hm : (meetv line marks a (rd_T43 rs (i : Int)).f0 skip).2 = true
    · obtain ⟨p1, p2, p3⟩ := met_places hm
      refine Ev.congr (fun k => if_pos hm) ?_
      rw [if_pos hm]
      by_cases h1 : kind = 1
      · refine Ev.congr (fun k => if_pos h1) ?_
        exact one_j2 hk hrule hl ha hu p1 p3 hrec hlen _ (by simp [h1])
      · refine Ev.congr (fun k => if_neg h1) ?_
        exact one_j2 hk hrule hl ha hu p1 p3 hrec hlen _ (by simp only [h1, false_or]; rfl)
    · refine Ev.congr (fun k => (if_neg hm).trans (by rw [e1])) ?_
      rw [if_neg hm]
      exact hnext
theorem one_f {l : List S46} {marks : List Bool} (hF : Formed l) {n : Nat} {k : Int} {line : List Int} {a under : Int} (hk : Valid l k) (ha : C.Place line a) (hl : line.length ≤ 1000000) (hu : under + (n : Int) = 8 ∧ 1 ≤ under)
    (hrec : ∀ m, n = m + 1 → ∀ k' a', Valid l k' → C.Place line a' → Ev (fun f => subst_one.f f l k' marks line a' (under + 1)) (onev l marks m k' line a')) :
    Ev (fun f => subst_one.f f l k marks line a under) (onev l marks n k line a) := by
  rw [onev_eq]
  have hl0 := one_l0 (rd_T46 l k).f2.length l marks line a under n (rd_T46 l k).f0 (rd_T46 l k).f1 (rd_T46 l k).f2 0 hk.2.2 (hF k hk.1 hk.2.1 hk.2.2).2 (by have := (hF k hk.1 hk.2.1 hk.2.2).1; omega) hl ha hu (by omega) hrec (fun m k' a' hk' ha' => onev_len hF m k' line a' hk' ha')
  rw [List.drop_zero] at hl0
  have hno : Ev (fun f => subst_one.j0 f l marks line a under false (rd_T46 l k).f0 (rd_T46 l k).f1 (rd_T46 l k).f2) (rulesv marks (rd_T46 l k).f0 (rd_T46 l k).f1 line a (innerv l marks n line) (rd_T46 l k).f2) :=
    Ev.step (fun f => (subst_one.j0.eq_2 l marks line a under false (rd_T46 l k).f0 (rd_T46 l k).f1 (rd_T46 l k).f2 f).trans (if_neg (by simp))) hl0
  refine Ev.step (fun f => (subst_one.f.eq_2 l k marks line a under f).trans ((if_pos hk.1).trans (if_pos hk.2.1))) ?_
  unfold atv
  by_cases h1 : (rd_T46 l k).f1 = true
  · refine Ev.congr (fun f => (if_pos h1).trans ((if_pos ha.1).trans ((if_pos ha.2).trans (by rw [mark_eq, Option.bind_some])))) ?_
    by_cases h2 : markv marks (rd line a) = true
    · rw [if_pos ⟨h1, h2⟩, h2]
      exact ev_some fun f => by rw [subst_one.j0.eq_2, if_pos rfl]
    · rw [if_neg (fun h => h2 h.2), Bool.eq_false_iff.mpr h2]
      exact hno
  · rw [if_neg (fun h => h1 h.1)]
    exact Ev.congr (fun f => if_neg h1) hno
/-- subst.one, where it is called with what is formed. -/
theorem one_ev {l : List S46} {marks : List Bool} (hF : Formed l) (n : Nat) : ∀ (k : Int) (line : List Int) (a under : Int), Valid l k → C.Place line a → line.length ≤ 1000000 → (under + (n : Int) = 8 ∧ 1 ≤ under) →
    Ev (fun f => subst_one.f f l k marks line a under) (onev l marks n k line a) := by
  induction n with
  | zero =>
    intro k line a under hk ha hl hu
    exact one_f hF hk ha hl hu (fun m h => by omega)
  | succ n ih =>
    intro k line a under hk ha hl hu
    exact one_f hF hk ha hl hu (fun m h k' a' hk' ha' => by obtain rfl : n = m := Nat.succ.inj h; exact ih k' line a' (under + 1) hk' ha' hl (by omega))
end Go.Proofs.Ytoldahmgjenlaaa.S
