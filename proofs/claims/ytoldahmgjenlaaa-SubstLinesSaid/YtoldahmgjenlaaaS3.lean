/- Contracts: the reference's done. -/
import Derived.Test.YtoldahmgjenlaaaS1
import Derived.Test.YtoldahmgjenlaaaC2r
import Derived.Test.YtoldahmgjenlaaaQx29
namespace Go.Proofs.Ytoldahmgjenlaaa.S
open Go.RowKit Go.Proofs.Ytoldahmgjenlaaa.Q Go.Proofs.YtoldahmgjenlaaaW.PrintWords Go.Proofs.YtoldahmgjenlaaaW.PrintLast Go.Proofs.Ytoldahmgjenlaaa.C
set_option linter.unusedVariables false

theorem v1 {x : Int} (h : -1000000000 ≤ x) (h' : x ≤ 1000000000) : wrap64 x = x := w64 (by omega) (by omega)
theorem rplace_bd {line : List Int} {a : Int} (h : C.Place line a) (hl : line.length ≤ 1000000) : 0 ≤ a ∧ a ≤ 1000000 := ⟨h.1, by have := h.2; omega⟩
theorem rmax_mx (x y : Int) : mx x y = max y x := by unfold mx; omega
theorem rlig_l1 (n : Nat) : ∀ (line : List Int) (a : Int) (met i o : List Int) (x2 x3 x4 x5 x6 x7 x8 x9 : Int), line.length ≤ 1000000 → o.length ≤ 1000000 → met.length ≤ 1000000 → 0 ≤ a → a ≤ 1000000 → (n = 0 ∨ n < met.length) → (∀ j : Nat, j < met.length → 0 ≤ met.getD j 0 ∧ met.getD j 0 ≤ 1000000) →
    Ev (fun k => foundryref20_done.l1 k a met line (n : Int) i o x2 x3 x4 x5 x6 x7 x8 x9) (putv (ligv met n line) a (a + 1) o, a + 1, true) := by
  induction n with
  | zero =>
    intro line a met i o x2 x3 x4 x5 x6 x7 x8 x9 hl ho hm h0 h1 hn hp
    refine ev_some fun k => ?_
    simp only [foundryref20_done.l1]
    rw [if_neg (by omega), v1 (by omega) (by omega), rput_eq _ _ (by omega) (by omega)]
    rfl
  | succ n ih =>
    intro line a met i o x2 x3 x4 x5 x6 x7 x8 x9 hl ho hm h0 h1 hn hp
    have hn2 : n + 1 < met.length := by omega
    obtain ⟨p0, p1⟩ := hp (n + 1) hn2
    have hll := putv_len line (met.getD (n + 1) 0) (met.getD (n + 1) 0 + 1) []
    simp only [List.length_nil] at hll
    have he := ih (putv line (met.getD (n + 1) 0) (met.getD (n + 1) 0 + 1) []) a met i o x2 x3 x4 x5 x6 x7 x8 x9 (by omega) ho hm h0 h1 (.inr (by omega)) hp
    refine Ev.step (fun k => ?_) he
    simp only [foundryref20_done.l1]
    have e1 : wrap64 (((n + 1 : Nat) : Int) - 1) = (n : Int) := by rw [v1 (by omega) (by omega)]; omega
    rw [if_pos (by omega), if_pos (by omega), if_pos (by omega), e1, rd_nat, v1 (by omega) (by omega), rput_eq _ _ (by omega) (by simp), Option.bind_some]
theorem rone_l0 (d : Nat) : ∀ (l : List S46) (marks : List Bool) (line : List Int) (a under : Int) (n : Nat) (kind : Int) (skip : Bool) (rs : List S43) (i : Nat), putsv kind = true → (∀ r ∈ rs, Rule l kind r) → rs.length ≤ 1000000 → line.length ≤ 1000000 → C.Place line a → (under + (n : Int) = 8 ∧ 1 ≤ under) → i + d = rs.length →
    (∀ m, n = m + 1 → ∀ k' a', Valid l k' → C.Place line a' → Ev (fun f => foundryref20_done.f f l k' marks line a' (under + 1)) (onev l marks m k' line a')) →
    (∀ m k' a', Valid l k' → C.Place line a' → (onev l marks m k' line a').1.length ≤ line.length + 8) →
    Ev (fun k => foundryref20_done.l0 k l marks line a under (i : Int) kind skip rs) (rulesv marks kind skip line a (innerv l marks n line) (rs.drop i)) := by
  induction d with
  | zero =>
    intro l marks line a under n kind skip rs i hk hr hrl hl ha hu hi hrec hlen
    refine ev_some fun k => ?_
    simp only [foundryref20_done.l0]
    rw [if_neg (by omega), List.drop_of_length_le (by omega)]; rfl
  | succ d ih =>
    intro l marks line a under n kind skip rs i hk hr hrl hl ha hu hi hrec hlen
    have hil : i < rs.length := by omega
    have hmem := rd_eq rs i hil
    have hrule := hr _ hmem
    have hdrop : rs.drop i = rd_T43 rs (i : Int) :: rs.drop (i + 1) := by
      rw [List.drop_eq_getElem_cons hil]; unfold rd_T43; simp [List.getD, hil]
    have hi1 := hrule.li
    have ho := hrule.lo
    have hne := hrule.ne
    obtain ⟨a0, a1⟩ := rplace_bd ha hl
    have hmeet := rmeet_ev line marks a (rd_T43 rs (i : Int)).f0 skip (by omega) (by omega)
    have e1 : wrap64 ((i : Int) + 1) = ((i + 1 : Nat) : Int) := by rw [v1 (by omega) (by omega)]; rfl
    have hnext := ih l marks line a under n kind skip rs (i + 1) hk hr hrl hl ha hu (by omega) hrec hlen
    rw [hdrop]
    refine Ev.step (fun k => (foundryref20_done.l0.eq_2 l marks line a under (i : Int) kind skip rs k).trans ((if_pos (by omega)).trans (if_pos (by omega)))) (Ev.bind hmeet ?_)
    simp only [rulesv]
    by_cases hm : (meetv line marks a (rd_T43 rs (i : Int)).f0 skip).2 = true
    · obtain ⟨hml, p2, hp⟩ := met_places hm
      refine Ev.congr (fun k => if_pos hm) ?_
      rw [if_pos hm]
      generalize (meetv line marks a (rd_T43 rs (i : Int)).f0 skip).1 = met at hml hp
      generalize rd_T43 rs (i : Int) = r at *
      have e1 : wrap64 ((met.length : Int) - 1) = ((met.length - 1 : Nat) : Int) := by rw [v1 (by omega) (by omega)]; omega
      have hlast := (hp (met.length - 1) (by omega)).1
      obtain ⟨m0, m1⟩ := rplace_bd hlast hl
      have c1 : (0 : Int) ≤ ((met.length - 1 : Nat) : Int) := Int.natCast_nonneg _
      have c2 : ((met.length - 1 : Nat) : Int) < (met.length : Int) := by omega
      by_cases h4 : kind = 4
      · refine Ev.congr (fun k => if_pos h4) ?_
        obtain ⟨q0, q1, q2, q3, q4⟩ := hrule.at0 h4
        have e : ruleres kind line a met r.f1 (innerv l marks n line r met) = (innerv l marks n line r met, max a (met.getD (met.length - 1) 0 + 1 + (innerv l marks n line r met).length - line.length)) := by unfold ruleres; rw [if_neg (by omega), if_neg (by omega)]
        rw [e]
        cases n with
        | zero =>
          refine Ev.congr (fun k => (if_neg (by omega)).trans (by rw [e1])) ?_
          simp only [innerv]
          rw [rd_nat, rmax_mx, v1 (x := met.getD (met.length - 1) 0 + 1) (by omega) (by omega), v1 (x := met.getD (met.length - 1) 0 + 1 + (line.length : Int)) (by omega) (by omega), v1 (by omega) (by omega)]
          exact Ev.congr (fun k => (if_pos c1).trans (if_pos c2)) (Ev.now _)
        | succ m =>
          have hpl := rd_met hp q0 q1
          have he := hrec m rfl r.f3 (rd met r.f2) ⟨q2, q3, q4⟩ hpl
          have hln := hlen m r.f3 (rd met r.f2) ⟨q2, q3, q4⟩ hpl
          have ein : innerv l marks (m + 1) line r met = (onev l marks m r.f3 line (rd met r.f2)).1 := rfl
          rw [ein]
          refine Ev.congr (fun k => (if_pos (by omega)).trans ((if_pos q0).trans ((if_pos (by omega)).trans (by rw [v1 (x := under + 1) (by omega) (by omega)])))) (Ev.bind he (Ev.congr (fun k => by rw [e1]) ?_))
          rw [rd_nat, rmax_mx, v1 (x := met.getD (met.length - 1) 0 + 1) (by omega) (by omega), v1 (x := met.getD (met.length - 1) 0 + 1 + _) (by omega) (by omega), v1 (by omega) (by omega)]
          exact Ev.congr (fun k => (if_pos c1).trans (if_pos c2)) (Ev.now _)
      · refine Ev.congr (fun k => if_neg h4) ?_
        by_cases h3 : kind = 3
        · refine Ev.congr (fun k => if_pos h3) ?_
          have e : ruleres kind line a met r.f1 (innerv l marks n line r met) = (putv (ligv met (met.length - 1) line) a (a + 1) r.f1, a + 1) := by unfold ruleres; rw [if_neg (by omega), if_pos h3]
          rw [e, e1]
          exact rlig_l1 (met.length - 1) line a met r.f0 r.f1 r.f2 r.f3 r.f4.f0 r.f4.f1 r.f5.f0 r.f5.f1 r.f6.f0 r.f6.f1 hl (by omega) (by omega) a0 a1 (by omega) (fun j hj => by have := (hp j (by omega)).1; exact ⟨this.1, by have := this.2; omega⟩)
        · have h12 : kind = 1 ∨ kind = 2 := by rcases puts_kinds hk with h | h | h | h <;> simp_all
          have e : ruleres kind line a met r.f1 (innerv l marks n line r met) = (putv line a (a + 1) r.f1, a + r.f1.length) := by unfold ruleres; rw [if_pos h12]
          rw [e]
          refine Ev.congr (fun k => (if_neg h3).trans ?_) (Ev.now (putv line a (a + 1) r.f1, a + (r.f1.length : Int), true))
          rw [v1 (by omega) (by omega), rput_eq _ _ (by omega) (by omega), Option.bind_some, v1 (by omega) (by omega)]
    · refine Ev.congr (fun k => (if_neg hm).trans (by rw [e1])) ?_
      rw [if_neg hm]
      exact hnext
theorem rone_f {l : List S46} {marks : List Bool} (hF : Formed l) {n : Nat} {k : Int} {line : List Int} {a under : Int} (hk : Valid l k) (ha : C.Place line a) (hl : line.length ≤ 1000000) (hu : under + (n : Int) = 8 ∧ 1 ≤ under)
    (hrec : ∀ m, n = m + 1 → ∀ k' a', Valid l k' → C.Place line a' → Ev (fun f => foundryref20_done.f f l k' marks line a' (under + 1)) (onev l marks m k' line a')) :
    Ev (fun f => foundryref20_done.f f l k marks line a under) (onev l marks n k line a) := by
  rw [onev_eq]
  have hl0 := rone_l0 (rd_T46 l k).f2.length l marks line a under n (rd_T46 l k).f0 (rd_T46 l k).f1 (rd_T46 l k).f2 0 hk.2.2 (hF k hk.1 hk.2.1 hk.2.2).2 (by have := (hF k hk.1 hk.2.1 hk.2.2).1; omega) hl ha hu (by omega) hrec (fun m k' a' hk' ha' => onev_len hF m k' line a' hk' ha')
  rw [List.drop_zero] at hl0
  have hno : Ev (fun f => foundryref20_done.j0 f l marks line a under false (rd_T46 l k).f0 (rd_T46 l k).f1 (rd_T46 l k).f2) (rulesv marks (rd_T46 l k).f0 (rd_T46 l k).f1 line a (innerv l marks n line) (rd_T46 l k).f2) :=
    Ev.step (fun f => (foundryref20_done.j0.eq_2 l marks line a under false (rd_T46 l k).f0 (rd_T46 l k).f1 (rd_T46 l k).f2 f).trans (if_neg (by simp))) hl0
  refine Ev.step (fun f => (foundryref20_done.f.eq_2 l k marks line a under f).trans ((if_pos hk.1).trans (if_pos hk.2.1))) ?_
  unfold atv
  by_cases h1 : (rd_T46 l k).f1 = true
  · refine Ev.congr (fun f => (if_pos h1).trans ((if_pos ha.1).trans ((if_pos ha.2).trans (by rw [rmark_eq, Option.bind_some])))) ?_
    by_cases h2 : markv marks (rd line a) = true
    · rw [if_pos ⟨h1, h2⟩, h2]
      exact ev_some fun f => by rw [foundryref20_done.j0.eq_2, if_pos rfl]
    · rw [if_neg (fun h => h2 h.2), Bool.eq_false_iff.mpr h2]
      exact hno
  · rw [if_neg (fun h => h1 h.1)]
    exact Ev.congr (fun f => if_neg h1) hno
theorem rone_ev {l : List S46} {marks : List Bool} (hF : Formed l) (n : Nat) : ∀ (k : Int) (line : List Int) (a under : Int), Valid l k → C.Place line a → line.length ≤ 1000000 → (under + (n : Int) = 8 ∧ 1 ≤ under) →
    Ev (fun f => foundryref20_done.f f l k marks line a under) (onev l marks n k line a) := by
  induction n with
  | zero =>
    intro k line a under hk ha hl hu
    exact rone_f hF hk ha hl hu (fun m h => by omega)
  | succ n ih =>
    intro k line a under hk ha hl hu
    exact rone_f hF hk ha hl hu (fun m h k' a' hk' ha' => by obtain rfl : n = m := Nat.succ.inj h; exact ih k' line a' (under + 1) hk' ha' hl (by omega))
end Go.Proofs.Ytoldahmgjenlaaa.S
