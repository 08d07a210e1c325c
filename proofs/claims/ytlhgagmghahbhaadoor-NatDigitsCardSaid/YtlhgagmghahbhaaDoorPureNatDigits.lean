/- NatDigits: the program's text of a natural, nine digits at a time, is the reference's, one at a time: both are its decimal digits. -/
import Derived.Test.YtlhgagmghahbhaaDoorQx23
import Derived.Test.YtlhgagmghahbhaaDoorN
import Derived.Test.YtlhgagmghahbhaaDoorU
namespace Go.Proofs.YtlhgagmghahbhaaDoor.N
open Go.RowKit Go.Proofs.YtlhgagmghahbhaaDoor.Q Go.Proofs.YtlhgagmghahbhaaDoor.U Go.Proofs.YtlhgagmghahbhaaDoorW.PrintWords Go.Proofs.YtlhgagmghahbhaaDoorW.PrintLast
open FNat
set_option linter.unusedVariables false

theorem good_ne {t : List Int} {v : Nat} (h : Good t (v : Int)) : (0 : Int) < (t.length : Int) ↔ v ≠ 0 := by
  constructor
  · intro h0
    have hne : t ≠ [] := by rintro rfl; simp at h0
    have h1 := tr_low h.lim h.tr hne
    have h2 := pw_pos (t.length - 1)
    have h3 := h.val
    omega
  · intro h0
    rcases t with _ | ⟨x, t⟩
    · have := h.val; rw [val_nil] at this; omega
    · simp
theorem good_len {t q : List Int} {v w : Nat} (h : Good t (v : Int)) (g : Good q (w : Int)) (hw : w ≤ v) : q.length ≤ t.length := by
  rcases Nat.lt_or_ge t.length q.length with hlt | hge
  · exfalso
    have hne : q ≠ [] := by rintro rfl; simp at hlt
    have h1 := tr_low g.lim g.tr hne
    have h2 := val_lt h.lim
    have h3 := pw_le (m := t.length) (n := q.length - 1) (by omega)
    have h4 := h.val
    have h5 := g.val
    omega
  · exact hge
theorem ten_nat (v : Nat) : ((v : Int) / 10) = ((v / 10 : Nat) : Int) ∧ ((v : Int) % 10) = ((v % 10 : Nat) : Int) := by omega
theorem big_nat (v : Nat) : ((v : Int) / 1000000000) = ((v / 1000000000 : Nat) : Int) ∧ ((v : Int) % 1000000000) = ((v % 1000000000 : Nat) : Int) := by omega
theorem wrap_ch (d : Nat) (h : d < 10) : (IntKind.u64.wrap (48 + (d : Int))) % 256 = ((48 + d : Nat) : Int) := by rw [u64 (by omega) (by omega)]; omega
theorem ch_str (d : Nat) : strOfNums [((48 + d : Nat) : Int)] = bs [ch d] := rfl
theorem room {a b : List UInt8} {n : Nat} (h : a.length + b.length ≤ n) (hn : n ≤ 9223372036854775807) : (bs a).size + (bs b).size ≤ 9223372036854775807 := by rw [bs_size, bs_size]; omega
theorem rtext_l0 (n : Nat) : ∀ (t : List Int) (s : List UInt8) (v : Nat), Good t (v : Int) → t.length ≤ 100000 → v < 10 ^ n → s.length + n ≤ 1000000 → Ev (fun k => foundryref01_Text.l0 k t (bs s)) (bs (ds v ++ s)) := by
  induction n with
  | zero =>
    intro t s v hg hl hv hs
    have h0 : v = 0 := by simpa using hv
    subst h0
    exact Ev.step (fun k => (foundryref01_Text.l0.eq_2 t (bs s) k).trans (if_neg (fun h => (good_ne hg).1 h rfl))) (Ev.now _)
  | succ n ih =>
    intro t s v hg hl hv hs
    by_cases h0 : v = 0
    · subst h0
      exact Ev.step (fun k => (foundryref01_Text.l0.eq_2 t (bs s) k).trans (if_neg (fun h => (good_ne hg).1 h rfl))) (Ev.now _)
    · obtain ⟨x, ex, gx, lx⟩ := rof_good (n := 10) (by omega) (by omega)
      obtain ⟨q, r, ed, gq, gr⟩ := rdiv_good hg.lim gx.lim hl (by omega)
      rw [hg.val, gx.val] at gq gr
      have hm : modv (v : Int) 10 = ((v % 10 : Nat) : Int) := by unfold modv; rw [if_neg (by omega)]; exact (ten_nat v).2
      rw [hm] at gr
      rw [(ten_nat v).1] at gq
      have lr := good_len hg gr (Nat.mod_le v 10)
      have lq := good_len hg gq (Nat.div_le_self v 10)
      have es := rsmall_ev gr.lim (by omega)
      have hd : v % 10 < 10 := Nat.mod_lt _ (by decide)
      have hsv : smallv (FNat.val r) = (((v % 10 : Nat) : Int), true) := by rw [gr.val]; unfold smallv; rw [if_pos (by omega)]
      rw [hsv] at es
      have hn := ih q (ch (v % 10) :: s) (v / 10) gq (by omega) (by rw [Nat.pow_succ] at hv; omega) (by simp only [List.length_cons]; omega)
      rw [ds_step h0, List.append_assoc]
      refine Ev.step (fun k => (foundryref01_Text.l0.eq_2 t (bs s) k).trans (if_pos ((good_ne hg).2 h0))) (Ev.bind ex (Ev.bind ed (Ev.bind es ?_)))
      refine Ev.congr (fun k => ?_) hn
      rw [Option.bind_some, wrap_ch _ hd, ch_str, if_pos (room (n := 1000000) (by simp only [List.length_singleton]; omega) (by decide)), bs_app]
      rfl
theorem pad_l1 (m : Nat) : ∀ (s p : List UInt8) (q : List Int) (r : ByteArray), 0 < (q.length : Int) → p.length + m = 9 → s.length ≤ 1000000 → Ev (fun k => nat_Text.l0 k q (bs ((List.replicate m 48 ++ p) ++ s))) r → Ev (fun k => nat_Text.l1 k (bs s) q (bs p)) r := by
  induction m with
  | zero =>
    intro s p q r hq hp hs h
    have hr : (List.replicate 0 48 ++ p) ++ s = p ++ s := rfl
    rw [hr] at h
    exact Ev.step (fun k => (nat_Text.l1.eq_2 (bs s) q (bs p) k).trans ((if_pos hq).trans ((if_neg (by rw [bs_size]; omega)).trans ((if_pos (room (n := 1000009) (by omega) (by decide))).trans (by rw [bs_app]))))) h
  | succ m ih =>
    intro s p q r hq hp hs h
    have hr : (List.replicate m 48 ++ (48 :: p)) ++ s = (List.replicate (m + 1) 48 ++ p) ++ s := by
      rw [List.replicate_succ']; simp
    rw [← hr] at h
    have hn := ih s (48 :: p) q r hq (by simp only [List.length_cons]; omega) hs h
    refine Ev.step (fun k => (nat_Text.l1.eq_2 (bs s) q (bs p) k).trans ((if_pos hq).trans ((if_pos (by rw [bs_size]; omega)).trans ((if_pos (by rw [bs_size]; omega)).trans ?_)))) hn
    rw [show (⟨#[48]⟩ : ByteArray) = bs [48] from rfl, bs_app]
    rfl
theorem text_l0 (n : Nat) : ∀ (t : List Int) (s : List UInt8) (v : Nat), Good t (v : Int) → t.length ≤ 100000 → v < 1000000000 ^ n → s.length + 9 * n ≤ 1000000 → Ev (fun k => nat_Text.l0 k t (bs s)) (bs (ds v ++ s)) := by
  induction n with
  | zero =>
    intro t s v hg hl hv hs
    have h0 : v = 0 := by simpa using hv
    subst h0
    exact Ev.step (fun k => (nat_Text.l0.eq_2 t (bs s) k).trans (if_neg (fun h => (good_ne hg).1 h rfl))) (Ev.now _)
  | succ n ih =>
    intro t s v hg hl hv hs
    by_cases h0 : v = 0
    · subst h0
      exact Ev.step (fun k => (nat_Text.l0.eq_2 t (bs s) k).trans (if_neg (fun h => (good_ne hg).1 h rfl))) (Ev.now _)
    · obtain ⟨q, eq, gq, lq⟩ := limb_good hg.lim (d := 1000000000) (by omega) (by omega)
      rw [hg.val, (big_nat v).2] at eq
      rw [hg.val, (big_nat v).1] at gq
      have hr : v % 1000000000 < 1000000000 := Nat.mod_lt _ (by decide)
      have hf : strconv_FormatUint_12.f (IntKind.u64.wrap ((v % 1000000000 : Nat) : Int)) 10 = some (bs (Lib.decDigits (v % 1000000000))) := by
        rw [u64 (by omega) (by omega)]
        unfold strconv_FormatUint_12.f
        rw [if_pos ⟨by omega, by omega, rfl⟩, Int.toNat_natCast]; rfl
      refine Ev.step (fun k => (nat_Text.l0.eq_2 t (bs s) k).trans (if_pos ((good_ne hg).2 h0))) (Ev.bind eq ?_)
      refine Ev.congr (fun k => by rw [hf, Option.bind_some]) (?_ : Ev (fun k => nat_Text.l1 k (bs s) q (bs (Lib.decDigits (v % 1000000000)))) _)
      by_cases hq : v / 1000000000 = 0
      · have hz : ¬ (0 : Int) < (q.length : Int) := fun h => (good_ne gq).1 h hq
        have e : v % 1000000000 = v := by omega
        rw [e, ds_pos h0]
        have hlen : (Lib.decDigits v).length ≤ 9 := (padk_dec 8 v (by have : (10 : Nat) ^ (8 + 1) = 1000000000 := rfl; omega)).1
        refine Ev.step (fun k => (nat_Text.l1.eq_2 (bs s) q (bs (Lib.decDigits v)) k).trans ((if_neg hz).trans ((if_pos (room (n := 1000009) (by omega) (by decide))).trans (by rw [bs_app])))) ?_
        exact Ev.step (fun k => (nat_Text.l0.eq_2 q (bs (Lib.decDigits v ++ s)) k).trans (if_neg hz)) (Ev.now _)
      · obtain ⟨e, l9⟩ := ds_nine hq
        have hn := ih q ((List.replicate (9 - (Lib.decDigits (v % 1000000000)).length) 48 ++ Lib.decDigits (v % 1000000000)) ++ s) (v / 1000000000) gq (by omega) (by rw [Nat.pow_succ] at hv; exact Nat.div_lt_of_lt_mul (by rw [Nat.mul_comm]; exact hv)) (by simp only [List.length_append, List.length_replicate]; omega)
        rw [e, List.append_assoc]
        exact pad_l1 (9 - (Lib.decDigits (v % 1000000000)).length) s _ q _ ((good_ne gq).2 hq) (by omega) (by omega) hn
theorem text_eq {l t : List Int} {v : Nat} (et : Ev (fun k => nat_trim.f k l) t) (g : Good t (v : Int)) (hl : t.length ≤ 12) (hv : v < 1000000000 ^ 13) : Ev (fun k => nat_Text.f k l) (if v = 0 then bs [48] else bs (ds v)) := by
  refine Ev.bind et ?_
  by_cases h0 : v = 0
  · rw [if_pos h0]
    refine Ev.congr (fun k => if_pos ?_) (Ev.now _)
    have : ¬ (0 : Int) < (t.length : Int) := fun h => (good_ne g).1 h h0
    omega
  · rw [if_neg h0]
    have := (good_ne g).2 h0
    refine Ev.congr (fun k => if_neg (by omega)) ?_
    have h := text_l0 13 t [] v g (by omega) hv (by simp)
    rwa [List.append_nil] at h
theorem rtext_eq {l t : List Int} {v : Nat} (et : Ev (fun k => foundryref01_Trim.f k l) t) (g : Good t (v : Int)) (hl : t.length ≤ 12) (hv : v < 10 ^ 117) : Ev (fun k => foundryref01_Text.f k l) (if v = 0 then bs [48] else bs (ds v)) := by
  refine Ev.bind et ?_
  by_cases h0 : v = 0
  · rw [if_pos h0]
    refine Ev.congr (fun k => if_pos ?_) (Ev.now _)
    have : ¬ (0 : Int) < (t.length : Int) := fun h => (good_ne g).1 h h0
    omega
  · rw [if_neg h0]
    have := (good_ne g).2 h0
    refine Ev.congr (fun k => if_neg (by omega)) ?_
    have h := rtext_l0 117 t [] v g (by omega) hv (by simp)
    rwa [List.append_nil] at h
end Go.Proofs.YtlhgagmghahbhaaDoor.N
namespace Go.Proofs.YtlhgagmghahbhaaDoor.Pure
open Go.RowKit Go.Proofs.YtlhgagmghahbhaaDoor.Q Go.Proofs.YtlhgagmghahbhaaDoor.U Go.Proofs.YtlhgagmghahbhaaDoor.N Go.Proofs.YtlhgagmghahbhaaDoorW.PrintWords Go.Proofs.YtlhgagmghahbhaaDoorW.PrintLast
open FNat
set_option linter.unusedVariables false
theorem lim_of {l : List Int} (h : ∀ x ∈ l, (Lit.int .u32 x).wf = true) : Lim l := by
  intro x hx
  have := h x hx
  simp only [Lit.wf, IntKind.min, IntKind.max, IntKind.signed, IntKind.bits] at this
  simp at this
  omega
theorem pw_twelve : pw 12 < 10 ^ 117 := by unfold pw; decide
theorem NatDigits : foundrylaw01_NatDigits.Pure := by
  intro l _ _ hw
  have hl := lim_of hw
  have hno : Ev (fun k => foundrylaw01_NatDigits.j0 k l true) true :=
    Ev.step (fun k => (foundrylaw01_NatDigits.j0.eq_2 l true k).trans (if_pos rfl)) (Ev.bind awake_ev (Ev.now true))
  refine Ev.rounds ?_
  refine Ev.bind awake_ev (Ev.congr (fun k => (if_pos rfl).trans (by rw [few_eq, Option.bind_some])) ?_)
  by_cases h12 : l.length ≤ 12
  · obtain ⟨t, et, g, lt⟩ := trim_good hl (by omega)
    obtain ⟨u, eu, gu, lu⟩ := rtrim_good hl (by omega)
    have hnn := val_nonneg hl
    obtain ⟨v, hv⟩ : ∃ v : Nat, FNat.val l = (v : Int) := ⟨(FNat.val l).toNat, by omega⟩
    rw [hv] at g gu
    have hb : v < 10 ^ 117 := by
      have h1 := val_lt hl
      have h2 := pw_le (m := l.length) (n := 12) h12
      have h3 := pw_twelve
      have h4 : (v : Int) < ((10 ^ 117 : Nat) : Int) := by rw [← hv]; exact Int.lt_of_lt_of_le h1 (Int.le_trans h2 (Int.le_of_lt h3))
      exact Int.ofNat_lt.1 h4
    have hb2 : v < 1000000000 ^ 13 := hb
    rw [decide_eq_true (show l.length ≤ 12 ∧ ([] : List Int).length ≤ 12 from ⟨h12, by simp⟩)]
    refine Ev.step (fun k => (foundrylaw01_NatDigits.j0.eq_2 l false k).trans (if_neg Bool.false_ne_true)) (Ev.bind (text_eq et g (by omega) hb2) (Ev.bind (rtext_eq eu gu (by omega) hb) ?_))
    exact Ev.congr (fun k => by rw [beq_self_eq_true]) (Ev.now true)
  · rw [decide_eq_false (fun h => h12 h.1)]
    exact hno
end Go.Proofs.YtlhgagmghahbhaaDoor.Pure
