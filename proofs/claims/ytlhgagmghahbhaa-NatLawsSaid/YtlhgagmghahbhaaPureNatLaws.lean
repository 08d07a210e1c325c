/- NatLaws: of lists of at most 12 limbs sums and products do not hang on the order and spread over one another, and what is added and taken away is as it was. -/
import Derived.Test.YtlhgagmghahbhaaN2
import Derived.Test.YtlhgagmghahbhaaN4
import Derived.Test.YtlhgagmghahbhaaQx6
namespace Go.Proofs.Ytlhgagmghahbhaa.Pure
open Go.RowKit Go.Proofs.Ytlhgagmghahbhaa.Q Go.Proofs.YtlhgagmghahbhaaW.PrintWords Go.Proofs.YtlhgagmghahbhaaW.PrintLast Go.Proofs.Ytlhgagmghahbhaa.N FNat

/-- Two lists of one value are told as the same. -/
theorem cmp_same {a b : List Int} (ha : Lim a) (hb : Lim b) (h1 : a.length ≤ 1000000000) (h2 : b.length ≤ 1000000000) (h : val a = val b) : Ev (fun k => nat_Cmp.f k a b) 0 :=
  ev_eq (cmp_ev ha hb h1 h2) (cmpv_zero.2 h)
theorem NatLaws : foundrylaw01_NatLaws.Pure := by
  intro a b c _ _ ha _ _ hb _ _ hc
  replace ha := lim_wf ha
  replace hb := lim_wf hb
  replace hc := lim_wf hc
  refine Ev.rounds ?_
  refine Ev.bind (f := fun k t => if t = true then (foundrylaw01_few.f a b).bind fun s => (if s = true then foundrylaw01_NatLaws.j0 k a b c (decide ((c.length : Int) > 12)) else foundrylaw01_NatLaws.j0 k a b c true) else foundrylaw01_NatLaws.j0 k a b c true) awake_ev ?_
  rw [few_eq]
  by_cases h : (a.length ≤ 12 ∧ b.length ≤ 12) ∧ c.length ≤ 12
  · obtain ⟨⟨h1, h2⟩, h3⟩ := h
    have va := val_nonneg ha; have vb := val_nonneg hb
    obtain ⟨ab, eab, gab, lab⟩ := add_good ha hb (by omega) (by omega)
    obtain ⟨ba, eba, gba, lba⟩ := add_good hb ha (by omega) (by omega)
    obtain ⟨mab, emab, gmab, lmab⟩ := mul_good ha hb (by omega) (by omega)
    obtain ⟨mba, emba, gmba, lmba⟩ := mul_good hb ha (by omega) (by omega)
    obtain ⟨s, es, gs, ls⟩ := sub_good gab.lim hb (by omega) (by omega)
    obtain ⟨abc, eabc, gabc, labc⟩ := add_good gab.lim hc (by omega) (by omega)
    obtain ⟨bc, ebc, gbc, lbc⟩ := add_good hb hc (by omega) (by omega)
    obtain ⟨a_bc, ea_bc, ga_bc, la_bc⟩ := add_good ha gbc.lim (by omega) (by omega)
    obtain ⟨ma_bc, ema_bc, gma_bc, lma_bc⟩ := mul_good ha gbc.lim (by omega) (by omega)
    obtain ⟨mac, emac, gmac, lmac⟩ := mul_good ha hc (by omega) (by omega)
    obtain ⟨sm, esm, gsm, lsm⟩ := add_good gmab.lim gmac.lim (by omega) (by omega)
    obtain ⟨mabc, emabc, gmabc, lmabc⟩ := mul_good gmab.lim hc (by omega) (by omega)
    obtain ⟨mbc, embc, gmbc, lmbc⟩ := mul_good hb hc (by omega) (by omega)
    obtain ⟨ma_mbc, ema_mbc, gma_mbc, lma_mbc⟩ := mul_good ha gmbc.lim (by omega) (by omega)
    have c1 := cmp_same gab.lim gba.lim (by omega) (by omega) (by rw [gab.val, gba.val]; omega)
    have c2 := cmp_same gmab.lim gmba.lim (by omega) (by omega) (by rw [gmab.val, gmba.val, Int.mul_comm])
    have c3 := cmp_same gs.lim ha (by omega) (by omega) (by rw [gs.val, gab.val]; unfold subv; split <;> omega)
    have c4 := cmp_same gabc.lim ga_bc.lim (by omega) (by omega) (by rw [gabc.val, ga_bc.val, gab.val, gbc.val]; omega)
    have c5 := cmp_same gma_bc.lim gsm.lim (by omega) (by omega) (by rw [gma_bc.val, gsm.val, gmab.val, gmac.val, gbc.val, Int.mul_add])
    have c6 := cmp_same gmabc.lim gma_mbc.lim (by omega) (by omega) (by rw [gmabc.val, gma_mbc.val, gmab.val, gmbc.val, Int.mul_assoc])
    refine Ev.congr (f := fun k => foundrylaw01_NatLaws.j0 k a b c false) (fun k => by simp [h1, h2]; rw [decide_eq_false (show ¬ (12 : Int) < (c.length : Int) by omega)]) ?_
    have hj1 : Ev (fun k => foundrylaw01_NatLaws.j1 k a b c false) true := by
      refine Ev.step (fun k => by simp only [foundrylaw01_NatLaws.j1]; rw [if_neg (by simp)]) ?_
      refine Ev.bind (f := fun k s => _) eab (Ev.bind (f := fun k s => _) eabc (Ev.bind (f := fun k s => _) ebc (Ev.bind (f := fun k s => _) ea_bc (Ev.bind (f := fun k s => _) c4 (Ev.congr (fun k => if_pos rfl) ?_)))))
      refine Ev.bind (f := fun k s => _) ebc (Ev.bind (f := fun k s => _) ema_bc (Ev.bind (f := fun k s => _) emab (Ev.bind (f := fun k s => _) emac (Ev.bind (f := fun k s => _) esm (Ev.bind (f := fun k s => _) c5 (Ev.congr (fun k => if_pos rfl) ?_))))))
      exact Ev.bind (f := fun k s => _) emab (Ev.bind (f := fun k s => _) emabc (Ev.bind (f := fun k s => _) embc (Ev.bind (f := fun k s => _) ema_mbc (Ev.bind (f := fun k s => some (s == 0)) c6 (Ev.now true)))))
    refine Ev.step (fun k => by simp only [foundrylaw01_NatLaws.j0]; rw [if_neg (by simp)]) ?_
    refine Ev.bind (f := fun k s => _) eab (Ev.bind (f := fun k s => _) eba (Ev.bind (f := fun k s => _) c1 (Ev.congr (fun k => if_pos rfl) ?_)))
    refine Ev.bind (f := fun k s => _) emab (Ev.bind (f := fun k s => _) emba (Ev.bind (f := fun k s => _) c2 (Ev.congr (fun k => if_pos rfl) ?_)))
    exact Ev.bind (f := fun k s => _) eab (Ev.bind (f := fun k s => _) es (Ev.bind (f := fun k s => foundrylaw01_NatLaws.j1 k a b c (s != 0)) c3 hj1))
  · refine Ev.congr (f := fun k => foundrylaw01_NatLaws.j0 k a b c true) (fun k => ?_) (Ev.step (f := fun k => (foundrylaw01_awake.f k).bind fun s => some s) (fun k => by simp only [foundrylaw01_NatLaws.j0]; simp) ?_)
    · by_cases h1 : a.length ≤ 12 ∧ b.length ≤ 12
      · have h2 : ¬ c.length ≤ 12 := fun h2 => h ⟨h1, h2⟩
        simp [h1]; rw [decide_eq_true (show (12 : Int) < (c.length : Int) by omega)]
      · simp [h1]
    · exact Ev.bind (f := fun k s => some s) awake_ev (Ev.now true)
end Go.Proofs.Ytlhgagmghahbhaa.Pure
