/- The reference's Map: walked by hand. -/
import Derived.Test.YtimiapghmehnaaaF2
namespace Go.Proofs.Ytimiapghmehnaaa.Q
open Go.RowKit Go.Proofs.YtimiapghmehnaaaW.PrintWords Go.Proofs.YtimiapghmehnaaaW.PrintLast Go.Proofs.YtimiapghmehnaaaW.PrintMore
attribute [local go_sem] max2_int min2_int max_two min_two max_three min_three max_four min_four
set_option linter.unusedVariables false
set_option linter.unusedSimpArgs false

theorem runes_from (s : ByteArray) (b : Nat) : ∀ (i : Nat) (acc : Array Value), Conv.runesFrom s b i acc = acc ++ ((runesL s b i).map (Value.int .i32)).toArray := by
  induction b with
  | zero => intro i acc; simp [Conv.runesFrom, runesL]
  | succ b ih =>
    intro i acc
    unfold Conv.runesFrom runesL
    by_cases h : i < s.size
    · rw [if_pos h, if_pos h]
      simp only []
      rw [ih]
      apply Array.ext'
      simp
    · rw [if_neg h, if_neg h]; simp
theorem runes_conv (s : ByteArray) (hs : s.size ≤ 1000000) (w : World) : ∃ cap W1, (convert 9 30 (.string s)).run Try.prog w = .ok (.slice (some ⟨w.heap.size, 0, none⟩) (runesL s s.size 0).length cap) W1 ∧ Below w.heap.size w W1 ∧
    Kd.C (Kd.int .i32) W1 (some ⟨w.heap.size, 0, none⟩) (runesL s s.size 0).length (runesL s s.size 0) := by
  have e : Conv.runesFrom s s.size 0 #[] = ((runesL s s.size 0).map (Value.int .i32)).toArray := by rw [runes_from]; simp
  have hl := runesL_len s s.size 0
  have hrun := run_runes_of_string (P := Try.prog) w 9 30 21 s Try.underlying9 Try.underlying30 Try.underlying21 (by rw [e]; simp; omega)
  rw [e] at hrun
  have en : ((runesL s s.size 0).map (Value.int .i32)).toArray.size = (runesL s s.size 0).length := by simp
  rw [en] at hrun
  refine ⟨_, _, hrun, below_alloc (below_drew (Below.refl _ w)) _, rfl, by omega, fun _ => ⟨_, rfl, fun j p hp => ⟨[.int .i32 p], rfl, rfl, fun i u hu => ?_⟩⟩⟩
  cases i with
  | succ i => simp at hu
  | zero =>
    simp only [List.getElem?_cons_zero, Option.some.injEq] at hu
    subst hu
    have hj : j < (runesL s s.size 0).length := (List.getElem?_eq_some_iff.1 hp).1
    have hc := World.cell?_alloc_mark w.drew (((runesL s s.size 0).map (Value.int .i32)).toArray ++ Array.replicate (grownCap w (runesL s s.size 0).length 0 21 - (runesL s s.size 0).length) (.int .i32 0)) 21 (0, 0) j
    have ha : (⟨w.heap.size, 0, none⟩ : Addr).add (j * (Kd.int .i32).sz + 0) = ⟨w.drew.heap.size, j, none⟩ := by
      show (⟨w.heap.size, 0, none⟩ : Addr).add (j * 1 + 0) = _
      simp [Addr.add]; exact fun h => h.symm
    rw [ha]
    refine hc.trans ?_
    rw [Array.getElem?_append_left (by simpa using hj)]
    simp [hp]
theorem add_off (b k : Nat) : (⟨b, 0, none⟩ : Addr).add k = ⟨b, k, none⟩ := by simp [Addr.add]; exact fun h => h.symm
theorem wrap_mid (a b c : Int) : wrap64 (a + wrap64 (c - b)) = wrap64 (wrap64 (a + c) - b) := by unfold wrap64; omega
theorem rglyph_l0 (c : Int) (d : Nat) : ∀ (l : List S33) (i : Nat), l.length ≤ 9223372036854775807 → i + d = l.length → Ev (fun k => foundryref17_Glyph.l0 k l c (i : Int)) (glyphv c (l.drop i)) := by
  induction d with
  | zero =>
    intro l i hl hi
    rw [List.drop_of_length_le (by omega)]
    exact Ev.step (fun k => (foundryref17_Glyph.l0.eq_2 l c (i : Int) k).trans (if_neg (by omega))) (Ev.now 0)
  | succ d ih =>
    intro l i hl hi
    have hil : i < l.length := by omega
    have e1 := up_one hil hl
    have hn := ih l (i + 1) hl (by omega)
    have hdrop : l.drop i = rd_T33 l (i : Int) :: l.drop (i + 1) := by
      rw [List.drop_eq_getElem_cons hil]; unfold rd_T33; simp [List.getD, hil]
    rw [hdrop]
    rw [← e1] at hn
    obtain ⟨x, hx⟩ : ∃ x, rd_T33 l (i : Int) = x := ⟨_, rfl⟩
    refine Ev.step (fun k => (foundryref17_Glyph.l0.eq_2 l c (i : Int) k).trans ((if_pos (Int.ofNat_lt.2 hil)).trans (if_pos (Int.natCast_nonneg i)))) ?_
    rw [hx]
    unfold glyphv
    by_cases h1 : x.f0 ≤ c
    · by_cases h2 : x.f1 ≥ c
      · have hi : inr c x = true := by unfold inr; rw [decide_eq_true h1, decide_eq_true h2]; rfl
        rw [if_pos hi, ← wrap_mid]
        exact Ev.congr (fun k => (if_pos h1).trans (if_pos h2)) (Ev.now _)
      · have hi : inr c x = false := by unfold inr; rw [decide_eq_true h1, decide_eq_false h2]; rfl
        rw [hi, if_neg Bool.false_ne_true]
        exact Ev.congr (fun k => (if_pos h1).trans (if_neg h2)) hn
    · have hi : inr c x = false := by unfold inr; rw [decide_eq_false h1]; rfl
      rw [hi, if_neg Bool.false_ne_true]
      exact Ev.congr (fun k => if_neg h1) hn
theorem rglyph_ev (c : Int) {l : List S33} (hl : l.length ≤ 9223372036854775807) : Ev (fun k => foundryref17_Glyph.f k l c) (glyphv c l) := by
  have h := rglyph_l0 c l.length l 0 hl (by omega)
  rw [List.drop_zero] at h
  exact h
theorem rglyph_some (c : Int) {l : List S33} (hl : l.length ≤ 9223372036854775807) : ∃ k, foundryref17_Glyph.f k l c = some (glyphv c l) := by
  obtain ⟨K, hK⟩ := rglyph_ev c hl
  exact ⟨K, hK K (Nat.le_refl _)⟩
def foundryref17_Map.f (l0 : List S33) (l1 : ByteArray) : Option (List Int) := if l1.size ≤ 1000000 then some (mapv l0 (runesL l1 l1.size 0)) else none
theorem rd_cons (l : List Int) (k : Nat) (h : k < l.length) : l.drop k = rd l (k : Int) :: l.drop (k + 1) := by
  rw [List.drop_eq_getElem_cons h]; show _ = l.getD k 0 :: _; simp [List.getD, h]
set_option maxHeartbeats 8000000 in
set_option maxRecDepth 100000 in
theorem foundryref17_Map.calls (A0 : Option Addr) (c0 : Nat) (l0 : List S33) (l1 : ByteArray) (r : List Int) (w : World) (hr0 : Kd.C k33 w A0 l0.length l0) (hc0 : l0.length ≤ c0) (h : foundryref17_Map.f l0 l1 = some r) :
    Calls Try.prog 11 #[.slice A0 l0.length c0, .string l1] w fun e w' => ∃ v0_ : Value, e = .returned (v0_) ∧ Kd.R (Kd.int .i64) 3 w' w.heap.size (fun _ => True) v0_ r ∧ Below w.heap.size w w' := by
  have hs : l1.size ≤ 1000000 ∧ mapv l0 (runesL l1 l1.size 0) = r := by
    unfold foundryref17_Map.f at h
    split at h
    · next h1 => exact ⟨h1, Option.some.inj h⟩
    · cases h
  obtain ⟨cap, W1, hconv, hbw, hcr⟩ := runes_conv l1 hs.1 w
  have hl := runesL_len l1 l1.size 0
  have hl1 := Nat.le_trans hl hs.1
  have hq := hs.2
  clear hs hl h
  generalize runesL l1 l1.size 0 = R at *
  have HS := Aside0.mk hl1
  have HQ := Aside0.mk hq
  have HW := Aside0.mk hbw
  have HR := Aside0.mk (Kd.C_below hr0 hbw)
  have HX := Aside0.mk hcr
  have HC := Aside0.mk hc0
  have HM := Aside0.mk hr0.2.1
  clear hr0 hc0 hl1 hq hbw hcr
  go_enter Try.func11, Try.ntmps11
  go_wp2
  clear hconv
  go_loopg [5, 7] R.length (fun gg v5 v7 wr => ∃ (k : Nat) (acc : List Int), k ≤ R.length ∧ Aside0 (R.length - k ≤ gg) ∧ v7 = .int .i64 (k : Int) ∧ Aside0 (Kd.R (Kd.int .i64) 3 wr W1.heap.size (fun _ => True) v5 acc) ∧ Aside0 (Below W1.heap.size W1 wr) ∧ Aside0 (acc ++ mapv l0 (R.drop k) = r) ∧ Aside0 (acc.length = k))
  case atStart => exact ⟨0, [], Nat.zero_le _, ⟨by omega⟩, rfl, ⟨Kd.R_nil _ _ _ _ _⟩, ⟨Below.refl _ _⟩, ⟨by rw [List.drop_zero]; exact HQ.out⟩, ⟨rfl⟩⟩
  case round =>
    obtain ⟨k, acc, hk, HG, rfl, HO, HB, HA, HL⟩ := hrel
    by_cases hlt : k < R.length
    · have hlt2 : (k : Int) < (R.length : Int) := by omega
      obtain ⟨ad, ead, hx⟩ := Kd.at_int HX.out (k : Int) (by omega) hlt2
      obtain rfl : (⟨w.heap.size, 0, none⟩ : Addr) = ad := Option.some.inj ead
      rw [Int.toNat_natCast] at hx
      replace hx := (HB.out.cell (World.block_lt_of_cell? W1 _ hx)).trans hx
      rw [add_off] at hx
      obtain ⟨ru, hru⟩ : ∃ ru, rd R (k : Int) = ru := ⟨_, rfl⟩
      rw [hru] at hx
      obtain ⟨gl, hgl⟩ : ∃ gl, glyphv (wrap64 ru) l0 = gl := ⟨_, rfl⟩
      have HA2 : Aside0 ((acc ++ [gl]) ++ mapv l0 (R.drop (k + 1)) = r) := ⟨by rw [← HA.out, rd_cons R k hlt, hru, ← hgl]; simp [mapv]⟩
      obtain ⟨kk, hkk⟩ := rglyph_some (wrap64 ru) HM.out
      rw [hgl] at hkk
      have hcall := Aside0.mk (fun W (hW : Below W1.heap.size W1 W) => foundryref17_Glyph.calls kk A0 c0 l0 (wrap64 ru) gl W (Kd.C_below HR.out hW) HC.out hkk)
      have HK := Aside0.mk hlt
      have HE := Aside0.mk (up_one hlt (Nat.le_trans HS.out (by decide)))
      clear hgl hkk hru hlt HA ead
      have HB2 := HB
      have HO2 := HO
      clear HB HO
      go_wp2_with (first
        | (go_at_call 8; (with_reducible refine (hcall.out _ HB2.out).mono ?_); rintro e w3 ⟨rfl, ⟨nd, rfl⟩⟩; have n0_ := Aside0.mk (pw_below_drewN HB2.out nd); have n1_ := Aside0.mk (Kd.R_drewN HO2.out nd); clear HB2 HO2; have HB2 := n0_; have HO2 := n1_; clear n0_ n1_)
        | ((with_reducible refine gate_builtin (b := .append) (xs := #[.tmp 16, .tmp 24]) rfl ?_); (try (refine gate_guard (by rfl) ?_; dsimp only)); at_builtin; refine Kd.R_append (Kd.int .i64) (w0 := W1) W1.heap.size rfl (.tmp 16) (.tmp 24) 27 3 (.int .i64 0) 8 rfl Try.underlying27 info3 rfl (by decide) (by omega) u5 acc gl [.int .i64 gl] (fun _ => True) (fun _ => False) rfl rfl ?aP (fun _ hk => hk.elim) ?aF ?aO ?aB ?aS ?aL ?_; (case aP => exact rfl); (case aB => exact HB2.out); (case aF => exact fun _ _ => trivial); (case aO => exact HO2.out); (case aS => exact below_size HB2.out); (case aL => have := HL.out; have := HK.out; have := HS.out; omega); intro v155 w24 ho hb hg hat; have n0_ := Aside0.mk hb; have n1_ := Aside0.mk ho; clear HB2 HO2; have HB2 := n0_; have HO2 := n1_; clear n0_ n1_ ho hb hg hat))
      go_roundg (R.length - (k + 1))
      case measure => have := HG.out; have := HK.out; omega
      case rel => exact ⟨k + 1, acc ++ [gl], HK.out, ⟨Nat.le_refl _⟩, by rw [HE.out], HO2, HB2, HA2, ⟨by rw [List.length_append, HL.out]; rfl⟩⟩
    · obtain rfl : k = R.length := by omega
      have e : acc = r := by have := HA.out; rw [List.drop_of_length_le (Nat.le_refl _)] at this; simpa [mapv] using this
      subst e
      go_wp2
      go_ret
      exact ⟨_, rfl, Kd.R_lower HO.out (below_size HW.out), below_step HW.out HB.out⟩
end Go.Proofs.Ytimiapghmehnaaa.Q
