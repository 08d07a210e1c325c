/- chars.Map and the reference's: walked by hand. -/
import Derived.Lib.OthersKept
import Derived.Laws.IdiomStrings
import Derived.LoopTactic
import Derived.Laws.Cover4
import Derived.Test.YtimiapghmehnaaaF1
import Derived.Test.YtimiapghmehnaaaQx7
namespace Go.Proofs.Ytimiapghmehnaaa.Q
open Go.RowKit Go.Proofs.YtimiapghmehnaaaW.PrintWords Go.Proofs.YtimiapghmehnaaaW.PrintLast Go.Proofs.YtimiapghmehnaaaW.PrintMore
attribute [local go_sem] max2_int min2_int max_two min_two max_three min_three max_four min_four
set_option linter.unusedVariables false
set_option linter.unusedSimpArgs false

/-- A text made of characters that are read. -/
theorem C_runes {P : Program} {w : World} {src dst e : TypeId} {A : Option Addr} {n c : Nat} {xs : List Int} (hs : P.underlying src = some (.slice e)) (he : P.underlying e = some (.int .i32)) (hd : P.underlying dst = some .string)
    (h : (Kd.int .i32).C w A n xs) : (convert src dst (.slice A n c)).run P w = .ok (.string (runesBytes xs)) w := by
  have hn : xs.length = n := h.1
  rcases A with _ | ad
  · have h0 : n = 0 := by
      rcases Nat.eq_zero_or_pos n with h0 | h0
      · exact h0
      · obtain ⟨ad, h', _⟩ := h.2.2 h0
        cases h'
    subst h0
    obtain rfl : xs = [] := List.eq_nil_of_length_eq_zero hn
    exact run_convert_runes_nil w src dst e 0 c hs he hd
  · have h2 := run_convert_runes (P := P) w src dst e ad n c xs (by omega) hs he hd (fun j hj => by
      obtain ⟨ad', h', hc⟩ := Kd.at_int h (j : Int) (by omega) (by omega)
      obtain rfl : ad = ad' := Option.some.inj h'
      rw [Int.toNat_natCast] at hc
      exact hc)
    rw [List.take_of_length_le (by omega)] at h2
    exact h2
/-- The characters of a text, from a place on. -/
def runesL (s : ByteArray) : Nat → Nat → List Int
  | 0, _ => []
  | fuel + 1, pos => if pos < s.size then ((Utf8.decode s pos).1 : Int) :: runesL s fuel (pos + (Utf8.decode s pos).2) else []
theorem runesL_end (s : ByteArray) (fuel pos : Nat) (h : ¬ pos < s.size) : runesL s fuel pos = [] := by
  cases fuel with
  | zero => rfl
  | succ f => simp [runesL, h]
theorem runesL_len (s : ByteArray) (fuel : Nat) : ∀ pos, (runesL s fuel pos).length ≤ fuel := by
  induction fuel with
  | zero => intro pos; exact Nat.le_refl _
  | succ f ih => intro pos; unfold runesL; split; have := ih (pos + (Utf8.decode s pos).2); simp only [List.length_cons]; omega; simp
theorem width_pos (s : ByteArray) (pos : Nat) (h : pos < s.size) : 1 ≤ (Utf8.decode s pos).2 := by
  by_cases ha : (s[pos]'h).toNat < 128
  · rw [decode_ascii s pos h ha]
    exact Nat.le_refl _
  · exact (decode_high s pos h (by omega)).2
/-- A text's glyphs. -/
def mapv (l : List S33) (cs : List Int) : List Int := cs.map fun c => glyphv (wrap64 c) l
def chars_Map.f (l0 : List S33) (l1 : ByteArray) : Option (List Int) := if l1.size ≤ 1000000 then some (mapv l0 (runesL l1 l1.size 0)) else none
theorem size_down {a b c : Nat} (h : a < b) (h2 : 1 ≤ c) : b - (a + c) < b - a := by omega
set_option maxHeartbeats 8000000 in
set_option maxRecDepth 100000 in
theorem chars_Map.calls (A0 : Option Addr) (c0 : Nat) (l0 : List S33) (l1 : ByteArray) (r : List Int) (w : World) (hr0 : Kd.C k33 w A0 l0.length l0) (hc0 : l0.length ≤ c0) (h : chars_Map.f l0 l1 = some r) :
    Calls Try.prog 10 #[.slice A0 l0.length c0, .string l1] w fun e w' => ∃ v0_ : Value, e = .returned (v0_) ∧ Kd.R (Kd.int .i64) 3 w' w.heap.size (fun _ => True) v0_ r ∧ Below w.heap.size w w' := by
  have hs : l1.size ≤ 1000000 ∧ mapv l0 (runesL l1 l1.size 0) = r := by
    unfold chars_Map.f at h
    split at h
    · next h1 => exact ⟨h1, Option.some.inj h⟩
    · cases h
  have HS := Aside0.mk hs.1
  have HQ := Aside0.mk hs.2
  have HR := Aside0.mk hr0
  have HC := Aside0.mk hc0
  clear hr0 hc0 h hs
  go_enter Try.func10, Try.ntmps10
  go_wp2
  go_loopw [5] (fun v5 wr => ∃ (pos fuel : Nat) (acc : List Int), Aside0 (Kd.R (Kd.int .i64) 3 wr w.heap.size (fun k => k ≠ w.heap.size) v5 acc) ∧ wr.heap[w.heap.size]? = some (.stringIter l1 pos) ∧ Aside0 (Below w.heap.size w wr) ∧ Aside0 (acc ++ mapv l0 (runesL l1 fuel pos) = r) ∧ Aside0 (l1.size ≤ pos + fuel) ∧ Aside0 (acc.length ≤ pos)) (fun _ wr => l1.size - wr.iterPos w.heap.size)
  case atStart => exact ⟨0, l1.size, [], ⟨Kd.R_nil _ _ _ _ _⟩, World.iter_heap w l1 0, ⟨below_alloc (Below.refl _ w) _⟩, HQ, ⟨by omega⟩, ⟨by simp⟩⟩
  case round =>
    obtain ⟨pos, fuel, acc, HO, hit, HB, HA, HF, HL⟩ := hrel
    have hsz : w.heap.size < wr.heap.size := (Array.getElem?_eq_some_iff.1 hit).1
    by_cases hp : pos < l1.size
    · have hnx : ∀ ty, (Instr.next (.pointer (some ⟨w.heap.size, 0, none⟩)) true ty).run Try.prog wr = _ := fun ty => Lib.run_next_any_at wr w.heap.size l1 pos ty hit hp
      have hwd := Aside0.mk (width_pos l1 pos hp)
      obtain ⟨W2, hW2⟩ : ∃ W2, wr.iterAt w.heap.size l1 (pos + (Utf8.decode l1 pos).2) = W2 := ⟨_, rfl⟩
      have HB2 : Aside0 (Below w.heap.size w W2) := ⟨by rw [← hW2]; exact Lib.below_iterAt HB.out (Nat.le_refl _) _ _⟩
      have HO2 : Aside0 (Kd.R (Kd.int .i64) 3 W2 w.heap.size (fun k => k ≠ w.heap.size) u5 acc) := ⟨by rw [← hW2]; exact Kd.R_move HO.out (fun k hk => Lib.iterAt_other _ _ _ _ _ hk)⟩
      have HI2 : Aside0 (W2.heap[w.heap.size]? = some (.stringIter l1 (pos + (Utf8.decode l1 pos).2))) := ⟨by rw [← hW2]; exact Lib.iterAt_heap wr w.heap.size l1 pos _ hit⟩
      rw [hW2] at hnx
      obtain ⟨f, rfl⟩ : ∃ f, fuel = f + 1 := ⟨fuel - 1, by have := HF.out; omega⟩
      have HA2 : Aside0 ((acc ++ [glyphv (wrap64 ((Utf8.decode l1 pos).1 : Int)) l0]) ++ mapv l0 (runesL l1 f (pos + (Utf8.decode l1 pos).2)) = r) := ⟨by rw [← HA.out]; simp [runesL, hp, mapv]⟩
      have HP := Aside0.mk hp
      have HIT := Aside0.mk hit
      clear HB HO hW2 HA hsz hp hit
      obtain ⟨ru, hru⟩ : ∃ ru : Int, ((Utf8.decode l1 pos).1 : Int) = ru := ⟨_, rfl⟩
      rw [hru] at hnx HA2
      clear hru
      obtain ⟨gl, hgl⟩ : ∃ gl, glyphv (wrap64 ru) l0 = gl := ⟨_, rfl⟩
      have hcall := fun W (hW : Below w.heap.size w W) => chars_Glyph.calls A0 c0 l0 (wrap64 ru) gl W (Kd.C_below HR.out hW) HC.out (by unfold chars_Glyph.f; rw [hgl])
      have hcall := Aside0.mk hcall
      rw [hgl] at HA2
      clear hgl
      go_wp2_with (first
        | (go_at_call 7; (with_reducible refine (hcall.out _ HB2.out).mono ?_); rintro e w3 ⟨rfl, hb⟩; have n0_ := Aside0.mk (below_step HB2.out hb); have n1_ := Aside0.mk (Kd.R_below HO2.out hb); have n2_ := Aside0.mk ((hb.block w.heap.size (Array.getElem?_eq_some_iff.1 HI2.out).1).trans HI2.out); clear HB2 HO2 HI2; have HB2 := n0_; have HO2 := n1_; have HI2 := n2_; clear n0_ n1_ n2_ hb)
        | ((with_reducible refine gate_builtin (b := .append) (xs := #[.tmp 13, .tmp 18]) rfl ?_); (try (refine gate_guard (by rfl) ?_; dsimp only)); at_builtin; refine Kd.R_append (Kd.int .i64) (w0 := w) w.heap.size rfl (.tmp 13) (.tmp 18) 27 3 (.int .i64 0) 8 rfl Try.underlying27 info3 rfl (by decide) (by omega) u5 acc gl [.int .i64 gl] (fun k => k ≠ w.heap.size) (fun _ => False) rfl rfl ?aP (fun _ hk => hk.elim) ?aF ?aO ?aB ?aS ?aL ?_; (case aP => exact rfl); (case aB => exact HB2.out); (case aF => exact fun k hk => by have := (Array.getElem?_eq_some_iff.1 HI2.out).1; omega); (case aO => exact HO2.out); (case aS => exact below_size HB2.out); (case aL => have := HL.out; have := HP.out; have := HS.out; omega); intro v155 w24 ho hb hg hat; have n0_ := Aside0.mk hb; have n1_ := Aside0.mk ho; have n2_ := Aside0.mk ((hg.block w.heap.size (Array.getElem?_eq_some_iff.1 HI2.out).1 (fun e => HO2.out.1 _ e.symm rfl)).trans HI2.out); clear HB2 HO2 HI2; have HB2 := n0_; have HO2 := n1_; have HI2 := n2_; clear n0_ n1_ n2_ ho hb hg hat))
      go_roundw
      case rel =>
        exact ⟨pos + (Utf8.decode l1 pos).2, f, acc ++ [gl], HO2, HI2.out, HB2, HA2, ⟨by have := HF.out; have := hwd.out; omega⟩, ⟨by have := HL.out; have := hwd.out; simp; omega⟩⟩
      case measure =>
        have h1 := HI2.out
        have h2 := HIT.out
        simp only [World.iterPos, h1, h2]
        exact size_down HP.out hwd.out
    · have hnx : ∀ ty, (Instr.next (.pointer (some ⟨w.heap.size, 0, none⟩)) true ty).run Try.prog wr = _ := fun ty => Lib.run_next_end_at wr w.heap.size l1 pos ty hit hp
      have e : acc = r := by have := HA.out; rw [runesL_end l1 fuel pos hp] at this; simpa [mapv] using this
      subst e
      clear hsz hp hit
      go_wp2
      go_ret
      exact ⟨_, rfl, Kd.R_mono HO.out (fun _ _ => trivial), HB.out⟩
end Go.Proofs.Ytimiapghmehnaaa.Q
