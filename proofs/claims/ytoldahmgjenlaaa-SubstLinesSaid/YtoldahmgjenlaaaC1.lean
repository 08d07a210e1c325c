/- Contracts of functions of layer 19, as printed: Mark, Next, Meet; SameInts. -/
import Derived.Test.YtoldahmgjenlaaaQx2
namespace Go.Proofs.Ytoldahmgjenlaaa.C
open Go.RowKit Go.Proofs.Ytoldahmgjenlaaa.Q Go.Proofs.YtoldahmgjenlaaaW.PrintWords Go.Proofs.YtoldahmgjenlaaaW.PrintLast Go.Proofs.YtoldahmgjenlaaaW.PrintMore
set_option linter.unusedVariables false
set_option linter.unusedSimpArgs false

theorem w64 {x : Int} (h : -9223372036854775808 ≤ x) (h' : x < 9223372036854775808) : wrap64 x = x := by unfold wrap64; omega
theorem ev_some {α : Type} {g : Nat → Option α} {r : α} (h : ∀ k, g (k + 1) = some r) : Ev g r := Ev.step h (Ev.now r)
theorem ev_eq {α : Type} {g : Nat → Option α} {r s : α} (h : Ev g r) (e : r = s) : Ev g s := e ▸ h
theorem rd_nat (l : List Int) (i : Nat) : rd l (i : Int) = l.getD i 0 := rfl
theorem getD_lt {α : Type} {l : List α} {i : Nat} {d : α} (h : i < l.length) : l.getD i d = l[i] := by simp [List.getD, h]
theorem getD_ge {α : Type} {l : List α} {i : Nat} {d : α} (h : l.length ≤ i) : l.getD i d = d := by simp [List.getD, h]
theorem take_snoc (l : List Int) (n : Nat) (hn : n < l.length) : l.take (n + 1) = l.take n ++ [l.getD n 0] := by
  rw [List.take_succ_eq_append_getElem hn, getD_lt hn]
theorem drop_cons (l : List Int) (n : Nat) (hn : n < l.length) : l.drop n = l.getD n 0 :: l.drop (n + 1) := by
  rw [List.drop_eq_getElem_cons hn, getD_lt hn]
/-! ### Mark -/
/-- Is this glyph a mark? -/
def markv (m : List Bool) (g : Int) : Bool := if 0 ≤ g ∧ g < (m.length : Int) then rdOf false m g else false
theorem mark_eq (m : List Bool) (g : Int) : classes_Mark.f m g = some (markv m g) := by
  unfold classes_Mark.f markv
  by_cases h0 : 0 ≤ g
  · by_cases h1 : g < (m.length : Int)
    · rw [if_pos h0, if_pos h1, if_pos h0, if_pos ⟨h0, h1⟩]
    · rw [if_pos h0, if_neg h1, if_neg (by omega)]
  · rw [if_neg h0, if_neg (by omega)]
/-! ### Next -/
/-- A place of a line. -/
def Place (line : List Int) (a : Int) : Prop := 0 ≤ a ∧ a < (line.length : Int)
instance (line : List Int) (a : Int) : Decidable (Place line a) := inferInstanceAs (Decidable (_ ∧ _))
/-- The first place from i on, of d places, that isn't passed over. -/
def up (line : List Int) (marks : List Bool) (skip : Bool) : Nat → Nat → Int
  | 0, _ => -1
  | d + 1, i => if skip = true ∧ markv marks (line.getD i 0) = true then up line marks skip d (i + 1) else (i : Int)
def nextv (line : List Int) (marks : List Bool) (a : Int) (skip : Bool) : Int := if Place line a then up line marks skip (line.length - (a.toNat + 1)) (a.toNat + 1) else -1
theorem next_l0 (d : Nat) : ∀ (line : List Int) (marks : List Bool) (skip : Bool) (i : Nat), i + d = line.length → line.length ≤ 9000000000000000000 →
    Ev (fun k => classes_Next.l0 k line marks skip (i : Int)) (up line marks skip d i) := by
  induction d with
  | zero =>
    intro line marks skip i hi hl
    refine ev_some fun k => ?_
    · simp only [classes_Next.l0]; rw [if_neg (by omega)]; rfl
  | succ d ih =>
    intro line marks skip i hi hl
    have h1 := ih line marks skip (i + 1) (by omega) hl
    have hil : (i : Int) < (line.length : Int) := by omega
    have hw : wrap64 ((i : Int) + 1) = ((i + 1 : Nat) : Int) := by rw [w64 (by omega) (by omega)]; rfl
    unfold up
    by_cases hs : skip = true
    · by_cases hm : markv marks (line.getD i 0) = true
      · rw [if_pos ⟨hs, hm⟩]
        refine Ev.step (fun k => ?_) h1
        · simp only [classes_Next.l0]; rw [if_pos hil, if_pos hs, if_pos (by omega), rd_nat, mark_eq]; simp only [Option.bind_some]; rw [if_pos hm, hw]
      · rw [if_neg (fun h => hm h.2)]
        refine ev_some fun k => ?_
        · simp only [classes_Next.l0]; rw [if_pos hil, if_pos hs, if_pos (by omega), rd_nat, mark_eq]; simp only [Option.bind_some]; rw [if_neg hm]
    · rw [if_neg (fun h => hs h.1)]
      refine ev_some fun k => ?_
      · simp only [classes_Next.l0]; rw [if_pos hil, if_neg hs]
theorem next_ev (line : List Int) (marks : List Bool) (a : Int) (skip : Bool) (hl : line.length ≤ 9000000000000000000) : Ev (fun k => classes_Next.f k line marks a skip) (nextv line marks a skip) := by
  unfold nextv
  by_cases h : Place line a
  · obtain ⟨h0, h1⟩ := h
    rw [if_pos ⟨h0, h1⟩]
    have := next_l0 (line.length - (a.toNat + 1)) line marks skip (a.toNat + 1) (by omega) hl
    refine Ev.congr (f := fun k => classes_Next.j0 k line marks a skip false) (fun k => ?_) (Ev.step (fun k => ?_) this)
    · unfold classes_Next.f; rw [if_neg (by omega), decide_eq_false (by omega)]
    · simp only [classes_Next.j0]; rw [if_neg (by simp), w64 (by omega) (by omega)]; congr 1; omega
  · rw [if_neg h]
    refine Ev.congr (f := fun k => classes_Next.j0 k line marks a skip true) (fun k => ?_) (ev_some fun k => ?_)
    · unfold classes_Next.f
      by_cases h0 : a < 0
      · rw [if_pos h0]
      · rw [if_neg h0, decide_eq_true]
        by_cases h1 : a ≥ (line.length : Int)
        · exact h1
        · exact absurd ⟨by omega, by omega⟩ h
    · simp only [classes_Next.j0]; exact if_pos trivial
/-- What is known of the next place. -/
theorem up_spec (d : Nat) : ∀ (line : List Int) (marks : List Bool) (skip : Bool) (i : Nat), i + d = line.length →
    (up line marks skip d i = -1 ∧ ∀ j : Nat, i ≤ j → j < line.length → skip = true ∧ markv marks (line.getD j 0) = true) ∨
    ∃ n : Nat, up line marks skip d i = (n : Int) ∧ i ≤ n ∧ n < line.length ∧ ¬ (skip = true ∧ markv marks (line.getD n 0) = true) ∧ ∀ j : Nat, i ≤ j → j < n → skip = true ∧ markv marks (line.getD j 0) = true := by
  induction d with
  | zero => intro line marks skip i hi; exact .inl ⟨rfl, fun j h1 h2 => by omega⟩
  | succ d ih =>
    intro line marks skip i hi
    unfold up
    by_cases h : skip = true ∧ markv marks (line.getD i 0) = true
    · rw [if_pos h]
      rcases ih line marks skip (i + 1) (by omega) with ⟨e, hj⟩ | ⟨n, e, h1, h2, h3, hj⟩
      · refine .inl ⟨e, fun j h1 h2 => ?_⟩
        by_cases hji : j = i
        · rw [hji]; exact h
        · exact hj j (by omega) h2
      · refine .inr ⟨n, e, by omega, h2, h3, fun j g1 g2 => ?_⟩
        by_cases hji : j = i
        · rw [hji]; exact h
        · exact hj j (by omega) g2
    · rw [if_neg h]; exact .inr ⟨i, rfl, Nat.le_refl _, by omega, h, fun j g1 g2 => by omega⟩
theorem next_spec (line : List Int) (marks : List Bool) (a : Int) (skip : Bool) (h : Place line a) :
    (nextv line marks a skip = -1 ∧ ∀ j : Nat, a < (j : Int) → j < line.length → skip = true ∧ markv marks (line.getD j 0) = true) ∨
    ∃ n : Nat, nextv line marks a skip = (n : Int) ∧ a < (n : Int) ∧ n < line.length ∧ ¬ (skip = true ∧ markv marks (line.getD n 0) = true) ∧ ∀ j : Nat, a < (j : Int) → j < n → skip = true ∧ markv marks (line.getD j 0) = true := by
  unfold nextv
  rw [if_pos h]
  obtain ⟨h0, h1⟩ := h
  rcases up_spec (line.length - (a.toNat + 1)) line marks skip (a.toNat + 1) (by omega) with ⟨e, hj⟩ | ⟨n, e, g1, g2, g3, hj⟩
  · exact .inl ⟨e, fun j q1 q2 => hj j (by omega) q2⟩
  · exact .inr ⟨n, e, by omega, g2, g3, fun j q1 q2 => hj j (by omega) q2⟩
/-! ### Back -/
def down (line : List Int) (marks : List Bool) : Nat → Int
  | 0 => -1
  | n + 1 => if markv marks (line.getD n 0) = true then down line marks n else (n : Int)
def backv (line : List Int) (marks : List Bool) (a : Int) : Int := if Place line a then down line marks a.toNat else -1
theorem down_spec (n : Nat) : ∀ (line : List Int) (marks : List Bool) (m : Nat), m < n → markv marks (line.getD m 0) = false → (∀ j : Nat, m < j → j < n → markv marks (line.getD j 0) = true) → down line marks n = (m : Int) := by
  induction n with
  | zero => intro line marks m h; omega
  | succ n ih =>
    intro line marks m h hm hj
    unfold down
    by_cases e : m = n
    · subst e; rw [if_neg (by rw [hm]; simp)]
    · rw [if_pos (hj n (by omega) (by omega))]; exact ih line marks m (by omega) hm (fun j h1 h2 => hj j h1 (by omega))
theorem same_l0 (d : Nat) : ∀ (a b : List Int) (i : Nat), a.length = b.length → a.length ≤ 9000000000000000000 → i + d = a.length → a.take i = b.take i →
    Ev (fun k => foundryref06_SameInts.l0 k a b (i : Int)) (decide (a = b)) := by
  induction d with
  | zero =>
    intro a b i hl h hi he
    have hab : a = b := by rwa [List.take_of_length_le (by omega), List.take_of_length_le (by omega)] at he
    refine ev_some fun k => ?_
    simp only [foundryref06_SameInts.l0]; rw [if_neg (by omega), decide_eq_true hab]
  | succ d ih =>
    intro a b i hl h hi he
    by_cases e : a.getD i 0 = b.getD i 0
    · refine Ev.step (fun k => ?_) (ih a b (i + 1) hl h (by omega) (by rw [take_snoc a i (by omega), take_snoc b i (by omega), he, e]))
      simp only [foundryref06_SameInts.l0]
      rw [if_pos (by omega), if_pos (by omega), if_pos (by omega), if_pos (by rw [rd_nat, rd_nat]; exact e), w64 (by omega) (by omega)]; rfl
    · refine ev_some fun k => ?_
      simp only [foundryref06_SameInts.l0]
      rw [if_pos (by omega), if_pos (by omega), if_pos (by omega), if_neg (by rw [rd_nat, rd_nat]; exact e), decide_eq_false]
      rintro rfl; exact e rfl
theorem same_ev {a b : List Int} (h : a.length ≤ 9000000000000000000) : Ev (fun k => foundryref06_SameInts.f k a b) (decide (a = b)) := by
  by_cases e : a.length = b.length
  · refine Ev.congr (fun k => ?_) (same_l0 a.length a b 0 e h (by omega) rfl)
    unfold foundryref06_SameInts.f; rw [if_pos (by omega)]; rfl
  · refine Ev.congr (fun k => ?_) (Ev.now _)
    unfold foundryref06_SameInts.f; rw [if_neg (by omega), decide_eq_false]; rintro rfl; exact e rfl
theorem same_refl {a : List Int} (h : a.length ≤ 9000000000000000000) : Ev (fun k => foundryref06_SameInts.f k a a) true := ev_eq (same_ev h) (decide_eq_true rfl)
/-! ### Meet -/
/-- The places of these glyphs, the first of them at this place. -/
def meetFrom (line : List Int) (marks : List Bool) (skip : Bool) : List Int → Int → Option (List Int)
  | [], _ => some []
  | g :: gs, a => if Place line a ∧ rd line a = g then (meetFrom line marks skip gs (nextv line marks a skip)).map (a :: ·) else none
def meetv (line : List Int) (marks : List Bool) (a : Int) (gs : List Int) (skip : Bool) : List Int × Bool :=
  if gs = [] then ([], false) else match meetFrom line marks skip gs a with
    | some l => (l, true)
    | none => ([], false)
theorem nextv_lt (line : List Int) (marks : List Bool) (a : Int) (skip : Bool) (h : ¬ Place line (nextv line marks a skip)) : nextv line marks a skip = -1 := by
  by_cases hp : Place line a
  · rcases next_spec line marks a skip hp with ⟨e, _⟩ | ⟨n, e, h1, h2, _⟩
    · exact e
    · exact absurd (show Place line _ by rw [e]; exact ⟨by omega, by omega⟩) h
  · unfold nextv; rw [if_neg hp]
/-- What the program's loop comes to, the glyphs ahead having been met. -/
theorem meet_l0 (d : Nat) : ∀ (line : List Int) (marks : List Bool) (a : Int) (skip : Bool) (acc gs : List Int) (i : Nat), line.length ≤ 9000000000000000000 → gs.length ≤ 1000000 → i + d = gs.length → acc.length = i →
    Ev (fun k => classes_Meet.l0 k line marks a skip acc gs (gs.length : Int) (i : Int))
      (match meetFrom line marks skip (gs.drop i) (if i = 0 then a else nextv line marks a skip) with
        | some l => (acc ++ l, decide (((acc ++ l).length : Int) > 0))
        | none => ([], false)) := by
  induction d with
  | zero =>
    intro line marks a skip acc gs i hl hg hi ha
    rw [List.drop_of_length_le (by omega)]
    refine ev_some fun k => ?_
    simp only [classes_Meet.l0, meetFrom, List.append_nil]; rw [if_neg (by omega)]
  | succ d ih =>
    intro line marks a skip acc gs i hl hg hi ha
    have hil : (i : Int) < (gs.length : Int) := by omega
    have hw : wrap64 ((i : Int) + 1) = ((i + 1 : Nat) : Int) := by rw [w64 (by omega) (by omega)]; rfl
    rw [drop_cons gs i (by omega)]
    -- from the place b at which glyph i is asked for
    have key : ∀ b : Int, (Place line b ∧ rd line b = gs.getD i 0 → Ev (fun k => classes_Meet.l0 k line marks b skip (acc ++ [b]) gs (gs.length : Int) ((i + 1 : Nat) : Int))
        (match meetFrom line marks skip (gs.getD i 0 :: gs.drop (i + 1)) b with | some l => (acc ++ l, decide (((acc ++ l).length : Int) > 0)) | none => ([], false))) ∧
        (¬ (Place line b ∧ rd line b = gs.getD i 0) → (match meetFrom line marks skip (gs.getD i 0 :: gs.drop (i + 1)) b with | some l => (acc ++ l, decide (((acc ++ l).length : Int) > 0)) | none => (([] : List Int), false)) = ([], false)) := by
      intro b
      refine ⟨fun hb => ?_, fun hb => ?_⟩
      · have h1 := ih line marks b skip (acc ++ [b]) gs (i + 1) hl hg (by omega) (by simp [ha])
        rw [if_neg (by omega)] at h1
        refine ev_eq h1 ?_
        simp only [meetFrom]
        rw [if_pos hb]
        cases meetFrom line marks skip (gs.drop (i + 1)) (nextv line marks b skip) with
        | none => rfl
        | some l => simp
      · simp only [meetFrom]; rw [if_neg hb]
    by_cases h0 : i = 0
    · subst h0
      rw [if_pos rfl]
      by_cases hb : Place line a ∧ rd line a = gs.getD 0 0
      · refine Ev.step (fun k => ?_) ((key a).1 hb)
        obtain ⟨⟨h1, h2⟩, h3⟩ := hb
        simp only [classes_Meet.l0]
        rw [if_pos hil, if_pos (by omega), if_pos hil, if_neg (by omega), if_neg (by omega), if_neg (by omega), if_pos h1, if_pos h2, if_pos (by rw [h3]; rfl), if_pos (by omega), hw]
      · rw [(key a).2 hb]
        refine ev_some fun k => ?_
        simp only [classes_Meet.l0]
        rw [if_pos hil, if_pos (by omega), if_pos hil, if_neg (by omega)]
        by_cases c1 : a < 0
        · rw [if_pos c1]
        · rw [if_neg c1]
          by_cases c2 : a ≥ (line.length : Int)
          · rw [if_pos c2]
          · rw [if_neg c2, if_pos (by omega), if_pos (by omega), if_neg]
            exact fun h3 => hb ⟨⟨by omega, by omega⟩, h3⟩
    · rw [if_neg h0]
      have hn := next_ev line marks a skip hl
      generalize hb' : nextv line marks a skip = b at *
      by_cases hb : Place line b ∧ rd line b = gs.getD i 0
      · refine Ev.step (f := fun k => (classes_Next.f k line marks a skip).bind fun t => if t < 0 then some ([], false) else if t ≥ (line.length : Int) then some ([], false) else if 0 ≤ t then (if t < (line.length : Int) then (if rd line t = rd gs (i : Int) then (if acc.length < 17592186044416 then classes_Meet.l0 k line marks t skip (acc ++ [t]) gs (gs.length : Int) ((i + 1 : Nat) : Int) else none) else some ([], false)) else none) else none) (fun k => ?_) (Ev.bind (f := fun k t => _) hn (Ev.congr (fun k => ?_) ((key b).1 hb)))
        · simp only [classes_Meet.l0]
          rw [if_pos hil, if_pos (by omega), if_pos hil, if_pos (by omega), hw]
        · obtain ⟨⟨h1, h2⟩, h3⟩ := hb
          rw [if_neg (by omega), if_neg (by omega), if_pos h1, if_pos h2, if_pos (by rw [h3]; rfl), if_pos (by omega)]
      · rw [(key b).2 hb]
        refine Ev.step (f := fun k => (classes_Next.f k line marks a skip).bind fun t => if t < 0 then some ([], false) else if t ≥ (line.length : Int) then some ([], false) else if 0 ≤ t then (if t < (line.length : Int) then (if rd line t = rd gs (i : Int) then (if acc.length < 17592186044416 then classes_Meet.l0 k line marks t skip (acc ++ [t]) gs (gs.length : Int) ((i + 1 : Nat) : Int) else none) else some ([], false)) else none) else none) (fun k => ?_) (Ev.bind (f := fun k t => _) hn (Ev.congr (fun k => ?_) (Ev.now _)))
        · simp only [classes_Meet.l0]
          rw [if_pos hil, if_pos (by omega), if_pos hil, if_pos (by omega), hw]
        · by_cases c1 : b < 0
          · rw [if_pos c1]
          · rw [if_neg c1]
            by_cases c2 : b ≥ (line.length : Int)
            · rw [if_pos c2]
            · rw [if_neg c2, if_pos (by omega), if_pos (by omega), if_neg]
              exact fun h3 => hb ⟨⟨by omega, by omega⟩, h3⟩
theorem meet_ev (line : List Int) (marks : List Bool) (a : Int) (gs : List Int) (skip : Bool) (hl : line.length ≤ 9000000000000000000) (hg : gs.length ≤ 1000000) :
    Ev (fun k => classes_Meet.f k line marks a gs skip) (meetv line marks a gs skip) := by
  refine ev_eq (meet_l0 gs.length line marks a skip [] gs 0 hl hg (by omega) rfl) ?_
  unfold meetv
  rw [if_pos rfl, List.drop_zero]
  cases gs with
  | nil => simp [meetFrom]
  | cons g gs =>
    rw [if_neg (by simp)]
    simp only [meetFrom]
    split
    · rename_i l he
      simp only [List.nil_append]
      split at he
      · cases hm : meetFrom line marks skip gs (nextv line marks a skip) with
        | none => rw [hm] at he; cases he
        | some l2 => rw [hm] at he; cases he; simp
      · cases he
    · rfl
theorem meetFrom_len (line : List Int) (marks : List Bool) (skip : Bool) (gs : List Int) : ∀ (a : Int) (l : List Int), meetFrom line marks skip gs a = some l → l.length = gs.length := by
  induction gs with
  | nil => intro a l h; simp only [meetFrom, Option.some.injEq] at h; subst h; rfl
  | cons g gs ih =>
    intro a l h
    simp only [meetFrom] at h
    split at h
    · obtain ⟨l2, h2, rfl⟩ := Option.map_eq_some_iff.1 h
      simp [ih _ _ h2]
    · cases h
theorem meetv_len (line : List Int) (marks : List Bool) (a : Int) (gs : List Int) (skip : Bool) : (meetv line marks a gs skip).1.length ≤ gs.length := by
  unfold meetv
  split
  · simp
  · split
    · rename_i l h; simp [meetFrom_len _ _ _ _ _ _ h]
    · simp
end Go.Proofs.Ytoldahmgjenlaaa.C
