/- Arguments that read as data, opened into the words of the print: whole numbers, bools, texts, slices of whatever, structs, arrays. -/
import Derived.Test.YtimiapghmehnaaaWWords
import Derived.ChangeArms
import Derived.ChangeSlices
import Derived.OpenShut
import Derived.WideShapes
namespace Go.Proofs.Ytimiapghmehnaaa.Op
open Go.RowKit Go.Proofs.YtimiapghmehnaaaW.PrintWords
set_option linter.unusedVariables false
set_option linter.unusedSimpArgs false
variable {α β : Type} {P : Program}
/-- What reads as data of type t is one of d's, and W of it. -/
def Opens (P : Program) (d : Kd α) (t : TypeId) (W : α → Prop) : Prop :=
  ∀ (H : Type) (enc : TypeId × Value → H) (w : World) (base : Nat) (spare : Nat → Bool) (held : Bool) (fuel : Nat) (cs : List Value) (x : DataW H × List MemPlace),
    DataW.trod enc P w base spare held fuel t cs = some x → ∃ a, d.K w a cs ∧ W a
theorem opens_int {t : TypeId} {k : IntKind} (ht : P.underlying t = some (.int k)) : Opens P (Kd.int k) t (fun n => (Lit.int k n).wf = true) := by
  intro H enc w base spare held fuel cs x h
  obtain ⟨n, rfl, _, hw⟩ := DataW.trod_int ht h
  exact ⟨n, rfl, hw⟩
theorem opens_bool {t : TypeId} (ht : P.underlying t = some .bool) : Opens P Kd.bool t (fun _ => True) := by
  intro H enc w base spare held fuel cs x h
  obtain ⟨b, rfl, _⟩ := DataW.trod_bool ht h
  exact ⟨b, rfl, trivial⟩
theorem opens_string {t : TypeId} (ht : P.underlying t = some .string) : Opens P Kd.string t (fun s => s.size ≤ maxLen) := by
  intro H enc w base spare held fuel cs x h
  obtain ⟨s, rfl, _, hs⟩ := DataW.trod_string ht h
  exact ⟨s, rfl, hs⟩
theorem list_of {n : Nat} {Q : Nat → α → Prop} (h : ∀ i, i < n → ∃ a, Q i a) : ∃ l : List α, l.length = n ∧ ∀ i a, l[i]? = some a → Q i a := by
  induction n with
  | zero => exact ⟨[], rfl, fun i a h => by simp at h⟩
  | succ n ih =>
    obtain ⟨l, hl, hq⟩ := ih (fun i hi => h i (by omega))
    obtain ⟨a, ha⟩ := h n (by omega)
    refine ⟨l ++ [a], by simp [hl], fun i b hb => ?_⟩
    by_cases hi : i < l.length
    · rw [List.getElem?_append_left hi] at hb; exact hq i b hb
    · rw [List.getElem?_append_right (by omega)] at hb
      by_cases h0 : i - l.length = 0
      · rw [h0] at hb
        obtain rfl : a = b := by simpa using hb
        obtain rfl : i = n := by omega
        exact ha
      · rw [List.getElem?_eq_none (by simp; omega)] at hb; cases hb
theorem add_add (a : Addr) (x j : Nat) : (a.add x).add j = a.add (x + j) := by
  unfold Addr.add
  by_cases hx : x = 0 <;> by_cases hj : j = 0 <;> simp [hx, hj]
  omega
theorem opens_slice {t e : TypeId} {d : Kd α} {W : α → Prop} (ht : P.underlying t = some (.slice e)) (hs : P.cellsOf e = d.sz) (h : Opens P d e W) :
    Opens P (Kd.slice e d) t (fun xs => xs.length ≤ maxLen ∧ ∀ x ∈ xs, W x) := by
  intro H enc w base spare held fuel cs x hx
  rcases DataW.trod_slice ht hx with ⟨rfl, _⟩ | ⟨a, len, cap, elems, rest, n, _, rfl, _, _, hl, hm, hlen, hel, _, _⟩
  · exact ⟨[], ⟨none, 0, rfl, Nat.le_refl _, ⟨rfl, by simp, fun h0 => by simp at h0⟩⟩, by simp, fun x hx => by cases hx⟩
  · have key : ∀ i, i < len → ∃ b : α, (∃ c, c.length = d.sz ∧ d.K w b c ∧ ∀ j u, c[j]? = some u → w.cell? (a.add (i * d.sz + j)) = some u) ∧ W b := by
      intro i hi
      have h1 := hel i hi
      rw [List.getElem?_eq_getElem (by omega), Option.bind_eq_some_iff] at h1
      obtain ⟨c, hc, hy⟩ := h1
      obtain ⟨b, hb, hw⟩ := h H enc w base spare held n c _ hy
      obtain ⟨_, hcl, hcell⟩ := World.cells?_some hc
      refine ⟨b, ⟨c, by rw [hcl, hs], hb, fun j u hu => ?_⟩, hw⟩
      have hj : j < P.cellsOf e := by have := (List.getElem?_eq_some_iff.1 hu).1; omega
      have := hcell j hj
      rw [hu, hs] at this
      rw [← this, add_add]
    obtain ⟨l, hll, hq⟩ := list_of key
    refine ⟨l, ⟨some a, cap, by rw [hll], by omega, ⟨rfl, by unfold maxLen at hm; omega, fun _ => ⟨a, rfl, fun j p hp => (hq j p hp).1⟩⟩⟩, by omega, fun x hx => ?_⟩
    obtain ⟨i, hi⟩ := List.getElem?_of_mem hx
    exact (hq i x hi).2
theorem drop_take {cs : List Value} (o s : Nat) : cs.drop o = (cs.drop o).take s ++ cs.drop (o + s) := by
  rw [← List.drop_drop, List.take_append_drop]
/-- A field, and those behind it. -/
theorem pairF {A : Kd α} {B : Kd β} {WA : α → Prop} {WB : β → Prop} {w : World} {cs : List Value} {o s o' : Nat} (ho : o' = o + s) (h0 : ∃ a, A.K w a ((cs.drop o).take s) ∧ WA a) (h1 : ∃ b, B.K w b (cs.drop o') ∧ WB b) :
    ∃ x, (Kd.pair A B).K w x (cs.drop o) ∧ WA x.1 ∧ WB x.2 := by
  subst ho
  obtain ⟨a, ha, wa⟩ := h0
  obtain ⟨b, hb, wb⟩ := h1
  exact ⟨(a, b), ⟨_, _, drop_take o s, ha, hb⟩, wa, wb⟩
theorem lastF {A : Kd α} {WA : α → Prop} {w : World} {cs : List Value} {o s : Nat} (hl : cs.length = o + s) (h0 : ∃ a, A.K w a ((cs.drop o).take s) ∧ WA a) : ∃ a, A.K w a (cs.drop o) ∧ WA a := by
  rwa [List.take_of_length_le (by rw [List.length_drop]; omega)] at h0
theorem isoF {A : Kd α} {WA : α → Prop} {w : World} {cs : List Value} {f : β → α} (g : α → β) (hg : ∀ a, f (g a) = a) (h0 : ∃ a, A.K w a cs ∧ WA a) : ∃ b, (Kd.iso A f).K w b cs ∧ WA (f b) := by
  obtain ⟨a, ha, wa⟩ := h0
  exact ⟨g a, by show A.K w (f (g a)) cs; rw [hg]; exact ha, by rw [hg]; exact wa⟩
/-- A struct's field as it reads. -/
theorem fieldF {H : Type} {enc : TypeId × Value → H} {w : World} {base : Nat} {spare : Nat → Bool} {held : Bool} {n m : Nat} {cs : List Value} {xs : List (DataW H × List MemPlace)} {fs : Array Field} {d : Kd α} {W : α → Prop}
    (hn : xs.length = fs.size) (hf : ∀ (i : Nat) (f : Field), fs[i]? = some f → DataW.trod enc P w base spare held n f.type ((cs.drop f.offset).take (P.cellsOf f.type)) = xs[i]?)
    (i : Nat) (f : Field) (hi : fs[i]? = some f) (h : Opens P d f.type W) (hs : P.cellsOf f.type = m) : ∃ a, d.K w a ((cs.drop f.offset).take m) ∧ W a := by
  subst hs
  have h1 := hf i f hi
  rw [List.getElem?_eq_getElem (by rw [hn]; exact (Array.getElem?_eq_some_iff.1 hi).1)] at h1
  exact h H enc w base spare held n _ _ h1
/-- An array's element as it reads. -/
theorem arrF {H : Type} {enc : TypeId × Value → H} {w : World} {base : Nat} {spare : Nat → Bool} {held : Bool} {n m s o : Nat} {e : TypeId} {cs : List Value} {xs : List (DataW H × List MemPlace)} {d : Kd α} {W : α → Prop}
    (hn : xs.length = n) (hf : ∀ (i : Nat), i < n → DataW.trod enc P w base spare held m e ((cs.drop (i * P.cellsOf e)).take (P.cellsOf e)) = xs[i]?)
    (i : Nat) (hi : i < n) (h : Opens P d e W) (hs : P.cellsOf e = s) (ho : i * s = o) : ∃ a, d.K w a ((cs.drop o).take s) ∧ W a := by
  subst hs; subst ho
  have h1 := hf i hi
  rw [List.getElem?_eq_getElem (by omega)] at h1
  exact h H enc w base spare held m _ _ h1
theorem okWide_agg {r : Reach} {w : World} {base : Nat} {t : TypeId} {v : Value} {fs : Array Field} (ht : P.underlying t = some (.struct fs)) (h : Value.okWide P w r base t v) : ∃ cs, v = .agg cs := by
  simp only [Value.okWide, ht] at h
  obtain ⟨cs, rfl, _⟩ := h
  exact ⟨cs, rfl⟩
theorem okWide_arr {r : Reach} {w : World} {base : Nat} {t e : TypeId} {n : Nat} {v : Value} (ht : P.underlying t = some (.array n e)) (h : Value.okWide P w r base t v) : ∃ cs, v = .agg cs := by
  simp only [Value.okWide, ht] at h
  obtain ⟨cs, rfl, _⟩ := h
  exact ⟨cs, rfl⟩
/-- An argument that is a slice. -/
theorem arg_slice {H : Type} {enc : TypeId × Value → H} {w : World} {base : Nat} {spare : Nat → Bool} {held : Bool} {t e : TypeId} {d : Kd α} {W : List α → Prop} {a : Option Addr} {len cap : Nat} {x : DataW H} {ps : List MemPlace}
    (h : DataW.Trod enc P w base spare held t (.slice a len cap) x ps) (ho : Opens P (Kd.slice e d) t W) : ∃ xs : List α, len = xs.length ∧ xs.length ≤ cap ∧ d.C w a xs.length xs ∧ W xs := by
  obtain ⟨fuel, hf⟩ := h
  obtain ⟨xs, ⟨A, c, he, hl, hC⟩, hw⟩ := ho H enc w base spare held fuel _ _ hf
  simp only [Value.cells, List.cons.injEq, Value.slice.injEq, and_true] at he
  obtain ⟨rfl, rfl, rfl⟩ := he
  exact ⟨xs, rfl, hl, hC, hw⟩
/-- An argument that is a struct. -/
theorem arg_agg {H : Type} {enc : TypeId × Value → H} {w : World} {base : Nat} {spare : Nat → Bool} {held : Bool} {t : TypeId} {d : Kd α} {W : α → Prop} {cs : Array Value} {x : DataW H} {ps : List MemPlace}
    (h : DataW.Trod enc P w base spare held t (.agg cs) x ps) (ho : Opens P d t W) : ∃ a, d.K w a cs.toList ∧ W a := by
  obtain ⟨fuel, hf⟩ := h
  exact ho H enc w base spare held fuel _ _ hf
end Go.Proofs.Ytimiapghmehnaaa.Op
