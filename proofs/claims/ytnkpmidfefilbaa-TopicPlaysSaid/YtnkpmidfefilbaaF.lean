/- Topics: what a relay holds. It bears no condition. -/
import Derived.Test.YtnkpmidfefilbaaE44
import Derived.Test.YtnkpmidfefilbaaX
import Derived.Test.YtnkpmidfefilbaaE37
namespace Go.Proofs.Ytnkpmidfefilbaa.E
set_option linter.unusedVariables false
set_option linter.unusedSimpArgs false
theorem globals0 : Try.prog.globals.size = 0 := by kernel_rfl
theorem mixed : Try.prog.follows .mixedOrders = true := by kernel_rfl
theorem laid : laidOutB Try.prog = true := by kernel_rfl
def tabA := without [10] tab
theorem tabA_ok : TabOK Try.prog tabA := without_ok tab_ok
def spA := withSp 10 [] (.b true) noSp
theorem spA_ok : SpOK Try.prog tabA spA := withSp_ok (k := 300) (f := 10) (args := []) (v := .b true) mixed globals0 tab_ok noSp_ok (by kernel_rfl) rfl rfl noSp_ok
/-- An item. -/
structure It where
  tp : List UInt8
  frm : Int
  num : Int
  tx : Bool
  d : List UInt8
def ItRow (B : HL) (r : List AV) (x : It) : Prop := ∃ (a : Option (Nat × Nat)) (cap g : Nat), r = [.s (txt x.tp), .i .i64 x.frm, .i .i64 x.num, .b x.tx, .sl a x.d.length cap g] ∧ (g = 0 ∨ g = 1) ∧ x.d.length ≤ cap ∧ cap ≤ 9223372036854775807 ∧ ∀ H', Hs H' B → Bs H' (.sl a x.d.length cap g) x.d
def ItsR (B : HL) (rows : List (List AV)) (w : List It) : Prop := rows.length = w.length ∧ ∀ (i : Nat) (x : It), w[i]? = some x → ∃ r, rows[i]? = some r ∧ ItRow B r x
theorem ItRow.mono {A B : HL} {r : List AV} {x : It} (h : ItRow A r x) (hs : ∀ H', Hs H' B → Hs H' A) : ItRow B r x := by
  obtain ⟨a, cap, g, h1, h2, h3, h4, h5⟩ := h
  exact ⟨a, cap, g, h1, h2, h3, h4, fun H' hh => h5 H' (hs H' hh)⟩
theorem ItsR.mono {A B : HL} {rows : List (List AV)} {w : List It} (h : ItsR A rows w) (hs : ∀ H', Hs H' B → Hs H' A) : ItsR B rows w := ⟨h.1, fun i x hx => by
  obtain ⟨r, h1, h2⟩ := h.2 i x hx
  exact ⟨r, h1, h2.mono hs⟩⟩
theorem ItsR.nil {B : HL} : ItsR B [] [] := ⟨rfl, fun i x h => by simp at h⟩
theorem ItsR.snoc {B : HL} {rows : List (List AV)} {w : List It} {r : List AV} {x : It} (h : ItsR B rows w) (hr : ItRow B r x) : ItsR B (rows ++ [r]) (w ++ [x]) := by
  refine ⟨by rw [List.length_append, List.length_append, h.1]; rfl, fun i y hy => ?_⟩
  by_cases hi : i < w.length
  · rw [List.getElem?_append_left hi] at hy
    obtain ⟨q, h1, h2⟩ := h.2 i y hy
    exact ⟨q, by rw [List.getElem?_append_left (by rw [h.1]; exact hi)]; exact h1, h2⟩
  · rw [List.getElem?_append_right (by omega)] at hy
    have hlt := (List.getElem?_eq_some_iff.1 hy).1
    have e : i - w.length = 0 := by simp at hlt; omega
    rw [e] at hy
    simp only [List.getElem?_cons_zero, Option.some.injEq] at hy
    subst hy
    exact ⟨r, by rw [List.getElem?_append_right (by rw [h.1]; omega), h.1, e]; rfl, hr⟩
theorem ItsR.lens {B : HL} {rows : List (List AV)} {w : List It} (h : ItsR B rows w) : ∀ r ∈ rows, r.length = 5 := fun r hr => by
  obtain ⟨i, hi, rfl⟩ := List.getElem_of_mem hr
  have hi' : i < w.length := by rw [← h.1]; exact hi
  obtain ⟨q, h1, a, cap, g, h2, _⟩ := h.2 i w[i] (List.getElem?_eq_getElem hi')
  rw [List.getElem?_eq_getElem hi] at h1
  cases h1; rw [h2]; rfl
theorem ItsR.tail {B : HL} {r : List AV} {rows : List (List AV)} {x : It} {w : List It} (h : ItsR B (r :: rows) (x :: w)) : ItsR B rows w := ⟨by have := h.1; simpa using this, fun i y hy => by
  obtain ⟨q, h1, h2⟩ := h.2 (i + 1) y (by simpa using hy)
  exact ⟨q, by simpa using h1, h2⟩⟩
/-- A party's cells. -/
def prow (on : Bool) (mr : Option Nat) (v : AV) (lost : Int) : List AV := [.b on, .m mr, v, .i .i64 lost]
abbrev sub (mode : Int) (failed : Bool) : AV := .agg [.i .i64 mode, .b failed]

end Go.Proofs.Ytnkpmidfefilbaa.E
