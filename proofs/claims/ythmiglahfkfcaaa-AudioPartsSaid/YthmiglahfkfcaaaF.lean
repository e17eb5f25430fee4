/- The forwarder: what it holds. It bears no condition. -/
import Derived.Test.YthmiglahfkfcaaaE43
import Derived.Test.YthmiglahfkfcaaaX
import Derived.Test.YthmiglahfkfcaaaE37
namespace Go.Proofs.Ythmiglahfkfcaaa.E
set_option linter.unusedVariables false
set_option linter.unusedSimpArgs false
theorem globals0 : Try.prog.globals.size = 0 := by kernel_rfl
theorem mixed : Try.prog.follows .mixedOrders = true := by kernel_rfl
theorem laid : laidOutB Try.prog = true := by kernel_rfl
def tabA := without [8] tab
theorem tabA_ok : TabOK Try.prog tabA := without_ok tab_ok
def spA := withSp 8 [] (.b true) noSp
theorem spA_ok : SpOK Try.prog tabA spA := withSp_ok (k := 300) (f := 8) (args := []) (v := .b true) mixed globals0 tab_ok noSp_ok (by kernel_rfl) rfl rfl noSp_ok
/-- What a listener knows of a speaker. -/
structure Spk where
  k : Bool
  src : Int
  own : Int
  new : Int
/-- A packet. -/
structure Pk where
  m : Bool
  kind : Int
  seq : Int
  stamp : Int
  src : Int
  d : List UInt8
def less16 (a b : Int) : Bool := (!decide (IntKind.u16.wrap (b - a) = 0)) && decide (IntKind.u16.wrap (b - a) ≤ 32767)
def Spk.next (s : Spk) (seq src : Int) : Int × Bool :=
  if s.k = true then (if s.src = src then (IntKind.u16.wrap (IntKind.u16.wrap (s.new + seq) - s.own), less16 s.own seq) else (IntKind.u16.wrap (s.new + 1), true)) else (0, true)
/-- A listener's cells; speakers from the third one on were never heard. -/
def Z56 : List AV := [.b false, .i .u32 0, .i .u16 0, .i .u16 0, .b false, .i .u32 0, .i .u16 0, .i .u16 0, .b false, .i .u32 0, .i .u16 0, .i .u16 0, .b false, .i .u32 0, .i .u16 0, .i .u16 0, .b false, .i .u32 0, .i .u16 0, .i .u16 0, .b false, .i .u32 0, .i .u16 0, .i .u16 0, .b false, .i .u32 0, .i .u16 0, .i .u16 0, .b false, .i .u32 0, .i .u16 0, .i .u16 0, .b false, .i .u32 0, .i .u16 0, .i .u16 0, .b false, .i .u32 0, .i .u16 0, .i .u16 0, .b false, .i .u32 0, .i .u16 0, .i .u16 0, .b false, .i .u32 0, .i .u16 0, .i .u16 0, .b false, .i .u32 0, .i .u16 0, .i .u16 0, .b false, .i .u32 0, .i .u16 0, .i .u16 0]
def lrow (on k0 s0 o0 n0 k1 s1 o1 n1 v l : AV) : List AV := on :: k0 :: s0 :: o0 :: n0 :: k1 :: s1 :: o1 :: n1 :: (Z56 ++ [v, l])
def lrowS (on : Bool) (s t : Spk) (v : AV) (lost : Int) : List AV := lrow (.b on) (.b s.k) (.i .u32 s.src) (.i .u16 s.own) (.i .u16 s.new) (.b t.k) (.i .u32 t.src) (.i .u16 t.own) (.i .u16 t.new) v (.i .i64 lost)
def spk0 : Spk := ⟨false, 0, 0, 0⟩
def zrow : List AV := lrowS false spk0 spk0 (.sl none 0 0 0) 0
def spkC (s : Spk) : List AV := [.b s.k, .i .u32 s.src, .i .u16 s.own, .i .u16 s.new]
def PkRow (B : HL) (r : List AV) (x : Pk) : Prop := ∃ (a : Option (Nat × Nat)) (cap g : Nat), r = [.b x.m, .i .u8 x.kind, .i .u16 x.seq, .i .u32 x.stamp, .i .u32 x.src, .sl a x.d.length cap g] ∧ (g = 0 ∨ g = 1) ∧ x.d.length ≤ cap ∧ cap ≤ 9223372036854775807 ∧ ∀ H', Hs H' B → Bs H' (.sl a x.d.length cap g) x.d
def PksR (B : HL) (rows : List (List AV)) (w : List Pk) : Prop := rows.length = w.length ∧ ∀ (i : Nat) (x : Pk), w[i]? = some x → ∃ r, rows[i]? = some r ∧ PkRow B r x
theorem PkRow.mono {A B : HL} {r : List AV} {x : Pk} (h : PkRow A r x) (hs : ∀ H', Hs H' B → Hs H' A) : PkRow B r x := by
  obtain ⟨a, cap, g, h1, h2, h3, h4, h5⟩ := h
  exact ⟨a, cap, g, h1, h2, h3, h4, fun H' hh => h5 H' (hs H' hh)⟩
theorem PksR.mono {A B : HL} {rows : List (List AV)} {w : List Pk} (h : PksR A rows w) (hs : ∀ H', Hs H' B → Hs H' A) : PksR B rows w := ⟨h.1, fun i x hx => by
  obtain ⟨r, h1, h2⟩ := h.2 i x hx
  exact ⟨r, h1, h2.mono hs⟩⟩
theorem PksR.nil {B : HL} : PksR B [] [] := ⟨rfl, fun i x h => by simp at h⟩
theorem PksR.snoc {B : HL} {rows : List (List AV)} {w : List Pk} {r : List AV} {x : Pk} (h : PksR B rows w) (hr : PkRow B r x) : PksR B (rows ++ [r]) (w ++ [x]) := by
  refine ⟨by rw [List.length_append, List.length_append, h.1]; rfl, fun i y hy => ?_⟩
  by_cases hi : i < w.length
  · rw [List.getElem?_append_left hi] at hy
    obtain ⟨q, h1, h2⟩ := h.2 i y hy
    exact ⟨q, by rw [List.getElem?_append_left (by rw [h.1]; exact hi)]; exact h1, h2⟩
  · rw [List.getElem?_append_right (by omega)] at hy
    have hlt := (List.getElem?_eq_some_iff.1 hy).1
    have e : i - w.length = 0 := by simp at hlt; omega
    rw [e] at hy
    simp only [List.getElem?_cons_zero, Option.some.injEq] at hy
    subst hy
    exact ⟨r, by rw [List.getElem?_append_right (by rw [h.1]; omega), h.1, e]; rfl, hr⟩
theorem PksR.lens {B : HL} {rows : List (List AV)} {w : List Pk} (h : PksR B rows w) : ∀ r ∈ rows, r.length = 6 := fun r hr => by
  obtain ⟨i, hi, rfl⟩ := List.getElem_of_mem hr
  have hi' : i < w.length := by rw [← h.1]; exact hi
  obtain ⟨q, h1, a, cap, g, h2, _⟩ := h.2 i w[i] (List.getElem?_eq_getElem hi')
  rw [List.getElem?_eq_getElem hi] at h1
  cases h1; rw [h2]; rfl
theorem PksR.tail {B : HL} {r : List AV} {rows : List (List AV)} {x : Pk} {w : List Pk} (h : PksR B (r :: rows) (x :: w)) : PksR B rows w := ⟨by have := h.1; simpa using this, fun i y hy => by
  obtain ⟨q, h1, h2⟩ := h.2 (i + 1) y (by simpa using hy)
  exact ⟨q, by simpa using h1, h2⟩⟩
/-- What a packet makes of a speaker's knowledge, of what waits, and of what is lost; is it taken? -/
def handW (s : Spk) (room : Nat) (w : List Pk) (lost from1 : Int) (p : Pk) : Spk × List Pk × Int × Bool :=
  if (s.next p.seq p.src).2 = false then (s, w, lost, false)
  else if w.length < room then (⟨true, p.src, p.seq, (s.next p.seq p.src).1⟩, w ++ [{ p with seq := (s.next p.seq p.src).1, src := from1 }], lost, true)
  else (⟨true, p.src, p.seq, (s.next p.seq p.src).1⟩, w, lost + 1, false)
theorem putAt_all {r vs : List AV} (h : vs.length = r.length) : putAt r 0 vs = vs := by
  rw [putAt_eq _ _ _ (by omega), List.take_zero, List.nil_append, List.drop_of_length_le (by omega), List.append_nil]

end Go.Proofs.Ythmiglahfkfcaaa.E
