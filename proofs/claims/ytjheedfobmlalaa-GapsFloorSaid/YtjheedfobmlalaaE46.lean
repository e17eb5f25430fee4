/- Ends of slices that are written; slices made of many records; first places. It bears no condition. -/
import Derived.Test.YtjheedfobmlalaaE45
namespace Go.Proofs.Ytjheedfobmlalaa.E
set_option linter.unusedVariables false
set_option linter.unusedSimpArgs false
section
variable {sz : Nat} {H : AH} {T : Tm} {cf : CallF} {x y : XO} {k : IntKind} {v : AV} {c : List AV} {rows : List (List AV)} {i : Nat}
/-- s[i:], written on. -/
theorem Sq.suf (h : Sq sz v c rows.flatten) (hr : ∀ r ∈ rows, r.length = sz) (hsz : 0 < sz) (h0 : 0 < rows.length) (hx : x.ev T = v) (hi : y.ev T = .i k ((i : Nat) : Int)) (h1 : i ≤ rows.length) : ∃ w, (XOp.slsl sz x (some y) none none).run cf T H = some (w, H) ∧ Sq sz w c (rows.drop i).flatten ∧ qseg w c = qseg v c ∧ ∃ a n cap g, w = .sl a n cap g := by
  obtain ⟨b, o, cap, g, rfl, hg, hl, hnc, hc⟩ := h.open (n := rows.length) (flat_len hr) hsz h0
  refine ⟨_, sl_suf hx hi hg h1, ?_, ?_, _, _, _, _, rfl⟩
  · by_cases hq : cap = i ∧ g = 0
    · rw [if_pos hq, List.drop_of_length_le (by omega)]
      refine .mk hg ?_ (by omega) (by rw [show cap - i = 0 by omega, Nat.zero_mul]; have := Nat.zero_le (cap * sz); omega)
      rw [show rows.length - i = 0 by omega, Nat.zero_mul, takeAt_ok (by have := Nat.zero_le (cap * sz); omega)]; rfl
    · rw [if_neg hq]
      refine .mk hg (rows_part hr h1 hl) (by omega) ?_
      have : i * sz + (cap - i) * sz = cap * sz := by rw [← Nat.add_mul]; congr 1; omega
      omega
  · split <;> rfl
/-- s[:i] and s[i:], read. -/
theorem Sq.rdHi {R : HL} (h : Sq sz v c rows.flatten) (hr : ∀ r ∈ rows, r.length = sz) (hsz : 0 < sz) (hH : Hs H (qseg v c ++ R)) (hx : x.ev T = v) (hi : y.ev T = .i k ((i : Nat) : Int)) (h1 : i ≤ rows.length) : ∃ w, (XOp.slsl sz x none (some y) none).run cf T H = some (w, H) ∧ lenOfA w = some i ∧ ∀ H1 R1, Hs H1 (qseg v c ++ R1) → XOp.src H1 sz i w = some (rows.take i).flatten := by
  obtain ⟨w, h2, h3⟩ := (h.rd hH hr hsz).hi (cf := cf) hx hi h1
  have hl : (rows.take i).length = i := by rw [List.length_take]; omega
  refine ⟨w, h2, (h3 H (h.rd hH hr hsz)).lenOf hl, fun H1 R1 hH1 => ?_⟩
  have e := (h3 H1 (h.rd hH1 hr hsz)).src
  rw [hl] at e; exact e
theorem Sq.rdLo {R : HL} (h : Sq sz v c rows.flatten) (hr : ∀ r ∈ rows, r.length = sz) (hsz : 0 < sz) (hH : Hs H (qseg v c ++ R)) (hx : x.ev T = v) (hi : y.ev T = .i k ((i : Nat) : Int)) (h1 : i ≤ rows.length) : ∃ w, (XOp.slsl sz x (some y) none none).run cf T H = some (w, H) ∧ lenOfA w = some (rows.length - i) ∧ ∀ H1 R1, Hs H1 (qseg v c ++ R1) → XOp.src H1 sz (rows.length - i) w = some (rows.drop i).flatten := by
  obtain ⟨w, h2, h3⟩ := (h.rd hH hr hsz).lo (cf := cf) hx hi h1
  have hl : (rows.drop i).length = rows.length - i := List.length_drop
  refine ⟨w, h2, (h3 H (h.rd hH hr hsz)).lenOf hl, fun H1 R1 hH1 => ?_⟩
  have e := (h3 H1 (h.rd hH1 hr hsz)).src
  rw [hl] at e; exact e
theorem make_mks {n bytes : Nat} {z : List AV} {k' : IntKind} (hx : x.ev T = .i k ((n : Nat) : Int)) (hy : y.ev T = .i k' ((n : Nat) : Int)) (hb : n * bytes ≤ 1073741824) (hn : n < 1073741824) : (XOp.mkslice z bytes x y).make T = some fun m => (.sl (some (m, 0)) n n 0, .cells (List.replicate n z).flatten true) := by
  have h1 : (0 : Int) ≤ (n : Int) ∧ (n : Int) ≤ (n : Int) ∧ (n : Int) * ((bytes : Nat) : Int) ≤ 1073741824 ∧ (n : Int) < 1073741824 := ⟨by omega, by omega, (by have h := Int.ofNat_le.2 hb; rw [Int.natCast_mul] at h; exact h), by omega⟩
  simp only [XOp.make, hx, hy, if_pos h1, Int.toNat_natCast, repl_flat]
end
section
variable {α : Type} {P : α → Bool}
theorem fx_next : ∀ {w : List α} {i : Nat} {x : α}, i ≤ w.findIdx P → w[i]? = some x → P x = false → i + 1 ≤ w.findIdx P
  | [], i, x, _, h, _ => by simp at h
  | y :: w, 0, x, _, h, hp => by
    simp only [List.getElem?_cons_zero, Option.some.injEq] at h
    subst h
    rw [List.findIdx_cons, hp]; simp
  | y :: w, i + 1, x, hi, h, hp => by
    rw [List.findIdx_cons] at hi ⊢
    cases hy : P y with
    | true => rw [hy] at hi; simp at hi
    | false =>
      rw [hy] at hi
      simp only [cond_false] at hi ⊢
      have := fx_next (w := w) (i := i) (by omega) (by simpa using h) hp
      omega
theorem fx_at {w : List α} {i : Nat} {x : α} (hi : i ≤ w.findIdx P) (h : w[i]? = some x) (hp : P x = true) : w.findIdx P = i := by
  by_cases he : w.findIdx P = i
  · exact he
  · have hn := List.not_of_lt_findIdx (xs := w) (p := P) (i := i) (by omega)
    have e := (List.getElem?_eq_some_iff.1 h).2
    rw [e, hp] at hn; simp at hn
end
end Go.Proofs.Ytjheedfobmlalaa.E
