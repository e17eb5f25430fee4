/- Texts as lists of octets, in a walk. It bears no condition. -/
import Derived.Test.YtjheedfobmlalaaE38
namespace Go.Proofs.Ytjheedfobmlalaa.E
set_option linter.unusedVariables false
set_option linter.unusedSimpArgs false
theorem txt_size (l : List UInt8) : (txt l).size = l.length := by simp [txt, ByteArray.size]
theorem txt_data (l : List UInt8) : (txt l).data.toList = l := by simp [txt]
theorem txt_of (s : ByteArray) : txt s.data.toList = s := by cases s; simp [txt]
theorem txt_get (l : List UInt8) (i : Nat) : (txt l)[i]? = l[i]? := by
  by_cases h : i < l.length
  · rw [List.getElem?_eq_getElem h, getElem?_pos (txt l) i (by rw [txt_size]; exact h)]
    simp [txt, ByteArray.getElem_eq_getElem_data]
  · rw [List.getElem?_eq_none (by omega), getElem?_neg (txt l) i (by rw [txt_size]; exact h)]
theorem txt_ext (l : List UInt8) (i j : Nat) : (txt l).extract i j = txt ((l.drop i).take (j - i)) := by
  have : ((txt l).extract i j).data = (txt ((l.drop i).take (j - i))).data := by
    simp [txt, ByteArray.data_extract, List.extract_eq_take_drop]
  exact ByteArray.ext this
section
variable {T : Tm} {H : AH} {c : CallF} {x y z : XO} {l : List UInt8} {k k' : IntKind} {n m : Nat}
theorem r_lent (hx : x.ev T = .s (txt l)) : (XOp.lens x).run c T H = some (.i .i64 ((l.length : Nat) : Int), H) := by
  rw [r_lens hx, txt_size]
theorem r_idxt (hx : x.ev T = .s (txt l)) (hi : y.ev T = .i k n) (h : n < l.length) : (XOp.idxs x y).run c T H = some (.i .u8 ((l.getD n 0).toNat : Int), H) := by
  refine r_idxs hx hi (by omega) ?_
  rw [Int.toNat_natCast, txt_get, List.getElem?_eq_getElem h, List.getD_eq_getElem?_getD, List.getElem?_eq_getElem h]; rfl
theorem r_slt {lo hi : Option XO} {a b e : Nat} (hx : x.ev T = .s (txt l)) (hs : sbounds l.length l.length (lo.map (·.ev T)) (hi.map (·.ev T)) none = some (a, b, e)) : (XOp.slstr x lo hi).run c T H = some (.s (txt ((l.drop a).take (b - a))), H) := by
  rw [← txt_size l] at hs
  simp only [XOp.run, XOp.look, hx, hs, Option.map_some, txt_ext]
theorem r_slt_lo (hx : x.ev T = .s (txt l)) (hy : y.ev T = .i k n) (h : n ≤ l.length) : (XOp.slstr x (some y) none).run c T H = some (.s (txt (l.drop n)), H) := by
  have e := r_slt (c := c) (H := H) (lo := some y) (hi := none) hx (a := n) (b := l.length) (e := l.length) (by simp only [Option.map_some, Option.map_none, hy]; exact sb_lo (by omega) (by omega))
  rw [e, List.take_of_length_le (by rw [List.length_drop]; omega)]
theorem r_slt_hi (hx : x.ev T = .s (txt l)) (hy : y.ev T = .i k n) (h : n ≤ l.length) : (XOp.slstr x none (some y)).run c T H = some (.s (txt (l.take n)), H) := by
  have e := r_slt (c := c) (H := H) (lo := none) (hi := some y) hx (a := 0) (b := n) (e := l.length) (by simp only [Option.map_some, Option.map_none, hy]; exact sb_hi (by omega) (by omega))
  rw [e, List.drop_zero, Nat.sub_zero]
end
theorem src_txt {H : AH} (l : List UInt8) : XOp.src H 1 l.length (.s (txt l)) = some (bcells l) := by
  simp only [XOp.src, if_true, txt]
  rw [List.take_of_length_le (by simp)]; rfl
theorem len_txt (l : List UInt8) : lenOfA (.s (txt l)) = some l.length := by simp only [lenOfA, txt_size]
theorem OctAt.old {H0 H : AH} {v : AV} {y : UInt8} (h : OctAt H0 v y) (hw : H0.Ok) (k : Kp H0 H) : OctAt H v y := by
  obtain ⟨b, o, cs, mu, rfl, hb, hc⟩ := h
  exact ⟨b, o, cs, mu, rfl, by rw [k.keep _ (hw _ _ hb)]; exact hb, hc⟩
theorem Bs.ix0 {T : Tm} {H0 H : AH} {c : CallF} {x : XO} {k : IntKind} {l : List UInt8} {v : AV} (h : Bs H0 v l) (hx : x.ev T = v) {y : XO} {i : Nat} (hi : y.ev T = .i k i) (h1 : i < l.length) : ∃ w, (XOp.isl 1 x y).run c T H = some (w, H) ∧ OctAt H0 w (l.getD i 0) := by
  obtain ⟨w, h2, h3⟩ := Bs.ix (c := c) h hx hi h1
  refine ⟨w, ?_, h3⟩
  have key : ∀ H1 H2, (XOp.isl 1 x y).run c T H1 = some (w, H1) → (XOp.isl 1 x y).run c T H2 = some (w, H2) := by
    intro H1 H2 hr
    have e : (XOp.isl 1 x y).look T H1 = (XOp.isl 1 x y).look T H2 := rfl
    simp only [XOp.run] at hr ⊢
    rw [← e]
    cases hl : (XOp.isl 1 x y).look T H1 with
    | none => rw [hl] at hr; cases hr
    | some z => rw [hl] at hr; simp only [Option.map_some, Option.some.injEq, Prod.mk.injEq] at hr ⊢; exact ⟨hr.1, trivial⟩
  exact key _ _ h2
theorem CellAt.old {H0 H : AH} {v : AV} {y : AV} (h : CellAt H0 v y) (hw : H0.Ok) (k : Kp H0 H) : CellAt H v y := by
  obtain ⟨b, o, cs, mu, rfl, hb, hc⟩ := h
  exact ⟨b, o, cs, mu, rfl, by rw [k.keep _ (hw _ _ hb)]; exact hb, hc⟩
end Go.Proofs.Ytjheedfobmlalaa.E
