/- Rows of records, made and indexed; unknown guards in open regions. It bears no condition. -/
import Derived.Test.YtjheedfobmlalaaE40
namespace Go.Proofs.Ytjheedfobmlalaa.E
set_option linter.unusedVariables false
set_option linter.unusedSimpArgs false
section
variable {tab : Nat → Option XFun} {sp : Nat → List AV → AH → Option (AV × AH)} {T : Tm} {H H0 : AH} {R : Tm → AH → Prop} {base : Nat} {W : List Watch}
theorem O_gk {d : Option Nat} {op : XOp} {g : Nat} {w : Bool} {ix : Nat} {bef : List Nat} {l : List XOper} (hg : T.get g = .b w) (h : O tab sp (⟨d, op, none, ix, bef⟩ :: l) T H R) : O tab sp (⟨d, op, some (g, w), ix, bef⟩ :: l) T H R := fun Tx te => by
  obtain ⟨k, T', H', T2, h, t, r⟩ := h Tx te
  refine ⟨k, T', H', T2, ?_, t, r⟩
  simp only [runOps, XOper.wanted, te g, hg, beq_self_eq_true, if_true] at h ⊢
  exact h
theorem D_gk {d : Option Nat} {op : XOp} {g : Nat} {w : Bool} {ix : Nat} {bef : List Nat} {l : List XOper} (hg : T.get g = .b w) (h : D tab sp base (⟨d, op, none, ix, bef⟩ :: l) W T H R) : D tab sp base (⟨d, op, some (g, w), ix, bef⟩ :: l) W T H R := fun Tx Wx te we => by
  obtain ⟨k, T', H', T2, h, t, r⟩ := h Tx Wx te we
  refine ⟨k, T', H', T2, ?_, t, r⟩
  simp only [runDraw, XOper.wanted, te g, hg, beq_self_eq_true, if_true] at h ⊢
  exact h
theorem r_quon {c : CallF} {x y : XO} {a b : Nat} (hx : x.ev T = .i .i64 (a : Int)) (hy : y.ev T = .i .i64 (b : Int)) (h1 : 0 < b) (h2 : a < 9223372036854775808) : (XOp.bin .quo x y).run c T H = some (.i .i64 ((a / b : Nat) : Int), H) := by
  rw [r_quoi hx hy (by omega) (by omega) (by omega)]; rfl
theorem repl_flat (z : List AV) : ∀ n, repl n z = (List.replicate n z).flatten
  | 0 => rfl
  | n + 1 => by rw [repl, repl_flat z n, List.replicate_succ, List.flatten_cons]
theorem O_mks {d : Nat} {x y : XO} {n bytes : Nat} {z : List AV} {k k' : IntKind} {ix : Nat} {bef : List Nat} {l : List XOper} (hx : x.ev T = .i k ((n : Nat) : Int)) (hy : y.ev T = .i k' ((n : Nat) : Int)) (hb : n * bytes ≤ 1073741824) (hn : n < 1073741824)
    (q : ∀ m H', New H m (.cells (List.replicate n z).flatten true) H' → O tab sp l ((d, .sl (some (m, 0)) n n 0) :: T) H' R) : O tab sp (⟨some d, .mkslice z bytes x y, none, ix, bef⟩ :: l) T H R := by
  have h1 : (0 : Int) ≤ (n : Int) ∧ (n : Int) ≤ (n : Int) ∧ (n : Int) * ((bytes : Nat) : Int) ≤ 1073741824 ∧ (n : Int) < 1073741824 := ⟨by omega, by omega, (by have h := Int.ofNat_le.2 hb; rw [Int.natCast_mul] at h; exact h), by omega⟩
  refine O_s (v := .sl (some (H.next, 0)) n n 0) (H' := H.alloc (.cells (List.replicate n z).flatten true)) ?_ (q _ _ ⟨rfl, rfl, AH.alloc_new _ _, fun m h => by rw [AH.get_alloc, if_neg (Ne.symm h)]⟩)
  simp only [XOp.run, XOp.make, hx, hy, if_pos h1, Int.toNat_natCast, repl_flat]
end
theorem Sq.ix {v y : AV} {c l : List AV} {k : IntKind} {H : AH} {R : HL} {T : Tm} {cf : CallF} (h : Sq 1 v c l) (hH : Hs H (qseg v c ++ R)) {x j : XO} {i : Nat} (hx : x.ev T = v) (hi : j.ev T = .i k ((i : Nat) : Int)) (h1 : l[i]? = some y) : ∃ w, (XOp.isl 1 x j).run cf T H = some (w, H) ∧ CellAt H w y := by
  have hlt := (List.getElem?_eq_some_iff.1 h1).1
  cases h with
  | nil => simp at hlt
  | @mk b o n cap g c l hg hl hn hc =>
    have hll := (takeAt_len hl).1
    refine ⟨_, r_isl hx hi (by omega) (by omega), b, o + ((i : Nat) : Int).toNat * 1, c, true, rfl, hH.get, ?_⟩
    rw [Int.toNat_natCast, Nat.mul_one, takeAt_get hl (by omega)]
    exact h1
theorem Bs.ro {H H0 : AH} {R : HL} {v : AV} {l : List UInt8} (h : Bs H0 v l) (ho : H0.Ok) (hH : Hs H (allL H0 ++ R)) : Bs H v l := (h.bp ho).bs hH
theorem Hs.ro {H H0 : AH} {R : HL} {n : Nat} {b : Blk} (ho : H0.Ok) (hH : Hs H (allL H0 ++ R)) (h : H0.get n = some b) : H.get n = some b := hH.mem (allL_mem ho h)
section
variable {R : List (List AV)} {sz k : Nat}
end
/-! ### Slices of records that are given -/
theorem rec_get {c l : List AV} {o n j : Nat} {v : AV} (h : takeAt c o n = some l) (hv : l[j]? = some v) : c[o + j]? = some v := by
  have hl := takeAt_len h
  have hj : j < n := by rw [← hl.1]; exact (List.getElem?_eq_some_iff.1 hv).1
  unfold takeAt at h
  rw [if_pos hl.2] at h
  simp only [Option.some.injEq] at h
  subst h
  rw [List.getElem?_take_of_lt hj, List.getElem?_drop] at hv
  exact hv
theorem rec_take {c l r : List AV} {o n j m : Nat} (h : takeAt c o n = some l) (hr : takeAt l j m = some r) : takeAt c (o + j) m = some r := by
  have hl := takeAt_len h
  have hr2 := takeAt_len hr
  unfold takeAt at h hr ⊢
  rw [if_pos hl.2] at h
  simp only [Option.some.injEq] at h
  subst h
  rw [if_pos hr2.2] at hr
  rw [if_pos (by have := hr2.2; rw [hl.1] at this; omega)]
  rw [List.drop_take, List.drop_drop, List.take_take] at hr
  have := hr2.2
  rw [hl.1] at this
  rw [Nat.min_eq_left (by omega)] at hr
  exact hr
theorem typed_recs {P : Program} {H : AH} {k : Nat} {t e : TypeId} {z : Nat} {v : AV} (hu : P.underlying t = some (.slice e)) (hz : P.cellsOf e = z) (h : Typed P H (k + 1) t [v]) :
    ∃ a len cap, v = .sl a len cap 0 ∧ len ≤ cap ∧ cap ≤ maxLen ∧ (len = 0 ∨ ∃ b c, a = some (b, 0) ∧ H.get b = some (.cells c false) ∧ ∀ i, i < len → ∃ l, takeAt c (i * z) z = some l ∧ Typed P H k e l) := by
  unfold Typed at h
  rw [hu] at h
  simp only at h
  rcases h with h | h | ⟨b, len, cap, c, hl, h1, h2, h3, h4, h5, h6⟩
  · simp only [List.cons.injEq, and_true] at h; subst h
    exact ⟨_, _, _, rfl, Nat.le_refl _, Nat.zero_le _, .inl rfl⟩
  · simp only [List.cons.injEq, and_true] at h; subst h
    exact ⟨_, _, _, rfl, Nat.le_refl _, Nat.zero_le _, .inl rfl⟩
  · simp only [List.cons.injEq, and_true] at hl; subst hl
    refine ⟨_, _, _, rfl, h1, h3, .inr ⟨b, c, rfl, h4, fun i hi => ?_⟩⟩
    rw [hz] at h5 h6
    have hb : i * z + z ≤ c.length := by
      have : (i + 1) * z ≤ cap * z := Nat.mul_le_mul_right z (by omega)
      rw [Nat.add_mul, Nat.one_mul] at this
      omega
    exact ⟨_, takeAt_ok hb, h6 i (by omega)⟩
end Go.Proofs.Ytjheedfobmlalaa.E
