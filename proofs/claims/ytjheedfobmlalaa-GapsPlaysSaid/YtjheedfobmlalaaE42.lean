/- Slices of records: read wherever they lie, and written a cell at a time. It bears no condition. -/
import Derived.Test.YtjheedfobmlalaaE41
namespace Go.Proofs.Ytjheedfobmlalaa.E
set_option linter.unusedVariables false
set_option linter.unusedSimpArgs false
/-- A slice of records, by their cells. -/
inductive Rw (sz : Nat) (H : AH) : AV → List (List AV) → Prop where
  | none {a : Option (Nat × Nat)} {cap g : Nat} (hg : g = 0 ∨ g = sz) : Rw sz H (.sl a 0 cap g) []
  | mk {b o n cap g : Nat} {c : List AV} {mu : Bool} {rows : List (List AV)} (hb : H.get b = some (.cells c mu)) (hg : g = 0 ∨ g = sz) (hn : rows.length = n) (hc : n ≤ cap) (h : ∀ i r, rows[i]? = some r → takeAt c (o + i * sz) sz = some r) : Rw sz H (.sl (some (b, o)) n cap g) rows
theorem Hs.fst {H : AH} {A R : HL} (h : Hs H (A ++ R)) : Hs H A := (h.perm List.perm_append_comm).sub
section
variable {sz : Nat} {H H0 : AH} {v : AV} {rows : List (List AV)} {T : Tm} {cf : CallF} {x j : XO} {k : IntKind} {i : Nat} {r : List AV} {R : HL} {c l : List AV}
theorem Rw.len (h : Rw sz H v rows) : lenOfA v = some rows.length := by
  cases h with
  | none hg => rfl
  | mk hb hg hn hc h => subst hn; rfl
theorem Rw.isSl (h : Rw sz H v rows) : ∃ a len cap g, v = .sl a len cap g := by cases h <;> exact ⟨_, _, _, _, rfl⟩
theorem Rw.row (h : Rw sz H v rows) (hx : x.ev T = v) (hi : j.ev T = .i k ((i : Nat) : Int)) (hr : rows[i]? = some r) : ∃ w, (XOp.isl sz x j).run cf T H = some (w, H) ∧ ∃ b o, w = .p (some (b, o)) ∧ ∀ H1, Rw sz H1 v rows → ∃ c mu, H1.get b = some (.cells c mu) ∧ takeAt c o sz = some r := by
  have hlt := (List.getElem?_eq_some_iff.1 hr).1
  cases h with
  | none hg => cases hr
  | @mk b o n cap g c mu rows hb hg hn hc h =>
    refine ⟨_, r_isl hx hi (by omega) (by omega), b, _, rfl, fun H1 h1 => ?_⟩
    rw [Int.toNat_natCast]
    generalize hv : AV.sl (some (b, o)) n cap g = v at h1
    cases h1 with
    | none hg => cases hr
    | @mk b' o' n' cap' g' c' mu' _ hb' hg' hn' hc' h' =>
      simp only [AV.sl.injEq, Option.some.injEq, Prod.mk.injEq] at hv
      obtain ⟨⟨rfl, rfl⟩, rfl, rfl, rfl⟩ := hv
      exact ⟨c', mu', hb', h' i r hr⟩
theorem Rw.lenOf {n : Nat} (h : Rw sz H v rows) (hn : rows.length = n) : lenOfA v = some n := hn ▸ h.len
theorem r_ldR {b o q m : Nat} {y : AV} (hx : x.ev T = .p (some (b, o + q))) (h : ∃ c mu, H.get b = some (.cells c mu) ∧ takeAt c o sz = some r) (hv : r[q]? = some y) : (XOp.load false m x).run cf T H = some (y, H) := by
  obtain ⟨c, mu, hb, ht⟩ := h
  exact r_ld hx hb (rec_get ht hv)
theorem r_subn {a b : Nat} (hx : x.ev T = .i .i64 ((a : Nat) : Int)) (hy : j.ev T = .i .i64 ((b : Nat) : Int)) (h : b ≤ a) (ha : a < 9223372036854775808) : (XOp.bin .sub x j).run cf T H = some (.i .i64 ((a - b : Nat) : Int), H) := by
  rw [r_subi hx hy (wrap_i64 (by omega) (by omega)), show (a : Int) - (b : Int) = ((a - b : Nat) : Int) by omega]
theorem Rw.lens (h : Rw sz H v rows) (hr : r ∈ rows) : r.length = sz := by
  cases h with
  | none hg => cases hr
  | mk hb hg hn hc h =>
    obtain ⟨i, hi, rfl⟩ := List.getElem_of_mem hr
    exact (takeAt_len (h i _ (List.getElem?_eq_getElem hi))).1
theorem Rw.lo (h : Rw sz H v rows) (hx : x.ev T = v) (hi : j.ev T = .i k ((i : Nat) : Int)) (h2 : i ≤ rows.length) : ∃ v', (XOp.slsl sz x (some j) Option.none Option.none).run cf T H = some (v', H) ∧ ∀ H1, Rw sz H1 v rows → Rw sz H1 v' (rows.drop i) := by
  obtain ⟨a, len, cap, g, rfl⟩ := h.isSl
  have hl : len = rows.length := by have := h.len; simpa [lenOfA] using this
  subst hl
  have hg : g = 0 ∨ g = sz := by generalize rows.length = L at h; cases h <;> assumption
  have hs : sbounds rows.length cap ((some j).map (·.ev T)) ((Option.none : Option XO).map (·.ev T)) Option.none = some (i, rows.length, cap) := by
    simp only [Option.map_some, Option.map_none, hi]
    exact sb_lo (i := (i : Int)) (by omega) (by omega)
  refine ⟨_, r_slsl (mx := Option.none) hx hg hs, fun H1 h1 => ?_⟩
  by_cases h0 : rows.length ≤ i
  · rw [List.drop_of_length_le h0, show rows.length - i = 0 by omega]; exact .none hg
  · generalize hL : rows.length = L at *
    cases h1 with
    | none _ => omega
    | @mk b o n cap g c mu rows hb hg' hn hc h1 =>
      rw [if_neg (by omega)]
      refine .mk hb hg (by rw [List.length_drop, hn]) (by omega) fun q r hq => ?_
      rw [List.getElem?_drop] at hq
      have := h1 _ _ hq
      rw [Nat.add_mul, ← Nat.add_assoc] at this
      exact this
theorem Rw.hi (h : Rw sz H v rows) (hx : x.ev T = v) (hi : j.ev T = .i k ((i : Nat) : Int)) (h2 : i ≤ rows.length) : ∃ v', (XOp.slsl sz x Option.none (some j) Option.none).run cf T H = some (v', H) ∧ ∀ H1, Rw sz H1 v rows → Rw sz H1 v' (rows.take i) := by
  obtain ⟨a, len, cap, g, rfl⟩ := h.isSl
  have hl : len = rows.length := by have := h.len; simpa [lenOfA] using this
  subst hl
  have hg : g = 0 ∨ g = sz := by generalize rows.length = L at h; cases h <;> assumption
  have hcap : rows.length ≤ cap := by
    generalize hL : rows.length = L at h
    cases h with
    | none _ => omega
    | mk hb hg hn hc h => exact hc
  have hs : sbounds rows.length cap ((Option.none : Option XO).map (·.ev T)) ((some j).map (·.ev T)) Option.none = some (0, i, cap) := by
    simp only [Option.map_some, Option.map_none, hi]
    exact sb_hi (i := (i : Int)) (by omega) (by omega)
  refine ⟨_, r_slsl (mx := Option.none) hx hg hs, fun H1 h1 => ?_⟩
  by_cases h0 : i = 0
  · subst h0; rw [List.take_zero]; exact .none hg
  · generalize hL : rows.length = L at *
    cases h1 with
    | none _ => omega
    | @mk b o n cap g c mu rows hb hg' hn hc h1 =>
      simp only [Option.map_some, Nat.zero_mul, Nat.add_zero, ite_self, Nat.sub_zero]
      refine .mk hb hg (by rw [List.length_take]; omega) (by omega) fun q r hq => ?_
      rw [List.getElem?_take] at hq
      split at hq
      · exact h1 _ _ hq
      · cases hq
theorem rows_src {c : List AV} {sz : Nat} : ∀ {rows : List (List AV)} {o : Nat}, (∀ i r, rows[i]? = some r → takeAt c (o + i * sz) sz = some r) → o ≤ c.length → takeAt c o (rows.length * sz) = some rows.flatten
  | [], o, _, ho => by rw [List.length_nil, Nat.zero_mul, takeAt_ok (by omega)]; rfl
  | a :: rows, o, h, ho => by
    have h0 := h 0 a rfl
    rw [Nat.zero_mul, Nat.add_zero] at h0
    have h1 := rows_src (rows := rows) (o := o + sz) (fun i r hi => by
      have := h (i + 1) r hi
      rw [Nat.add_mul, Nat.one_mul] at this
      rw [show o + sz + i * sz = o + (i * sz + sz) by omega]; exact this) (takeAt_len h0).2
    obtain ⟨l0, b0⟩ := takeAt_len h0
    obtain ⟨l1, b1⟩ := takeAt_len h1
    have e : (a :: rows).length * sz = sz + rows.length * sz := by rw [List.length_cons, Nat.add_mul]; omega
    rw [takeAt_ok b0] at h0
    rw [takeAt_ok b1] at h1
    rw [e, takeAt_ok (by omega), List.take_add, List.drop_drop, List.flatten_cons]
    simp only [Option.some.injEq] at h0 h1 ⊢
    rw [h0, h1]
theorem Rw.src (h : Rw sz H v rows) : XOp.src H sz rows.length v = some rows.flatten := by
  cases h with
  | @none a _ _ hg => cases a <;> simp [XOp.src]
  | @mk b o n cap g c mu rows hb hg hn hc h =>
    cases rows with
    | nil => simp [XOp.src]
    | cons a rows =>
      have h0 := h 0 a rfl
      exact src_blk hb (rows_src h (by have := (takeAt_len h0).2; omega))
theorem Sq.rd (h : Sq sz v c rows.flatten) (hH : Hs H (qseg v c ++ R)) (hr : ∀ r ∈ rows, r.length = sz) (hsz : 0 < sz) : Rw sz H v rows := by
  have hfl := flat_len hr
  generalize hl : rows.flatten = l at h hfl
  cases h with
  | nil =>
    have h0 : rows.length * sz = 0 := by simpa using hfl.symm
    have : rows.length = 0 := by rcases Nat.mul_eq_zero.1 h0 with h | h <;> omega
    rw [List.length_eq_zero_iff.1 this]; exact .none (.inl rfl)
  | @mk b o n cap g c l hg hl' hn hc =>
    have e : rows.length = n := Nat.eq_of_mul_eq_mul_right hsz (hfl.symm.trans (takeAt_len hl').1)
    subst hl
    refine .mk hH.get hg e hn fun i r hi => ?_
    have hlt := (List.getElem?_eq_some_iff.1 hi).1
    refine rec_take hl' ?_
    rw [rows_foc hi]
    have := foc_take (sz := sz) (n := sz) (j := 0) hr hlt (hr r (List.mem_of_getElem? hi)) (by omega)
    rw [Nat.add_zero] at this
    rw [this, takeAt_ok (by rw [hr r (List.mem_of_getElem? hi)]; omega), List.drop_zero, List.take_of_length_le (by rw [hr r (List.mem_of_getElem? hi)]; exact Nat.le_refl _)]
/-- Given records. -/
theorem Rw.given {a : Option (Nat × Nat)} {n cap : Nat} {Q : List AV → Prop} (hnc : n ≤ cap) (h : n = 0 ∨ ∃ b c, a = some (b, 0) ∧ H.get b = some (.cells c false) ∧ ∀ i, i < n → ∃ l, takeAt c (i * sz) sz = some l ∧ Q l) : ∃ rows, Rw sz H (.sl a n cap 0) rows ∧ rows.length = n ∧ ∀ (i : Nat) (r : List AV), rows[i]? = some r → Q r := by
  rcases h with rfl | ⟨b, c, rfl, hb, h⟩
  · exact ⟨[], .none (.inl rfl), rfl, fun i r h => (by simp at h)⟩
  · refine ⟨(List.range n).map fun i => (c.drop (i * sz)).take sz, .mk hb (.inl rfl) (by simp) hnc fun i r hi => ?_, by simp, fun i r hi => ?_⟩
    all_goals
      rw [List.getElem?_map] at hi
      by_cases hlt : i < n
      · rw [List.getElem?_range hlt] at hi
        obtain ⟨l, hl, hq⟩ := h i hlt
        have e : r = l := by
          rw [takeAt_ok (takeAt_len hl).2] at hl
          simp only [Option.map_some, Option.some.injEq] at hi hl
          rw [← hi, ← hl]
        subst e
        first | exact hq | (rw [Nat.zero_add]; exact hl)
      · rw [List.getElem?_eq_none (by rw [List.length_range]; omega)] at hi; cases hi
theorem Rw.ro (h : Rw sz H0 v rows) (ho : H0.Ok) (hH : Hs H (allL H0 ++ R)) : Rw sz H v rows := by
  cases h with
  | none hg => exact .none hg
  | mk hb hg hn hc h => exact .mk (Hs.ro ho hH hb) hg hn hc h
theorem take_put {c l vs : List AV} {o m q : Nat} (h : takeAt c o m = some l) (hq : q + vs.length ≤ m) : takeAt (putAt c (o + q) vs) o m = some (putAt l q vs) := by
  obtain ⟨h1, h2⟩ := takeAt_len h
  rw [takeAt_ok h2] at h
  simp only [Option.some.injEq] at h
  obtain ⟨P, S, rfl, hP⟩ : ∃ P S, c = P ++ (l ++ S) ∧ P.length = o := ⟨c.take o, c.drop (o + m), by rw [← h, ← List.drop_drop, List.take_append_drop, List.take_append_drop], by rw [List.length_take]; omega⟩
  subst hP
  rw [putAt_eq _ _ _ (by omega), putAt_eq _ _ _ (by omega)]
  have e1 : (P ++ (l ++ S)).take (P.length + q) = P ++ l.take q := by rw [List.take_append, List.take_of_length_le (by omega), show P.length + q - P.length = q by omega, List.take_append_of_le_length (by omega)]
  have e2 : (P ++ (l ++ S)).drop (P.length + q + vs.length) = l.drop (q + vs.length) ++ S := by rw [List.drop_append, List.drop_of_length_le (by omega), List.nil_append, show P.length + q + vs.length - P.length = q + vs.length by omega, List.drop_append_of_le_length (by omega)]
  rw [e1, e2]
  have e3 : P ++ l.take q ++ vs ++ (l.drop (q + vs.length) ++ S) = P ++ ((l.take q ++ vs ++ l.drop (q + vs.length)) ++ S) := by simp only [List.append_assoc]
  have e4 : (l.take q ++ vs ++ l.drop (q + vs.length)).length = m := by simp; omega
  rw [e3, takeAt_ok (by rw [List.length_append, List.length_append, e4]; omega), List.drop_left, ← e4, List.take_left]
/-- A record of a slice that is written. -/
theorem Sq.cell (h : Sq sz v c rows.flatten) (hr : ∀ r ∈ rows, r.length = sz) (hH : Hs H (qseg v c ++ R)) (hx : x.ev T = v) (hi : j.ev T = .i k ((i : Nat) : Int)) (hrow : rows[i]? = some r) (hsz : 0 < sz) : ∃ w, (XOp.isl sz x j).run cf T H = some (w, H) ∧ ∃ b o, w = .p (some (b, o)) ∧ H.get b = some (.cells c true) ∧ takeAt c o sz = some r ∧ o + sz ≤ c.length ∧ (∀ q vs r', q + vs.length ≤ sz → putAt r q vs = r' → Sq sz v (putAt c (o + q) vs) (rows.set i r').flatten) ∧ ∀ c', qseg v c' = [(b, some (.cells c' true))] := by
  have hfl := flat_len hr
  have hlt := (List.getElem?_eq_some_iff.1 hrow).1
  have hrl := hr r (List.mem_of_getElem? hrow)
  generalize hl : rows.flatten = l at h hfl
  cases h with
  | nil =>
    have : rows.length * sz = 0 := by simpa using hfl.symm
    rcases Nat.mul_eq_zero.1 this with h | h <;> omega
  | @mk b o n cap g c l hg hl' hn hc =>
    have e : rows.length = n := Nat.eq_of_mul_eq_mul_right hsz (hfl.symm.trans (takeAt_len hl').1)
    subst hl
    have htk : takeAt rows.flatten (i * sz) sz = some r := by
      rw [rows_foc hrow]
      have := foc_take (sz := sz) (n := sz) (j := 0) hr hlt hrl (by omega)
      rw [Nat.add_zero] at this
      rw [this, takeAt_ok (by omega), List.drop_zero, List.take_of_length_le (by omega)]
    have htc := rec_take hl' htk
    refine ⟨_, r_isl hx hi (by omega) (by omega), b, o + ((i : Nat) : Int).toNat * sz, rfl, hH.get, by rw [Int.toNat_natCast]; exact htc, by rw [Int.toNat_natCast]; exact (takeAt_len htc).2, fun q vs r' hq hp => ?_, fun c' => rfl⟩
    have hin : i * sz + sz ≤ n * sz := by
      have : (i + 1) * sz ≤ n * sz := Nat.mul_le_mul_right sz (by omega)
      rw [Nat.add_mul, Nat.one_mul] at this; exact this
    rw [Int.toNat_natCast, Nat.add_assoc]
    have hput : putAt rows.flatten (i * sz + q) vs = (rows.set i r').flatten := by
      have := foc_put (j := q) hr hlt hrl hq hp
      rw [← rows_foc hrow] at this
      exact this
    refine .mk hg (hput ▸ take_put hl' (by omega)) hn ?_
    have h2 := (takeAt_len hl').2
    have h3 : n * sz ≤ cap * sz := Nat.mul_le_mul_right sz hn
    rw [putAt_eq _ _ _ (by omega)]; simp; omega
/-! ### Octets that are read in many heaps: parts of them -/
theorem sb_lo' {kd : IntKind} {i len cap : Nat} (h1 : i ≤ len) : sbounds len cap (some (.i kd (i : Int))) none none = some (i, len, cap) := by rw [sb_lo (by omega) (by omega)]; rfl
theorem sb_hi' {kd : IntKind} {i len cap : Nat} (h1 : i ≤ cap) : sbounds len cap none (some (.i kd (i : Int))) none = some (0, i, cap) := by rw [sb_hi (by omega) (by omega)]; rfl
theorem r_minn {a b : Nat} (hx : x.ev T = .i .i64 ((a : Nat) : Int)) (hy : j.ev T = .i .i64 ((b : Nat) : Int)) : (XOp.mnmx false [x, j]).run cf T H = some (.i .i64 ((min a b : Nat) : Int), H) := by
  have e : pmnmx false (.i .i64 ((a : Nat) : Int)) (.i .i64 ((b : Nat) : Int)) = some (.i .i64 ((min a b : Nat) : Int)) := by
    simp only [pmnmx, if_true, Bool.false_eq_true, if_false]
    congr 2
    split <;> omega
  simp only [XOp.run, XOp.look, List.foldl_cons, List.foldl_nil, hx, hy, e, Option.map_some]
end
end Go.Proofs.Ytjheedfobmlalaa.E
