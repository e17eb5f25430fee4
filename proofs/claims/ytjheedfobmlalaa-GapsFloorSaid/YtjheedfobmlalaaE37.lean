/- Own octets in a block that is known by name; small laws on numbers. It bears no condition. -/
import Derived.Test.YtjheedfobmlalaaE36
namespace Go.Proofs.Ytjheedfobmlalaa.E
set_option linter.unusedVariables false
set_option linter.unusedSimpArgs false
theorem Mine.but {N sz : Nat} {H H' : AH} {v : AV} {l : List AV} {n : Nat} (h : Mine N sz H v l) (k : But n H H') (hn : ¬ v.nameOf n) : Mine N sz H' v l :=
  ⟨h.own.frame k.next fun q hq hv => k.keep q hq (by rintro rfl; exact hn hv), h.new⟩
theorem App.but {N sz n : Nat} {H H' : AH} {l : List AV} {v' : AV} {o len cap g : Nat} (h : App N sz (.sl (some (n, o)) len cap g) H l v' H') : But n H H' :=
  ⟨h.2.1, fun m hm hmn => h.2.2.1 m hm (fun hq => hmn (nameOf_sl.1 hq)), h.2.2.2.1⟩
/-- A fresh own slice's block. -/
theorem Mine.blk {N sz : Nat} {H : AH} {v : AV} {l : List AV} (h : Mine N sz H v l) (h0 : l ≠ []) : ∃ b n g, v = .sl (some (b, 0)) n n g ∧ (g = 0 ∨ g = sz) ∧ l.length = n * sz ∧ H.get b = some (.cells l true) ∧ N ≤ b ∧ b < H.next := by
  obtain ⟨h, hn⟩ := h
  cases h with
  | nil => exact absurd rfl h0
  | @mk b n g _ hb hlt hg hl => exact ⟨b, n, g, rfl, hg, hl, hb, hn b (nameOf_sl.2 rfl), hlt⟩
theorem Bs.blk {H : AH} {b n g : Nat} {mu : Bool} {l : List UInt8} (hb : H.get b = some (.cells (bcells l) mu)) (hl : l.length = n) : Bs H (.sl (some (b, 0)) n n g) l := by
  subst hl
  have h : 0 + l.length ≤ (bcells l).length := by rw [bcells_len]; omega
  have h2 : (bcells l).length ≤ l.length := by rw [bcells_len]; omega
  exact .mk hb (by rw [takeAt_ok h, List.drop_zero, List.take_of_length_le h2])
theorem bcells_ne {l : List UInt8} (h : 0 < l.length) : bcells l ≠ [] := by intro hq; have := congrArg List.length hq; rw [bcells_len, List.length_nil] at this; omega
theorem putAt_set {l : List UInt8} {i : Nat} {e : Int} {u : UInt8} (he : e = (u.toNat : Int)) : putAt (bcells l) i [.i .u8 e] = bcells (l.set i u) := by
  rw [putAt_cons, putAt_nil, he]; unfold bcells; rw [List.map_set]
theorem bcells_at {l : List UInt8} {i : Nat} (h : i < l.length) : (bcells l)[i]? = some (.i .u8 ((l.getD i 0).toNat : Int)) := by
  rw [bcells_get, List.getD_eq_getElem?_getD, List.getElem?_eq_getElem h]; rfl
theorem bcells_lt {l : List UInt8} {i : Nat} (h : i < l.length) : i + 1 ≤ (bcells l).length := by rw [bcells_len]; exact h
section
variable {T : Tm} {H : AH} {c : CallF} {x j : XO}
theorem r_islo {k : IntKind} {b len cap g i : Nat} (hx : x.ev T = .sl (some (b, 0)) len cap g) (hi : j.ev T = .i k i) (h1 : i < len) : (XOp.isl 1 x j).run c T H = some (.p (some (b, i)), H) := by
  rw [r_isl hx hi (by omega) (by omega)]; simp
end
theorem and_mask {n : Nat} (a : Int) (m : Nat) (hn : m < 2 ^ n) : 0 ≤ ((BitVec.ofInt n a &&& BitVec.ofInt n (m : Int)).toNat : Int) ∧ ((BitVec.ofInt n a &&& BitVec.ofInt n (m : Int)).toNat : Int) ≤ m := by
  refine ⟨by omega, ?_⟩
  rw [BitVec.toNat_and]
  have h : (BitVec.ofInt n (m : Int)).toNat = m := by rw [BitVec.toNat_ofInt]; have : ((m : Int) % ((2 ^ n : Nat) : Int)) = (m : Int) := Int.emod_eq_of_lt (by omega) (by exact_mod_cast hn); rw [this]; rfl
  rw [h]
  have := Nat.and_le_right (n := (BitVec.ofInt n a).toNat) (m := m)
  omega
/-- A mask of an i64 is a natural number. -/
theorem and_nat (a : Int) (m : Nat) (hm : m < 9223372036854775808) : ∃ k : Nat, IntKind.i64.wrap ((BitVec.ofInt 64 a &&& BitVec.ofInt 64 (m : Int)).toNat : Int) = (k : Int) ∧ k ≤ m := by
  have h := and_mask (n := 64) a m (by omega)
  exact ⟨(BitVec.ofInt 64 a &&& BitVec.ofInt 64 (m : Int)).toNat, wrap_i64 (by omega) (by omega), by omega⟩
theorem num_cons (x : UInt8) (l : List UInt8) : num (x :: l) = (x.toNat : Int) * 256 ^ l.length + num l := by
  have acc : ∀ (l : List UInt8) (a : Int), l.foldl (fun v x => v * 256 + (x.toNat : Int)) a = a * 256 ^ l.length + num l := by
    intro l
    induction l with
    | nil => intro a; simp [num]
    | cons x l ih =>
      intro a
      simp only [List.foldl_cons, num, List.length_cons]
      rw [ih, ih (0 * 256 + (x.toNat : Int)), Int.zero_mul, Int.zero_add, Int.pow_succ, Int.add_mul, Int.mul_assoc, Int.mul_comm 256 (256 ^ l.length)]
      omega
  show (x :: l).foldl _ 0 = _
  rw [List.foldl_cons, acc, Int.zero_mul, Int.zero_add]
theorem num_inj : ∀ {a b : List UInt8}, a.length = b.length → num a = num b → a = b
  | [], [], _, _ => rfl
  | [], _ :: _, h, _ => by simp at h
  | _ :: _, [], h, _ => by simp at h
  | x :: a, y :: b, h, hn => by
    have hl : a.length = b.length := by simpa using h
    rw [num_cons, num_cons, hl] at hn
    have ha := num_bound a a.length (Nat.le_refl _)
    have hb := num_bound b b.length (Nat.le_refl _)
    rw [List.take_length] at ha hb
    rw [hl] at ha
    have hx := x.toNat_lt
    have hy := y.toNat_lt
    generalize hP : (256 : Int) ^ b.length = P at *
    have hP0 : 0 < P := by omega
    have hxy : (x.toNat : Int) = (y.toNat : Int) := by
      rcases Int.lt_trichotomy (x.toNat : Int) (y.toNat : Int) with h | h | h
      · have := Int.mul_le_mul_of_nonneg_right (show (x.toNat : Int) + 1 ≤ y.toNat by omega) (Int.le_of_lt hP0)
        rw [Int.add_mul, Int.one_mul] at this; omega
      · exact h
      · have := Int.mul_le_mul_of_nonneg_right (show (y.toNat : Int) + 1 ≤ x.toNat by omega) (Int.le_of_lt hP0)
        rw [Int.add_mul, Int.one_mul] at this; omega
    have e : x = y := by apply UInt8.toNat_inj.1; omega
    subst e
    rw [num_inj hl (by omega)]
theorem num_mono (l : List UInt8) {i j : Nat} (h : i ≤ j) (hj : j ≤ l.length) : num (l.take i) ≤ num (l.take j) := by
  induction j with
  | zero => have : i = 0 := by omega
            subst this; exact Int.le_refl _
  | succ j ih =>
    by_cases e : i = j + 1
    · subst e; exact Int.le_refl _
    · have := ih (by omega) (by omega)
      rw [num_take (by omega)]
      have hb := num_bound l j (by omega)
      omega
end Go.Proofs.Ytjheedfobmlalaa.E
