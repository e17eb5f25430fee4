/- Own octets in a block that is known by name; small laws on numbers. It bears no condition. -/
import Derived.Test.YtjheedfobmlalaaE36
namespace Go.Proofs.Ytjheedfobmlalaa.E
set_option linter.unusedVariables false
set_option linter.unusedSimpArgs false
theorem Mine.but {N sz : Nat} {H H' : AH} {v : AV} {l : List AV} {n : Nat} (h : Mine N sz H v l) (k : But n H H') (hn : ¬ v.nameOf n) : Mine N sz H' v l :=
  ⟨h.own.frame k.next fun q hq hv => k.keep q hq (by rintro rfl; exact hn hv), h.new⟩
theorem App.but {N sz n : Nat} {H H' : AH} {l : List AV} {v' : AV} {o len cap g : Nat} (h : App N sz (.sl (some (n, o)) len cap g) H l v' H') : But n H H' :=
  ⟨h.2.1, fun m hm hmn => h.2.2.1 m hm (fun hq => hmn (nameOf_sl.1 hq)), h.2.2.2.1⟩
/-- A fresh own slice's block. -/
theorem Mine.blk {N sz : Nat} {H : AH} {v : AV} {l : List AV} (h : Mine N sz H v l) (h0 : l ≠ []) : ∃ b n g, v = .sl (some (b, 0)) n n g ∧ (g = 0 ∨ g = sz) ∧ l.length = n * sz ∧ H.get b = some (.cells l true) ∧ N ≤ b ∧ b < H.next := by
  obtain ⟨h, hn⟩ := h
  cases h with
  | nil => exact absurd rfl h0
  | @mk b n g _ hb hlt hg hl => exact ⟨b, n, g, rfl, hg, hl, hb, hn b (nameOf_sl.2 rfl), hlt⟩
theorem Bs.blk {H : AH} {b n g : Nat} {mu : Bool} {l : List UInt8} (hb : H.get b = some (.cells (bcells l) mu)) (hl : l.length = n) : Bs H (.sl (some (b, 0)) n n g) l := by
  subst hl
  have h : 0 + l.length ≤ (bcells l).length := by rw [bcells_len]; omega
  have h2 : (bcells l).length ≤ l.length := by rw [bcells_len]; omega
  exact .mk hb (by rw [takeAt_ok h, List.drop_zero, List.take_of_length_le h2])
section
variable {T : Tm} {H : AH} {c : CallF} {x j : XO}
end
theorem and_mask {n : Nat} (a : Int) (m : Nat) (hn : m < 2 ^ n) : 0 ≤ ((BitVec.ofInt n a &&& BitVec.ofInt n (m : Int)).toNat : Int) ∧ ((BitVec.ofInt n a &&& BitVec.ofInt n (m : Int)).toNat : Int) ≤ m := by
  refine ⟨by omega, ?_⟩
  rw [BitVec.toNat_and]
  have h : (BitVec.ofInt n (m : Int)).toNat = m := by rw [BitVec.toNat_ofInt]; have : ((m : Int) % ((2 ^ n : Nat) : Int)) = (m : Int) := Int.emod_eq_of_lt (by omega) (by exact_mod_cast hn); rw [this]; rfl
  rw [h]
  have := Nat.and_le_right (n := (BitVec.ofInt n a).toNat) (m := m)
  omega
end Go.Proofs.Ytjheedfobmlalaa.E
