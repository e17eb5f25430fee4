/- Octets put behind others, in a walk: made, copied, appended in place; numbers as octets. It bears no condition. -/
import Derived.Test.YtjheedfobmlalaaE31
namespace Go.Proofs.Ytjheedfobmlalaa.E
set_option linter.unusedVariables false
set_option linter.unusedSimpArgs false

theorem putAt_len : ∀ (vs c : List AV) (o : Nat), (putAt c o vs).length = c.length
  | [], c, o => by cases c <;> rfl
  | v :: vs, [], o => by simp only [putAt, List.set_nil]; exact putAt_len vs [] (o + 1)
  | v :: vs, x :: c, o => by simp only [putAt]; rw [putAt_len vs _ _, List.length_set]
theorem putAt_cons (c : List AV) (o : Nat) (v : AV) (vs : List AV) : putAt c o (v :: vs) = putAt (c.set o v) (o + 1) vs := by cases c <;> rfl
theorem putAt_eq : ∀ (vs c : List AV) (o : Nat), o + vs.length ≤ c.length → putAt c o vs = c.take o ++ vs ++ c.drop (o + vs.length)
  | [], c, o, h => by rw [putAt_nil]; simp
  | v :: vs, c, o, h => by
    simp only [List.length_cons] at h
    rw [putAt_cons, putAt_eq vs _ (o + 1) (by rw [List.length_set]; omega)]
    have e1 : (c.set o v).take (o + 1) = c.take o ++ [v] := by
      rw [List.take_succ_eq_append_getElem (by rw [List.length_set]; omega), List.getElem_set_self, List.take_set, List.set_eq_of_length_le (by rw [List.length_take]; omega)]
    have e2 : (c.set o v).drop (o + 1 + vs.length) = c.drop (o + (v :: vs).length) := by
      rw [List.drop_set_of_lt (by omega), List.length_cons]; congr 1; omega
    rw [e1, e2]; simp
section
variable {tab : Nat → Option XFun} {sp : Nat → List AV → AH → Option (AV × AH)} {T : Tm} {H : AH} {R : Tm → AH → Prop}
end
/-- An octet of a number. -/
def u8 (n : Int) : UInt8 := UInt8.ofNat (n % 256).toNat
theorem Bs.own {H : AH} {n k : Nat} {cs : List AV} {mu : Bool} {l : List UInt8} (hb : H.get n = some (.cells cs mu)) (h : cs = bcells l) (hk : l.length = k) : Bs H (.sl (some (n, 0)) k k 0) l := by
  subst hk
  exact .mk hb (by rw [h, takeAt_ok (by rw [bcells_len]; omega), List.drop_zero, List.take_of_length_le (by rw [bcells_len]; exact Nat.le_refl _)])
/-- Numbers as octets, the first one the highest. -/
def beN (v : Int) : Nat → List UInt8
  | 0 => []
  | n + 1 => u8 (v.fdiv (2 ^ (8 * n))) :: beN v n
theorem beN_len (v : Int) : ∀ n, (beN v n).length = n
  | 0 => rfl
  | n + 1 => by rw [beN, List.length_cons, beN_len v n]
/-- What octets tell, the first one the highest. -/
def num (l : List UInt8) : Int := l.foldl (fun v x => v * 256 + (x.toNat : Int)) 0
/-- Over a heap in which one block has been turned. -/
structure But (n : Nat) (H H' : AH) : Prop where
  next : H.next ≤ H'.next
  keep : ∀ m, m < H.next → m ≠ n → H'.get m = H.get m
  ok : H'.Ok
theorem Old.but {N n : Nat} {H0 H H' : AH} (h : Old N H0 H) (k : But n H H') (hn : N ≤ n) : Old N H0 H' :=
  ⟨Nat.le_trans h.next k.next, fun m hm => by rw [k.keep m (Nat.lt_of_lt_of_le hm h.next) (by omega), h.keep m hm], k.ok⟩
end Go.Proofs.Ytjheedfobmlalaa.E
