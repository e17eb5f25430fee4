/- Octets put behind others, in a walk: made, copied, appended in place; numbers as octets. It bears no condition. -/
import Derived.Test.YtjheedfobmlalaaE31
namespace Go.Proofs.Ytjheedfobmlalaa.E
set_option linter.unusedVariables false
set_option linter.unusedSimpArgs false

theorem repl_bytes : ∀ c : Nat, repl c [.i .u8 0] = bcells (List.replicate c 0)
  | 0 => rfl
  | c + 1 => by simp only [repl, repl_bytes c, List.replicate_succ]; rfl
theorem putAt_len : ∀ (vs c : List AV) (o : Nat), (putAt c o vs).length = c.length
  | [], c, o => by cases c <;> rfl
  | v :: vs, [], o => by simp only [putAt, List.set_nil]; exact putAt_len vs [] (o + 1)
  | v :: vs, x :: c, o => by simp only [putAt]; rw [putAt_len vs _ _, List.length_set]
theorem putAt_cons (c : List AV) (o : Nat) (v : AV) (vs : List AV) : putAt c o (v :: vs) = putAt (c.set o v) (o + 1) vs := by cases c <;> rfl
theorem putAt_eq : ∀ (vs c : List AV) (o : Nat), o + vs.length ≤ c.length → putAt c o vs = c.take o ++ vs ++ c.drop (o + vs.length)
  | [], c, o, h => by rw [putAt_nil]; simp
  | v :: vs, c, o, h => by
    simp only [List.length_cons] at h
    rw [putAt_cons, putAt_eq vs _ (o + 1) (by rw [List.length_set]; omega)]
    have e1 : (c.set o v).take (o + 1) = c.take o ++ [v] := by
      rw [List.take_succ_eq_append_getElem (by rw [List.length_set]; omega), List.getElem_set_self, List.take_set, List.set_eq_of_length_le (by rw [List.length_take]; omega)]
    have e2 : (c.set o v).drop (o + 1 + vs.length) = c.drop (o + (v :: vs).length) := by
      rw [List.drop_set_of_lt (by omega), List.length_cons]; congr 1; omega
    rw [e1, e2]; simp
section
variable {tab : Nat → Option XFun} {sp : Nat → List AV → AH → Option (AV × AH)} {T : Tm} {H : AH} {R : Tm → AH → Prop}
theorem O_mkb {d : Nat} {x y : XO} {n c : Nat} {k k' : IntKind} {ix : Nat} {bef : List Nat} {l : List XOper} (hx : x.ev T = .i k n) (hy : y.ev T = .i k' c) (h : n ≤ c) (hc : c < 1073741824) (q : ∀ m H', New H m (.cells (bcells (List.replicate c 0)) true) H' → O tab sp l ((d, .sl (some (m, 0)) n c 0) :: T) H' R) :
    O tab sp (⟨some d, .mkslice [.i .u8 0] 1 x y, none, ix, bef⟩ :: l) T H R := by
  have h1 : (0 : Int) ≤ (n : Int) ∧ (n : Int) ≤ (c : Int) ∧ (c : Int) * ((1 : Nat) : Int) ≤ 1073741824 ∧ (c : Int) < 1073741824 := by omega
  refine O_s (v := .sl (some (H.next, 0)) n c 0) (H' := H.alloc (.cells (bcells (List.replicate c 0)) true)) ?_ (q _ _ ⟨rfl, rfl, AH.alloc_new _ _, fun m h => by rw [AH.get_alloc, if_neg (Ne.symm h)]⟩)
  simp only [XOp.run, XOp.make, hx, hy, if_pos h1, Int.toNat_natCast, repl_bytes]
theorem O_copy {d : Nat} {x y : XO} {m cap g : Nat} {cs : List AV} {v : AV} {lb : List UInt8} {ix : Nat} {bef : List Nat} {l : List XOper} (hx : x.ev T = .sl (some (m, 0)) lb.length cap g) (hm : H.get m = some (.cells cs true)) (hl : lb.length ≤ cs.length) (hy : y.ev T = v) (hb : Bs H v lb)
    (q : ∀ H', Wr H m (.cells (putAt cs 0 (bcells lb)) true) H' → O tab sp l ((d, .i .i64 lb.length) :: T) H' R) : O tab sp (⟨some d, .copy 1 x y, none, ix, bef⟩ :: l) T H R := by
  have hmin : Nat.min lb.length lb.length = lb.length := Nat.min_self _
  by_cases h0 : bcells lb = []
  · refine O_s (v := .i .i64 lb.length) (H' := H) ?_ (q H ⟨rfl, by rw [h0, putAt_nil]; exact hm, fun _ _ => rfl⟩)
    simp only [XOp.run, XOp.turn, hx, hy, hb.len, hmin, hb.src, AH.write, h0, if_true, Option.map_some]
  · have h1 : 0 + (bcells lb).length ≤ cs.length := by rw [bcells_len]; omega
    refine O_s (v := .i .i64 lb.length) (H' := H.set m (.cells (putAt cs 0 (bcells lb)) true)) ?_ (q _ ⟨rfl, AH.set_same _ _ _, fun n h => AH.set_other _ _ (Ne.symm h)⟩)
    simp only [XOp.run, XOp.turn, hx, hy, hb.len, hmin, hb.src, AH.write, if_neg h0, hm, if_pos h1, Option.map_some]
theorem O_appin {d : Nat} {x y : XO} {m len cap : Nat} {cs : List AV} {v : AV} {lb : List UInt8} {ix : Nat} {bef : List Nat} {l : List XOper} (hx : x.ev T = .sl (some (m, 0)) len cap 0) (hm : H.get m = some (.cells cs true)) (hl : len + lb.length ≤ cap) (hcs : cs.length = cap) (hy : y.ev T = v) (hb : Bs H v lb)
    (q : ∀ H', Wr H m (.cells (putAt cs len (bcells lb)) true) H' → O tab sp l ((d, .sl (some (m, 0)) (len + lb.length) cap 0) :: T) H' R) : O tab sp (⟨some d, .append 1 1 x y, none, ix, bef⟩ :: l) T H R := by
  by_cases h0 : bcells lb = []
  · refine O_s (v := .sl (some (m, 0)) (len + lb.length) cap 0) (H' := H) ?_ (q H ⟨rfl, by rw [h0, putAt_nil]; exact hm, fun _ _ => rfl⟩)
    simp only [XOp.run, XOp.turn, hx, hy, hb.len, hb.src, if_pos hl, AH.write, h0, if_true, Option.map_some]
  · have h1 : len + (bcells lb).length ≤ cs.length := by rw [bcells_len]; omega
    have e : 0 + len * 1 = len := by omega
    refine O_s (v := .sl (some (m, 0)) (len + lb.length) cap 0) (H' := H.set m (.cells (putAt cs len (bcells lb)) true)) ?_ (q _ ⟨rfl, AH.set_same _ _ _, fun n h => AH.set_other _ _ (Ne.symm h)⟩)
    simp only [XOp.run, XOp.turn, hx, hy, hb.len, hb.src, if_pos hl, AH.write, if_neg h0, e, hm, if_pos h1, Option.map_some]
end
theorem put2 (lb ll : List UInt8) : putAt (putAt (bcells (List.replicate (lb.length + ll.length) 0)) 0 (bcells lb)) lb.length (bcells ll) = bcells (lb ++ ll) := by
  have h1 : 0 + (bcells lb).length ≤ (bcells (List.replicate (lb.length + ll.length) 0)).length := by simp [bcells_len]
  have e1 : putAt (bcells (List.replicate (lb.length + ll.length) 0)) 0 (bcells lb) = bcells (lb ++ List.replicate ll.length 0) := by
    rw [putAt_eq _ _ _ h1, List.take_zero, List.nil_append, bcells_len, bcells_drop, bcells_append, Nat.zero_add, List.drop_replicate, Nat.add_sub_cancel_left]
  rw [e1, putAt_eq _ _ _ (by simp [bcells_len])]
  rw [bcells_take, bcells_drop, bcells_len, bcells_append, bcells_append, List.take_left, List.drop_of_length_le (by simp), List.append_nil]

/-- An octet of a number. -/
def u8 (n : Int) : UInt8 := UInt8.ofNat (n % 256).toNat
theorem u8_wrap (n : Int) : IntKind.u8.wrap n = ((u8 n).toNat : Int) := by
  rw [wrap_u8]; unfold u8
  rw [UInt8.toNat_ofNat']
  omega
theorem u8_of {n : Int} (h0 : 0 ≤ n) (h1 : n < 256) : ((u8 n).toNat : Int) = n := by
  rw [← u8_wrap, wrap_u8]; omega
theorem u8_nat (y : UInt8) : u8 (y.toNat : Int) = y := by
  unfold u8
  have h1 := y.toNat_lt
  rw [show ((y.toNat : Int) % 256).toNat = y.toNat by omega]; simp
theorem bc_nil : ([] : List AV) = bcells [] := rfl
theorem bc_cons {e : Int} {u : UInt8} {cs : List AV} {l : List UInt8} (h : e = (u.toNat : Int)) (k : cs = bcells l) : AV.i .u8 e :: cs = bcells (u :: l) := by rw [h, k]; rfl
theorem Bs.own {H : AH} {n k : Nat} {cs : List AV} {mu : Bool} {l : List UInt8} (hb : H.get n = some (.cells cs mu)) (h : cs = bcells l) (hk : l.length = k) : Bs H (.sl (some (n, 0)) k k 0) l := by
  subst hk
  exact .mk hb (by rw [h, takeAt_ok (by rw [bcells_len]; omega), List.drop_zero, List.take_of_length_le (by rw [bcells_len]; exact Nat.le_refl _)])
/-- Numbers as octets, the first one the highest. -/
def beN (v : Int) : Nat → List UInt8
  | 0 => []
  | n + 1 => u8 (v.fdiv (2 ^ (8 * n))) :: beN v n
theorem beN_len (v : Int) : ∀ n, (beN v n).length = n
  | 0 => rfl
  | n + 1 => by rw [beN, List.length_cons, beN_len v n]
theorem beN_get (v : Int) : ∀ (n i : Nat), i < n → (beN v n)[n - (i + 1)]? = some (u8 (v.fdiv (2 ^ (8 * i))))
  | 0, i, h => by omega
  | n + 1, i, h => by
    by_cases e : i = n
    · subst e
      rw [show i + 1 - (i + 1) = 0 by omega]; rfl
    · rw [show n + 1 - (i + 1) = (n - (i + 1)) + 1 by omega, beN, List.getElem?_cons_succ, beN_get v n i (by omega)]
theorem beN_take (v : Int) {n i : Nat} (h : i < n) : (beN v n).take (n - i) = (beN v n).take (n - (i + 1)) ++ [u8 (v.fdiv (2 ^ (8 * i)))] := by
  have h1 := beN_get v n i h
  obtain ⟨h2, h3⟩ := List.getElem?_eq_some_iff.1 h1
  rw [show n - i = (n - (i + 1)) + 1 by omega, List.take_succ_eq_append_getElem h2, h3]
theorem put_step {N : Nat} {H : AH} {o : AV} {lb : List UInt8} {v : Int} {n i : Nat} (h : Mine N 1 H o (bcells (lb ++ (beN v n).take (n - (i + 1))) ++ [.i .u8 (IntKind.u8.wrap (Int.fdiv v (2 ^ (8 * i))))])) (hi : i < n) : Mine N 1 H o (bcells (lb ++ (beN v n).take (n - i))) := by
  rw [beN_take v hi, ← List.append_assoc, ← bcells_append]
  rw [u8_wrap] at h; exact h
theorem r_shr32 {T : Tm} {H : AH} {c : CallF} {x y : XO} {v : Int} {i : Nat} (hx : x.ev T = .i .u32 v) (hy : y.ev T = .i .u64 (IntKind.u64.wrap (8 * (i : Int)))) (h : i ≤ 3) : (XOp.bin .shr x y).run c T H = some (.i .u32 (Int.fdiv v (2 ^ (8 * i))), H) :=
  r_bin hx hy (by
    have e : IntKind.u64.wrap (8 * (i : Int)) = ((8 * i : Nat) : Int) := by rw [wrap_u64]; omega
    have e2 : ¬ ((8 * i : Nat) : Int) < 0 := by omega
    have e3 : min (((8 * i : Nat) : Int)).toNat (IntKind.bits .u32) = 8 * i := by simp [IntKind.bits]; omega
    simp only [pbin, e, if_neg e2, e3])
/-- What octets tell, the first one the highest. -/
def num (l : List UInt8) : Int := l.foldl (fun v x => v * 256 + (x.toNat : Int)) 0
theorem num_nil : num [] = 0 := rfl
theorem num_snoc (l : List UInt8) (x : UInt8) : num (l ++ [x]) = num l * 256 + (x.toNat : Int) := by simp [num]
theorem num_take {l : List UInt8} {n : Nat} (h : n < l.length) : num (l.take (n + 1)) = num (l.take n) * 256 + ((l.getD n 0).toNat : Int) := by
  have e : l.take (n + 1) = l.take n ++ [l.getD n 0] := by
    rw [List.take_succ_eq_append_getElem h, List.getD_eq_getElem?_getD, List.getElem?_eq_getElem h]; rfl
  rw [e, num_snoc]
theorem num_bound (l : List UInt8) : ∀ n, n ≤ l.length → 0 ≤ num (l.take n) ∧ num (l.take n) < 256 ^ n
  | 0, _ => by rw [List.take_zero, num_nil]; decide
  | n + 1, h => by
    obtain ⟨h1, h2⟩ := num_bound l n (by omega)
    have h3 : (l.getD n 0).toNat < 256 := (l.getD n 0).toNat_lt
    rw [num_take (by omega), Int.pow_succ]
    omega
theorem get_step {l : List UInt8} {i : Nat} (h : i < l.length) (h3 : i ≤ 3) : AV.i .u32 (IntKind.u32.wrap ((BitVec.ofInt 32 (IntKind.u32.wrap (num (l.take i) * 2 ^ 8)) ||| BitVec.ofInt 32 (IntKind.u32.wrap ((l.getD i 0).toNat : Int))).toNat : Int)) = .i .u32 (num (l.take (i + 1))) := by
  obtain ⟨h1, h2⟩ := num_bound l i (by omega)
  have h4 : (l.getD i 0).toNat < 256 := (l.getD i 0).toNat_lt
  rw [num_take h]
  generalize (l.getD i 0).toNat = y at h4 ⊢
  obtain ⟨A, hA⟩ := Int.eq_ofNat_of_zero_le h1
  have e3 : (256 : Int) ^ i = ((256 ^ i : Nat) : Int) := by simp
  rw [hA, e3] at h2
  have h5 : 256 ^ i ≤ 256 ^ 3 := Nat.pow_le_pow_right (by decide) h3
  have h6 : A < 16777216 := by omega
  rw [hA]
  have e1 : IntKind.u32.wrap ((A : Int) * 2 ^ 8) = ((A * 2 ^ 8 : Nat) : Int) := by rw [wrap_u32]; omega
  have e2 : IntKind.u32.wrap (y : Int) = (y : Int) := by rw [wrap_u32]; omega
  rw [e1, e2, BitVec.ofInt_natCast, BitVec.ofInt_natCast, BitVec.toNat_or, BitVec.toNat_ofNat, BitVec.toNat_ofNat, Nat.mod_eq_of_lt (by omega), Nat.mod_eq_of_lt (by omega), Nat.or_comm, lor_add (by omega), wrap_u32]
  congr 1
  omega
theorem Bs.nilof {H : AH} {len cap g : Nat} {l : List UInt8} (h : Bs H (.sl Option.none len cap g) l) : l = [] := by
  cases h <;> rfl
/-- Over a heap in which one block has been turned. -/
structure But (n : Nat) (H H' : AH) : Prop where
  next : H.next ≤ H'.next
  keep : ∀ m, m < H.next → m ≠ n → H'.get m = H.get m
  ok : H'.Ok
theorem Old.but {N n : Nat} {H0 H H' : AH} (h : Old N H0 H) (k : But n H H') (hn : N ≤ n) : Old N H0 H' :=
  ⟨Nat.le_trans h.next k.next, fun m hm => by rw [k.keep m (Nat.lt_of_lt_of_le hm h.next) (by omega), h.keep m hm], k.ok⟩
end Go.Proofs.Ytjheedfobmlalaa.E
