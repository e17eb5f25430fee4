/- SipUnturns, for every input, without conditions. -/
import Derived.Test.YtmkahjffhnfhjaaS
import Derived.Test.YtmkahjffhnfhjaaE29
import Derived.Test.YtmkahjffhnfhjaaRows
import Derived.ProofKit
import Derived.OpenShut
namespace Go.Proofs.Ytmkahjffhnfhjaa.E
open Go.RowKit (Below)
set_option linter.unusedVariables false
set_option linter.unusedSimpArgs false
theorem rl_rl (x : BitVec 64) (m n : Nat) (hm : 0 < m) (hn : 0 < n) (h : m + n = 64) : (x.rotateLeft m).rotateLeft n = x := by
  apply BitVec.eq_of_getLsbD_eq
  intro i hi
  simp only [BitVec.getLsbD_rotateLeft]
  have e1 : n % 64 = n := by omega
  have e2 : m % 64 = m := by omega
  simp only [e1, e2]
  by_cases h1 : i < n
  · simp only [h1, decide_true, cond_true]
    have h2 : ¬ (64 - n + i < m) := by omega
    simp only [h2, decide_false, cond_false]
    have h3 : 64 - n + i < 64 := by omega
    have h4 : 64 - n + i - m = i := by omega
    simp [h3, h4]
  · simp only [h1, decide_false, cond_false]
    have h2 : i - n < m := by omega
    simp only [h2, decide_true, cond_true]
    have h4 : 64 - m + (i - n) = i := by omega
    simp [hi, h4]
def bv (x : Int) : BitVec 64 := BitVec.ofInt 64 x
theorem bv_mod (z : Int) : bv (z % 18446744073709551616) = bv z := by
  unfold bv; apply BitVec.eq_of_toNat_eq; simp [BitVec.toNat_ofInt]
theorem bv_add (x y : Int) : bv (addI x y) = bv x + bv y := by
  unfold addI; rw [wrap_u64, bv_mod]; unfold bv; exact BitVec.ofInt_add ..
theorem bv_sub (x y : Int) : bv (IntKind.u64.wrap (x - y)) = bv x - bv y := by
  rw [wrap_u64, bv_mod]; unfold bv; rw [Int.sub_eq_add_neg, BitVec.ofInt_add, BitVec.ofInt_neg, BitVec.sub_eq_add_neg]
theorem wrap_nat (b : BitVec 64) : IntKind.u64.wrap (b.toNat : Int) = b.toNat := by rw [wrap_u64]; have := b.isLt; omega
theorem bv_nat (b : BitVec 64) : bv (b.toNat : Int) = b := by unfold bv; simp
theorem bv_xor (x y : Int) : bv (xorI x y) = bv x ^^^ bv y := by unfold xorI; rw [wrap_nat, bv_nat]; rfl
theorem bv_or (x y : Int) : bv (orI x y) = bv x ||| bv y := by unfold orI; rw [wrap_nat, bv_nat]; rfl
theorem bv_shl (x : Int) (n : Nat) : bv (IntKind.u64.wrap (x * 2 ^ n)) = bv x <<< n := by
  rw [wrap_u64, bv_mod]; unfold bv
  rw [BitVec.ofInt_mul, BitVec.shiftLeft_eq_mul_twoPow]
  congr 1
  apply BitVec.eq_of_toNat_eq
  rw [BitVec.toNat_twoPow, show ((2 : Int) ^ n) = ((2 ^ n : Nat) : Int) by simp, BitVec.ofInt_natCast, BitVec.toNat_ofNat]
theorem bv_shr (x : Int) (n : Nat) (h0 : 0 ≤ x) (h1 : x < 18446744073709551616) : bv (x.fdiv (2 ^ n)) = bv x >>> n := by
  apply BitVec.eq_of_toNat_eq
  have e : ((2 : Int) ^ n) = ((2 ^ n : Nat) : Int) := by simp
  have hp : 0 < 2 ^ n := Nat.two_pow_pos n
  obtain ⟨y, rfl⟩ := Int.eq_ofNat_of_zero_le h0
  rw [Int.fdiv_eq_ediv_of_nonneg _ (by rw [e]; omega), e, ← Int.natCast_ediv]
  unfold bv
  rw [BitVec.ofInt_natCast, BitVec.ofInt_natCast, BitVec.toNat_ushiftRight, BitVec.toNat_ofNat, BitVec.toNat_ofNat, Nat.shiftRight_eq_div_pow, Nat.mod_eq_of_lt (a := y) (by omega), Nat.mod_eq_of_lt]
  exact Nat.lt_of_le_of_lt (Nat.div_le_self _ _) (by omega)
def In64 (x : Int) : Prop := 0 ≤ x ∧ x < 18446744073709551616
theorem in_wrap (x : Int) : In64 (IntKind.u64.wrap x) := by unfold In64; rw [wrap_u64]; omega
theorem in_xor (x y : Int) : In64 (xorI x y) := in_wrap _
theorem in_or (x y : Int) : In64 (orI x y) := in_wrap _
theorem in_add (x y : Int) : In64 (addI x y) := in_wrap _
theorem in_rot (x : Int) (n : Nat) : In64 (rotI x n) := in_wrap _
theorem bv_inj {x y : Int} (hx : In64 x) (hy : In64 y) (h : bv x = bv y) : x = y := by
  have := congrArg BitVec.toNat h
  obtain ⟨a, rfl⟩ := Int.eq_ofNat_of_zero_le hx.1
  obtain ⟨b, rfl⟩ := Int.eq_ofNat_of_zero_le hy.1
  have h1 := hx.2
  have h2 := hy.2
  unfold bv at this
  rw [BitVec.ofInt_natCast, BitVec.ofInt_natCast, BitVec.toNat_ofNat, BitVec.toNat_ofNat, Nat.mod_eq_of_lt (by omega), Nat.mod_eq_of_lt (by omega)] at this
  omega
theorem rot_bits (x : BitVec 64) (n : Nat) (h0 : 0 < n) (h1 : n < 64) : x <<< n ||| x >>> (64 - n) = x.rotateLeft n := by
  rw [BitVec.rotateLeft_def, Nat.mod_eq_of_lt h1]
theorem bv_rot {x : Int} (hx : In64 x) {n : Nat} (h0 : 0 < n) (h1 : n < 64) : bv (rotI x n) = (bv x).rotateLeft n := by
  unfold rotI; rw [bv_or, bv_shl, bv_shr _ _ hx.1 hx.2, rot_bits _ _ h0 h1]
/-- The same turn, as shifts the other way round. -/
theorem bv_ror {x : Int} (hx : In64 x) {n m : Nat} (h0 : 0 < n) (h1 : n < 64) (h : m + n = 64) : bv (orI (x.fdiv (2 ^ m)) (IntKind.u64.wrap (x * 2 ^ n))) = (bv x).rotateLeft n := by
  rw [bv_or, bv_shl, bv_shr _ _ hx.1 hx.2, BitVec.or_comm, show m = 64 - n by omega, rot_bits _ _ h0 h1]
def subI (x y : Int) : Int := IntKind.u64.wrap (x - y)
theorem bv_subI (x y : Int) : bv (subI x y) = bv x - bv y := bv_sub x y
theorem in_sub (x y : Int) : In64 (subI x y) := in_wrap _
theorem wf64 {x : Int} (h : (Lit.int .u64 x).wf = true) : In64 x := by
  simp [Lit.wf, IntKind.wrap, IntKind.signed, IntKind.bits, IntKind.min, IntKind.max] at h; unfold In64; omega
theorem unturn {a b c d x7 x8 x9 x10 x11 x12 x13 x14 x15 x16 x17 x18 x19 x20 : Int} (wa : In64 a) (wb : In64 b) (wc : In64 c) (wd : In64 d) (hx7 : x7 = (orI (Int.fdiv ((rnd a b c d).2.2.1) (2 ^ 32)) (IntKind.u64.wrap ((rnd a b c d).2.2.1 * 2 ^ 32)))) (hx8 : x8 = (xorI ((rnd a b c d).2.1) x7)) (hx9 : x9 = (orI (Int.fdiv x8 (2 ^ 17)) (IntKind.u64.wrap (x8 * 2 ^ 47)))) (hx10 : x10 = (subI x7 x9)) (hx11 : x11 = (xorI ((rnd a b c d).2.2.2) ((rnd a b c d).1))) (hx12 : x12 = (orI (Int.fdiv x11 (2 ^ 21)) (IntKind.u64.wrap (x11 * 2 ^ 43)))) (hx13 : x13 = (subI ((rnd a b c d).1) x12)) (hx14 : x14 = (xorI x12 x10)) (hx15 : x15 = (orI (Int.fdiv x14 (2 ^ 16)) (IntKind.u64.wrap (x14 * 2 ^ 48)))) (hx16 : x16 = (subI x10 x15)) (hx17 : x17 = (orI (Int.fdiv x13 (2 ^ 32)) (IntKind.u64.wrap (x13 * 2 ^ 32)))) (hx18 : x18 = (xorI x9 x17)) (hx19 : x19 = (orI (Int.fdiv x18 (2 ^ 13)) (IntKind.u64.wrap (x18 * 2 ^ 51)))) (hx20 : x20 = (subI x17 x19)) :
    x20 = a ∧ x19 = b ∧ x16 = c ∧ x15 = d := by
  have xx : ∀ p q : BitVec 64, (p ^^^ q) ^^^ q = p := fun p q => by rw [BitVec.xor_assoc, BitVec.xor_self, BitVec.xor_zero]
  have ss : ∀ p q : BitVec 64, (p + q) - q = p := fun p q => BitVec.add_sub_cancel ..
  have e1 : bv ((rnd a b c d).1) = (bv a + bv b).rotateLeft 32 + ((bv d).rotateLeft 16 ^^^ (bv c + bv d)) := by
    simp only [rnd]; rw [bv_add, bv_rot (in_add _ _) (by decide) (by decide), bv_xor, bv_rot wd (by decide) (by decide), bv_add, bv_add]
  have e3 : bv ((rnd a b c d).2.2.1) = ((bv c + bv d) + ((bv b).rotateLeft 13 ^^^ (bv a + bv b))).rotateLeft 32 := by
    simp only [rnd]; rw [bv_rot (in_add _ _) (by decide) (by decide), bv_add, bv_add, bv_xor, bv_rot wb (by decide) (by decide), bv_add]
  have e2 : bv ((rnd a b c d).2.1) = ((bv b).rotateLeft 13 ^^^ (bv a + bv b)).rotateLeft 17 ^^^ ((bv c + bv d) + ((bv b).rotateLeft 13 ^^^ (bv a + bv b))) := by
    simp only [rnd]; rw [bv_xor, bv_rot (in_xor _ _) (by decide) (by decide), bv_xor, bv_rot wb (by decide) (by decide), bv_add, bv_add, bv_add, bv_xor, bv_rot wb (by decide) (by decide), bv_add]
  have e4 : bv ((rnd a b c d).2.2.2) = ((bv d).rotateLeft 16 ^^^ (bv c + bv d)).rotateLeft 21 ^^^ ((bv a + bv b).rotateLeft 32 + ((bv d).rotateLeft 16 ^^^ (bv c + bv d))) := by
    simp only [rnd]; rw [bv_xor, bv_rot (in_xor _ _) (by decide) (by decide), bv_xor, bv_rot wd (by decide) (by decide), bv_add, bv_add, bv_rot (in_add _ _) (by decide) (by decide), bv_add, bv_xor, bv_rot wd (by decide) (by decide), bv_add]
  have i3 : In64 ((rnd a b c d).2.2.1) := in_wrap _
  have f7 : bv x7 = (bv c + bv d) + ((bv b).rotateLeft 13 ^^^ (bv a + bv b)) := by rw [hx7, bv_ror i3 (by decide) (by decide) (by decide), e3, rl_rl _ _ _ (by decide) (by decide) (by decide)]
  have i8 : In64 x8 := by rw [hx8]; exact in_wrap _
  have f8 : bv x8 = ((bv b).rotateLeft 13 ^^^ (bv a + bv b)).rotateLeft 17 := by rw [hx8, bv_xor, e2, f7, xx]
  have f9 : bv x9 = (bv b).rotateLeft 13 ^^^ (bv a + bv b) := by rw [hx9, bv_ror i8 (by decide) (by decide) (by decide), f8, rl_rl _ _ _ (by decide) (by decide) (by decide)]
  have f10 : bv x10 = bv c + bv d := by rw [hx10, bv_subI, f7, f9, ss]
  have i11 : In64 x11 := by rw [hx11]; exact in_wrap _
  have f11 : bv x11 = ((bv d).rotateLeft 16 ^^^ (bv c + bv d)).rotateLeft 21 := by rw [hx11, bv_xor, e4, e1, xx]
  have f12 : bv x12 = (bv d).rotateLeft 16 ^^^ (bv c + bv d) := by rw [hx12, bv_ror i11 (by decide) (by decide) (by decide), f11, rl_rl _ _ _ (by decide) (by decide) (by decide)]
  have i13 : In64 x13 := by rw [hx13]; exact in_wrap _
  have f13 : bv x13 = (bv a + bv b).rotateLeft 32 := by rw [hx13, bv_subI, e1, f12, ss]
  have i14 : In64 x14 := by rw [hx14]; exact in_wrap _
  have f14 : bv x14 = (bv d).rotateLeft 16 := by rw [hx14, bv_xor, f12, f10, xx]
  have f15 : bv x15 = bv d := by rw [hx15, bv_ror i14 (by decide) (by decide) (by decide), f14, rl_rl _ _ _ (by decide) (by decide) (by decide)]
  have f16 : bv x16 = bv c := by rw [hx16, bv_subI, f10, f15, ss]
  have f17 : bv x17 = bv a + bv b := by rw [hx17, bv_ror i13 (by decide) (by decide) (by decide), f13, rl_rl _ _ _ (by decide) (by decide) (by decide)]
  have i18 : In64 x18 := by rw [hx18]; exact in_wrap _
  have f18 : bv x18 = (bv b).rotateLeft 13 := by rw [hx18, bv_xor, f9, f17, xx]
  have f19 : bv x19 = bv b := by rw [hx19, bv_ror i18 (by decide) (by decide) (by decide), f18, rl_rl _ _ _ (by decide) (by decide) (by decide)]
  have f20 : bv x20 = bv a := by rw [hx20, bv_subI, f17, f19, ss]
  refine ⟨bv_inj (by rw [hx20]; exact in_wrap _) wa f20, bv_inj (by rw [hx19]; exact in_wrap _) wb f19, bv_inj (by rw [hx16]; exact in_wrap _) wc f16, bv_inj (by rw [hx15]; exact in_wrap _) wd f15⟩
theorem run6 (H : AH) (hok : H.Ok) (a : Int) (wa : (Lit.int .u64 a).wf = true) (b : Int) (wb : (Lit.int .u64 b).wf = true) (c : Int) (wc : (Lit.int .u64 c).wf = true) (d : Int) (wd : (Lit.int .u64 d).wf = true) : Ev tabA spA (.fn (.func 6) [] []) [.i .u64 a, .i .u64 b, .i .u64 c, .i .u64 d] H (fun v _ => v = .b true) := by
  refine Ev_C (F := x6) rfl ?_
  refine C_seq ?_
  refine C_region ?_
  refine O_p (.b false) (r_mv rfl) ?_
  refine O_nil ?_
  refine C_seq ?_
  refine C_region ?_
  refine O_call (Ev_sp (v := (.b true)) rfl rfl ?_)
  refine O_p (.b true) (r_mv rfl) ?_
  refine O_nil ?_
  refine C_seq ?_
  refine C_region ?_
  refine O_p (.i .u64 a) (r_mv rfl) ?_
  refine O_p (.i .u64 b) (r_mv rfl) ?_
  refine O_p (.i .u64 c) (r_mv rfl) ?_
  refine O_p (.i .u64 d) (r_mv rfl) ?_
  refine O_p (.agg [(.i .u64 a), (.i .u64 b), (.i .u64 c), (.i .u64 d)]) (r_build rfl) ?_
  refine O_call (Ev_sp (v := (.agg [(.i .u64 (rnd a b c d).1), (.i .u64 (rnd a b c d).2.1), (.i .u64 (rnd a b c d).2.2.1), (.i .u64 (rnd a b c d).2.2.2)])) rfl rfl ?_)
  refine O_alloc fun n1 H2 hN3 => ?_
  have hF4 := hN3.fr (fun _ => False)
  have hnm_n1 : n1 = H.next := hN3.1
  have hnx_H2 : H2.next = H.next + 1 := hN3.2.1
  have hlt_n1 : n1 < H2.next := by omega
  refine O_store (vs := [(.i .u64 (rnd a b c d).1), (.i .u64 (rnd a b c d).2.1), (.i .u64 (rnd a b c d).2.2.1), (.i .u64 (rnd a b c d).2.2.2)]) (c' := [(.i .u64 (rnd a b c d).1), (.i .u64 (rnd a b c d).2.1), (.i .u64 (rnd a b c d).2.2.1), (.i .u64 (rnd a b c d).2.2.2)]) rfl (by rfl) hN3.2.2.1 rfl (List.cons_ne_nil _ _) (Nat.le_of_ble_eq_true rfl) rfl fun H5 hW6 => ?_
  have hnx_H5 : H5.next = H2.next := hW6.1
  have hlt_n1 : n1 < H5.next := by omega
  refine O_nil ?_
  refine C_seq ?_
  refine C_region ?_
  refine O_p (.p (some (n1, 0))) (r_iarr' rfl rfl rfl rfl) ?_
  refine O_p (.i .u64 (rnd a b c d).1) (r_ld rfl hW6.2.1 rfl) ?_
  refine O_p (.i .u64 (rnd a b c d).1) (r_mv rfl) ?_
  refine O_nil ?_
  refine C_seq ?_
  refine C_region ?_
  refine O_p (.p (some (n1, 1))) (r_iarr' rfl rfl rfl rfl) ?_
  refine O_p (.i .u64 (rnd a b c d).2.1) (r_ld rfl hW6.2.1 rfl) ?_
  refine O_p (.i .u64 (rnd a b c d).2.1) (r_mv rfl) ?_
  refine O_nil ?_
  refine C_seq ?_
  refine C_region ?_
  refine O_p (.p (some (n1, 2))) (r_iarr' rfl rfl rfl rfl) ?_
  refine O_p (.i .u64 (rnd a b c d).2.2.1) (r_ld rfl hW6.2.1 rfl) ?_
  refine O_p (.i .u64 (Int.fdiv ((rnd a b c d).2.2.1) (2 ^ 32))) (r_bin rfl rfl rfl) ?_
  refine O_p (.p (some (n1, 2))) (r_iarr' rfl rfl rfl rfl) ?_
  refine O_p (.i .u64 (rnd a b c d).2.2.1) (r_ld rfl hW6.2.1 rfl) ?_
  refine O_p (.i .u64 (IntKind.u64.wrap ((rnd a b c d).2.2.1 * 2 ^ 32))) (r_bin rfl rfl rfl) ?_
  obtain ⟨x7, hx7⟩ : ∃ z, z = (orI (Int.fdiv ((rnd a b c d).2.2.1) (2 ^ 32)) (IntKind.u64.wrap ((rnd a b c d).2.2.1 * 2 ^ 32))) := ⟨_, rfl⟩
  refine O_p (.i .u64 x7) (by exact (by rw [hx7]; exact (r_bin rfl rfl rfl))) ?_
  refine O_p (.i .u64 x7) (r_mv rfl) ?_
  refine O_nil ?_
  refine C_seq ?_
  refine C_region ?_
  refine O_p (.p (some (n1, 3))) (r_iarr' rfl rfl rfl rfl) ?_
  refine O_p (.i .u64 (rnd a b c d).2.2.2) (r_ld rfl hW6.2.1 rfl) ?_
  refine O_p (.i .u64 (rnd a b c d).2.2.2) (r_mv rfl) ?_
  refine O_nil ?_
  refine C_seq ?_
  refine C_region ?_
  refine O_p (.i .u64 (rnd a b c d).2.1) (r_mv rfl) ?_
  refine O_p (.i .u64 x7) (r_mv rfl) ?_
  obtain ⟨x8, hx8⟩ : ∃ z, z = (xorI ((rnd a b c d).2.1) x7) := ⟨_, rfl⟩
  refine O_p (.i .u64 x8) (by exact (by rw [hx8]; exact (r_bin rfl rfl rfl))) ?_
  refine O_p (.i .u64 x8) (r_mv rfl) ?_
  refine O_nil ?_
  refine C_seq ?_
  refine C_region ?_
  refine O_p (.i .u64 x8) (r_mv rfl) ?_
  refine O_p (.i .u64 (Int.fdiv x8 (2 ^ 17))) (r_bin rfl rfl rfl) ?_
  refine O_p (.i .u64 x8) (r_mv rfl) ?_
  refine O_p (.i .u64 (IntKind.u64.wrap (x8 * 2 ^ 47))) (r_bin rfl rfl rfl) ?_
  obtain ⟨x9, hx9⟩ : ∃ z, z = (orI (Int.fdiv x8 (2 ^ 17)) (IntKind.u64.wrap (x8 * 2 ^ 47))) := ⟨_, rfl⟩
  refine O_p (.i .u64 x9) (by exact (by rw [hx9]; exact (r_bin rfl rfl rfl))) ?_
  refine O_p (.i .u64 x9) (r_mv rfl) ?_
  refine O_nil ?_
  refine C_seq ?_
  refine C_region ?_
  refine O_p (.i .u64 x7) (r_mv rfl) ?_
  refine O_p (.i .u64 x9) (r_mv rfl) ?_
  obtain ⟨x10, hx10⟩ : ∃ z, z = (subI x7 x9) := ⟨_, rfl⟩
  refine O_p (.i .u64 x10) (by exact (by rw [hx10]; exact (r_bin rfl rfl rfl))) ?_
  refine O_p (.i .u64 x10) (r_mv rfl) ?_
  refine O_nil ?_
  refine C_seq ?_
  refine C_region ?_
  refine O_p (.i .u64 (rnd a b c d).2.2.2) (r_mv rfl) ?_
  refine O_p (.i .u64 (rnd a b c d).1) (r_mv rfl) ?_
  obtain ⟨x11, hx11⟩ : ∃ z, z = (xorI ((rnd a b c d).2.2.2) ((rnd a b c d).1)) := ⟨_, rfl⟩
  refine O_p (.i .u64 x11) (by exact (by rw [hx11]; exact (r_bin rfl rfl rfl))) ?_
  refine O_p (.i .u64 x11) (r_mv rfl) ?_
  refine O_nil ?_
  refine C_seq ?_
  refine C_region ?_
  refine O_p (.i .u64 x11) (r_mv rfl) ?_
  refine O_p (.i .u64 (Int.fdiv x11 (2 ^ 21))) (r_bin rfl rfl rfl) ?_
  refine O_p (.i .u64 x11) (r_mv rfl) ?_
  refine O_p (.i .u64 (IntKind.u64.wrap (x11 * 2 ^ 43))) (r_bin rfl rfl rfl) ?_
  obtain ⟨x12, hx12⟩ : ∃ z, z = (orI (Int.fdiv x11 (2 ^ 21)) (IntKind.u64.wrap (x11 * 2 ^ 43))) := ⟨_, rfl⟩
  refine O_p (.i .u64 x12) (by exact (by rw [hx12]; exact (r_bin rfl rfl rfl))) ?_
  refine O_p (.i .u64 x12) (r_mv rfl) ?_
  refine O_nil ?_
  refine C_seq ?_
  refine C_region ?_
  refine O_p (.i .u64 (rnd a b c d).1) (r_mv rfl) ?_
  refine O_p (.i .u64 x12) (r_mv rfl) ?_
  obtain ⟨x13, hx13⟩ : ∃ z, z = (subI ((rnd a b c d).1) x12) := ⟨_, rfl⟩
  refine O_p (.i .u64 x13) (by exact (by rw [hx13]; exact (r_bin rfl rfl rfl))) ?_
  refine O_p (.i .u64 x13) (r_mv rfl) ?_
  refine O_nil ?_
  refine C_seq ?_
  refine C_region ?_
  refine O_p (.i .u64 x12) (r_mv rfl) ?_
  refine O_p (.i .u64 x10) (r_mv rfl) ?_
  obtain ⟨x14, hx14⟩ : ∃ z, z = (xorI x12 x10) := ⟨_, rfl⟩
  refine O_p (.i .u64 x14) (by exact (by rw [hx14]; exact (r_bin rfl rfl rfl))) ?_
  refine O_p (.i .u64 x14) (r_mv rfl) ?_
  refine O_nil ?_
  refine C_seq ?_
  refine C_region ?_
  refine O_p (.i .u64 x14) (r_mv rfl) ?_
  refine O_p (.i .u64 (Int.fdiv x14 (2 ^ 16))) (r_bin rfl rfl rfl) ?_
  refine O_p (.i .u64 x14) (r_mv rfl) ?_
  refine O_p (.i .u64 (IntKind.u64.wrap (x14 * 2 ^ 48))) (r_bin rfl rfl rfl) ?_
  obtain ⟨x15, hx15⟩ : ∃ z, z = (orI (Int.fdiv x14 (2 ^ 16)) (IntKind.u64.wrap (x14 * 2 ^ 48))) := ⟨_, rfl⟩
  refine O_p (.i .u64 x15) (by exact (by rw [hx15]; exact (r_bin rfl rfl rfl))) ?_
  refine O_p (.i .u64 x15) (r_mv rfl) ?_
  refine O_nil ?_
  refine C_seq ?_
  refine C_region ?_
  refine O_p (.i .u64 x10) (r_mv rfl) ?_
  refine O_p (.i .u64 x15) (r_mv rfl) ?_
  obtain ⟨x16, hx16⟩ : ∃ z, z = (subI x10 x15) := ⟨_, rfl⟩
  refine O_p (.i .u64 x16) (by exact (by rw [hx16]; exact (r_bin rfl rfl rfl))) ?_
  refine O_p (.i .u64 x16) (r_mv rfl) ?_
  refine O_nil ?_
  refine C_seq ?_
  refine C_region ?_
  refine O_p (.i .u64 x13) (r_mv rfl) ?_
  refine O_p (.i .u64 (Int.fdiv x13 (2 ^ 32))) (r_bin rfl rfl rfl) ?_
  refine O_p (.i .u64 x13) (r_mv rfl) ?_
  refine O_p (.i .u64 (IntKind.u64.wrap (x13 * 2 ^ 32))) (r_bin rfl rfl rfl) ?_
  obtain ⟨x17, hx17⟩ : ∃ z, z = (orI (Int.fdiv x13 (2 ^ 32)) (IntKind.u64.wrap (x13 * 2 ^ 32))) := ⟨_, rfl⟩
  refine O_p (.i .u64 x17) (by exact (by rw [hx17]; exact (r_bin rfl rfl rfl))) ?_
  refine O_p (.i .u64 x17) (r_mv rfl) ?_
  refine O_nil ?_
  refine C_seq ?_
  refine C_region ?_
  refine O_p (.i .u64 x9) (r_mv rfl) ?_
  refine O_p (.i .u64 x17) (r_mv rfl) ?_
  obtain ⟨x18, hx18⟩ : ∃ z, z = (xorI x9 x17) := ⟨_, rfl⟩
  refine O_p (.i .u64 x18) (by exact (by rw [hx18]; exact (r_bin rfl rfl rfl))) ?_
  refine O_p (.i .u64 x18) (r_mv rfl) ?_
  refine O_nil ?_
  refine C_seq ?_
  refine C_region ?_
  refine O_p (.i .u64 x18) (r_mv rfl) ?_
  refine O_p (.i .u64 (Int.fdiv x18 (2 ^ 13))) (r_bin rfl rfl rfl) ?_
  refine O_p (.i .u64 x18) (r_mv rfl) ?_
  refine O_p (.i .u64 (IntKind.u64.wrap (x18 * 2 ^ 51))) (r_bin rfl rfl rfl) ?_
  obtain ⟨x19, hx19⟩ : ∃ z, z = (orI (Int.fdiv x18 (2 ^ 13)) (IntKind.u64.wrap (x18 * 2 ^ 51))) := ⟨_, rfl⟩
  refine O_p (.i .u64 x19) (by exact (by rw [hx19]; exact (r_bin rfl rfl rfl))) ?_
  refine O_p (.i .u64 x19) (r_mv rfl) ?_
  refine O_nil ?_
  refine C_seq ?_
  refine C_region ?_
  refine O_p (.i .u64 x17) (r_mv rfl) ?_
  refine O_p (.i .u64 x19) (r_mv rfl) ?_
  obtain ⟨x20, hx20⟩ : ∃ z, z = (subI x17 x19) := ⟨_, rfl⟩
  refine O_p (.i .u64 x20) (by exact (by rw [hx20]; exact (r_bin rfl rfl rfl))) ?_
  refine O_p (.i .u64 x20) (r_mv rfl) ?_
  refine O_nil ?_
  refine C_seq ?_
  refine C_region ?_
  refine O_p (.b true) (r_mv rfl) ?_
  refine O_p (.b true) (r_mv rfl) ?_
  refine O_gs (v := (.i .u64 x20)) rfl (r_mv rfl) ?_
  refine O_gs (v := (.i .u64 a)) rfl (r_mv rfl) ?_
  refine O_gs (v := (.b (decide (x20 = a)))) rfl (r_eql rfl rfl) ?_
  refine O_p (.b (decide (x20 = a))) (r_pick_t rfl rfl) ?_
  refine O_p (.b (decide (x20 = a))) (r_mv rfl) ?_
  refine O_gx (e := (decide (x20 = a))) (v := (.i .u64 x19)) (wt rfl) (fun he => (r_mv rfl)) ?_
  refine O_gx (e := (decide (x20 = a))) (v := (.i .u64 b)) (wt rfl) (fun he => (r_mv rfl)) ?_
  refine O_gx (e := (decide (x20 = a))) (v := (.b (decide (x19 = b)))) (wt rfl) (fun he => (r_eql (cond_pos he) (cond_pos he))) ?_
  refine O_p (.b ((decide (x20 = a)) && (decide (x19 = b)))) (r_pick_and rfl rfl rfl rfl) ?_
  refine O_p (.b ((decide (x20 = a)) && (decide (x19 = b)))) (r_mv rfl) ?_
  refine O_gx (e := ((decide (x20 = a)) && (decide (x19 = b)))) (v := (.i .u64 x16)) (wt rfl) (fun he => (r_mv rfl)) ?_
  refine O_gx (e := ((decide (x20 = a)) && (decide (x19 = b)))) (v := (.i .u64 c)) (wt rfl) (fun he => (r_mv rfl)) ?_
  refine O_gx (e := ((decide (x20 = a)) && (decide (x19 = b)))) (v := (.b (decide (x16 = c)))) (wt rfl) (fun he => (r_eql (cond_pos he) (cond_pos he))) ?_
  refine O_p (.b (((decide (x20 = a)) && (decide (x19 = b))) && (decide (x16 = c)))) (r_pick_and rfl rfl rfl rfl) ?_
  refine O_p (.b (((decide (x20 = a)) && (decide (x19 = b))) && (decide (x16 = c)))) (r_mv rfl) ?_
  refine O_gx (e := (((decide (x20 = a)) && (decide (x19 = b))) && (decide (x16 = c)))) (v := (.i .u64 x15)) (wt rfl) (fun he => (r_mv rfl)) ?_
  refine O_gx (e := (((decide (x20 = a)) && (decide (x19 = b))) && (decide (x16 = c)))) (v := (.i .u64 d)) (wt rfl) (fun he => (r_mv rfl)) ?_
  refine O_gx (e := (((decide (x20 = a)) && (decide (x19 = b))) && (decide (x16 = c)))) (v := (.b (decide (x15 = d)))) (wt rfl) (fun he => (r_eql (cond_pos he) (cond_pos he))) ?_
  refine O_p (.b ((((decide (x20 = a)) && (decide (x19 = b))) && (decide (x16 = c))) && (decide (x15 = d)))) (r_pick_and rfl rfl rfl rfl) ?_
  refine O_p (.b ((((decide (x20 = a)) && (decide (x19 = b))) && (decide (x16 = c))) && (decide (x15 = d)))) (r_mv rfl) ?_
  refine O_nil ?_
  refine C_ret ?_
  have wa := wf64 wa
  have wb := wf64 wb
  have wc := wf64 wc
  have wd := wf64 wd
  have key := unturn wa wb wc wd hx7 hx8 hx9 hx10 hx11 hx12 hx13 hx14 hx15 hx16 hx17 hx18 hx19 hx20
  obtain ⟨k1, k2, k3, k4⟩ := key
  exact ⟨.inr rfl, _, resL_one (r_tmp (v := (.b ((((decide (x20 = a)) && (decide (x19 = b))) && (decide (x16 = c))) && (decide (x15 = d))))) rfl), by simp [resV, k1, k2, k3, k4]⟩
theorem law6 (W : World) (ρ : Rho) (H : AH) (xs : List AV) (args : Array Value) (hR : Rel Try.prog W.heap.size W ρ H W) (hro : RO H) (hv : VRL ρ xs args.toList) (ht : TypedVs Try.prog H 9 Try.f6.params.toList xs) :
    Calls Try.prog 6 args W fun e w' => e = .returned (.bool true) ∧ Below W.heap.size W w' := by
  rw [Try.params6] at ht
  obtain ⟨a0, xs, rfl, h0, a1, xs, rfl, h1, a2, xs, rfl, h2, a3, xs, rfl, h3, rfl⟩ := ht
  obtain ⟨a, rfl, w0⟩ := typedV_int Try.underlying22 h0
  obtain ⟨b, rfl, w1⟩ := typedV_int Try.underlying22 h1
  obtain ⟨c, rfl, w2⟩ := typedV_int Try.underlying22 h2
  obtain ⟨d, rfl, w3⟩ := typedV_int Try.underlying22 h3
  obtain ⟨k, v, H', hex, rfl⟩ := run6 H hR.aok a w0 b w1 c w2 d w3
  exact law_of mixed tabA_ok spA_ok hex hR hv
end Go.Proofs.Ytmkahjffhnfhjaa.E
namespace Go.Proofs.Ytmkahjffhnfhjaa.sipUnturns
open Go.ChangeShapes Go.WideShapes Go.RowKit
set_option linter.unusedVariables false
theorem own : ownKnob Try.prog.godebug = none := by kernel_rfl
theorem types : (Try.f6.params.toList.all fun t => E.fit Try.prog 9 t && (Try.prog.readableRec t && decide (t < Try.prog.types.size))) = true := by kernel_rfl
set_option maxRecDepth 100000 in
theorem lifted (os : Os) (started : os.Started) (H : Type) (enc : TypeId × Value → H) :
    ReturnsInHanded {} Try.checked os 6 .any (Rows.sipUnturnsSpec.pre6 enc Try.prog Try.f6 Rows.sipUnturnsRow.domain false) (Rows.sipUnturnsSpec.post enc Try.prog Try.f6 false true false false) :=
  E.law_lifted (C := Try.checked) (k := 9) (tb := 4) E.globals0 E.laid own started (by kernel_rfl) Try.func6
    (ChangeSpec.witness6 (enc := enc) (C := Try.checked) false ⟨#[], #[.int .u64 0, .int .u64 0, .int .u64 0, .int .u64 0], []⟩ 8 (by kernel_rfl) (by kernel_rfl) (by kernel_rfl) (by kernel_rfl))
    rfl rfl Try.underlying4 (fun t ht => by have h := List.all_eq_true.1 types t ht; simp only [Bool.and_eq_true, decide_eq_true_eq] at h; exact h)
    (fun ds hd => by
      rw [Try.params6] at hd
      match ds, hd with
      | [d0, d1, d2, d3], _ => rfl) E.law6
theorem over : Rows.sipUnturnsRow.holds Try.pinned (OpenSpec.ofChange Rows.sipUnturnsSpec) :=
  OpenClaim.holds_of_wide 6 Try.f6 rfl rfl rfl rfl rfl rfl rfl ⟨rfl, rfl, rfl, rfl, rfl⟩ rfl rfl rfl rfl rfl (by kernel_rfl) Try.func6 (by kernel_rfl)
    (of_decide_eq_true (by kernel_rfl)) (by unfold Func.isWrapper; first | (rw [if_pos (by decide +kernel)]; kernel_rfl) | (rw [if_neg (by decide +kernel)]; exact ⟨rfl, rfl⟩))
    (fun os started H enc _ => lifted os started H enc)
end Go.Proofs.Ytmkahjffhnfhjaa.sipUnturns
namespace Go.Proofs.Ytmkahjffhnfhjaa
/-- The row, under a short name, for the claim. -/
theorem sipUnturns_holds : Rows.SipUnturnsSaid := sipUnturns.over
#print axioms sipUnturns_holds
end Go.Proofs.Ytmkahjffhnfhjaa
