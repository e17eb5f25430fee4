/- Layer 4's functions of octets. It bears no condition. -/
import Derived.Test.YteapgimihapefaaS
import Derived.Test.YteapgimihapefaaE36
namespace Go.Proofs.Yteapgimihapefaa.E
set_option linter.unusedVariables false
set_option linter.unusedSimpArgs false
theorem or_add {A b i : Nat} (h : A < 2 ^ i) (h2 : A + b * 2 ^ i < 18446744073709551616) : IntKind.u64.wrap ((BitVec.ofInt 64 (A : Int) ||| BitVec.ofInt 64 ((b * 2 ^ i : Nat) : Int)).toNat : Int) = ((A + b * 2 ^ i : Nat) : Int) := by
  rw [BitVec.ofInt_natCast, BitVec.ofInt_natCast, BitVec.toNat_or, BitVec.toNat_ofNat, BitVec.toNat_ofNat, Nat.mod_eq_of_lt (by omega), Nat.mod_eq_of_lt (by omega), lor_add h, wrap_u64]
  omega
theorem low_step {l : List UInt8} {n : Nat} (h : n < 8) (hl : 8 ≤ l.length) : AV.i .u64 (IntKind.u64.wrap ((BitVec.ofInt 64 (numI (l.take n)) ||| BitVec.ofInt 64 (IntKind.u64.wrap (IntKind.u64.wrap (((l.take 8).getD n 0).toNat : Int) * 2 ^ (min ((8 * ((n : Nat) : Int)) : Int).toNat 64)))).toNat : Int)) = .i .u64 (numI (l.take (n + 1))) := by
  have e0 : (l.take 8).getD n 0 = l.getD n 0 := by
    rw [List.getD_eq_getElem?_getD, List.getD_eq_getElem?_getD, List.getElem?_take_of_lt h]
  have h1 : (l.getD n 0).toNat < 256 := (l.getD n 0).toNat_lt
  have e1 : min ((8 * ((n : Nat) : Int)) : Int).toNat 64 = 8 * n := by omega
  rw [e0, e1, numI_take (by omega)]
  obtain ⟨A, hA⟩ := Int.eq_ofNat_of_zero_le (numI_nonneg (l.take n))
  have hlt := numI_lt (l.take n)
  rw [List.length_take, Nat.min_eq_left (by omega), hA, show (256 : Int) ^ n = ((2 ^ (8 * n) : Nat) : Int) by rw [Nat.pow_mul]; simp] at hlt
  have hlt' : A < 2 ^ (8 * n) := by omega
  have hp : 2 ^ (8 * n) ≤ 2 ^ 56 := Nat.pow_le_pow_right (by decide) (by omega)
  have hm : (l.getD n 0).toNat * 2 ^ (8 * n) ≤ 255 * 2 ^ (8 * n) := Nat.mul_le_mul_right _ (by omega)
  have e2 : IntKind.u64.wrap (IntKind.u64.wrap ((l.getD n 0).toNat : Int) * 2 ^ (8 * n)) = (((l.getD n 0).toNat * 2 ^ (8 * n) : Nat) : Int) := by
    rw [wrap_u64, wrap_u64, show (((l.getD n 0).toNat : Int) % 18446744073709551616) = (l.getD n 0).toNat by omega, show ((2 : Int) ^ (8 * n)) = ((2 ^ (8 * n) : Nat) : Int) by simp, ← Int.natCast_mul]
    omega
  have e3 : (256 : Int) ^ n = ((2 ^ (8 * n) : Nat) : Int) := by rw [Nat.pow_mul]; simp
  rw [e2, hA, or_add hlt' (by omega), e3, Int.natCast_add, Int.natCast_mul]
theorem num_step {l : List UInt8} {j : Nat} (h : j < l.length) : AV.i .u64 (IntKind.u64.wrap (IntKind.u64.wrap (numI (l.drop (j + 1)) % 18446744073709551616 * 256) + IntKind.u64.wrap ((l.getD j 0).toNat : Int))) = .i .u64 (numI (l.drop j) % 18446744073709551616) := by
  have h1 : (l.getD j 0).toNat < 256 := (l.getD j 0).toNat_lt
  rw [numI_drop h, wrap_u64, wrap_u64, wrap_u64]
  congr 1
  omega
def wcells (l : List Int) : List AV := l.map (AV.i .u64)
def ws (l : List UInt8) (i : Nat) : List Int := (List.range i).map fun k => numI ((l.drop (8 * k)).take 8) % 18446744073709551616
theorem ws_succ (l : List UInt8) (i : Nat) : wcells (ws l (i + 1)) = wcells (ws l i) ++ [.i .u64 (numI ((l.drop (8 * i)).take (8 * i + 8 - 8 * i)) % 18446744073709551616)] := by
  have e : 8 * i + 8 - 8 * i = 8 := by omega
  rw [e]; simp [wcells, ws, List.range_succ]
def words (l : List UInt8) : List Int := ws l (l.length / 8) ++ [addI (numI (l.drop (8 * (l.length / 8))) % 18446744073709551616) (IntKind.u64.wrap (IntKind.u64.wrap ((l.length : Int) % 256) * 2 ^ 56))]
theorem words_fin {N : Nat} {H : AH} {v : AV} {l : List UInt8} (h : Mine N 1 H v (wcells (ws l (l.length / 8)) ++ [.i .u64 (addI (numI (l.drop (8 * (l.length / 8))) % 18446744073709551616) (IntKind.u64.wrap (IntKind.u64.wrap ((l.length : Int) % 256) * 2 ^ 56)))])) : Mine N 1 H v (wcells (words l)) := by
  have e : wcells (words l) = wcells (ws l (l.length / 8)) ++ [.i .u64 (addI (numI (l.drop (8 * (l.length / 8))) % 18446744073709551616) (IntKind.u64.wrap (IntKind.u64.wrap ((l.length : Int) % 256) * 2 ^ 56)))] := by simp [wcells, words]
  rw [e]; exact h
theorem words_len (l : List UInt8) : (words l).length = l.length / 8 + 1 := by simp [words, ws]
theorem wc_get {l : List Int} {i : Nat} (h : i < l.length) : (wcells l)[i]? = some (.i .u64 (l.getD i 0)) := by
  unfold wcells; rw [List.getElem?_map, List.getElem?_eq_getElem h, List.getD_eq_getElem?_getD, List.getElem?_eq_getElem h]; rfl
def st (l : List UInt8) (v : Int × Int × Int × Int) (i : Nat) : Int × Int × Int × Int := ((words l).take i).foldl tk v
theorem st_succ {l : List UInt8} {v : Int × Int × Int × Int} {i : Nat} (h : i < (words l).length) : st l v (i + 1) = tk (st l v i) ((words l).getD i 0) := by
  unfold st
  rw [List.take_succ_eq_append_getElem h, List.foldl_append, List.getD_eq_getElem?_getD, List.getElem?_eq_getElem h]; rfl
def code0 (key : List UInt8) : Int × Int × Int × Int :=
  (xorI (numI (key.take 8) % 18446744073709551616) 8317987319222330741, xorI (numI (key.drop 8) % 18446744073709551616) 7237128888997146477, xorI (numI (key.take 8) % 18446744073709551616) 7816392313619706465, xorI (numI (key.drop 8) % 18446744073709551616) 8387220255154660723)
def codeR (v : Int × Int × Int × Int) : Int :=
  let r := rnd4 (rnd4 (rnd4 (rnd4 (v.1, v.2.1, xorI v.2.2.1 255, v.2.2.2))))
  xorI (xorI (xorI r.1 r.2.1) r.2.2.1) r.2.2.2
def code (key l : List UInt8) : Int := codeR ((words l).foldl tk (code0 key))
theorem code_fin (key l : List UInt8) : codeR (st l (code0 key) (words l).length) = code key l := by
  unfold code st; rw [List.take_length]
theorem words_get {l : List UInt8} {k : Nat} (h : 8 * k + 8 ≤ l.length) : (words l).getD k 0 = numI ((l.drop (8 * k)).take 8) := by
  have hk : k < l.length / 8 := by omega
  have h1 : numI ((l.drop (8 * k)).take 8) < 256 ^ ((l.drop (8 * k)).take 8).length := numI_lt _
  have h2 := numI_nonneg ((l.drop (8 * k)).take 8)
  rw [List.length_take, List.length_drop, Nat.min_eq_left (by omega)] at h1
  unfold words ws
  rw [List.getD_eq_getElem?_getD, List.getElem?_append_left (by simpa using hk), List.getElem?_map, List.getElem?_range hk]
  simp only [Option.map_some, Option.getD_some]
  omega
theorem st_low {l : List UInt8} {v : Int × Int × Int × Int} {k : Nat} (h : 8 * k + 8 ≤ l.length) : st l v (k + 1) = tk (st l v k) (numI ((l.drop (8 * k)).take 8)) := by
  have hw := words_len l
  rw [st_succ (by omega), words_get h]
def endv (l : List UInt8) (n : Nat) : Int := ((l.length % 256 : Nat) : Int) * 72057594037927936 + numI ((l.drop (8 * (l.length / 8))).take n)
theorem end_zero (l : List UInt8) : AV.i .u64 (IntKind.u64.wrap (IntKind.u64.wrap ((l.length : Nat) : Int) * 2 ^ 56)) = .i .u64 (endv l 0) := by
  unfold endv; rw [List.take_zero, wrap_u64, wrap_u64]; simp only [numI]; congr 1; omega
theorem or3 {h lo x i : Nat} (h1 : lo < 2 ^ i) (h2 : lo + x * 2 ^ i < 2 ^ 56) : (h * 2 ^ 56 + lo) ||| x * 2 ^ i = h * 2 ^ 56 + (lo + x * 2 ^ i) := by
  rw [Nat.add_comm, ← lor_add (a := h) (b := lo) (i := 56) (by omega), Nat.or_assoc, Nat.or_comm (h * 2 ^ 56), ← Nat.or_assoc, lor_add h1, lor_add h2, Nat.add_comm]
theorem end_step {l : List UInt8} {n : Nat} (h : n < l.length - 8 * (l.length / 8)) : AV.i .u64 (orI (endv l n) (IntKind.u64.wrap (IntKind.u64.wrap (((l.drop (8 * (l.length / 8))).getD n 0).toNat : Int) * 2 ^ (min ((8 * ((n : Nat) : Int)) : Int).toNat 64)))) = .i .u64 (endv l (n + 1)) := by
  have e1 : min ((8 * ((n : Nat) : Int)) : Int).toNat 64 = 8 * n := by omega
  unfold endv
  rw [numI_take (by rw [List.length_drop]; omega), e1]
  generalize hr : l.drop (8 * (l.length / 8)) = r
  have hrl : n < r.length := by rw [← hr, List.length_drop]; omega
  have h1 : (r.getD n 0).toNat < 256 := (r.getD n 0).toNat_lt
  generalize hy : (r.getD n 0).toNat = y at h1 ⊢
  obtain ⟨A, hA⟩ := Int.eq_ofNat_of_zero_le (numI_nonneg (r.take n))
  have hlt := numI_lt (r.take n)
  have e3 : (256 : Int) ^ n = ((2 ^ (8 * n) : Nat) : Int) := by rw [Nat.pow_mul]; simp
  rw [List.length_take, Nat.min_eq_left (by omega), hA, e3] at hlt
  have hlt' : A < 2 ^ (8 * n) := by omega
  have hp : 2 ^ (8 * n) * 256 ≤ 2 ^ 56 := by
    have : 2 ^ (8 * n) * 256 = 2 ^ (8 * n + 8) := by rw [Nat.pow_add]
    rw [this]; exact Nat.pow_le_pow_right (by decide) (by omega)
  have hm : y * 2 ^ (8 * n) ≤ 255 * 2 ^ (8 * n) := Nat.mul_le_mul_right _ (by omega)
  generalize hz : l.length % 256 = z
  have hzl : z < 256 := by omega
  have e2 : IntKind.u64.wrap (IntKind.u64.wrap (y : Int) * 2 ^ (8 * n)) = ((y * 2 ^ (8 * n) : Nat) : Int) := by
    rw [wrap_u64, wrap_u64, show ((y : Int) % 18446744073709551616) = y by omega, show ((2 : Int) ^ (8 * n)) = ((2 ^ (8 * n) : Nat) : Int) by simp, ← Int.natCast_mul]
    omega
  have e4 : (z : Int) * 72057594037927936 + A = ((z * 2 ^ 56 + A : Nat) : Int) := by omega
  rw [e2, hA, e4]
  unfold orI
  rw [BitVec.ofInt_natCast, BitVec.ofInt_natCast, BitVec.toNat_or, BitVec.toNat_ofNat, BitVec.toNat_ofNat, Nat.mod_eq_of_lt (by omega), Nat.mod_eq_of_lt (by omega), or3 hlt' (by omega), wrap_u64, e3]
  congr 1
  rw [← Int.natCast_mul]
  omega
theorem end_fin (l : List UInt8) : addI (numI (l.drop (8 * (l.length / 8))) % 18446744073709551616) (IntKind.u64.wrap (IntKind.u64.wrap ((l.length : Int) % 256) * 2 ^ 56)) = endv l (l.length - 8 * (l.length / 8)) := by
  unfold endv addI
  rw [List.take_of_length_le (by rw [List.length_drop]; omega)]
  have h1 := numI_lt (l.drop (8 * (l.length / 8)))
  have h2 := numI_nonneg (l.drop (8 * (l.length / 8)))
  rw [List.length_drop] at h1
  have h3 : (256 : Int) ^ (l.length - 8 * (l.length / 8)) ≤ 256 ^ 7 := by
    have h5 : (256 : Nat) ^ (l.length - 8 * (l.length / 8)) ≤ 256 ^ 7 := Nat.pow_le_pow_right (by decide) (by omega)
    have e5 : ∀ m : Nat, (256 : Int) ^ m = ((256 ^ m : Nat) : Int) := fun m => by simp
    rw [e5, e5]; omega
  rw [wrap_u64, wrap_u64, wrap_u64]
  omega
theorem code_fin10 (key l : List UInt8) : codeR (tk (st l (code0 key) (l.length / 8)) (endv l (l.length - 8 * (l.length / 8)))) = code key l := by
  rw [← code_fin, words_len, st_succ (by rw [words_len]; omega), ← end_fin]
  congr 2
  unfold words
  rw [List.getD_eq_getElem?_getD, List.getElem?_append_right (by simp [ws])]
  simp [ws]
theorem key_num (key : List UInt8) (h : key.length = 16) : code0 key = (xorI (numI (key.take 8)) 8317987319222330741, xorI (numI ((key.drop 8).take 8)) 7237128888997146477, xorI (numI (key.take 8)) 7816392313619706465, xorI (numI ((key.drop 8).take 8)) 8387220255154660723) := by
  have h1 : numI (key.take 8) < 256 ^ (key.take 8).length := numI_lt _
  have h2 := numI_nonneg (key.take 8)
  have h3 : numI (key.drop 8) < 256 ^ (key.drop 8).length := numI_lt _
  have h4 := numI_nonneg (key.drop 8)
  rw [List.length_take, Nat.min_eq_left (by omega)] at h1
  rw [List.length_drop, h] at h3
  have e1 : numI (key.take 8) % 18446744073709551616 = numI (key.take 8) := by omega
  have e2 : numI (key.drop 8) % 18446744073709551616 = numI (key.drop 8) := by omega
  have e3 : (key.drop 8).take 8 = key.drop 8 := List.take_of_length_le (by rw [List.length_drop]; omega)
  unfold code0; rw [e1, e2, e3]
theorem codeR_eq {v q1 q2 q3 q4 : Int × Int × Int × Int} (h1 : q1 = rnd4 (v.1, v.2.1, xorI v.2.2.1 255, v.2.2.2)) (h2 : q2 = rnd4 q1) (h3 : q3 = rnd4 q2) (h4 : q4 = rnd4 q3) : codeR v = xorI (xorI (xorI q4.1 q4.2.1) q4.2.2.1) q4.2.2.2 := by
  unfold codeR; rw [← h1, ← h2, ← h3, ← h4]
theorem step11 {key l : List UInt8} {i : Nat} {q1 q2 : Int × Int × Int × Int} (h : i < (words l).length) (h1 : q1 = rnd4 ((st l (code0 key) i).1, (st l (code0 key) i).2.1, (st l (code0 key) i).2.2.1, xorI (st l (code0 key) i).2.2.2 ((words l).getD i 0))) (h2 : q2 = rnd4 q1) :
    AV.i .u64 (xorI q2.1 ((words l).getD i 0)) = .i .u64 (st l (code0 key) (i + 1)).1 ∧ AV.i .u64 q2.2.1 = .i .u64 (st l (code0 key) (i + 1)).2.1 ∧ AV.i .u64 q2.2.2.1 = .i .u64 (st l (code0 key) (i + 1)).2.2.1 ∧ AV.i .u64 q2.2.2.2 = .i .u64 (st l (code0 key) (i + 1)).2.2.2 := by
  rw [st_succ h]; unfold tk; rw [← h1, ← h2]; exact ⟨rfl, rfl, rfl, rfl⟩
theorem low15 {tab : Nat → Option XFun} {sp : Nat → List AV → AH → Option (AV × AH)} (hF : tab 34 = some x34) {H : AH} (hok : H.Ok) {a : Option (Nat × Nat)} {len cap g : Nat} (hg : g = 0 ∨ g = 1) {l : List UInt8} (hb : Bs H (.sl a len cap g) l) (hcap : len ≤ cap) (hmax : cap ≤ 9223372036854775807) (hlen : 8 ≤ l.length) : Ev tab sp (.fn (.func 34) [] []) [.sl a len cap g] H (fun v H' => v = .i .u64 (numI (l.take 8)) ∧ H' = H) := by
  refine Ev_C (F := x34) hF ?_
  have hl := hb.length
  subst hl
  have hO0 := Old.refl hok
  refine C_seq ?_
  refine C_region ?_
  refine O_p (.i .u64 0) (r_mv rfl) ?_
  refine O_nil ?_
  refine C_seq ?_
  refine C_region ?_
  refine O_p (.i .u64 0) (r_mv rfl) ?_
  refine O_nil ?_
  refine C_seq ?_
  refine C_seq ?_
  refine C_region ?_
  refine O_p (.sl a l.length cap g) (r_mv rfl) ?_
  refine O_q (by exact Bs.hi hb hg rfl (j := 8) rfl (by first | omega | (simp only [List.length_take, List.length_drop]; omega)) (by first | omega | (simp only [List.length_take, List.length_drop]; omega))) fun v4 hv3 => ?_
  obtain ⟨a1, rfl, hb2⟩ := hv3
  refine O_p (.i .i64 8) (r_len rfl) ?_
  refine O_p (.i .i64 0) (r_mv rfl) ?_
  refine O_nil ?_
  refine C_block ?_
  refine C_while (fun m5 T6 H7 => ∃ n : Nat, m5 = 8 - n ∧ n ≤ 8 ∧ H7 = H ∧ T6.get 3 = (.i .u64 (numI (l.take n))) ∧ T6.get 7 = (.sl a1 8 cap g) ∧ T6.get 8 = (.i .i64 8) ∧ T6.get 9 = (.i .i64 (((n : Nat)) : Int))) (fun m5 T6 H7 hI8 => ?_) 8 _ _ ⟨0, rfl, by omega, rfl, rfl, rfl, rfl, rfl⟩
  obtain ⟨n, hm9, hp10, hsame15, hT11, hT12, hT13, hT14⟩ := hI8
  subst H7
  refine C_seq ?_
  refine C_region ?_
  refine O_p (.b (decide ((((n : Nat)) : Int) < 8))) (r_lss hT14 hT13) ?_
  refine O_nil ?_
  refine C_seq ?_
  refine C_cond (x := (decide ((((n : Nat)) : Int) < 8))) rfl (fun hc16 => ?_) (fun hc16 => ?_)
  ·
    simp only [decide_eq_true_eq, decide_eq_false_iff_not, Bool.not_eq_true', Bool.not_eq_false', Bool.and_eq_true, Bool.or_eq_true, Bool.or_eq_false_iff, Bool.not_not] at hc16
    refine C_skip ?_
    refine C_seq ?_
    refine C_block ?_
    refine C_seq ?_
    refine C_region ?_
    refine O_p (.i .i64 (((n : Nat)) : Int)) (r_mv hT14) ?_
    refine O_q (by exact Bs.ix (hb2.old hok hO0) (by exact hT12) (i := n) (by exact hT14) (by first | omega | (simp only [List.length_take, List.length_drop]; omega))) fun v18 hv17 => ?_
    refine O_p (.i .u8 (((l.take 8).getD n 0).toNat : Int)) (hv17.load rfl) ?_
    refine O_p (.i .i64 (((n : Nat)) : Int)) (r_mv rfl) ?_
    refine O_p (.i .u8 (((l.take 8).getD n 0).toNat : Int)) (r_mv rfl) ?_
    refine O_nil ?_
    refine C_region ?_
    refine O_p (.i .u64 (numI (l.take n))) (r_mv hT11) ?_
    refine O_p (.i .u8 (((l.take 8).getD n 0).toNat : Int)) (r_mv rfl) ?_
    refine O_p (.i .u64 (IntKind.u64.wrap (((l.take 8).getD n 0).toNat : Int))) (r_cint rfl) ?_
    refine O_p (.i .i64 (((n : Nat)) : Int)) (r_mv rfl) ?_
    refine O_p (.i .i64 (8 * (((n : Nat)) : Int))) (by exact (r_muli rfl rfl (wrap_i64 (by omega) (by omega)))) ?_
    refine O_p (.i .u64 (IntKind.u64.wrap ((IntKind.u64.wrap (((l.take 8).getD n 0).toNat : Int)) * 2 ^ (min ((8 * (((n : Nat)) : Int)) : Int).toNat 64)))) (r_bin rfl rfl rfl) ?_
    refine O_p (.i .u64 (IntKind.u64.wrap ((BitVec.ofInt 64 (numI (l.take n)) ||| BitVec.ofInt 64 (IntKind.u64.wrap ((IntKind.u64.wrap (((l.take 8).getD n 0).toNat : Int)) * 2 ^ (min ((8 * (((n : Nat)) : Int)) : Int).toNat 64)))).toNat : Int))) (r_bin rfl rfl rfl) ?_
    refine O_p (.i .u64 (IntKind.u64.wrap ((BitVec.ofInt 64 (numI (l.take n)) ||| BitVec.ofInt 64 (IntKind.u64.wrap ((IntKind.u64.wrap (((l.take 8).getD n 0).toNat : Int)) * 2 ^ (min ((8 * (((n : Nat)) : Int)) : Int).toNat 64)))).toNat : Int))) (r_mv rfl) ?_
    refine O_nil ?_
    refine C_region ?_
    refine O_p (.i .i64 ((((n : Nat)) : Int) + 1)) (by exact (r_addi hT14 rfl (wrap_i64 (by omega) (by omega)))) ?_
    refine O_p (.i .i64 ((((n : Nat)) : Int) + 1)) (r_mv rfl) ?_
    refine O_nil ?_
    exact ⟨8 - (n + 1), by omega, n + 1, rfl, by omega, rfl, low_step (by omega) hlen, hT12, hT13, rfl⟩
  ·
    simp only [decide_eq_true_eq, decide_eq_false_iff_not, Bool.not_eq_true', Bool.not_eq_false', Bool.and_eq_true, Bool.or_eq_true, Bool.or_eq_false_iff, Bool.not_not] at hc16
    refine C_exit ?_
    refine nx_exit ?_
    refine nx_exit ?_
    refine bk_hit ?_
    refine C_seq ?_
    refine C_region ?_
    refine O_p (.i .u64 (numI (l.take n))) (r_mv hT11) ?_
    refine O_p (.i .u64 (numI (l.take n))) (r_mv rfl) ?_
    refine O_nil ?_
    refine C_ret ?_
    have hn : n = 8 := by omega
    subst hn
    exact ⟨.inr rfl, _, resL_one (r_tmp rfl), rfl, rfl⟩
theorem num17 {tab : Nat → Option XFun} {sp : Nat → List AV → AH → Option (AV × AH)} (hF : tab 42 = some x42) {H : AH} (hok : H.Ok) {a : Option (Nat × Nat)} {len cap g : Nat} (hg : g = 0 ∨ g = 1) {l : List UInt8} (hb : Bs H (.sl a len cap g) l) (hcap : len ≤ cap) (hmax : cap ≤ 9223372036854775807) : Ev tab sp (.fn (.func 42) [] []) [.sl a len cap g] H (fun v H' => v = .i .u64 (numI l % 18446744073709551616) ∧ H' = H) := by
  refine Ev_C (F := x42) hF ?_
  have hl := hb.length
  subst hl
  have hO0 := Old.refl hok
  refine C_seq ?_
  refine C_region ?_
  refine O_p (.i .u64 0) (r_mv rfl) ?_
  refine O_nil ?_
  refine C_seq ?_
  refine C_region ?_
  refine O_p (.i .u64 0) (r_mv rfl) ?_
  refine O_nil ?_
  refine C_seq ?_
  refine C_seq ?_
  refine C_region ?_
  refine O_p (.sl a l.length cap g) (r_mv rfl) ?_
  refine O_p (.i .i64 (((l.length : Nat)) : Int)) (r_len rfl) ?_
  refine O_p (.i .i64 ((((l.length : Nat)) : Int) - 1)) (by exact (r_subi rfl rfl (wrap_i64 (by omega) (by omega)))) ?_
  refine O_p (.i .i64 ((((l.length : Nat)) : Int) - 1)) (r_mv rfl) ?_
  refine O_nil ?_
  refine C_block ?_
  refine C_while (fun m1 T2 H3 => ∃ j0 : Nat, m1 = j0 ∧ j0 ≤ l.length ∧ H3 = H ∧ T2.get 0 = (.sl a l.length cap g) ∧ T2.get 3 = (.i .u64 (numI (l.drop j0) % 18446744073709551616)) ∧ T2.get 4 = (.i .i64 ((j0 : Int) - 1))) (fun m1 T2 H3 hI4 => ?_) l.length _ _ ⟨l.length, rfl, Nat.le_refl _, rfl, rfl, (by rw [List.drop_length]; rfl), rfl⟩
  obtain ⟨j0, hm5, hp6, hsame10, hT7, hT8, hT9⟩ := hI4
  subst H3
  refine C_seq ?_
  refine C_seq ?_
  refine C_region ?_
  refine O_p (.i .i64 ((j0 : Int) - 1)) (r_mv hT9) ?_
  refine O_p (.b (decide (0 ≤ ((j0 : Int) - 1)))) (r_geq rfl rfl) ?_
  refine O_nil ?_
  refine C_cond (x := (decide (0 ≤ ((j0 : Int) - 1)))) rfl (fun hc11 => ?_) (fun hc11 => ?_)
  ·
    simp only [decide_eq_true_eq, decide_eq_false_iff_not, Bool.not_eq_true', Bool.not_eq_false', Bool.and_eq_true, Bool.or_eq_true, Bool.or_eq_false_iff, Bool.not_not] at hc11
    refine C_skip ?_
    refine C_seq ?_
    refine C_block ?_
    refine C_region ?_
    refine O_p (.i .u64 (numI (l.drop j0) % 18446744073709551616)) (r_mv hT8) ?_
    refine O_p (.i .u64 (IntKind.u64.wrap ((numI (l.drop j0) % 18446744073709551616) * 256))) (r_bin rfl rfl rfl) ?_
    refine O_p (.sl a l.length cap g) (r_mv hT7) ?_
    obtain ⟨j, rfl⟩ : ∃ j, j0 = j + 1 := ⟨j0 - 1, by omega⟩
    refine O_p (.i .i64 (((j : Nat)) : Int)) (by exact (r_mvi hT9 (by omega))) ?_
    refine O_q (by exact Bs.ix (hb.old hok hO0) rfl (i := j) rfl (by first | omega | (simp only [List.length_take, List.length_drop]; omega))) fun v13 hv12 => ?_
    refine O_p (.i .u8 ((l.getD j 0).toNat : Int)) (hv12.load rfl) ?_
    refine O_p (.i .u64 (IntKind.u64.wrap ((l.getD j 0).toNat : Int))) (r_cint rfl) ?_
    refine O_p (.i .u64 (IntKind.u64.wrap ((IntKind.u64.wrap ((numI (l.drop (j + 1)) % 18446744073709551616) * 256)) + (IntKind.u64.wrap ((l.getD j 0).toNat : Int))))) (r_bin rfl rfl rfl) ?_
    refine O_p (.i .u64 (IntKind.u64.wrap ((IntKind.u64.wrap ((numI (l.drop (j + 1)) % 18446744073709551616) * 256)) + (IntKind.u64.wrap ((l.getD j 0).toNat : Int))))) (r_mv rfl) ?_
    refine O_nil ?_
    refine C_region ?_
    refine O_p (.i .i64 (((j + 1) : Int) - 1)) (r_mv hT9) ?_
    refine O_p (.i .i64 ((((j + 1) : Int) - 1) - 1)) (by exact (r_subi rfl rfl (wrap_i64 (by omega) (by omega)))) ?_
    refine O_p (.i .i64 ((((j + 1) : Int) - 1) - 1)) (r_mv rfl) ?_
    refine O_nil ?_
    exact ⟨j, by omega, j, rfl, by omega, rfl, hT7, num_step (by omega), congrArg (AV.i .i64) (by omega)⟩
  ·
    simp only [decide_eq_true_eq, decide_eq_false_iff_not, Bool.not_eq_true', Bool.not_eq_false', Bool.and_eq_true, Bool.or_eq_true, Bool.or_eq_false_iff, Bool.not_not] at hc11
    refine C_exit ?_
    refine nx_exit ?_
    refine nx_exit ?_
    refine bk_hit ?_
    refine C_seq ?_
    refine C_region ?_
    refine O_p (.i .u64 (numI (l.drop j0) % 18446744073709551616)) (r_mv hT8) ?_
    refine O_p (.i .u64 (numI (l.drop j0) % 18446744073709551616)) (r_mv rfl) ?_
    refine O_nil ?_
    refine C_ret ?_
    have hj : j0 = 0 := by omega
    subst hj
    exact ⟨.inr rfl, _, resL_one (r_tmp rfl), rfl, rfl⟩
theorem words18 {tab : Nat → Option XFun} {sp : Nat → List AV → AH → Option (AV × AH)} (h17 : tab 42 = some x42) (h18 : tab 43 = some x43) {H : AH} (hok : H.Ok) {a : Option (Nat × Nat)} {len cap g : Nat} (hg : g = 0 ∨ g = 1) {l : List UInt8} (hb : Bs H (.sl a len cap g) l) (hcap : len ≤ cap) (hmax : cap ≤ 9223372036854775807) (hs : len ≤ 100000) : Ev tab sp (.fn (.func 43) [] []) [.sl a len cap g] H (fun v H' => Mine H.next 1 H' v (wcells (words l)) ∧ Kp H H') := by
  refine Ev_C (F := x43) h18 ?_
  have hl := hb.length
  subst hl
  have hO0 := Old.refl hok
  refine C_seq ?_
  refine C_region ?_
  refine O_p (.sl none 0 0 0) (r_mv rfl) ?_
  refine O_nil ?_
  refine C_seq ?_
  refine C_region ?_
  refine O_p (.sl none 0 0 0) (r_mv rfl) ?_
  refine O_nil ?_
  refine C_seq ?_
  refine C_region ?_
  refine O_p (.sl a l.length cap g) (r_mv rfl) ?_
  refine O_p (.i .i64 (((l.length : Nat)) : Int)) (r_len rfl) ?_
  refine O_p (.i .i64 ((((l.length : Nat)) : Int) / 8)) (by exact (r_quoi rfl rfl (by omega) (by omega) (by omega))) ?_
  refine O_p (.i .i64 ((((l.length : Nat)) : Int) / 8)) (r_mv rfl) ?_
  refine O_nil ?_
  refine C_seq ?_
  refine C_seq ?_
  refine C_region ?_
  refine O_p (.i .i64 0) (r_mv rfl) ?_
  refine O_nil ?_
  refine C_block ?_
  refine C_while (fun m1 T2 H3 => ∃ i : Nat, ∃ o : AV, m1 = l.length / 8 - i ∧ i ≤ l.length / 8 ∧ Old H.next H H3 ∧ Mine H.next 1 H3 o (wcells (ws l i)) ∧ T2.get 0 = (.sl a l.length cap g) ∧ T2.get 3 = o ∧ T2.get 4 = (.i .i64 ((l.length / 8 : Nat) : Int)) ∧ T2.get 5 = (.i .i64 (((i : Nat)) : Int))) (fun m1 T2 H3 hI4 => ?_) (l.length / 8) _ _ ⟨0, .sl none 0 0 0, rfl, by omega, hO0, Mine.nil _ _ _, rfl, rfl, (congrArg (AV.i .i64) (by omega)), rfl⟩
  obtain ⟨i, o, hm5, hp6, hO12, hM13, hT7, hT8, hT9, hT10⟩ := hI4
  have hx_hO12 := hO12.next
  refine C_seq ?_
  refine C_seq ?_
  refine C_region ?_
  refine O_p (.i .i64 (((i : Nat)) : Int)) (r_mv hT10) ?_
  refine O_p (.i .i64 ((l.length / 8 : Nat) : Int)) (r_mv hT9) ?_
  refine O_p (.b (decide ((((i : Nat)) : Int) < ((l.length / 8 : Nat) : Int)))) (r_lss rfl rfl) ?_
  refine O_nil ?_
  refine C_cond (x := (decide ((((i : Nat)) : Int) < ((l.length / 8 : Nat) : Int)))) rfl (fun hc14 => ?_) (fun hc14 => ?_)
  ·
    simp only [decide_eq_true_eq, decide_eq_false_iff_not, Bool.not_eq_true', Bool.not_eq_false', Bool.and_eq_true, Bool.or_eq_true, Bool.or_eq_false_iff, Bool.not_not] at hc14
    refine C_skip ?_
    refine C_seq ?_
    refine C_block ?_
    refine C_region ?_
    refine O_p o (r_mv hT8) ?_
    refine O_p (.sl a l.length cap g) (r_mv hT7) ?_
    refine O_p (.i .i64 (((i : Nat)) : Int)) (r_mv hT10) ?_
    refine O_p (.i .i64 (8 * (((i : Nat)) : Int))) (by exact (r_muli rfl rfl (wrap_i64 (by omega) (by omega)))) ?_
    refine O_p (.i .i64 (((i : Nat)) : Int)) (r_mv hT10) ?_
    refine O_p (.i .i64 (8 * (((i : Nat)) : Int))) (by exact (r_muli rfl rfl (wrap_i64 (by omega) (by omega)))) ?_
    refine O_p (.i .i64 ((8 * (((i : Nat)) : Int)) + 8)) (by exact (r_addi rfl rfl (wrap_i64 (by omega) (by omega)))) ?_
    refine O_q (by exact Bs.both hb hg rfl (i := (8 * i)) (j := ((8 * i) + 8)) rfl rfl (by first | omega | (simp only [List.length_take, List.length_drop]; omega)) (by first | omega | (simp only [List.length_take, List.length_drop]; omega)) (by first | omega | (simp only [List.length_take, List.length_drop]; omega))) fun v18 hv17 => ?_
    obtain ⟨a15, rfl, hb16⟩ := hv17
    refine O_call (Ev.mono (num17 h17 hO12.ok hg (hb16.old hok hO12) (by omega) (by omega)) fun v19 H20 hq21 => ?_)
    obtain ⟨rfl, hq21⟩ := hq21
    subst H20
    refine O_bslice (c := [(.i .u64 (numI ((l.drop (8 * i)).take (((8 * i) + 8) - (8 * i))) % 18446744073709551616))]) rfl fun n22 H23 hN24 => ?_
    have hF25 := hN24.fr (fun _ => False)
    have hM26 := hM13.anew hN24
    have hO27 := hO12.new hN24
    have hx_hO27 := hO27.next
    have hd28 : ¬ (o : AV).nameOf n22 := hM13.dis (by have := hN24.1; omega)
    have hnm_n22 : n22 = H3.next := hN24.1
    have hnx_H23 : H23.next = H3.next + 1 := hN24.2.1
    have hlt_n22 : n22 < H23.next := by omega
    refine O_qh (by exact r_app (n := i) (k := 1) (new := [(.i .u64 (numI ((l.drop (8 * i)).take (((8 * i) + 8) - (8 * i))) % 18446744073709551616))]) hO27.ok hO27.next hM26 (by simp [wcells, ws]) rfl rfl rfl (src_blk hN24.2.2.1 (by rfl)) rfl (by decide) (by decide) (by omega)) fun o29 H30 hA31 => ?_
    have hx_H30 := hA31.2.1
    have hO32 := hA31.old hM26 hO27
    have hx_hO32 := hO32.next
    refine O_p o29 (r_mv rfl) ?_
    refine O_nil ?_
    refine C_region ?_
    refine O_p (.i .i64 (((i : Nat)) : Int)) (r_mv hT10) ?_
    refine O_p (.i .i64 ((((i : Nat)) : Int) + 1)) (by exact (r_addi rfl rfl (wrap_i64 (by omega) (by omega)))) ?_
    refine O_p (.i .i64 ((((i : Nat)) : Int) + 1)) (r_mv rfl) ?_
    refine O_nil ?_
    exact ⟨l.length / 8 - (i + 1), by omega, i + 1, o29, rfl, by omega, hO32, (by have := hA31.1; rw [ws_succ]; exact this), hT7, rfl, hT9, rfl⟩
  ·
    simp only [decide_eq_true_eq, decide_eq_false_iff_not, Bool.not_eq_true', Bool.not_eq_false', Bool.and_eq_true, Bool.or_eq_true, Bool.or_eq_false_iff, Bool.not_not] at hc14
    refine C_exit ?_
    refine nx_exit ?_
    refine nx_exit ?_
    refine bk_hit ?_
    refine C_seq ?_
    refine C_region ?_
    refine O_p o (r_mv hT8) ?_
    refine O_p (.sl a l.length cap g) (r_mv hT7) ?_
    refine O_p (.i .i64 ((l.length / 8 : Nat) : Int)) (r_mv hT9) ?_
    refine O_p (.i .i64 (8 * ((l.length / 8 : Nat) : Int))) (by exact (r_muli rfl rfl (wrap_i64 (by omega) (by omega)))) ?_
    refine O_q (by exact Bs.lo hb hg rfl (i := (8 * (l.length / 8))) rfl (by first | omega | (simp only [List.length_take, List.length_drop]; omega)) (by first | omega | (simp only [List.length_take, List.length_drop]; omega))) fun v36 hv35 => ?_
    obtain ⟨a33, rfl, hb34⟩ := hv35
    refine O_call (Ev.mono (num17 h17 hO12.ok hg (hb34.old hok hO12) (by omega) (by omega)) fun v37 H38 hq39 => ?_)
    obtain ⟨rfl, hq39⟩ := hq39
    subst H38
    refine O_p (.sl a l.length cap g) (r_mv hT7) ?_
    refine O_p (.i .i64 (((l.length : Nat)) : Int)) (r_len rfl) ?_
    refine O_p (.i .i64 ((((l.length : Nat)) : Int) % 256)) (by exact (r_remi rfl rfl (by omega) (by omega))) ?_
    refine O_p (.i .u64 (IntKind.u64.wrap ((((l.length : Nat)) : Int) % 256))) (r_cint rfl) ?_
    refine O_p (.i .u64 (IntKind.u64.wrap ((IntKind.u64.wrap ((((l.length : Nat)) : Int) % 256)) * 2 ^ 56))) (r_bin rfl rfl rfl) ?_
    refine O_p (.i .u64 (addI (numI (l.drop (8 * (l.length / 8))) % 18446744073709551616) (IntKind.u64.wrap ((IntKind.u64.wrap ((((l.length : Nat)) : Int) % 256)) * 2 ^ 56)))) (r_bin rfl rfl rfl) ?_
    refine O_bslice (c := [(.i .u64 (addI (numI (l.drop (8 * (l.length / 8))) % 18446744073709551616) (IntKind.u64.wrap ((IntKind.u64.wrap ((((l.length : Nat)) : Int) % 256)) * 2 ^ 56))))]) rfl fun n40 H41 hN42 => ?_
    have hF43 := hN42.fr (fun _ => False)
    have hM44 := hM13.anew hN42
    have hO45 := hO12.new hN42
    have hx_hO45 := hO45.next
    have hd46 : ¬ (o : AV).nameOf n40 := hM13.dis (by have := hN42.1; omega)
    have hnm_n40 : n40 = H3.next := hN42.1
    have hnx_H41 : H41.next = H3.next + 1 := hN42.2.1
    have hlt_n40 : n40 < H41.next := by omega
    refine O_qh (by exact r_app (n := i) (k := 1) (new := [(.i .u64 (addI (numI (l.drop (8 * (l.length / 8))) % 18446744073709551616) (IntKind.u64.wrap ((IntKind.u64.wrap ((((l.length : Nat)) : Int) % 256)) * 2 ^ 56))))]) hO45.ok hO45.next hM44 (by simp [wcells, ws]) rfl rfl rfl (src_blk hN42.2.2.1 (by rfl)) rfl (by decide) (by decide) (by omega)) fun o47 H48 hA49 => ?_
    have hx_H48 := hA49.2.1
    have hO50 := hA49.old hM44 hO45
    have hx_hO50 := hO50.next
    refine O_p o47 (r_mv rfl) ?_
    refine O_nil ?_
    refine C_ret ?_
    have hi : i = l.length / 8 := by omega
    subst hi
    exact ⟨.inr rfl, _, resL_one (r_tmp rfl), words_fin hA49.1, hO50⟩
theorem code11 {H : AH} (hok : H.Ok) {ka : Option (Nat × Nat)} {klen kcap kg : Nat} (hkg : kg = 0 ∨ kg = 1) {key : List UInt8} (hk : Bs H (.sl ka klen kcap kg) key) (hkcap : klen ≤ kcap) (hkmax : kcap ≤ 9223372036854775807) {a : Option (Nat × Nat)} {len cap g : Nat} (hg : g = 0 ∨ g = 1) {l : List UInt8} (hb : Bs H (.sl a len cap g) l) (hcap : len ≤ cap) (hmax : cap ≤ 9223372036854775807) (hs : len ≤ 100000) : Ev tabA spA (.fn (.func 38) [] []) [.sl ka klen kcap kg, .sl a len cap g] H (fun v H' => v = .tup [.i .u64 (if key.length = 16 then code key l else 0), .b (decide (key.length = 16))] ∧ Kp H H') := by
  have h17 : tabA 42 = some x42 := rfl
  have h18 : tabA 43 = some x43 := rfl
  refine Ev_C (F := x38) rfl ?_
  have hl := hb.length
  subst hl
  have hkl := hk.length
  subst hkl
  have hO0 := Old.refl hok
  refine C_seq ?_
  refine C_region ?_
  refine O_p (.i .u64 0) (r_mv rfl) ?_
  refine O_p (.b false) (r_mv rfl) ?_
  refine O_nil ?_
  refine C_seq ?_
  refine C_seq ?_
  refine C_region ?_
  refine O_p (.sl ka key.length kcap kg) (r_mv rfl) ?_
  refine O_p (.i .i64 (((key.length : Nat)) : Int)) (r_len rfl) ?_
  refine O_p (.b (!decide ((((key.length : Nat)) : Int) = 16))) (r_neq rfl rfl) ?_
  refine O_nil ?_
  refine C_cond (x := (!decide ((((key.length : Nat)) : Int) = 16))) rfl (fun hc1 => ?_) (fun hc1 => ?_)
  ·
    simp only [decide_eq_true_eq, decide_eq_false_iff_not, Bool.not_eq_true', Bool.not_eq_false', Bool.and_eq_true, Bool.or_eq_true, Bool.or_eq_false_iff, Bool.not_not] at hc1
    refine C_seq ?_
    refine C_region ?_
    refine O_p (.i .u64 0) (r_mv rfl) ?_
    refine O_p (.b false) (r_mv rfl) ?_
    refine O_nil ?_
    refine C_ret ?_
    refine nx_ret ?_
    have e16 : key.length ≠ 16 := by omega
    refine ⟨.inr rfl, _, resL_cons (r_tmp (v := .i .u64 0) rfl) (resL_one (r_tmp (v := .b false) rfl)), ?_, hO0⟩
    simp [resV, e16]
  ·
    simp only [decide_eq_true_eq, decide_eq_false_iff_not, Bool.not_eq_true', Bool.not_eq_false', Bool.and_eq_true, Bool.or_eq_true, Bool.or_eq_false_iff, Bool.not_not] at hc1
    refine C_skip ?_
    refine C_seq ?_
    refine C_region ?_
    refine O_p (.sl ka key.length kcap kg) (r_mv rfl) ?_
    refine O_q (by exact Bs.hi hk hkg rfl (j := 8) rfl (by first | omega | (simp only [List.length_take, List.length_drop]; omega)) (by first | omega | (simp only [List.length_take, List.length_drop]; omega))) fun v5 hv4 => ?_
    obtain ⟨a2, rfl, hb3⟩ := hv4
    refine O_call (Ev.mono (num17 h17 hO0.ok hkg (hb3.old hok hO0) (by omega) (by omega)) fun v6 H7 hq8 => ?_)
    obtain ⟨rfl, hq8⟩ := hq8
    subst H7
    refine O_p (.i .u64 (numI (key.take 8) % 18446744073709551616)) (r_mv rfl) ?_
    refine O_nil ?_
    refine C_seq ?_
    refine C_region ?_
    refine O_p (.sl ka key.length kcap kg) (r_mv rfl) ?_
    refine O_q (by exact Bs.lo hk hkg rfl (i := 8) rfl (by first | omega | (simp only [List.length_take, List.length_drop]; omega)) (by first | omega | (simp only [List.length_take, List.length_drop]; omega))) fun v12 hv11 => ?_
    obtain ⟨a9, rfl, hb10⟩ := hv11
    refine O_call (Ev.mono (num17 h17 hO0.ok hkg (hb10.old hok hO0) (by omega) (by omega)) fun v13 H14 hq15 => ?_)
    obtain ⟨rfl, hq15⟩ := hq15
    subst H14
    refine O_p (.i .u64 (numI (key.drop 8) % 18446744073709551616)) (r_mv rfl) ?_
    refine O_nil ?_
    refine C_seq ?_
    refine C_region ?_
    refine O_p (.i .u64 (numI (key.take 8) % 18446744073709551616)) (r_mv rfl) ?_
    refine O_p (.i .u64 (xorI (numI (key.take 8) % 18446744073709551616) 8317987319222330741)) (r_bin rfl rfl rfl) ?_
    refine O_p (.i .u64 (xorI (numI (key.take 8) % 18446744073709551616) 8317987319222330741)) (r_mv rfl) ?_
    refine O_nil ?_
    refine C_seq ?_
    refine C_region ?_
    refine O_p (.i .u64 (numI (key.drop 8) % 18446744073709551616)) (r_mv rfl) ?_
    refine O_p (.i .u64 (xorI (numI (key.drop 8) % 18446744073709551616) 7237128888997146477)) (r_bin rfl rfl rfl) ?_
    refine O_p (.i .u64 (xorI (numI (key.drop 8) % 18446744073709551616) 7237128888997146477)) (r_mv rfl) ?_
    refine O_nil ?_
    refine C_seq ?_
    refine C_region ?_
    refine O_p (.i .u64 (numI (key.take 8) % 18446744073709551616)) (r_mv rfl) ?_
    refine O_p (.i .u64 (xorI (numI (key.take 8) % 18446744073709551616) 7816392313619706465)) (r_bin rfl rfl rfl) ?_
    refine O_p (.i .u64 (xorI (numI (key.take 8) % 18446744073709551616) 7816392313619706465)) (r_mv rfl) ?_
    refine O_nil ?_
    refine C_seq ?_
    refine C_region ?_
    refine O_p (.i .u64 (numI (key.drop 8) % 18446744073709551616)) (r_mv rfl) ?_
    refine O_p (.i .u64 (xorI (numI (key.drop 8) % 18446744073709551616) 8387220255154660723)) (r_bin rfl rfl rfl) ?_
    refine O_p (.i .u64 (xorI (numI (key.drop 8) % 18446744073709551616) 8387220255154660723)) (r_mv rfl) ?_
    refine O_nil ?_
    refine C_seq ?_
    refine C_region ?_
    refine O_p (.sl a l.length cap g) (r_mv rfl) ?_
    refine O_call (Ev.mono (words18 h17 h18 hO0.ok hg (hb.old hok hO0) (by omega) (by omega) hs) fun v16 H17 hq18 => ?_)
    obtain ⟨hMw, hKw⟩ := hq18
    have hx_hKw := hKw.next
    have hO19 := hO0.trans hKw
    have hx_hO19 := hO19.next
    have hwl := words_len l
    have hMw := Mine.down hMw (N := H.next) (by omega)
    refine O_p v16 (r_mv rfl) ?_
    refine O_nil ?_
    refine C_seq ?_
    refine C_seq ?_
    refine C_region ?_
    refine O_p (.i .i64 0) (r_mv rfl) ?_
    refine O_nil ?_
    refine C_block ?_
    refine C_while (fun m20 T21 H22 => ∃ i : Nat, m20 = (words l).length - i ∧ i ≤ (words l).length ∧ H22 = H17 ∧ T21.get 8 = (.i .u64 (st l (code0 key) i).1) ∧ T21.get 9 = (.i .u64 (st l (code0 key) i).2.1) ∧ T21.get 10 = (.i .u64 (st l (code0 key) i).2.2.1) ∧ T21.get 11 = (.i .u64 (st l (code0 key) i).2.2.2) ∧ T21.get 12 = v16 ∧ T21.get 13 = (.i .i64 (((i : Nat)) : Int))) (fun m20 T21 H22 hI23 => ?_) (words l).length _ _ ⟨0, rfl, Nat.zero_le _, rfl, rfl, rfl, rfl, rfl, rfl, rfl⟩
    obtain ⟨i, hm24, hp25, hsame32, hT26, hT27, hT28, hT29, hT30, hT31⟩ := hI23
    subst H22
    refine C_seq ?_
    refine C_seq ?_
    refine C_region ?_
    refine O_p (.i .i64 (((i : Nat)) : Int)) (r_mv hT31) ?_
    refine O_p v16 (r_mv hT30) ?_
    refine O_p (.i .i64 ((((words l).length : Nat)) : Int)) (by exact (r_lenOf rfl (hMw.own.lenOf (by simp [wcells]) (by decide)) hMw.own.isSl)) ?_
    refine O_p (.b (decide ((((i : Nat)) : Int) < ((((words l).length : Nat)) : Int)))) (r_lss rfl rfl) ?_
    refine O_nil ?_
    refine C_cond (x := (decide ((((i : Nat)) : Int) < ((((words l).length : Nat)) : Int)))) rfl (fun hc33 => ?_) (fun hc33 => ?_)
    ·
      simp only [decide_eq_true_eq, decide_eq_false_iff_not, Bool.not_eq_true', Bool.not_eq_false', Bool.and_eq_true, Bool.or_eq_true, Bool.or_eq_false_iff, Bool.not_not] at hc33
      refine C_skip ?_
      refine C_seq ?_
      refine C_block ?_
      refine C_seq ?_
      refine C_region ?_
      refine O_p (.i .u64 (st l (code0 key) i).2.2.2) (r_mv hT29) ?_
      refine O_p v16 (r_mv hT30) ?_
      refine O_p (.i .i64 (((i : Nat)) : Int)) (r_mv hT31) ?_
      refine O_q (by exact Own.ix hMw.own rfl (i := i) rfl (y := (.i .u64 ((words l).getD i 0))) (wc_get (by omega))) fun v35 hv34 => ?_
      refine O_p (.i .u64 ((words l).getD i 0)) (hv34.load rfl) ?_
      refine O_p (.i .u64 (xorI ((st l (code0 key) i).2.2.2) ((words l).getD i 0))) (r_bin rfl rfl rfl) ?_
      refine O_p (.i .u64 (xorI ((st l (code0 key) i).2.2.2) ((words l).getD i 0))) (r_mv rfl) ?_
      refine O_nil ?_
      refine C_seq ?_
      refine C_region ?_
      refine O_p (.i .u64 (st l (code0 key) i).1) (r_mv hT26) ?_
      refine O_p (.i .u64 (st l (code0 key) i).2.1) (r_mv hT27) ?_
      refine O_p (.i .u64 (st l (code0 key) i).2.2.1) (r_mv hT28) ?_
      refine O_p (.i .u64 (xorI ((st l (code0 key) i).2.2.2) ((words l).getD i 0))) (r_mv rfl) ?_
      obtain ⟨q36, hq36⟩ : ∃ z : Int × Int × Int × Int, z = rnd4 ((st l (code0 key) i).1, (st l (code0 key) i).2.1, (st l (code0 key) i).2.2.1, (xorI ((st l (code0 key) i).2.2.2) ((words l).getD i 0))) := ⟨_, rfl⟩
      refine O_call (Ev_sp (v := (.tup [(.i .u64 q36.1), (.i .u64 q36.2.1), (.i .u64 q36.2.2.1), (.i .u64 q36.2.2.2)])) rfl (by rw [hq36]; rfl) ?_)
      refine O_p (.tup [(.i .u64 q36.1), (.i .u64 q36.2.1), (.i .u64 q36.2.2.1), (.i .u64 q36.2.2.2)]) (r_mv rfl) ?_
      refine O_p (.i .u64 q36.1) (r_ext rfl rfl) ?_
      refine O_p (.i .u64 q36.2.1) (r_ext rfl rfl) ?_
      refine O_p (.i .u64 q36.2.2.1) (r_ext rfl rfl) ?_
      refine O_p (.i .u64 q36.2.2.2) (r_ext rfl rfl) ?_
      refine O_p (.i .u64 q36.1) (r_mv rfl) ?_
      refine O_p (.i .u64 q36.2.1) (r_mv rfl) ?_
      refine O_p (.i .u64 q36.2.2.1) (r_mv rfl) ?_
      refine O_p (.i .u64 q36.2.2.2) (r_mv rfl) ?_
      refine O_nil ?_
      refine C_seq ?_
      refine C_region ?_
      refine O_p (.i .u64 q36.1) (r_mv rfl) ?_
      refine O_p (.i .u64 q36.2.1) (r_mv rfl) ?_
      refine O_p (.i .u64 q36.2.2.1) (r_mv rfl) ?_
      refine O_p (.i .u64 q36.2.2.2) (r_mv rfl) ?_
      obtain ⟨q37, hq37⟩ : ∃ z : Int × Int × Int × Int, z = rnd4 q36 := ⟨_, rfl⟩
      refine O_call (Ev_sp (v := (.tup [(.i .u64 q37.1), (.i .u64 q37.2.1), (.i .u64 q37.2.2.1), (.i .u64 q37.2.2.2)])) rfl (by rw [hq37]; rfl) ?_)
      refine O_p (.tup [(.i .u64 q37.1), (.i .u64 q37.2.1), (.i .u64 q37.2.2.1), (.i .u64 q37.2.2.2)]) (r_mv rfl) ?_
      refine O_p (.i .u64 q37.1) (r_ext rfl rfl) ?_
      refine O_p (.i .u64 q37.2.1) (r_ext rfl rfl) ?_
      refine O_p (.i .u64 q37.2.2.1) (r_ext rfl rfl) ?_
      refine O_p (.i .u64 q37.2.2.2) (r_ext rfl rfl) ?_
      refine O_p (.i .u64 q37.1) (r_mv rfl) ?_
      refine O_p (.i .u64 q37.2.1) (r_mv rfl) ?_
      refine O_p (.i .u64 q37.2.2.1) (r_mv rfl) ?_
      refine O_p (.i .u64 q37.2.2.2) (r_mv rfl) ?_
      refine O_nil ?_
      refine C_region ?_
      refine O_p (.i .u64 q37.1) (r_mv rfl) ?_
      refine O_p v16 (r_mv hT30) ?_
      refine O_p (.i .i64 (((i : Nat)) : Int)) (r_mv hT31) ?_
      refine O_q (by exact Own.ix hMw.own rfl (i := i) rfl (y := (.i .u64 ((words l).getD i 0))) (wc_get (by omega))) fun v39 hv38 => ?_
      refine O_p (.i .u64 ((words l).getD i 0)) (hv38.load rfl) ?_
      refine O_p (.i .u64 (xorI q37.1 ((words l).getD i 0))) (r_bin rfl rfl rfl) ?_
      refine O_p (.i .u64 (xorI q37.1 ((words l).getD i 0))) (r_mv rfl) ?_
      refine O_nil ?_
      refine C_region ?_
      refine O_p (.i .i64 (((i : Nat)) : Int)) (r_mv hT31) ?_
      refine O_p (.i .i64 ((((i : Nat)) : Int) + 1)) (by exact (r_addi rfl rfl (wrap_i64 (by omega) (by omega)))) ?_
      refine O_p (.i .i64 ((((i : Nat)) : Int) + 1)) (r_mv rfl) ?_
      refine O_nil ?_
      exact ⟨(words l).length - (i + 1), by omega, i + 1, rfl, by omega, rfl, (step11 (by omega) hq36 hq37).1, (step11 (by omega) hq36 hq37).2.1, (step11 (by omega) hq36 hq37).2.2.1, (step11 (by omega) hq36 hq37).2.2.2, hT30, rfl⟩
    ·
      simp only [decide_eq_true_eq, decide_eq_false_iff_not, Bool.not_eq_true', Bool.not_eq_false', Bool.and_eq_true, Bool.or_eq_true, Bool.or_eq_false_iff, Bool.not_not] at hc33
      refine C_exit ?_
      refine nx_exit ?_
      refine nx_exit ?_
      refine bk_hit ?_
      refine C_seq ?_
      refine C_region ?_
      refine O_p (.i .u64 (st l (code0 key) i).2.2.1) (r_mv hT28) ?_
      refine O_p (.i .u64 (xorI ((st l (code0 key) i).2.2.1) 255)) (r_bin rfl rfl rfl) ?_
      refine O_p (.i .u64 (xorI ((st l (code0 key) i).2.2.1) 255)) (r_mv rfl) ?_
      refine O_nil ?_
      refine C_seq ?_
      refine C_seq ?_
      refine C_region ?_
      refine O_p (.i .i64 0) (r_mv rfl) ?_
      refine O_nil ?_
      refine C_block ?_
      refine C_loop ?_
      refine C_seq ?_
      refine C_seq ?_
      refine C_region ?_
      refine O_p (.i .i64 0) (r_mv rfl) ?_
      refine O_p (.b true) (r_bin rfl rfl rfl) ?_
      refine O_nil ?_
      refine C_cond (x := true) rfl (fun _ => ?_) (fun h => by cases h)
      refine C_skip ?_
      refine C_seq ?_
      refine C_block ?_
      refine C_region ?_
      refine O_p (.i .u64 (st l (code0 key) i).1) (r_mv hT26) ?_
      refine O_p (.i .u64 (st l (code0 key) i).2.1) (r_mv hT27) ?_
      refine O_p (.i .u64 (xorI ((st l (code0 key) i).2.2.1) 255)) (r_mv rfl) ?_
      refine O_p (.i .u64 (st l (code0 key) i).2.2.2) (r_mv hT29) ?_
      obtain ⟨q40, hq40⟩ : ∃ z : Int × Int × Int × Int, z = rnd4 ((st l (code0 key) i).1, (st l (code0 key) i).2.1, (xorI ((st l (code0 key) i).2.2.1) 255), (st l (code0 key) i).2.2.2) := ⟨_, rfl⟩
      refine O_call (Ev_sp (v := (.tup [(.i .u64 q40.1), (.i .u64 q40.2.1), (.i .u64 q40.2.2.1), (.i .u64 q40.2.2.2)])) rfl (by rw [hq40]; rfl) ?_)
      refine O_p (.tup [(.i .u64 q40.1), (.i .u64 q40.2.1), (.i .u64 q40.2.2.1), (.i .u64 q40.2.2.2)]) (r_mv rfl) ?_
      refine O_p (.i .u64 q40.1) (r_ext rfl rfl) ?_
      refine O_p (.i .u64 q40.2.1) (r_ext rfl rfl) ?_
      refine O_p (.i .u64 q40.2.2.1) (r_ext rfl rfl) ?_
      refine O_p (.i .u64 q40.2.2.2) (r_ext rfl rfl) ?_
      refine O_p (.i .u64 q40.1) (r_mv rfl) ?_
      refine O_p (.i .u64 q40.2.1) (r_mv rfl) ?_
      refine O_p (.i .u64 q40.2.2.1) (r_mv rfl) ?_
      refine O_p (.i .u64 q40.2.2.2) (r_mv rfl) ?_
      refine O_nil ?_
      refine C_region ?_
      refine O_p (.i .i64 0) (r_mv rfl) ?_
      refine O_p (.i .i64 1) (r_bin rfl rfl rfl) ?_
      refine O_p (.i .i64 1) (r_mv rfl) ?_
      refine O_nil ?_
      refine C_loop ?_
      refine C_seq ?_
      refine C_seq ?_
      refine C_region ?_
      refine O_p (.i .i64 1) (r_mv rfl) ?_
      refine O_p (.b true) (r_bin rfl rfl rfl) ?_
      refine O_nil ?_
      refine C_cond (x := true) rfl (fun _ => ?_) (fun h => by cases h)
      refine C_skip ?_
      refine C_seq ?_
      refine C_block ?_
      refine C_region ?_
      refine O_p (.i .u64 q40.1) (r_mv rfl) ?_
      refine O_p (.i .u64 q40.2.1) (r_mv rfl) ?_
      refine O_p (.i .u64 q40.2.2.1) (r_mv rfl) ?_
      refine O_p (.i .u64 q40.2.2.2) (r_mv rfl) ?_
      obtain ⟨q41, hq41⟩ : ∃ z : Int × Int × Int × Int, z = rnd4 q40 := ⟨_, rfl⟩
      refine O_call (Ev_sp (v := (.tup [(.i .u64 q41.1), (.i .u64 q41.2.1), (.i .u64 q41.2.2.1), (.i .u64 q41.2.2.2)])) rfl (by rw [hq41]; rfl) ?_)
      refine O_p (.tup [(.i .u64 q41.1), (.i .u64 q41.2.1), (.i .u64 q41.2.2.1), (.i .u64 q41.2.2.2)]) (r_mv rfl) ?_
      refine O_p (.i .u64 q41.1) (r_ext rfl rfl) ?_
      refine O_p (.i .u64 q41.2.1) (r_ext rfl rfl) ?_
      refine O_p (.i .u64 q41.2.2.1) (r_ext rfl rfl) ?_
      refine O_p (.i .u64 q41.2.2.2) (r_ext rfl rfl) ?_
      refine O_p (.i .u64 q41.1) (r_mv rfl) ?_
      refine O_p (.i .u64 q41.2.1) (r_mv rfl) ?_
      refine O_p (.i .u64 q41.2.2.1) (r_mv rfl) ?_
      refine O_p (.i .u64 q41.2.2.2) (r_mv rfl) ?_
      refine O_nil ?_
      refine C_region ?_
      refine O_p (.i .i64 1) (r_mv rfl) ?_
      refine O_p (.i .i64 2) (r_bin rfl rfl rfl) ?_
      refine O_p (.i .i64 2) (r_mv rfl) ?_
      refine O_nil ?_
      refine C_loop ?_
      refine C_seq ?_
      refine C_seq ?_
      refine C_region ?_
      refine O_p (.i .i64 2) (r_mv rfl) ?_
      refine O_p (.b true) (r_bin rfl rfl rfl) ?_
      refine O_nil ?_
      refine C_cond (x := true) rfl (fun _ => ?_) (fun h => by cases h)
      refine C_skip ?_
      refine C_seq ?_
      refine C_block ?_
      refine C_region ?_
      refine O_p (.i .u64 q41.1) (r_mv rfl) ?_
      refine O_p (.i .u64 q41.2.1) (r_mv rfl) ?_
      refine O_p (.i .u64 q41.2.2.1) (r_mv rfl) ?_
      refine O_p (.i .u64 q41.2.2.2) (r_mv rfl) ?_
      obtain ⟨q42, hq42⟩ : ∃ z : Int × Int × Int × Int, z = rnd4 q41 := ⟨_, rfl⟩
      refine O_call (Ev_sp (v := (.tup [(.i .u64 q42.1), (.i .u64 q42.2.1), (.i .u64 q42.2.2.1), (.i .u64 q42.2.2.2)])) rfl (by rw [hq42]; rfl) ?_)
      refine O_p (.tup [(.i .u64 q42.1), (.i .u64 q42.2.1), (.i .u64 q42.2.2.1), (.i .u64 q42.2.2.2)]) (r_mv rfl) ?_
      refine O_p (.i .u64 q42.1) (r_ext rfl rfl) ?_
      refine O_p (.i .u64 q42.2.1) (r_ext rfl rfl) ?_
      refine O_p (.i .u64 q42.2.2.1) (r_ext rfl rfl) ?_
      refine O_p (.i .u64 q42.2.2.2) (r_ext rfl rfl) ?_
      refine O_p (.i .u64 q42.1) (r_mv rfl) ?_
      refine O_p (.i .u64 q42.2.1) (r_mv rfl) ?_
      refine O_p (.i .u64 q42.2.2.1) (r_mv rfl) ?_
      refine O_p (.i .u64 q42.2.2.2) (r_mv rfl) ?_
      refine O_nil ?_
      refine C_region ?_
      refine O_p (.i .i64 2) (r_mv rfl) ?_
      refine O_p (.i .i64 3) (r_bin rfl rfl rfl) ?_
      refine O_p (.i .i64 3) (r_mv rfl) ?_
      refine O_nil ?_
      refine C_loop ?_
      refine C_seq ?_
      refine C_seq ?_
      refine C_region ?_
      refine O_p (.i .i64 3) (r_mv rfl) ?_
      refine O_p (.b true) (r_bin rfl rfl rfl) ?_
      refine O_nil ?_
      refine C_cond (x := true) rfl (fun _ => ?_) (fun h => by cases h)
      refine C_skip ?_
      refine C_seq ?_
      refine C_block ?_
      refine C_region ?_
      refine O_p (.i .u64 q42.1) (r_mv rfl) ?_
      refine O_p (.i .u64 q42.2.1) (r_mv rfl) ?_
      refine O_p (.i .u64 q42.2.2.1) (r_mv rfl) ?_
      refine O_p (.i .u64 q42.2.2.2) (r_mv rfl) ?_
      obtain ⟨q43, hq43⟩ : ∃ z : Int × Int × Int × Int, z = rnd4 q42 := ⟨_, rfl⟩
      refine O_call (Ev_sp (v := (.tup [(.i .u64 q43.1), (.i .u64 q43.2.1), (.i .u64 q43.2.2.1), (.i .u64 q43.2.2.2)])) rfl (by rw [hq43]; rfl) ?_)
      refine O_p (.tup [(.i .u64 q43.1), (.i .u64 q43.2.1), (.i .u64 q43.2.2.1), (.i .u64 q43.2.2.2)]) (r_mv rfl) ?_
      refine O_p (.i .u64 q43.1) (r_ext rfl rfl) ?_
      refine O_p (.i .u64 q43.2.1) (r_ext rfl rfl) ?_
      refine O_p (.i .u64 q43.2.2.1) (r_ext rfl rfl) ?_
      refine O_p (.i .u64 q43.2.2.2) (r_ext rfl rfl) ?_
      refine O_p (.i .u64 q43.1) (r_mv rfl) ?_
      refine O_p (.i .u64 q43.2.1) (r_mv rfl) ?_
      refine O_p (.i .u64 q43.2.2.1) (r_mv rfl) ?_
      refine O_p (.i .u64 q43.2.2.2) (r_mv rfl) ?_
      refine O_nil ?_
      refine C_region ?_
      refine O_p (.i .i64 3) (r_mv rfl) ?_
      refine O_p (.i .i64 4) (r_bin rfl rfl rfl) ?_
      refine O_p (.i .i64 4) (r_mv rfl) ?_
      refine O_nil ?_
      refine C_loop ?_
      refine C_seq ?_
      refine C_seq ?_
      refine C_region ?_
      refine O_p (.i .i64 4) (r_mv rfl) ?_
      refine O_p (.b false) (r_bin rfl rfl rfl) ?_
      refine O_nil ?_
      refine C_cond (x := false) rfl (fun h => by cases h) (fun _ => ?_)
      refine C_exit ?_
      refine nx_exit ?_
      refine nx_exit ?_
      refine bk_hit ?_
      refine C_seq ?_
      refine C_region ?_
      refine O_p (.i .u64 q43.1) (r_mv rfl) ?_
      refine O_p (.i .u64 q43.2.1) (r_mv rfl) ?_
      refine O_p (.i .u64 (xorI q43.1 q43.2.1)) (r_bin rfl rfl rfl) ?_
      refine O_p (.i .u64 q43.2.2.1) (r_mv rfl) ?_
      refine O_p (.i .u64 (xorI (xorI q43.1 q43.2.1) q43.2.2.1)) (r_bin rfl rfl rfl) ?_
      refine O_p (.i .u64 q43.2.2.2) (r_mv rfl) ?_
      refine O_p (.i .u64 (xorI (xorI (xorI q43.1 q43.2.1) q43.2.2.1) q43.2.2.2)) (r_bin rfl rfl rfl) ?_
      refine O_p (.i .u64 (xorI (xorI (xorI q43.1 q43.2.1) q43.2.2.1) q43.2.2.2)) (r_mv rfl) ?_
      refine O_p (.b true) (r_mv rfl) ?_
      refine O_nil ?_
      refine C_ret ?_
      have hi : i = (words l).length := by omega
      subst hi
      refine ⟨.inr rfl, _, resL_cons (r_tmp (v := (.i .u64 (xorI (xorI (xorI q43.1 q43.2.1) q43.2.2.1) q43.2.2.2))) rfl) (resL_one (r_tmp (v := (.b true)) rfl)), ?_, hO19⟩
      have e16 : key.length = 16 := by omega
      have h := code_fin key l
      simp only [resV, e16, if_true, decide_true]; rw [← h, codeR_eq hq40 hq41 hq42 hq43]
theorem code10 {H : AH} (hok : H.Ok) {ka : Option (Nat × Nat)} {klen kcap kg : Nat} (hkg : kg = 0 ∨ kg = 1) {key : List UInt8} (hk : Bs H (.sl ka klen kcap kg) key) (hkcap : klen ≤ kcap) (hkmax : kcap ≤ 9223372036854775807) {a : Option (Nat × Nat)} {len cap g : Nat} (hg : g = 0 ∨ g = 1) {l : List UInt8} (hb : Bs H (.sl a len cap g) l) (hcap : len ≤ cap) (hmax : cap ≤ 9223372036854775807) (hs : len ≤ 100000) : Ev tabA spA (.fn (.func 23) [] []) [.sl ka klen kcap kg, .sl a len cap g] H (fun v H' => v = .tup [.i .u64 (if key.length = 16 then code key l else 0), .b (decide (key.length = 16))] ∧ Kp H H') := by
  have h15 : tabA 34 = some x34 := rfl
  refine Ev_C (F := x23) rfl ?_
  have hl := hb.length
  subst hl
  have hkl := hk.length
  subst hkl
  have hO0 := Old.refl hok
  refine C_seq ?_
  refine C_region ?_
  refine O_p (.i .u64 0) (r_mv rfl) ?_
  refine O_p (.b false) (r_mv rfl) ?_
  refine O_nil ?_
  refine C_seq ?_
  refine C_seq ?_
  refine C_region ?_
  refine O_p (.sl ka key.length kcap kg) (r_mv rfl) ?_
  refine O_p (.i .i64 (((key.length : Nat)) : Int)) (r_len rfl) ?_
  refine O_p (.b (!decide ((((key.length : Nat)) : Int) = 16))) (r_neq rfl rfl) ?_
  refine O_nil ?_
  refine C_cond (x := (!decide ((((key.length : Nat)) : Int) = 16))) rfl (fun hc1 => ?_) (fun hc1 => ?_)
  ·
    simp only [decide_eq_true_eq, decide_eq_false_iff_not, Bool.not_eq_true', Bool.not_eq_false', Bool.and_eq_true, Bool.or_eq_true, Bool.or_eq_false_iff, Bool.not_not] at hc1
    refine C_seq ?_
    refine C_region ?_
    refine O_p (.i .u64 0) (r_mv rfl) ?_
    refine O_p (.b false) (r_mv rfl) ?_
    refine O_nil ?_
    refine C_ret ?_
    refine nx_ret ?_
    have e16 : key.length ≠ 16 := by omega
    refine ⟨.inr rfl, _, resL_cons (r_tmp (v := .i .u64 0) rfl) (resL_one (r_tmp (v := .b false) rfl)), ?_, hO0⟩
    simp [resV, e16]
  ·
    simp only [decide_eq_true_eq, decide_eq_false_iff_not, Bool.not_eq_true', Bool.not_eq_false', Bool.and_eq_true, Bool.or_eq_true, Bool.or_eq_false_iff, Bool.not_not] at hc1
    refine C_skip ?_
    refine C_seq ?_
    refine C_draw fun b2 H3 hbase4 hA5 => ?_
    have hnx6 : H3.next = H.next + 7 := hA5.1
    have hF7 := hA5.fr (fun _ => False)
    have hO8 := hO0.aside hA5
    have hx_hO8 := hO8.next
    refine D_l (v := (.sl ka key.length kcap kg)) rfl rfl rfl (r_mv rfl) ?_
    refine D_l (v := (.sl ka key.length kcap kg)) rfl rfl rfl (r_mv rfl) ?_
    refine D_q rfl rfl rfl (by exact Bs.lo hk hkg rfl (i := 8) rfl (by first | omega | (simp only [List.length_take, List.length_drop]; omega)) (by first | omega | (simp only [List.length_take, List.length_drop]; omega))) fun v12 hv11 => ?_
    obtain ⟨a9, rfl, hb10⟩ := hv11
    refine D_call (Ev.mono (low15 h15 hO8.ok hkg (hk.old hok hO8) (by omega) (by omega) (by first | omega | (simp only [List.length_take, List.length_drop]; omega))) fun v13 H14 hq15 => ?_)
    obtain ⟨rfl, hq15⟩ := hq15
    subst H14
    refine And.intro True.intro ?_
    refine D_call (Ev.mono (low15 h15 hO8.ok hkg (hb10.old hok hO8) (by omega) (by omega) (by first | omega | (simp only [List.length_take, List.length_drop]; omega))) fun v16 H17 hq18 => ?_)
    obtain ⟨rfl, hq18⟩ := hq18
    subst H17
    refine And.intro True.intro ?_
    refine D_l (v := (.i .u64 (numI (key.take 8)))) rfl rfl rfl (r_mv rfl) ?_
    refine D_l (v := (.i .u64 (numI ((key.drop 8).take 8)))) rfl rfl rfl (r_mv rfl) ?_
    refine D_nil ?_
    refine C_seq ?_
    refine C_region ?_
    refine O_p (.i .u64 (numI (key.take 8))) (r_mv rfl) ?_
    refine O_p (.i .u64 (xorI (numI (key.take 8)) 8317987319222330741)) (r_bin rfl rfl rfl) ?_
    refine O_p (.i .u64 (numI ((key.drop 8).take 8))) (r_mv rfl) ?_
    refine O_p (.i .u64 (xorI (numI ((key.drop 8).take 8)) 7237128888997146477)) (r_bin rfl rfl rfl) ?_
    refine O_p (.i .u64 (numI (key.take 8))) (r_mv rfl) ?_
    refine O_p (.i .u64 (xorI (numI (key.take 8)) 7816392313619706465)) (r_bin rfl rfl rfl) ?_
    refine O_p (.i .u64 (numI ((key.drop 8).take 8))) (r_mv rfl) ?_
    refine O_p (.i .u64 (xorI (numI ((key.drop 8).take 8)) 8387220255154660723)) (r_bin rfl rfl rfl) ?_
    refine O_p (.agg [(.i .u64 (xorI (numI (key.take 8)) 8317987319222330741)), (.i .u64 (xorI (numI ((key.drop 8).take 8)) 7237128888997146477)), (.i .u64 (xorI (numI (key.take 8)) 7816392313619706465)), (.i .u64 (xorI (numI ((key.drop 8).take 8)) 8387220255154660723))]) (r_build rfl) ?_
    refine O_alloc fun n19 H20 hN21 => ?_
    have hF22 := hN21.fr (fun _ => False)
    have hO23 := hO8.new hN21
    have hx_hO23 := hO23.next
    have hnm_n19 : n19 = H3.next := hN21.1
    have hnx_H20 : H20.next = H3.next + 1 := hN21.2.1
    have hlt_n19 : n19 < H20.next := by omega
    refine O_store (vs := [(.i .u64 (xorI (numI (key.take 8)) 8317987319222330741)), (.i .u64 (xorI (numI ((key.drop 8).take 8)) 7237128888997146477)), (.i .u64 (xorI (numI (key.take 8)) 7816392313619706465)), (.i .u64 (xorI (numI ((key.drop 8).take 8)) 8387220255154660723))]) (c' := [(.i .u64 (xorI (numI (key.take 8)) 8317987319222330741)), (.i .u64 (xorI (numI ((key.drop 8).take 8)) 7237128888997146477)), (.i .u64 (xorI (numI (key.take 8)) 7816392313619706465)), (.i .u64 (xorI (numI ((key.drop 8).take 8)) 8387220255154660723))]) rfl (by rfl) hN21.2.2.1 rfl (List.cons_ne_nil _ _) (Nat.le_of_ble_eq_true rfl) rfl fun H24 hW25 => ?_
    have hO26 := hO23.wr hW25 (by omega) (by omega)
    have hx_hO26 := hO26.next
    have hnx_H24 : H24.next = H20.next := hW25.1
    have hlt_n19 : n19 < H24.next := by omega
    refine O_nil ?_
    refine C_seq ?_
    refine C_region ?_
    refine O_p (.sl a l.length cap g) (r_mv rfl) ?_
    refine O_p (.i .i64 (((l.length : Nat)) : Int)) (r_len rfl) ?_
    refine O_p (.i .u64 (IntKind.u64.wrap (((l.length : Nat)) : Int))) (r_cint rfl) ?_
    refine O_p (.i .u64 (IntKind.u64.wrap ((IntKind.u64.wrap (((l.length : Nat)) : Int)) * 2 ^ 56))) (r_bin rfl rfl rfl) ?_
    refine O_p (.i .u64 (IntKind.u64.wrap ((IntKind.u64.wrap (((l.length : Nat)) : Int)) * 2 ^ 56))) (r_mv rfl) ?_
    refine O_nil ?_
    refine C_seq ?_
    refine C_block ?_
    refine C_while (fun m27 T28 H29 => ∃ k : Nat, ∃ a1 : Option (Nat × Nat), m27 = l.length - 8 * k ∧ 8 * k ≤ l.length ∧ Bs H (.sl a1 (l.length - 8 * k) (cap - 8 * k) g) (l.drop (8 * k)) ∧ Old H.next H H29 ∧ H29.get n19 = some (.cells [(.i .u64 (st l (code0 key) k).1), (.i .u64 (st l (code0 key) k).2.1), (.i .u64 (st l (code0 key) k).2.2.1), (.i .u64 (st l (code0 key) k).2.2.2)] true) ∧ n19 < H29.next ∧ T28.get 1 = (.sl a1 (l.length - 8 * k) (cap - 8 * k) g) ∧ T28.get 8 = (.p (some (n19, 0))) ∧ T28.get 9 = (.i .u64 (endv l 0))) (fun m27 T28 H29 hI30 => ?_) (l.length - 8 * 0) _ _ ⟨0, a, rfl, Nat.zero_le _, hb, hO26, (by rw [show st l (code0 key) 0 = code0 key from rfl, key_num key (by omega)]; exact hW25.2.1), hlt_n19, rfl, rfl, (end_zero l)⟩
    obtain ⟨k, a1, hm31, hp32, hp33, hO38, hb39, hlt_n19, hT34, hT35, hT36⟩ := hI30
    have hx_hO38 := hO38.next
    refine C_seq ?_
    refine C_seq ?_
    refine C_region ?_
    refine O_p (.sl a1 (l.length - 8 * k) (cap - 8 * k) g) (r_mv hT34) ?_
    refine O_p (.i .i64 ((((l.length - 8 * k) : Nat)) : Int)) (r_len rfl) ?_
    refine O_p (.b (decide (8 ≤ ((((l.length - 8 * k) : Nat)) : Int)))) (r_geq rfl rfl) ?_
    refine O_nil ?_
    refine C_cond (x := (decide (8 ≤ ((((l.length - 8 * k) : Nat)) : Int)))) rfl (fun hc40 => ?_) (fun hc40 => ?_)
    ·
      simp only [decide_eq_true_eq, decide_eq_false_iff_not, Bool.not_eq_true', Bool.not_eq_false', Bool.and_eq_true, Bool.or_eq_true, Bool.or_eq_false_iff, Bool.not_not] at hc40
      refine C_skip ?_
      refine C_seq ?_
      refine C_block ?_
      refine C_draw fun b41 H42 hbase43 hA44 => ?_
      have hnx45 : H42.next = H29.next + 5 := hA44.1
      have hb46 := (hA44.2 _).trans hb39
      have hF47 := hA44.fr (fun _ => False)
      have hO48 := hO38.aside hA44
      have hx_hO48 := hO48.next
      have hlt_n19 : n19 < H42.next := by omega
      refine D_l (v := (.sl a1 (l.length - 8 * k) (cap - 8 * k) g)) rfl rfl rfl (r_mv hT34) ?_
      refine D_r (v := (.agg [(.i .u64 (st l (code0 key) k).1), (.i .u64 (st l (code0 key) k).2.1), (.i .u64 (st l (code0 key) k).2.2.1), (.i .u64 (st l (code0 key) k).2.2.2)])) rfl rfl rfl (r_ldA hT35 hb46 rfl) ?_
      refine D_call (Ev.mono (low15 h15 hO48.ok hg (hp33.old hok hO48) (by omega) (by omega) (by first | omega | (simp only [List.length_take, List.length_drop]; omega))) fun v49 H50 hq51 => ?_)
      obtain ⟨rfl, hq51⟩ := hq51
      subst H50
      refine And.intro (And.intro (Or.inr (look_run rfl rfl (r_ldA hT35 hb46 rfl))) True.intro) ?_
      obtain ⟨q52, hq52⟩ : ∃ z : Int × Int × Int × Int, z = tk (st l (code0 key) k) (numI ((l.drop (8 * k)).take 8)) := ⟨_, rfl⟩
      refine D_call (Ev_sp (v := (.agg [(.i .u64 q52.1), (.i .u64 q52.2.1), (.i .u64 q52.2.2.1), (.i .u64 q52.2.2.2)])) rfl (by rw [hq52]; rfl) ?_)
      refine And.intro (And.intro (Or.inl rfl) True.intro) ?_
      refine D_store (vs := [(.i .u64 q52.1), (.i .u64 q52.2.1), (.i .u64 q52.2.2.1), (.i .u64 q52.2.2.2)]) (c' := [(.i .u64 q52.1), (.i .u64 q52.2.1), (.i .u64 q52.2.2.1), (.i .u64 q52.2.2.2)]) hT35 (by rfl) hb46 rfl (List.cons_ne_nil _ _) (Nat.le_of_ble_eq_true rfl) rfl fun H53 hW54 => ?_
      have hO55 := hO48.wr hW54 (by omega) (by omega)
      have hx_hO55 := hO55.next
      have hnx_H53 : H53.next = H42.next := hW54.1
      have hlt_n19 : n19 < H53.next := by omega
      refine And.intro True.intro ?_
      refine D_nil ?_
      refine C_region ?_
      refine O_p (.sl a1 (l.length - 8 * k) (cap - 8 * k) g) (r_mv hT34) ?_
      refine O_q (by exact Bs.lo hp33 hg rfl (i := 8) rfl (by first | omega | (simp only [List.length_take, List.length_drop]; omega)) (by first | omega | (simp only [List.length_take, List.length_drop]; omega))) fun v59 hv58 => ?_
      obtain ⟨a56, rfl, hb57⟩ := hv58
      refine O_p (.sl a56 ((l.length - 8 * k) - 8) ((cap - 8 * k) - 8) g) (r_mv rfl) ?_
      refine O_nil ?_
      exact ⟨l.length - 8 * (k + 1), by omega, k + 1, a56, rfl, by omega, (by have h := hb57; rw [show l.length - 8 * k - 8 = l.length - 8 * (k + 1) by omega, show cap - 8 * k - 8 = cap - 8 * (k + 1) by omega, List.drop_drop, show 8 * k + 8 = 8 * (k + 1) by omega] at h; exact h), hO55, (by rw [st_low (by omega), ← hq52]; exact hW54.2.1), hlt_n19, (show AV.sl a56 (l.length - 8 * k - 8) (cap - 8 * k - 8) g = AV.sl a56 (l.length - 8 * (k + 1)) (cap - 8 * (k + 1)) g by rw [show l.length - 8 * k - 8 = l.length - 8 * (k + 1) by omega, show cap - 8 * k - 8 = cap - 8 * (k + 1) by omega]), hT35, hT36⟩
    ·
      simp only [decide_eq_true_eq, decide_eq_false_iff_not, Bool.not_eq_true', Bool.not_eq_false', Bool.and_eq_true, Bool.or_eq_true, Bool.or_eq_false_iff, Bool.not_not] at hc40
      refine C_exit ?_
      refine nx_exit ?_
      refine nx_exit ?_
      refine bk_hit ?_
      refine C_seq ?_
      refine C_seq ?_
      refine C_region ?_
      have hkk : k = l.length / 8 := by omega
      subst hkk
      refine O_p (.sl a1 (l.length - 8 * (l.length / 8)) (cap - 8 * (l.length / 8)) g) (r_mv hT34) ?_
      refine O_p (.i .i64 ((((l.length - 8 * (l.length / 8)) : Nat)) : Int)) (r_len rfl) ?_
      refine O_p (.i .i64 0) (r_mv rfl) ?_
      refine O_nil ?_
      refine C_block ?_
      refine C_while (fun m60 T61 H62 => ∃ n : Nat, m60 = l.length - 8 * (l.length / 8) - n ∧ n ≤ l.length - 8 * (l.length / 8) ∧ Old H.next H H62 ∧ H62.get n19 = some (.cells [(.i .u64 (st l (code0 key) (l.length / 8)).1), (.i .u64 (st l (code0 key) (l.length / 8)).2.1), (.i .u64 (st l (code0 key) (l.length / 8)).2.2.1), (.i .u64 (st l (code0 key) (l.length / 8)).2.2.2)] true) ∧ n19 < H62.next ∧ T61.get 8 = (.p (some (n19, 0))) ∧ T61.get 9 = (.i .u64 (endv l n)) ∧ T61.get 42 = (.sl a1 (l.length - 8 * (l.length / 8)) (cap - 8 * (l.length / 8)) g) ∧ T61.get 43 = (.i .i64 ((((l.length - 8 * (l.length / 8)) : Nat)) : Int)) ∧ T61.get 44 = (.i .i64 (((n : Nat)) : Int))) (fun m60 T61 H62 hI63 => ?_) (l.length - 8 * (l.length / 8) - 0) _ _ ⟨0, rfl, by omega, hO38, hb39, hlt_n19, hT35, hT36, rfl, rfl, rfl⟩
      obtain ⟨n, hm64, hp65, hO72, hb73, hlt_n19, hT66, hT67, hT68, hT69, hT70⟩ := hI63
      have hx_hO72 := hO72.next
      refine C_seq ?_
      refine C_region ?_
      refine O_p (.b (decide ((((n : Nat)) : Int) < ((((l.length - 8 * (l.length / 8)) : Nat)) : Int)))) (r_lss hT70 hT69) ?_
      refine O_nil ?_
      refine C_seq ?_
      refine C_cond (x := (decide ((((n : Nat)) : Int) < ((((l.length - 8 * (l.length / 8)) : Nat)) : Int)))) rfl (fun hc74 => ?_) (fun hc74 => ?_)
      ·
        simp only [decide_eq_true_eq, decide_eq_false_iff_not, Bool.not_eq_true', Bool.not_eq_false', Bool.and_eq_true, Bool.or_eq_true, Bool.or_eq_false_iff, Bool.not_not] at hc74
        refine C_skip ?_
        refine C_seq ?_
        refine C_block ?_
        refine C_seq ?_
        refine C_region ?_
        refine O_p (.i .i64 (((n : Nat)) : Int)) (r_mv hT70) ?_
        refine O_q (by exact Bs.ix (hp33.old hok hO72) (by exact hT68) (i := n) (by exact hT70) (by first | omega | (simp only [List.length_take, List.length_drop]; omega))) fun v76 hv75 => ?_
        refine O_p (.i .u8 (((l.drop (8 * (l.length / 8))).getD n 0).toNat : Int)) (hv75.load rfl) ?_
        refine O_p (.i .i64 (((n : Nat)) : Int)) (r_mv rfl) ?_
        refine O_p (.i .u8 (((l.drop (8 * (l.length / 8))).getD n 0).toNat : Int)) (r_mv rfl) ?_
        refine O_nil ?_
        refine C_region ?_
        refine O_p (.i .u64 (endv l n)) (r_mv hT67) ?_
        refine O_p (.i .u8 (((l.drop (8 * (l.length / 8))).getD n 0).toNat : Int)) (r_mv rfl) ?_
        refine O_p (.i .u64 (IntKind.u64.wrap (((l.drop (8 * (l.length / 8))).getD n 0).toNat : Int))) (r_cint rfl) ?_
        refine O_p (.i .i64 (((n : Nat)) : Int)) (r_mv rfl) ?_
        refine O_p (.i .i64 (8 * (((n : Nat)) : Int))) (by exact (r_muli rfl rfl (wrap_i64 (by omega) (by omega)))) ?_
        refine O_p (.i .u64 (IntKind.u64.wrap ((IntKind.u64.wrap (((l.drop (8 * (l.length / 8))).getD n 0).toNat : Int)) * 2 ^ (min ((8 * (((n : Nat)) : Int)) : Int).toNat 64)))) (r_bin rfl rfl rfl) ?_
        refine O_p (.i .u64 (orI (endv l n) (IntKind.u64.wrap ((IntKind.u64.wrap (((l.drop (8 * (l.length / 8))).getD n 0).toNat : Int)) * 2 ^ (min ((8 * (((n : Nat)) : Int)) : Int).toNat 64))))) (r_bin rfl rfl rfl) ?_
        refine O_p (.i .u64 (orI (endv l n) (IntKind.u64.wrap ((IntKind.u64.wrap (((l.drop (8 * (l.length / 8))).getD n 0).toNat : Int)) * 2 ^ (min ((8 * (((n : Nat)) : Int)) : Int).toNat 64))))) (r_mv rfl) ?_
        refine O_nil ?_
        refine C_region ?_
        refine O_p (.i .i64 ((((n : Nat)) : Int) + 1)) (by exact (r_addi hT70 rfl (wrap_i64 (by omega) (by omega)))) ?_
        refine O_p (.i .i64 ((((n : Nat)) : Int) + 1)) (r_mv rfl) ?_
        refine O_nil ?_
        exact ⟨l.length - 8 * (l.length / 8) - (n + 1), by omega, n + 1, rfl, by omega, hO72, hb73, hlt_n19, hT66, (end_step (by omega)), hT68, hT69, rfl⟩
      ·
        simp only [decide_eq_true_eq, decide_eq_false_iff_not, Bool.not_eq_true', Bool.not_eq_false', Bool.and_eq_true, Bool.or_eq_true, Bool.or_eq_false_iff, Bool.not_not] at hc74
        refine C_exit ?_
        refine nx_exit ?_
        refine nx_exit ?_
        refine bk_hit ?_
        refine C_seq ?_
        refine C_region ?_
        have hnn : n = l.length - 8 * (l.length / 8) := by omega
        subst hnn
        refine O_p (.agg [(.i .u64 (st l (code0 key) (l.length / 8)).1), (.i .u64 (st l (code0 key) (l.length / 8)).2.1), (.i .u64 (st l (code0 key) (l.length / 8)).2.2.1), (.i .u64 (st l (code0 key) (l.length / 8)).2.2.2)]) (r_ldA hT66 hb73 rfl) ?_
        refine O_p (.i .u64 (endv l (l.length - 8 * (l.length / 8)))) (r_mv hT67) ?_
        obtain ⟨q77, hq77⟩ : ∃ z : Int × Int × Int × Int, z = tk (st l (code0 key) (l.length / 8)) (endv l (l.length - 8 * (l.length / 8))) := ⟨_, rfl⟩
        refine O_call (Ev_sp (v := (.agg [(.i .u64 q77.1), (.i .u64 q77.2.1), (.i .u64 q77.2.2.1), (.i .u64 q77.2.2.2)])) rfl (by rw [hq77]; rfl) ?_)
        refine O_store (vs := [(.i .u64 q77.1), (.i .u64 q77.2.1), (.i .u64 q77.2.2.1), (.i .u64 q77.2.2.2)]) (c' := [(.i .u64 q77.1), (.i .u64 q77.2.1), (.i .u64 q77.2.2.1), (.i .u64 q77.2.2.2)]) hT66 (by rfl) hb73 rfl (List.cons_ne_nil _ _) (Nat.le_of_ble_eq_true rfl) rfl fun H78 hW79 => ?_
        have hO80 := hO72.wr hW79 (by omega) (by omega)
        have hx_hO80 := hO80.next
        have hnx_H78 : H78.next = H62.next := hW79.1
        have hlt_n19 : n19 < H78.next := by omega
        refine O_nil ?_
        refine C_seq ?_
        refine C_region ?_
        refine O_p (.p (some (n19, 2))) (r_iarr' hT66 rfl rfl rfl) ?_
        refine O_p (.i .u64 q77.2.2.1) (r_ld rfl hW79.2.1 rfl) ?_
        refine O_p (.i .u64 (xorI q77.2.2.1 255)) (r_bin rfl rfl rfl) ?_
        refine O_p (.p (some (n19, 2))) (r_iarr' hT66 rfl rfl rfl) ?_
        refine O_store (vs := [(.i .u64 (xorI q77.2.2.1 255))]) (c' := [(.i .u64 q77.1), (.i .u64 q77.2.1), (.i .u64 (xorI q77.2.2.1 255)), (.i .u64 q77.2.2.2)]) rfl (by rfl) hW79.2.1 rfl (List.cons_ne_nil _ _) (Nat.le_of_ble_eq_true rfl) rfl fun H81 hW82 => ?_
        have hO83 := hO80.wr hW82 (by omega) (by omega)
        have hx_hO83 := hO83.next
        have hnx_H81 : H81.next = H78.next := hW82.1
        have hlt_n19 : n19 < H81.next := by omega
        refine O_nil ?_
        refine C_seq ?_
        refine C_region ?_
        refine O_p (.agg [(.i .u64 q77.1), (.i .u64 q77.2.1), (.i .u64 (xorI q77.2.2.1 255)), (.i .u64 q77.2.2.2)]) (r_ldA hT66 hW82.2.1 rfl) ?_
        obtain ⟨q84, hq84⟩ : ∃ z : Int × Int × Int × Int, z = rnd4 (q77.1, q77.2.1, (xorI q77.2.2.1 255), q77.2.2.2) := ⟨_, rfl⟩
        refine O_call (Ev_sp (v := (.agg [(.i .u64 q84.1), (.i .u64 q84.2.1), (.i .u64 q84.2.2.1), (.i .u64 q84.2.2.2)])) rfl (by rw [hq84]; rfl) ?_)
        obtain ⟨q85, hq85⟩ : ∃ z : Int × Int × Int × Int, z = rnd4 q84 := ⟨_, rfl⟩
        refine O_call (Ev_sp (v := (.agg [(.i .u64 q85.1), (.i .u64 q85.2.1), (.i .u64 q85.2.2.1), (.i .u64 q85.2.2.2)])) rfl (by rw [hq85]; rfl) ?_)
        obtain ⟨q86, hq86⟩ : ∃ z : Int × Int × Int × Int, z = rnd4 q85 := ⟨_, rfl⟩
        refine O_call (Ev_sp (v := (.agg [(.i .u64 q86.1), (.i .u64 q86.2.1), (.i .u64 q86.2.2.1), (.i .u64 q86.2.2.2)])) rfl (by rw [hq86]; rfl) ?_)
        obtain ⟨q87, hq87⟩ : ∃ z : Int × Int × Int × Int, z = rnd4 q86 := ⟨_, rfl⟩
        refine O_call (Ev_sp (v := (.agg [(.i .u64 q87.1), (.i .u64 q87.2.1), (.i .u64 q87.2.2.1), (.i .u64 q87.2.2.2)])) rfl (by rw [hq87]; rfl) ?_)
        refine O_store (vs := [(.i .u64 q87.1), (.i .u64 q87.2.1), (.i .u64 q87.2.2.1), (.i .u64 q87.2.2.2)]) (c' := [(.i .u64 q87.1), (.i .u64 q87.2.1), (.i .u64 q87.2.2.1), (.i .u64 q87.2.2.2)]) hT66 (by rfl) hW82.2.1 rfl (List.cons_ne_nil _ _) (Nat.le_of_ble_eq_true rfl) rfl fun H88 hW89 => ?_
        have hO90 := hO83.wr hW89 (by omega) (by omega)
        have hx_hO90 := hO90.next
        have hnx_H88 : H88.next = H81.next := hW89.1
        have hlt_n19 : n19 < H88.next := by omega
        refine O_nil ?_
        refine C_seq ?_
        refine C_region ?_
        refine O_p (.p (some (n19, 0))) (r_iarr' hT66 rfl rfl rfl) ?_
        refine O_p (.i .u64 q87.1) (r_ld rfl hW89.2.1 rfl) ?_
        refine O_p (.p (some (n19, 1))) (r_iarr' hT66 rfl rfl rfl) ?_
        refine O_p (.i .u64 q87.2.1) (r_ld rfl hW89.2.1 rfl) ?_
        refine O_p (.i .u64 (xorI q87.1 q87.2.1)) (r_bin rfl rfl rfl) ?_
        refine O_p (.p (some (n19, 2))) (r_iarr' hT66 rfl rfl rfl) ?_
        refine O_p (.i .u64 q87.2.2.1) (r_ld rfl hW89.2.1 rfl) ?_
        refine O_p (.i .u64 (xorI (xorI q87.1 q87.2.1) q87.2.2.1)) (r_bin rfl rfl rfl) ?_
        refine O_p (.p (some (n19, 3))) (r_iarr' hT66 rfl rfl rfl) ?_
        refine O_p (.i .u64 q87.2.2.2) (r_ld rfl hW89.2.1 rfl) ?_
        refine O_p (.i .u64 (xorI (xorI (xorI q87.1 q87.2.1) q87.2.2.1) q87.2.2.2)) (r_bin rfl rfl rfl) ?_
        refine O_p (.i .u64 (xorI (xorI (xorI q87.1 q87.2.1) q87.2.2.1) q87.2.2.2)) (r_mv rfl) ?_
        refine O_p (.b true) (r_mv rfl) ?_
        refine O_nil ?_
        refine C_ret ?_
        refine ⟨.inr rfl, _, resL_cons (r_tmp (v := (.i .u64 (xorI (xorI (xorI q87.1 q87.2.1) q87.2.2.1) q87.2.2.2))) rfl) (resL_one (r_tmp (v := (.b true)) rfl)), ?_, hO90⟩
        have e16 : key.length = 16 := by omega
        have h := code_fin10 key l
        rw [← hq77] at h
        simp only [resV, e16, if_true, decide_true]; rw [← h, codeR_eq hq84 hq85 hq86 hq87]
end Go.Proofs.Yteapgimihapefaa.E
