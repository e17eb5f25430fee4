/- Layer 9's Decode and Check, walked. It bears no condition. -/
import Derived.Test.YteapgimihapefaaK
namespace Go.Proofs.Yteapgimihapefaa.E
set_option linter.unusedVariables false
set_option linter.unusedSimpArgs false
set_option maxRecDepth 20000 in
theorem long_step {l : List UInt8} {i : Nat} (h : i < 8) (hl : 8 ≤ l.length) : AV.i .u64 (orI (IntKind.u64.wrap (num (l.take i) * 2 ^ 8)) (IntKind.u64.wrap (((l.take 8).getD i 0).toNat : Int))) = .i .u64 (num (l.take (i + 1))) := by
  rw [getD_take h]
  obtain ⟨h1, h2⟩ := num_bound l i (by omega)
  have h4 : (l.getD i 0).toNat < 256 := (l.getD i 0).toNat_lt
  rw [num_take (by omega)]
  generalize (l.getD i 0).toNat = y at h4 ⊢
  obtain ⟨A, hA⟩ := Int.eq_ofNat_of_zero_le h1
  have e3 : (256 : Int) ^ i = ((256 ^ i : Nat) : Int) := by simp
  rw [hA, e3] at h2
  have h5 : 256 ^ i ≤ 256 ^ 7 := Nat.pow_le_pow_right (by decide) (by omega)
  have h6 : A < 72057594037927936 := by omega
  rw [hA]
  have e1 : IntKind.u64.wrap ((A : Int) * 2 ^ 8) = ((A * 2 ^ 8 : Nat) : Int) := by rw [wrap_u64]; omega
  have e2 : IntKind.u64.wrap (y : Int) = (y : Int) := by rw [wrap_u64]; omega
  unfold orI
  rw [e1, e2, or_of (by omega) (by omega), wrap_u64]
  congr 1
  omega
/-- The key that counts. -/
def keyN (n : Nat) : List UInt8 := (List.range n).map fun i : Nat => u8 (i : Int)
theorem keyN_succ (n : Nat) : bcells (keyN (n + 1)) = bcells (keyN n) ++ [.i .u8 (IntKind.u8.wrap ((n : Nat) : Int))] := by
  rw [u8_wrap]; simp [keyN, bcells, List.range_succ]
theorem keyN_len (n : Nat) : (keyN n).length = n := by simp [keyN]
def signB : List UInt8 := [66, 79, 76, 49]
def cErr (key b : List UInt8) : Int :=
  if ¬ key.length = 16 then 1 else if b.length < 60 then 2 else if 60 < b.length ∨ ¬ b.drop 56 = [66, 79, 76, 49] then 3
  else if ¬ code key (b.take 48) = num ((b.drop 48).take 8) then 6 else if num (b.take 8) ≤ 281474976710656 ∧ num ((b.drop 8).take 8) ≤ 281474976710656 then 0 else 3
def cFld (b : List UInt8) : List Int := [num (b.take 8), num ((b.drop 8).take 8), num ((b.drop 16).take 4), num ((b.drop 20).take 4), num ((b.drop 24).take 4), num ((b.drop 28).take 4), num ((b.drop 32).take 4), num ((b.drop 44).take 2), num ((b.drop 46).take 2), num ((b.drop 36).take 4), num ((b.drop 40).take 4)]
def cSt (key b : List UInt8) (j : Nat) : Int := if cErr key b = 0 then (cFld b).getD j 0 else 0
theorem cSt_bad {key b : List UInt8} (h : ¬ cErr key b = 0) (j : Nat) : cSt key b j = 0 := by unfold cSt; rw [if_neg h]
theorem cSt_ok {key b : List UInt8} (h : cErr key b = 0) (j : Nat) : cSt key b j = (cFld b).getD j 0 := by unfold cSt; rw [if_pos h]
theorem cErr_1 {key b : List UInt8} (h : ¬ key.length = 16) : cErr key b = 1 := by unfold cErr; rw [if_pos h]
theorem cErr_2 {key b : List UInt8} (h : key.length = 16) (h2 : b.length < 60) : cErr key b = 2 := by unfold cErr; rw [if_neg (by omega), if_pos h2]
theorem cErr_3 {key b : List UInt8} (h : key.length = 16) (h2 : ¬ b.length < 60) (h3 : 60 < b.length ∨ ¬ b.drop 56 = [66, 79, 76, 49]) : cErr key b = 3 := by unfold cErr; rw [if_neg (by omega), if_neg h2, if_pos h3]
theorem cErr_6 {key b : List UInt8} (h : key.length = 16) (h2 : b.length = 60) (h3 : b.drop 56 = [66, 79, 76, 49]) (h4 : ¬ code key (b.take 48) = num ((b.drop 48).take 8)) : cErr key b = 6 := by unfold cErr; rw [if_neg (by omega), if_neg (by omega), if_neg (by rintro (h | h); omega; exact h h3), if_pos h4]
theorem cErr_t {key b : List UInt8} (h : key.length = 16) (h2 : b.length = 60) (h3 : b.drop 56 = [66, 79, 76, 49]) (h4 : code key (b.take 48) = num ((b.drop 48).take 8)) (h5 : ¬ (num (b.take 8) ≤ 281474976710656 ∧ num ((b.drop 8).take 8) ≤ 281474976710656)) : cErr key b = 3 := by unfold cErr; rw [if_neg (by omega), if_neg (by omega), if_neg (by rintro (h | h); omega; exact h h3), if_neg (by rw [h4]; simp), if_neg h5]
theorem cErr_0 {key b : List UInt8} (h : key.length = 16) (h2 : b.length = 60) (h3 : b.drop 56 = [66, 79, 76, 49]) (h4 : code key (b.take 48) = num ((b.drop 48).take 8)) (h5 : num (b.take 8) ≤ 281474976710656 ∧ num ((b.drop 8).take 8) ≤ 281474976710656) : cErr key b = 0 := by unfold cErr; rw [if_neg (by omega), if_neg (by omega), if_neg (by rintro (h | h); omega; exact h h3), if_neg (by rw [h4]; simp), if_pos h5]
def kErr (key b : List UInt8) (now : Int) : Int := if ¬ cErr key b = 0 then cErr key b else if now < cSt key b 0 ∨ cSt key b 0 + cSt key b 1 < now then 7 else 0
def kSt (key b : List UInt8) (now : Int) (j : Nat) : Int := if kErr key b now = 0 then cSt key b j else 0
theorem kSt_bad {key b : List UInt8} {now : Int} (h : ¬ kErr key b now = 0) (j : Nat) : kSt key b now j = 0 := by unfold kSt; rw [if_neg h]
theorem kSt_ok {key b : List UInt8} {now : Int} (h : kErr key b now = 0) (j : Nat) : kSt key b now j = cSt key b j := by unfold kSt; rw [if_pos h]
theorem kErr_d {key b : List UInt8} {now : Int} (h : ¬ cErr key b = 0) : kErr key b now = cErr key b := by unfold kErr; rw [if_pos h]
theorem kErr_7 {key b : List UInt8} {now : Int} (h : cErr key b = 0) (h2 : now < cSt key b 0 ∨ cSt key b 0 + cSt key b 1 < now) : kErr key b now = 7 := by unfold kErr; rw [if_neg (by rw [h]; simp), if_pos h2]
theorem kErr_0 {key b : List UInt8} {now : Int} (h : cErr key b = 0) (h2 : ¬ (now < cSt key b 0 ∨ cSt key b 0 + cSt key b 1 < now)) : kErr key b now = 0 := by unfold kErr; rw [if_neg (by rw [h]; simp), if_neg h2]
theorem cSt_times (key b : List UInt8) : (0 ≤ cSt key b 0 ∧ cSt key b 0 ≤ 281474976710656) ∧ 0 ≤ cSt key b 1 ∧ cSt key b 1 ≤ 281474976710656 := by
  by_cases h : cErr key b = 0
  · rw [cSt_ok h, cSt_ok h]
    have hx : 60 ≤ b.length ∧ num (b.take 8) ≤ 281474976710656 ∧ num ((b.drop 8).take 8) ≤ 281474976710656 := by
      unfold cErr at h
      split at h
      · cases h
      · split at h
        · cases h
        · split at h
          · cases h
          · split at h
            · cases h
            · split at h
              · exact ⟨by omega, by assumption⟩
              · cases h
    have h1 := num_bound b 8 (by omega)
    have h2 := num_bound (b.drop 8) 8 (by rw [List.length_drop]; omega)
    exact ⟨⟨h1.1, hx.2.1⟩, h2.1, hx.2.2⟩
  · rw [cSt_bad h, cSt_bad h]; decide
theorem long_ev {tab : Nat → Option XFun} {sp : Nat → List AV → AH → Option (AV × AH)} (h27 : tab 27 = some x27) {H : AH} (hok : H.Ok) {ba : Option (Nat × Nat)} {bn bc bg : Nat} (bhg : bg = 0 ∨ bg = 1) {lb : List UInt8} (bhb : Bs H (.sl ba bn bc bg) lb) (bhc : bn ≤ bc) (bhm : bc ≤ 9223372036854775807) (hlen0 : 8 ≤ bn) : Ev tab sp (.fn (.func 27) [] []) [.sl ba bn bc bg] H (fun r H' => r = .i .u64 (num (lb.take 8)) ∧ H' = H) := by
  refine Ev_C (F := x27) h27 ?_
  have bhl := bhb.length
  subst bhl
  have hlen : 8 ≤ lb.length := hlen0
  have hO0 := Old.refl hok
  refine C_seq ?_
  refine C_region ?_
  refine O_p (.i .u64 0) (r_mv rfl) ?_
  refine O_nil ?_
  refine C_seq ?_
  refine C_region ?_
  refine O_p (.i .u64 0) (r_mv rfl) ?_
  refine O_nil ?_
  refine C_seq ?_
  refine C_seq ?_
  refine C_region ?_
  refine O_p (.sl ba lb.length bc bg) (r_mv rfl) ?_
  refine O_q (by exact Bs.hi bhb bhg rfl (j := 8) rfl (by first | omega | (simp only [List.length_take, List.length_drop, List.length_append, List.length_cons, List.length_nil, beN_len] <;> omega)) (by first | omega | (simp only [List.length_take, List.length_drop, List.length_append, List.length_cons, List.length_nil, beN_len] <;> omega))) fun v4 hv3 => ?_
  obtain ⟨a1, rfl, hb2⟩ := hv3
  refine O_p (.i .i64 8) (r_len rfl) ?_
  refine O_p (.i .i64 0) (r_mv rfl) ?_
  refine O_nil ?_
  refine C_block ?_
  refine C_while (fun m5 T6 H7 => ∃ i : Nat, m5 = 8 - i ∧ i ≤ 8 ∧ H7 = H ∧ T6.get 3 = (.i .u64 (num (lb.take i))) ∧ T6.get 7 = (.sl a1 8 bc bg) ∧ T6.get 8 = (.i .i64 8) ∧ T6.get 9 = (.i .i64 (((i : Nat)) : Int))) (fun m5 T6 H7 hI8 => ?_) 8 _ _ ⟨0, rfl, by omega, rfl, rfl, rfl, rfl, rfl⟩
  obtain ⟨i, hm9, hp10, hsame15, hT11, hT12, hT13, hT14⟩ := hI8
  subst H7
  refine C_seq ?_
  refine C_region ?_
  refine O_p (.b (decide ((((i : Nat)) : Int) < 8))) (r_lss hT14 hT13) ?_
  refine O_nil ?_
  refine C_seq ?_
  refine C_cond (x := (decide ((((i : Nat)) : Int) < 8))) rfl (fun hc16 => ?_) (fun hc16 => ?_)
  ·
    simp only [decide_eq_true_eq, decide_eq_false_iff_not, Bool.not_eq_true', Bool.not_eq_false', Bool.and_eq_true, Bool.or_eq_true, Bool.or_eq_false_iff, Bool.not_not] at hc16
    refine C_skip ?_
    refine C_seq ?_
    refine C_block ?_
    refine C_seq ?_
    refine C_region ?_
    refine O_q (by exact Bs.ix (hb2.old hok hO0) (by exact hT12) (i := i) (by exact hT14) (by first | omega | (simp only [List.length_take, List.length_drop, List.length_append, List.length_cons, List.length_nil, beN_len] <;> omega))) fun v18 hv17 => ?_
    refine O_p (.i .u8 (((lb.take 8).getD i 0).toNat : Int)) (hv17.load rfl) ?_
    refine O_p (.i .u8 (((lb.take 8).getD i 0).toNat : Int)) (r_mv rfl) ?_
    refine O_nil ?_
    refine C_region ?_
    refine O_p (.i .u64 (num (lb.take i))) (r_mv hT11) ?_
    refine O_p (.i .u64 (IntKind.u64.wrap ((num (lb.take i)) * 2 ^ 8))) (r_bin rfl rfl rfl) ?_
    refine O_p (.i .u8 (((lb.take 8).getD i 0).toNat : Int)) (r_mv rfl) ?_
    refine O_p (.i .u64 (IntKind.u64.wrap (((lb.take 8).getD i 0).toNat : Int))) (r_cint rfl) ?_
    refine O_p (.i .u64 (orI (IntKind.u64.wrap ((num (lb.take i)) * 2 ^ 8)) (IntKind.u64.wrap (((lb.take 8).getD i 0).toNat : Int)))) (r_bin rfl rfl rfl) ?_
    refine O_p (.i .u64 (orI (IntKind.u64.wrap ((num (lb.take i)) * 2 ^ 8)) (IntKind.u64.wrap (((lb.take 8).getD i 0).toNat : Int)))) (r_mv rfl) ?_
    refine O_nil ?_
    refine C_region ?_
    refine O_p (.i .i64 ((((i : Nat)) : Int) + 1)) (by exact (r_addi hT14 rfl (wrap_i64 (by omega) (by omega)))) ?_
    refine O_p (.i .i64 ((((i : Nat)) : Int) + 1)) (r_mv rfl) ?_
    refine O_nil ?_
    exact ⟨8 - (i + 1), by omega, i + 1, rfl, by omega, rfl, (long_step (by omega) hlen), hT12, hT13, rfl⟩
  ·
    simp only [decide_eq_true_eq, decide_eq_false_iff_not, Bool.not_eq_true', Bool.not_eq_false', Bool.and_eq_true, Bool.or_eq_true, Bool.or_eq_false_iff, Bool.not_not] at hc16
    refine C_exit ?_
    refine nx_exit ?_
    refine nx_exit ?_
    refine bk_hit ?_
    refine C_seq ?_
    refine C_region ?_
    refine O_p (.i .u64 (num (lb.take i))) (r_mv hT11) ?_
    refine O_p (.i .u64 (num (lb.take i))) (r_mv rfl) ?_
    refine O_nil ?_
    refine C_ret ?_
    have hi8 : i = 8 := by omega
    subst hi8
    exact ⟨.inr rfl, _, resL_one (r_tmp rfl), rfl, rfl⟩
theorem time_ev {tab : Nat → Option XFun} {sp : Nat → List AV → AH → Option (AV × AH)} (h27 : tab 27 = some x27) (h28 : tab 28 = some x28) {H : AH} (hok : H.Ok) {ba : Option (Nat × Nat)} {bn bc bg : Nat} (bhg : bg = 0 ∨ bg = 1) {lb : List UInt8} (bhb : Bs H (.sl ba bn bc bg) lb) (bhc : bn ≤ bc) (bhm : bc ≤ 9223372036854775807) (hlen0 : 8 ≤ bn) : Ev tab sp (.fn (.func 28) [] []) [.sl ba bn bc bg] H (fun r H' => r = .tup [.i .i64 (IntKind.i64.wrap (num (lb.take 8))), .b (decide (num (lb.take 8) ≤ 281474976710656))] ∧ H' = H) := by
  refine Ev_C (F := x28) h28 ?_
  have bhl := bhb.length
  subst bhl
  have hO0 := Old.refl hok
  refine C_seq ?_
  refine C_region ?_
  refine O_p (.i .i64 0) (r_mv rfl) ?_
  refine O_p (.b false) (r_mv rfl) ?_
  refine O_nil ?_
  refine C_seq ?_
  refine C_region ?_
  refine O_p (.sl ba lb.length bc bg) (r_mv rfl) ?_
  refine O_call (Ev.mono (long_ev h27 hO0.ok bhg (bhb.old hok hO0) (by first | omega | (simp only [List.length_take, List.length_drop, List.length_append, List.length_cons, List.length_nil, beN_len] <;> omega)) (by first | omega | (simp only [List.length_take, List.length_drop, List.length_append, List.length_cons, List.length_nil, beN_len] <;> omega)) (by first | omega | (simp only [List.length_take, List.length_drop, List.length_append, List.length_cons, List.length_nil, beN_len] <;> omega))) fun v1 H2 hq3 => ?_)
  obtain ⟨rfl, hq3⟩ := hq3
  subst H2
  refine O_p (.i .u64 (num (lb.take 8))) (r_mv rfl) ?_
  refine O_nil ?_
  refine C_seq ?_
  refine C_region ?_
  refine O_p (.i .u64 (num (lb.take 8))) (r_mv rfl) ?_
  refine O_p (.i .i64 (IntKind.i64.wrap (num (lb.take 8)))) (r_cint rfl) ?_
  refine O_p (.i .u64 (num (lb.take 8))) (r_mv rfl) ?_
  refine O_p (.b (decide ((num (lb.take 8)) ≤ 281474976710656))) (r_leq rfl rfl) ?_
  refine O_p (.i .i64 (IntKind.i64.wrap (num (lb.take 8)))) (r_mv rfl) ?_
  refine O_p (.b (decide ((num (lb.take 8)) ≤ 281474976710656))) (r_mv rfl) ?_
  refine O_nil ?_
  refine C_ret ?_
  exact ⟨.inr rfl, _, resL_cons (r_tmp (v := (.i .i64 (IntKind.i64.wrap (num (lb.take 8))))) rfl) (resL_one (r_tmp (v := (.b (decide ((num (lb.take 8)) ≤ 281474976710656)))) rfl)), rfl, rfl⟩
theorem key_ev {tab : Nat → Option XFun} {sp : Nat → List AV → AH → Option (AV × AH)} (h19 : tab 19 = some x19) {H : AH} (hok : H.Ok) : Ev tab sp (.fn (.func 19) [] []) [] H (fun r H' => Mine H.next 1 H' r (bcells (keyN 16)) ∧ Kp H H') := by
  refine Ev_C (F := x19) h19 ?_
  have hO0 := Old.refl hok
  refine C_seq ?_
  refine C_region ?_
  refine O_p (.sl none 0 0 0) (r_mv rfl) ?_
  refine O_nil ?_
  refine C_seq ?_
  refine C_region ?_
  refine O_p (.sl none 0 0 0) (r_mv rfl) ?_
  refine O_nil ?_
  refine C_seq ?_
  refine C_seq ?_
  refine C_region ?_
  refine O_p (.i .i64 0) (r_mv rfl) ?_
  refine O_nil ?_
  refine C_block ?_
  refine C_while (fun m1 T2 H3 => ∃ i : Nat, ∃ o : AV, m1 = 16 - i ∧ i ≤ 16 ∧ Old H.next H H3 ∧ Mine H.next 1 H3 o (bcells (keyN i)) ∧ T2.get 1 = o ∧ T2.get 2 = (.i .i64 (((i : Nat)) : Int))) (fun m1 T2 H3 hI4 => ?_) 16 _ _ ⟨0, .sl none 0 0 0, rfl, by omega, hO0, Mine.nil _ _ _, rfl, rfl⟩
  obtain ⟨i, o, hm5, hp6, hO10, hM11, hT7, hT8⟩ := hI4
  have hx_hO10 := hO10.next
  refine C_seq ?_
  refine C_seq ?_
  refine C_region ?_
  refine O_p (.i .i64 (((i : Nat)) : Int)) (r_mv hT8) ?_
  refine O_p (.b (decide ((((i : Nat)) : Int) < 16))) (r_lss rfl rfl) ?_
  refine O_nil ?_
  refine C_cond (x := (decide ((((i : Nat)) : Int) < 16))) rfl (fun hc12 => ?_) (fun hc12 => ?_)
  ·
    simp only [decide_eq_true_eq, decide_eq_false_iff_not, Bool.not_eq_true', Bool.not_eq_false', Bool.and_eq_true, Bool.or_eq_true, Bool.or_eq_false_iff, Bool.not_not] at hc12
    refine C_skip ?_
    refine C_seq ?_
    refine C_block ?_
    refine C_region ?_
    refine O_p o (r_mv hT7) ?_
    refine O_p (.i .i64 (((i : Nat)) : Int)) (r_mv hT8) ?_
    refine O_p (.i .u8 (IntKind.u8.wrap (((i : Nat)) : Int))) (r_cint rfl) ?_
    refine O_bslice (c := [(.i .u8 (IntKind.u8.wrap (((i : Nat)) : Int)))]) rfl fun n13 H14 hN15 => ?_
    have hF16 := hN15.fr (fun _ => False)
    have hM17 := hM11.anew hN15
    have hO18 := hO10.new hN15
    have hx_hO18 := hO18.next
    have hd19 : ¬ (o : AV).nameOf n13 := hM11.dis (by have := hN15.1; omega)
    have hnm_n13 : n13 = H3.next := hN15.1
    have hnx_H14 : H14.next = H3.next + 1 := hN15.2.1
    have hlt_n13 : n13 < H14.next := by omega
    refine O_qh (by exact r_app (n := i) (k := 1) (new := [(.i .u8 (IntKind.u8.wrap (((i : Nat)) : Int)))]) hO18.ok hO18.next hM17 (by rw [bcells_len, keyN_len, Nat.mul_one]) rfl rfl rfl (src_blk hN15.2.2.1 (by rfl)) rfl (by decide) (by decide) (by first | omega | (simp only [List.length_take, List.length_drop, List.length_append, List.length_cons, List.length_nil, beN_len] <;> omega))) fun o20 H21 hA22 => ?_
    have hx_H21 := hA22.2.1
    have hO23 := hA22.old hM17 hO18
    have hx_hO23 := hO23.next
    refine O_p o20 (r_mv rfl) ?_
    refine O_nil ?_
    refine C_region ?_
    refine O_p (.i .i64 (((i : Nat)) : Int)) (r_mv hT8) ?_
    refine O_p (.i .i64 ((((i : Nat)) : Int) + 1)) (by exact (r_addi rfl rfl (wrap_i64 (by omega) (by omega)))) ?_
    refine O_p (.i .i64 ((((i : Nat)) : Int) + 1)) (r_mv rfl) ?_
    refine O_nil ?_
    exact ⟨16 - (i + 1), by omega, i + 1, o20, rfl, by omega, hO23, (by have := hA22.1; rw [keyN_succ]; exact this), rfl, rfl⟩
  ·
    simp only [decide_eq_true_eq, decide_eq_false_iff_not, Bool.not_eq_true', Bool.not_eq_false', Bool.and_eq_true, Bool.or_eq_true, Bool.or_eq_false_iff, Bool.not_not] at hc12
    refine C_exit ?_
    refine nx_exit ?_
    refine nx_exit ?_
    refine bk_hit ?_
    refine C_seq ?_
    refine C_region ?_
    refine O_p o (r_mv hT7) ?_
    refine O_p o (r_mv rfl) ?_
    refine O_nil ?_
    refine C_ret ?_
    have hi16 : i = 16 := by omega
    subst hi16
    exact ⟨.inr rfl, _, resL_one (r_tmp (v := o) rfl), hM11, hO10⟩
set_option maxRecDepth 100000 in
set_option maxHeartbeats 4000000 in
theorem dec_key {H : AH} (hok : H.Ok) {ka : Option (Nat × Nat)} {kn kc kg : Nat} (khg : kg = 0 ∨ kg = 1) {key : List UInt8} (khb : Bs H (.sl ka kn kc kg) key) (khc : kn ≤ kc) (khm : kc ≤ 9223372036854775807) {ba : Option (Nat × Nat)} {bn bc bg : Nat} (bhg : bg = 0 ∨ bg = 1) {b : List UInt8} (bhb : Bs H (.sl ba bn bc bg) b) (bhc : bn ≤ bc) (bhm : bc ≤ 9223372036854775807) (hk16 : ¬ key.length = 16) : Ev tabA spA (.fn (.func 14) [] []) [.sl ka kn kc kg, .sl ba bn bc bg] H (fun r H' => r = .tup [.agg [.i .i64 (cSt key b 0), .i .i64 (cSt key b 1), .i .u32 (cSt key b 2), .i .u32 (cSt key b 3), .i .u32 (cSt key b 4), .i .u32 (cSt key b 5), .i .u32 (cSt key b 6), .i .u16 (cSt key b 7), .i .u16 (cSt key b 8), .i .u32 (cSt key b 9), .i .u32 (cSt key b 10)], .i .i64 (cErr key b)] ∧ Kp H H') := by
  have khl := khb.length
  subst khl
  refine Ev_C (F := x14) rfl ?_
  have bhl := bhb.length
  subst bhl
  have hO0 := Old.refl hok
  refine C_seq ?_
  refine C_region ?_
  refine O_alloc fun n1 H2 hN3 => ?_
  have hF4 := hN3.fr (fun _ => False)
  have hO5 := hO0.new hN3
  have hx_hO5 := hO5.next
  have hnm_n1 : n1 = H.next := hN3.1
  have hnx_H2 : H2.next = H.next + 1 := hN3.2.1
  have hlt_n1 : n1 < H2.next := by omega
  refine O_p (.i .i64 0) (r_mv rfl) ?_
  refine O_nil ?_
  refine C_seq ?_
  refine C_block ?_
  refine C_seq ?_
  refine C_region ?_
  refine O_p (.sl ka key.length kc kg) (r_mv rfl) ?_
  refine O_p (.i .i64 (((key.length : Nat)) : Int)) (r_len rfl) ?_
  refine O_p (.b true) (by exact (by rw [r_neq rfl rfl, decide_eq_false (by omega)]; rfl)) ?_
  refine O_p (.b true) (r_mv rfl) ?_
  refine O_nil ?_
  refine C_cond (x := true) rfl (fun _ => ?_) (fun h => by cases h)
  refine C_seq ?_
  refine C_region ?_
  refine O_p (.agg [(.i .i64 0), (.i .i64 0), (.i .u32 0), (.i .u32 0), (.i .u32 0), (.i .u32 0), (.i .u32 0), (.i .u16 0), (.i .u16 0), (.i .u32 0), (.i .u32 0)]) (r_build rfl) ?_
  refine O_store (vs := [(.i .i64 0), (.i .i64 0), (.i .u32 0), (.i .u32 0), (.i .u32 0), (.i .u32 0), (.i .u32 0), (.i .u16 0), (.i .u16 0), (.i .u32 0), (.i .u32 0)]) (c' := [(.i .i64 0), (.i .i64 0), (.i .u32 0), (.i .u32 0), (.i .u32 0), (.i .u32 0), (.i .u32 0), (.i .u16 0), (.i .u16 0), (.i .u32 0), (.i .u32 0)]) rfl (by rfl) hN3.2.2.1 rfl (List.cons_ne_nil _ _) (Nat.le_of_ble_eq_true rfl) rfl fun H6 hW7 => ?_
  have hO8 := hO5.wr hW7 (by omega) (by omega)
  have hx_hO8 := hO8.next
  have hnx_H6 : H6.next = H2.next := hW7.1
  have hlt_n1 : n1 < H6.next := by omega
  refine O_p (.i .i64 1) (r_mv rfl) ?_
  refine O_nil ?_
  refine C_ret ?_
  refine bk_ret ?_
  refine nx_ret ?_
  have he := cErr_1 (b := b) hk16
  have hb0 : ¬ cErr key b = 0 := by rw [he]; decide
  exact ⟨.inr rfl, _, resL_cons (r_cellA rfl hW7.2.1 rfl) (resL_one (r_tmp (v := (.i .i64 1)) rfl)), by simp only [cSt_bad hb0, he]; rfl, hO8⟩
set_option maxRecDepth 100000 in
set_option maxHeartbeats 4000000 in
theorem dec_short {H : AH} (hok : H.Ok) {ka : Option (Nat × Nat)} {kn kc kg : Nat} (khg : kg = 0 ∨ kg = 1) {key : List UInt8} (khb : Bs H (.sl ka kn kc kg) key) (khc : kn ≤ kc) (khm : kc ≤ 9223372036854775807) {ba : Option (Nat × Nat)} {bn bc bg : Nat} (bhg : bg = 0 ∨ bg = 1) {b : List UInt8} (bhb : Bs H (.sl ba bn bc bg) b) (bhc : bn ≤ bc) (bhm : bc ≤ 9223372036854775807) (hk16 : key.length = 16) (hl60 : b.length < 60) : Ev tabA spA (.fn (.func 14) [] []) [.sl ka kn kc kg, .sl ba bn bc bg] H (fun r H' => r = .tup [.agg [.i .i64 (cSt key b 0), .i .i64 (cSt key b 1), .i .u32 (cSt key b 2), .i .u32 (cSt key b 3), .i .u32 (cSt key b 4), .i .u32 (cSt key b 5), .i .u32 (cSt key b 6), .i .u16 (cSt key b 7), .i .u16 (cSt key b 8), .i .u32 (cSt key b 9), .i .u32 (cSt key b 10)], .i .i64 (cErr key b)] ∧ Kp H H') := by
  have khl := khb.length
  subst khl
  refine Ev_C (F := x14) rfl ?_
  have bhl := bhb.length
  subst bhl
  have hO0 := Old.refl hok
  refine C_seq ?_
  refine C_region ?_
  refine O_alloc fun n1 H2 hN3 => ?_
  have hF4 := hN3.fr (fun _ => False)
  have hO5 := hO0.new hN3
  have hx_hO5 := hO5.next
  have hnm_n1 : n1 = H.next := hN3.1
  have hnx_H2 : H2.next = H.next + 1 := hN3.2.1
  have hlt_n1 : n1 < H2.next := by omega
  refine O_p (.i .i64 0) (r_mv rfl) ?_
  refine O_nil ?_
  refine C_seq ?_
  refine C_block ?_
  refine C_seq ?_
  refine C_region ?_
  refine O_p (.sl ka key.length kc kg) (r_mv rfl) ?_
  refine O_p (.i .i64 (((key.length : Nat)) : Int)) (r_len rfl) ?_
  refine O_p (.b false) (by exact (by rw [r_neq rfl rfl, decide_eq_true (by omega)]; rfl)) ?_
  refine O_p (.b false) (r_mv rfl) ?_
  refine O_nil ?_
  refine C_cond (x := false) rfl (fun h => by cases h) (fun _ => ?_)
  refine C_seq ?_
  refine C_region ?_
  refine O_p (.sl ba b.length bc bg) (r_mv rfl) ?_
  refine O_p (.i .i64 (((b.length : Nat)) : Int)) (r_len rfl) ?_
  refine O_p (.b true) (by exact (by rw [r_lss rfl rfl, decide_eq_true (by omega)])) ?_
  refine O_p (.b true) (r_mv rfl) ?_
  refine O_nil ?_
  refine C_cond (x := true) rfl (fun _ => ?_) (fun h => by cases h)
  refine C_seq ?_
  refine C_region ?_
  refine O_p (.agg [(.i .i64 0), (.i .i64 0), (.i .u32 0), (.i .u32 0), (.i .u32 0), (.i .u32 0), (.i .u32 0), (.i .u16 0), (.i .u16 0), (.i .u32 0), (.i .u32 0)]) (r_build rfl) ?_
  refine O_store (vs := [(.i .i64 0), (.i .i64 0), (.i .u32 0), (.i .u32 0), (.i .u32 0), (.i .u32 0), (.i .u32 0), (.i .u16 0), (.i .u16 0), (.i .u32 0), (.i .u32 0)]) (c' := [(.i .i64 0), (.i .i64 0), (.i .u32 0), (.i .u32 0), (.i .u32 0), (.i .u32 0), (.i .u32 0), (.i .u16 0), (.i .u16 0), (.i .u32 0), (.i .u32 0)]) rfl (by rfl) hN3.2.2.1 rfl (List.cons_ne_nil _ _) (Nat.le_of_ble_eq_true rfl) rfl fun H6 hW7 => ?_
  have hO8 := hO5.wr hW7 (by omega) (by omega)
  have hx_hO8 := hO8.next
  have hnx_H6 : H6.next = H2.next := hW7.1
  have hlt_n1 : n1 < H6.next := by omega
  refine O_p (.i .i64 2) (r_mv rfl) ?_
  refine O_nil ?_
  refine C_ret ?_
  refine bk_ret ?_
  refine nx_ret ?_
  have he := cErr_2 (b := b) hk16 (by omega)
  have hb0 : ¬ cErr key b = 0 := by rw [he]; decide
  exact ⟨.inr rfl, _, resL_cons (r_cellA rfl hW7.2.1 rfl) (resL_one (r_tmp (v := (.i .i64 2)) rfl)), by simp only [cSt_bad hb0, he]; rfl, hO8⟩
set_option maxRecDepth 100000 in
set_option maxHeartbeats 4000000 in
theorem dec_long {H : AH} (hok : H.Ok) {ka : Option (Nat × Nat)} {kn kc kg : Nat} (khg : kg = 0 ∨ kg = 1) {key : List UInt8} (khb : Bs H (.sl ka kn kc kg) key) (khc : kn ≤ kc) (khm : kc ≤ 9223372036854775807) {ba : Option (Nat × Nat)} {bn bc bg : Nat} (bhg : bg = 0 ∨ bg = 1) {b : List UInt8} (bhb : Bs H (.sl ba bn bc bg) b) (bhc : bn ≤ bc) (bhm : bc ≤ 9223372036854775807) (hk16 : key.length = 16) (hl60 : 60 < b.length) : Ev tabA spA (.fn (.func 14) [] []) [.sl ka kn kc kg, .sl ba bn bc bg] H (fun r H' => r = .tup [.agg [.i .i64 (cSt key b 0), .i .i64 (cSt key b 1), .i .u32 (cSt key b 2), .i .u32 (cSt key b 3), .i .u32 (cSt key b 4), .i .u32 (cSt key b 5), .i .u32 (cSt key b 6), .i .u16 (cSt key b 7), .i .u16 (cSt key b 8), .i .u32 (cSt key b 9), .i .u32 (cSt key b 10)], .i .i64 (cErr key b)] ∧ Kp H H') := by
  have khl := khb.length
  subst khl
  refine Ev_C (F := x14) rfl ?_
  have bhl := bhb.length
  subst bhl
  have hO0 := Old.refl hok
  refine C_seq ?_
  refine C_region ?_
  refine O_alloc fun n1 H2 hN3 => ?_
  have hF4 := hN3.fr (fun _ => False)
  have hO5 := hO0.new hN3
  have hx_hO5 := hO5.next
  have hnm_n1 : n1 = H.next := hN3.1
  have hnx_H2 : H2.next = H.next + 1 := hN3.2.1
  have hlt_n1 : n1 < H2.next := by omega
  refine O_p (.i .i64 0) (r_mv rfl) ?_
  refine O_nil ?_
  refine C_seq ?_
  refine C_block ?_
  refine C_seq ?_
  refine C_region ?_
  refine O_p (.sl ka key.length kc kg) (r_mv rfl) ?_
  refine O_p (.i .i64 (((key.length : Nat)) : Int)) (r_len rfl) ?_
  refine O_p (.b false) (by exact (by rw [r_neq rfl rfl, decide_eq_true (by omega)]; rfl)) ?_
  refine O_p (.b false) (r_mv rfl) ?_
  refine O_nil ?_
  refine C_cond (x := false) rfl (fun h => by cases h) (fun _ => ?_)
  refine C_seq ?_
  refine C_region ?_
  refine O_p (.sl ba b.length bc bg) (r_mv rfl) ?_
  refine O_p (.i .i64 (((b.length : Nat)) : Int)) (r_len rfl) ?_
  refine O_p (.b false) (by exact (by rw [r_lss rfl rfl, decide_eq_false (by omega)])) ?_
  refine O_p (.b false) (r_mv rfl) ?_
  refine O_nil ?_
  refine C_cond (x := false) rfl (fun h => by cases h) (fun _ => ?_)
  refine C_seq ?_
  refine C_region ?_
  refine O_p (.sl ba b.length bc bg) (r_mv rfl) ?_
  refine O_p (.i .i64 (((b.length : Nat)) : Int)) (r_len rfl) ?_
  refine O_p (.b true) (by exact (by rw [r_gtr rfl rfl, decide_eq_true (by omega)])) ?_
  refine O_p (.b true) (r_mv rfl) ?_
  refine O_gf rfl ?_
  refine O_gf rfl ?_
  refine O_gf rfl ?_
  refine O_gf rfl ?_
  refine O_p (.b true) (r_pick_t rfl rfl) ?_
  refine O_p (.b true) (r_mv rfl) ?_
  refine O_nil ?_
  refine C_cond (x := true) rfl (fun _ => ?_) (fun h => by cases h)
  refine C_seq ?_
  refine C_region ?_
  refine O_p (.agg [(.i .i64 0), (.i .i64 0), (.i .u32 0), (.i .u32 0), (.i .u32 0), (.i .u32 0), (.i .u32 0), (.i .u16 0), (.i .u16 0), (.i .u32 0), (.i .u32 0)]) (r_build rfl) ?_
  refine O_store (vs := [(.i .i64 0), (.i .i64 0), (.i .u32 0), (.i .u32 0), (.i .u32 0), (.i .u32 0), (.i .u32 0), (.i .u16 0), (.i .u16 0), (.i .u32 0), (.i .u32 0)]) (c' := [(.i .i64 0), (.i .i64 0), (.i .u32 0), (.i .u32 0), (.i .u32 0), (.i .u32 0), (.i .u32 0), (.i .u16 0), (.i .u16 0), (.i .u32 0), (.i .u32 0)]) rfl (by rfl) hN3.2.2.1 rfl (List.cons_ne_nil _ _) (Nat.le_of_ble_eq_true rfl) rfl fun H6 hW7 => ?_
  have hO8 := hO5.wr hW7 (by omega) (by omega)
  have hx_hO8 := hO8.next
  have hnx_H6 : H6.next = H2.next := hW7.1
  have hlt_n1 : n1 < H6.next := by omega
  refine O_p (.i .i64 3) (r_mv rfl) ?_
  refine O_nil ?_
  refine C_ret ?_
  refine bk_ret ?_
  refine nx_ret ?_
  have he := cErr_3 (b := b) hk16 (by omega) (.inl (by omega))
  have hb0 : ¬ cErr key b = 0 := by rw [he]; decide
  exact ⟨.inr rfl, _, resL_cons (r_cellA rfl hW7.2.1 rfl) (resL_one (r_tmp (v := (.i .i64 3)) rfl)), by simp only [cSt_bad hb0, he]; rfl, hO8⟩
set_option maxRecDepth 100000 in
set_option maxHeartbeats 4000000 in
theorem dec_exact {H : AH} (hok : H.Ok) {ka : Option (Nat × Nat)} {kn kc kg : Nat} (khg : kg = 0 ∨ kg = 1) {key : List UInt8} (khb : Bs H (.sl ka kn kc kg) key) (khc : kn ≤ kc) (khm : kc ≤ 9223372036854775807) {ba : Option (Nat × Nat)} {bn bc bg : Nat} (bhg : bg = 0 ∨ bg = 1) {b : List UInt8} (bhb : Bs H (.sl ba bn bc bg) b) (bhc : bn ≤ bc) (bhm : bc ≤ 9223372036854775807) (hk16 : key.length = 16) (hl60 : b.length = 60) : Ev tabA spA (.fn (.func 14) [] []) [.sl ka kn kc kg, .sl ba bn bc bg] H (fun r H' => r = .tup [.agg [.i .i64 (cSt key b 0), .i .i64 (cSt key b 1), .i .u32 (cSt key b 2), .i .u32 (cSt key b 3), .i .u32 (cSt key b 4), .i .u32 (cSt key b 5), .i .u32 (cSt key b 6), .i .u16 (cSt key b 7), .i .u16 (cSt key b 8), .i .u32 (cSt key b 9), .i .u32 (cSt key b 10)], .i .i64 (cErr key b)] ∧ Kp H H') := by
  have khl := khb.length
  subst khl
  refine Ev_C (F := x14) rfl ?_
  have bhl := bhb.length
  subst bhl
  have hO0 := Old.refl hok
  have h27 : tabA 27 = some x27 := rfl
  have h28 : tabA 28 = some x28 := rfl
  have h29 : tabA 29 = some x29 := rfl
  have h30 : tabA 30 = some x30 := rfl
  have h31 : tabA 31 = some x31 := rfl
  have h39 : tabA 39 = some x39 := rfl
  have h40 : tabA 40 = some x40 := rfl
  refine C_seq ?_
  refine C_region ?_
  refine O_alloc fun n1 H2 hN3 => ?_
  have hF4 := hN3.fr (fun _ => False)
  have hO5 := hO0.new hN3
  have hx_hO5 := hO5.next
  have hnm_n1 : n1 = H.next := hN3.1
  have hnx_H2 : H2.next = H.next + 1 := hN3.2.1
  have hlt_n1 : n1 < H2.next := by omega
  refine O_p (.i .i64 0) (r_mv rfl) ?_
  refine O_nil ?_
  refine C_seq ?_
  refine C_block ?_
  refine C_seq ?_
  refine C_region ?_
  refine O_p (.sl ka key.length kc kg) (r_mv rfl) ?_
  refine O_p (.i .i64 (((key.length : Nat)) : Int)) (r_len rfl) ?_
  refine O_p (.b false) (by exact (by rw [r_neq rfl rfl, decide_eq_true (by omega)]; rfl)) ?_
  refine O_p (.b false) (r_mv rfl) ?_
  refine O_nil ?_
  refine C_cond (x := false) rfl (fun h => by cases h) (fun _ => ?_)
  refine C_seq ?_
  refine C_region ?_
  refine O_p (.sl ba b.length bc bg) (r_mv rfl) ?_
  refine O_p (.i .i64 (((b.length : Nat)) : Int)) (r_len rfl) ?_
  refine O_p (.b false) (by exact (by rw [r_lss rfl rfl, decide_eq_false (by omega)])) ?_
  refine O_p (.b false) (r_mv rfl) ?_
  refine O_nil ?_
  refine C_cond (x := false) rfl (fun h => by cases h) (fun _ => ?_)
  refine C_seq ?_
  refine C_region ?_
  refine O_p (.sl ba b.length bc bg) (r_mv rfl) ?_
  refine O_p (.i .i64 (((b.length : Nat)) : Int)) (r_len rfl) ?_
  refine O_p (.b false) (by exact (by rw [r_gtr rfl rfl, decide_eq_false (by omega)])) ?_
  refine O_p (.b false) (r_mv rfl) ?_
  refine O_gs (v := (.sl ba b.length bc bg)) rfl (r_mv rfl) ?_
  refine O_gqs rfl (by exact Bs.lo bhb bhg rfl (i := 56) rfl (by first | omega | (simp only [List.length_take, List.length_drop, List.length_append, List.length_cons, List.length_nil, beN_len] <;> omega)) (by first | omega | (simp only [List.length_take, List.length_drop, List.length_append, List.length_cons, List.length_nil, beN_len] <;> omega))) fun v9 hv8 => ?_
  obtain ⟨a6, rfl, hb7⟩ := hv8
  refine O_gs (v := (.s (txt (b.drop 56)))) rfl ((hb7.old hok hO5).text rfl) ?_
  refine O_gs (v := (.b (!decide ((b.drop 56) = ([66, 79, 76, 49] : List UInt8))))) rfl (r_eqtn rfl rfl) ?_
  refine O_p (.b (!decide ((b.drop 56) = ([66, 79, 76, 49] : List UInt8)))) (r_pick_f rfl rfl) ?_
  refine O_p (.b (!decide ((b.drop 56) = ([66, 79, 76, 49] : List UInt8)))) (r_mv rfl) ?_
  refine O_nil ?_
  refine C_cond (x := (!decide ((b.drop 56) = ([66, 79, 76, 49] : List UInt8)))) rfl (fun hc10 => ?_) (fun hc10 => ?_)
  ·
    simp only [decide_eq_true_eq, decide_eq_false_iff_not, Bool.not_eq_true', Bool.not_eq_false', Bool.and_eq_true, Bool.or_eq_true, Bool.or_eq_false_iff, Bool.not_not] at hc10
    have hsg : ¬ b.drop 56 = [66, 79, 76, 49] := hc10
    refine C_seq ?_
    refine C_region ?_
    refine O_p (.agg [(.i .i64 0), (.i .i64 0), (.i .u32 0), (.i .u32 0), (.i .u32 0), (.i .u32 0), (.i .u32 0), (.i .u16 0), (.i .u16 0), (.i .u32 0), (.i .u32 0)]) (r_build rfl) ?_
    refine O_store (vs := [(.i .i64 0), (.i .i64 0), (.i .u32 0), (.i .u32 0), (.i .u32 0), (.i .u32 0), (.i .u32 0), (.i .u16 0), (.i .u16 0), (.i .u32 0), (.i .u32 0)]) (c' := [(.i .i64 0), (.i .i64 0), (.i .u32 0), (.i .u32 0), (.i .u32 0), (.i .u32 0), (.i .u32 0), (.i .u16 0), (.i .u16 0), (.i .u32 0), (.i .u32 0)]) rfl (by rfl) hN3.2.2.1 rfl (List.cons_ne_nil _ _) (Nat.le_of_ble_eq_true rfl) rfl fun H11 hW12 => ?_
    have hO13 := hO5.wr hW12 (by omega) (by omega)
    have hx_hO13 := hO13.next
    have hnx_H11 : H11.next = H2.next := hW12.1
    have hlt_n1 : n1 < H11.next := by omega
    refine O_p (.i .i64 3) (r_mv rfl) ?_
    refine O_nil ?_
    refine C_ret ?_
    refine bk_ret ?_
    refine nx_ret ?_
    have he := cErr_3 (b := b) hk16 (by omega) (.inr hsg)
    have hb0 : ¬ cErr key b = 0 := by rw [he]; decide
    exact ⟨.inr rfl, _, resL_cons (r_cellA rfl hW12.2.1 rfl) (resL_one (r_tmp (v := (.i .i64 3)) rfl)), by simp only [cSt_bad hb0, he]; rfl, hO13⟩
  ·
    simp only [decide_eq_true_eq, decide_eq_false_iff_not, Bool.not_eq_true', Bool.not_eq_false', Bool.and_eq_true, Bool.or_eq_true, Bool.or_eq_false_iff, Bool.not_not] at hc10
    have hsg : b.drop 56 = [66, 79, 76, 49] := hc10
    refine C_skip ?_
    refine C_seq ?_
    refine C_seq ?_
    refine C_region ?_
    refine O_p (.sl ka key.length kc kg) (r_mv rfl) ?_
    refine O_p (.sl ba b.length bc bg) (r_mv rfl) ?_
    refine O_q (by exact Bs.hi bhb bhg rfl (j := 48) rfl (by first | omega | (simp only [List.length_take, List.length_drop, List.length_append, List.length_cons, List.length_nil, beN_len] <;> omega)) (by first | omega | (simp only [List.length_take, List.length_drop, List.length_append, List.length_cons, List.length_nil, beN_len] <;> omega))) fun v17 hv16 => ?_
    obtain ⟨a14, rfl, hb15⟩ := hv16
    refine O_call (Ev.mono (code10 hO5.ok khg (khb.old hok hO5) (by first | omega | (simp only [List.length_take, List.length_drop, List.length_append, List.length_cons, List.length_nil, beN_len] <;> omega)) (by first | omega | (simp only [List.length_take, List.length_drop, List.length_append, List.length_cons, List.length_nil, beN_len] <;> omega)) bhg (hb15.old hok hO5) (by first | omega | (simp only [List.length_take, List.length_drop, List.length_append, List.length_cons, List.length_nil, beN_len] <;> omega)) (by first | omega | (simp only [List.length_take, List.length_drop, List.length_append, List.length_cons, List.length_nil, beN_len] <;> omega)) (by first | omega | (simp only [List.length_take, List.length_drop, List.length_append, List.length_cons, List.length_nil, beN_len] <;> omega))) fun v18 H19 hq20 => ?_)
    rw [if_pos hk16, decide_eq_true hk16] at hq20
    obtain ⟨rfl, hK21⟩ := hq20
    have hb22 := (hK21.keep _ (by omega)).trans hN3.2.2.1
    have hx_hK21 := hK21.next
    have hlt_n1 : n1 < H19.next := by omega
    have hO23 := hO5.trans hK21
    have hx_hO23 := hO23.next
    refine O_p (.tup [(.i .u64 (code key (b.take 48))), (.b true)]) (r_mv rfl) ?_
    refine O_p (.i .u64 (code key (b.take 48))) (r_ext rfl rfl) ?_
    refine O_p (.b true) (r_ext rfl rfl) ?_
    refine O_p (.i .u64 (code key (b.take 48))) (r_mv rfl) ?_
    refine O_p (.b true) (r_mv rfl) ?_
    refine O_nil ?_
    refine C_seq ?_
    refine C_region ?_
    refine O_p (.i .u64 (code key (b.take 48))) (r_mv rfl) ?_
    refine O_p (.sl ba b.length bc bg) (r_mv rfl) ?_
    refine O_q (by exact Bs.lo bhb bhg rfl (i := 48) rfl (by first | omega | (simp only [List.length_take, List.length_drop, List.length_append, List.length_cons, List.length_nil, beN_len] <;> omega)) (by first | omega | (simp only [List.length_take, List.length_drop, List.length_append, List.length_cons, List.length_nil, beN_len] <;> omega))) fun v27 hv26 => ?_
    obtain ⟨a24, rfl, hb25⟩ := hv26
    refine O_call (Ev.mono (long_ev h27 hO23.ok bhg (hb25.old hok hO23) (by first | omega | (simp only [List.length_take, List.length_drop, List.length_append, List.length_cons, List.length_nil, beN_len] <;> omega)) (by first | omega | (simp only [List.length_take, List.length_drop, List.length_append, List.length_cons, List.length_nil, beN_len] <;> omega)) (by first | omega | (simp only [List.length_take, List.length_drop, List.length_append, List.length_cons, List.length_nil, beN_len] <;> omega))) fun v28 H29 hq30 => ?_)
    obtain ⟨rfl, hq30⟩ := hq30
    subst H29
    refine O_p (.b (!decide ((code key (b.take 48)) = (num ((b.drop 48).take 8))))) (r_neq rfl rfl) ?_
    refine O_nil ?_
    refine C_cond (x := (!decide ((code key (b.take 48)) = (num ((b.drop 48).take 8))))) rfl (fun hc31 => ?_) (fun hc31 => ?_)
    ·
      simp only [decide_eq_true_eq, decide_eq_false_iff_not, Bool.not_eq_true', Bool.not_eq_false', Bool.and_eq_true, Bool.or_eq_true, Bool.or_eq_false_iff, Bool.not_not] at hc31
      have hcd : ¬ code key (b.take 48) = num ((b.drop 48).take 8) := hc31
      refine C_seq ?_
      refine C_region ?_
      refine O_p (.agg [(.i .i64 0), (.i .i64 0), (.i .u32 0), (.i .u32 0), (.i .u32 0), (.i .u32 0), (.i .u32 0), (.i .u16 0), (.i .u16 0), (.i .u32 0), (.i .u32 0)]) (r_build rfl) ?_
      refine O_store (vs := [(.i .i64 0), (.i .i64 0), (.i .u32 0), (.i .u32 0), (.i .u32 0), (.i .u32 0), (.i .u32 0), (.i .u16 0), (.i .u16 0), (.i .u32 0), (.i .u32 0)]) (c' := [(.i .i64 0), (.i .i64 0), (.i .u32 0), (.i .u32 0), (.i .u32 0), (.i .u32 0), (.i .u32 0), (.i .u16 0), (.i .u16 0), (.i .u32 0), (.i .u32 0)]) rfl (by rfl) hb22 rfl (List.cons_ne_nil _ _) (Nat.le_of_ble_eq_true rfl) rfl fun H32 hW33 => ?_
      have hO34 := hO23.wr hW33 (by omega) (by omega)
      have hx_hO34 := hO34.next
      have hnx_H32 : H32.next = H19.next := hW33.1
      have hlt_n1 : n1 < H32.next := by omega
      refine O_p (.i .i64 6) (r_mv rfl) ?_
      refine O_nil ?_
      refine C_ret ?_
      refine nx_ret ?_
      have he := cErr_6 hk16 hl60 hsg (by simpa using hcd)
      have hb0 : ¬ cErr key b = 0 := by rw [he]; decide
      exact ⟨.inr rfl, _, resL_cons (r_cellA rfl hW33.2.1 rfl) (resL_one (r_tmp (v := (.i .i64 6)) rfl)), by simp only [cSt_bad hb0, he]; rfl, hO34⟩
    ·
      simp only [decide_eq_true_eq, decide_eq_false_iff_not, Bool.not_eq_true', Bool.not_eq_false', Bool.and_eq_true, Bool.or_eq_true, Bool.or_eq_false_iff, Bool.not_not] at hc31
      have hcd : code key (b.take 48) = num ((b.drop 48).take 8) := hc31
      refine C_skip ?_
      refine C_seq ?_
      refine C_region ?_
      refine O_alloc fun n35 H36 hN37 => ?_
      have hF38 := hN37.fr (fun _ => False)
      have hb39 := (hF38.keep _ (by exact hlt_n1) (fun h => h)).trans hb22
      have hO40 := hO23.new hN37
      have hx_hO40 := hO40.next
      have hnm_n35 : n35 = H19.next := hN37.1
      have hnx_H36 : H36.next = H19.next + 1 := hN37.2.1
      have hlt_n1 : n1 < H36.next := by omega
      have hlt_n35 : n35 < H36.next := by omega
      refine O_nil ?_
      refine C_seq ?_
      refine C_region ?_
      refine O_p (.b false) (r_mv rfl) ?_
      refine O_p (.b false) (r_mv rfl) ?_
      refine O_nil ?_
      refine C_seq ?_
      refine C_region ?_
      refine O_p (.sl ba b.length bc bg) (r_mv rfl) ?_
      refine O_call (Ev.mono (time_ev h27 h28 hO40.ok bhg (bhb.old hok hO40) (by first | omega | (simp only [List.length_take, List.length_drop, List.length_append, List.length_cons, List.length_nil, beN_len] <;> omega)) (by first | omega | (simp only [List.length_take, List.length_drop, List.length_append, List.length_cons, List.length_nil, beN_len] <;> omega)) (by first | omega | (simp only [List.length_take, List.length_drop, List.length_append, List.length_cons, List.length_nil, beN_len] <;> omega))) fun v41 H42 hq43 => ?_)
      obtain ⟨rfl, hq43⟩ := hq43
      subst H42
      refine O_p (.tup [(.i .i64 (IntKind.i64.wrap (num (b.take 8)))), (.b (decide (num (b.take 8) ≤ 281474976710656)))]) (r_mv rfl) ?_
      refine O_p (.i .i64 (IntKind.i64.wrap (num (b.take 8)))) (r_ext rfl rfl) ?_
      refine O_p (.b (decide (num (b.take 8) ≤ 281474976710656))) (r_ext rfl rfl) ?_
      refine O_p (.p (some (n35, 0))) (r_fadd' rfl rfl) ?_
      refine O_store (vs := [(.i .i64 (IntKind.i64.wrap (num (b.take 8))))]) (c' := [(.i .i64 (IntKind.i64.wrap (num (b.take 8)))), (.i .i64 0), (.i .u32 0), (.i .u32 0), (.i .u32 0), (.i .u32 0), (.i .u32 0), (.i .u16 0), (.i .u16 0), (.i .u32 0), (.i .u32 0)]) rfl (by rfl) hN37.2.2.1 rfl (List.cons_ne_nil _ _) (Nat.le_of_ble_eq_true rfl) rfl fun H44 hW45 => ?_
      have hb46 := (hW45.2.2 _ (by omega)).trans hb39
      have hO47 := hO40.wr hW45 (by omega) (by omega)
      have hx_hO47 := hO47.next
      have hnx_H44 : H44.next = H36.next := hW45.1
      have hlt_n1 : n1 < H44.next := by omega
      have hlt_n35 : n35 < H44.next := by omega
      refine O_p (.b (decide (num (b.take 8) ≤ 281474976710656))) (r_mv rfl) ?_
      refine O_nil ?_
      refine C_seq ?_
      refine C_region ?_
      refine O_p (.sl ba b.length bc bg) (r_mv rfl) ?_
      refine O_q (by exact Bs.lo bhb bhg rfl (i := 8) rfl (by first | omega | (simp only [List.length_take, List.length_drop, List.length_append, List.length_cons, List.length_nil, beN_len] <;> omega)) (by first | omega | (simp only [List.length_take, List.length_drop, List.length_append, List.length_cons, List.length_nil, beN_len] <;> omega))) fun v51 hv50 => ?_
      obtain ⟨a48, rfl, hb49⟩ := hv50
      refine O_call (Ev.mono (time_ev h27 h28 hO47.ok bhg (hb49.old hok hO47) (by first | omega | (simp only [List.length_take, List.length_drop, List.length_append, List.length_cons, List.length_nil, beN_len] <;> omega)) (by first | omega | (simp only [List.length_take, List.length_drop, List.length_append, List.length_cons, List.length_nil, beN_len] <;> omega)) (by first | omega | (simp only [List.length_take, List.length_drop, List.length_append, List.length_cons, List.length_nil, beN_len] <;> omega))) fun v52 H53 hq54 => ?_)
      obtain ⟨rfl, hq54⟩ := hq54
      subst H53
      refine O_p (.tup [(.i .i64 (IntKind.i64.wrap (num ((b.drop 8).take 8)))), (.b (decide (num ((b.drop 8).take 8) ≤ 281474976710656)))]) (r_mv rfl) ?_
      refine O_p (.i .i64 (IntKind.i64.wrap (num ((b.drop 8).take 8)))) (r_ext rfl rfl) ?_
      refine O_p (.b (decide (num ((b.drop 8).take 8) ≤ 281474976710656))) (r_ext rfl rfl) ?_
      refine O_p (.p (some (n35, 1))) (r_fadd' rfl rfl) ?_
      refine O_store (vs := [(.i .i64 (IntKind.i64.wrap (num ((b.drop 8).take 8))))]) (c' := [(.i .i64 (IntKind.i64.wrap (num (b.take 8)))), (.i .i64 (IntKind.i64.wrap (num ((b.drop 8).take 8)))), (.i .u32 0), (.i .u32 0), (.i .u32 0), (.i .u32 0), (.i .u32 0), (.i .u16 0), (.i .u16 0), (.i .u32 0), (.i .u32 0)]) rfl (by rfl) hW45.2.1 rfl (List.cons_ne_nil _ _) (Nat.le_of_ble_eq_true rfl) rfl fun H55 hW56 => ?_
      have hb57 := (hW56.2.2 _ (by omega)).trans hb46
      have hO58 := hO47.wr hW56 (by omega) (by omega)
      have hx_hO58 := hO58.next
      have hnx_H55 : H55.next = H44.next := hW56.1
      have hlt_n1 : n1 < H55.next := by omega
      have hlt_n35 : n35 < H55.next := by omega
      refine O_p (.b (decide (num ((b.drop 8).take 8) ≤ 281474976710656))) (r_mv rfl) ?_
      refine O_nil ?_
      refine C_seq ?_
      refine C_seq ?_
      refine C_region ?_
      refine O_p (.b (decide (num (b.take 8) ≤ 281474976710656))) (r_mv rfl) ?_
      refine O_p (.b (!(decide (num (b.take 8) ≤ 281474976710656)))) (r_not rfl) ?_
      refine O_p (.b (!(decide (num (b.take 8) ≤ 281474976710656)))) (r_mv rfl) ?_
      refine O_gx (e := (!(!(decide (num (b.take 8) ≤ 281474976710656))))) (v := (.b (decide (num ((b.drop 8).take 8) ≤ 281474976710656)))) (wf rfl) (fun he => (r_mv rfl)) ?_
      refine O_gx (e := (!(!(decide (num (b.take 8) ≤ 281474976710656))))) (v := (.b (!(decide (num ((b.drop 8).take 8) ≤ 281474976710656))))) (wf rfl) (fun he => (r_not (cond_pos he))) ?_
      refine O_p (.b ((!(decide (num (b.take 8) ≤ 281474976710656))) || (!(decide (num ((b.drop 8).take 8) ≤ 281474976710656))))) (r_pick_or rfl rfl rfl rfl) ?_
      refine O_nil ?_
      refine C_cond (x := ((!(decide (num (b.take 8) ≤ 281474976710656))) || (!(decide (num ((b.drop 8).take 8) ≤ 281474976710656))))) rfl (fun hc59 => ?_) (fun hc59 => ?_)
      ·
        simp only [decide_eq_true_eq, decide_eq_false_iff_not, Bool.not_eq_true', Bool.not_eq_false', Bool.and_eq_true, Bool.or_eq_true, Bool.or_eq_false_iff, Bool.not_not] at hc59
        have htm : ¬ num (b.take 8) ≤ 281474976710656 ∨ ¬ num ((b.drop 8).take 8) ≤ 281474976710656 := hc59
        refine C_seq ?_
        refine C_region ?_
        refine O_p (.agg [(.i .i64 0), (.i .i64 0), (.i .u32 0), (.i .u32 0), (.i .u32 0), (.i .u32 0), (.i .u32 0), (.i .u16 0), (.i .u16 0), (.i .u32 0), (.i .u32 0)]) (r_build rfl) ?_
        refine O_store (vs := [(.i .i64 0), (.i .i64 0), (.i .u32 0), (.i .u32 0), (.i .u32 0), (.i .u32 0), (.i .u32 0), (.i .u16 0), (.i .u16 0), (.i .u32 0), (.i .u32 0)]) (c' := [(.i .i64 0), (.i .i64 0), (.i .u32 0), (.i .u32 0), (.i .u32 0), (.i .u32 0), (.i .u32 0), (.i .u16 0), (.i .u16 0), (.i .u32 0), (.i .u32 0)]) rfl (by rfl) hb57 rfl (List.cons_ne_nil _ _) (Nat.le_of_ble_eq_true rfl) rfl fun H60 hW61 => ?_
        have hb62 := (hW61.2.2 _ (by omega)).trans hW56.2.1
        have hO63 := hO58.wr hW61 (by omega) (by omega)
        have hx_hO63 := hO63.next
        have hnx_H60 : H60.next = H55.next := hW61.1
        have hlt_n1 : n1 < H60.next := by omega
        have hlt_n35 : n35 < H60.next := by omega
        refine O_p (.i .i64 3) (r_mv rfl) ?_
        refine O_nil ?_
        refine C_ret ?_
        refine nx_ret ?_
        have he := cErr_t hk16 hl60 hsg hcd (by rintro ⟨ha, hb⟩; rcases htm with h | h <;> omega)
        have hb0 : ¬ cErr key b = 0 := by rw [he]; decide
        exact ⟨.inr rfl, _, resL_cons (r_cellA rfl hW61.2.1 rfl) (resL_one (r_tmp (v := (.i .i64 3)) rfl)), by simp only [cSt_bad hb0, he]; rfl, hO63⟩
      ·
        simp only [decide_eq_true_eq, decide_eq_false_iff_not, Bool.not_eq_true', Bool.not_eq_false', Bool.and_eq_true, Bool.or_eq_true, Bool.or_eq_false_iff, Bool.not_not] at hc59
        have htm : num (b.take 8) ≤ 281474976710656 ∧ num ((b.drop 8).take 8) ≤ 281474976710656 := hc59
        refine C_skip ?_
        refine C_seq ?_
        refine C_region ?_
        refine O_p (.sl ba b.length bc bg) (r_mv rfl) ?_
        refine O_q (by exact Bs.lo bhb bhg rfl (i := 16) rfl (by first | omega | (simp only [List.length_take, List.length_drop, List.length_append, List.length_cons, List.length_nil, beN_len] <;> omega)) (by first | omega | (simp only [List.length_take, List.length_drop, List.length_append, List.length_cons, List.length_nil, beN_len] <;> omega))) fun v67 hv66 => ?_
        obtain ⟨a64, rfl, hb65⟩ := hv66
        refine O_call (Ev.mono (new_ev h39 h29 hO58.ok bhg (hb65.old hok hO58) (by first | omega | (simp only [List.length_take, List.length_drop, List.length_append, List.length_cons, List.length_nil, beN_len] <;> omega)) (by first | omega | (simp only [List.length_take, List.length_drop, List.length_append, List.length_cons, List.length_nil, beN_len] <;> omega)) (by first | omega | (simp only [List.length_take, List.length_drop, List.length_append, List.length_cons, List.length_nil, beN_len] <;> omega))) fun v68 H69 hq70 => ?_)
        obtain ⟨rn71, rfl, hge72, hRd73, hK74⟩ := hq70
        have hlt_rn71 := hRd73.lt hK74.ok
        have hb75 := (hK74.keep _ (by omega)).trans hb57
        have hb76 := (hK74.keep _ (by omega)).trans hW56.2.1
        have hx_hK74 := hK74.next
        have hlt_n1 : n1 < H69.next := by omega
        have hlt_n35 : n35 < H69.next := by omega
        have hO77 := hO58.trans hK74
        have hx_hO77 := hO77.next
        refine O_p (.p (some (rn71, 0))) (r_mv rfl) ?_
        refine O_nil ?_
        refine C_seq ?_
        refine C_seq ?_
        refine C_region ?_
        refine O_p (.p (some (n35, 2))) (r_fadd' rfl rfl) ?_
        refine O_p (.p (some (n35, 3))) (r_fadd' rfl rfl) ?_
        refine O_p (.p (some (n35, 4))) (r_fadd' rfl rfl) ?_
        refine O_p (.p (some (n35, 5))) (r_fadd' rfl rfl) ?_
        refine O_p (.p (some (n35, 6))) (r_fadd' rfl rfl) ?_
        refine O_p (.p (some (n35, 9))) (r_fadd' rfl rfl) ?_
        refine O_p (.p (some (n35, 9))) (r_iarr' rfl rfl rfl rfl) ?_
        refine O_p (.p (some (n35, 9))) (r_fadd' rfl rfl) ?_
        refine O_p (.p (some (n35, 10))) (r_iarr' rfl rfl rfl rfl) ?_
        refine O_bslice (c := [(.p (some (n35, 2))), (.p (some (n35, 3))), (.p (some (n35, 4))), (.p (some (n35, 5))), (.p (some (n35, 6))), (.p (some (n35, 9))), (.p (some (n35, 10)))]) rfl fun n78 H79 hN80 => ?_
        have hF81 := hN80.fr (fun _ => False)
        have hb82 := (hF81.keep _ (by exact hlt_n1) (fun h => h)).trans hb75
        have hb83 := (hF81.keep _ (by exact hlt_n35) (fun h => h)).trans hb76
        have hRd84 := hRd73.kp hO77.ok ((Old.refl hO77.ok).new hN80)
        have hO85 := hO77.new hN80
        have hx_hO85 := hO85.next
        have hnm_n78 : n78 = H69.next := hN80.1
        have hnx_H79 : H79.next = H69.next + 1 := hN80.2.1
        have hlt_n1 : n1 < H79.next := by omega
        have hlt_n35 : n35 < H79.next := by omega
        have hlt_n78 : n78 < H79.next := by omega
        refine O_p (.i .i64 7) (r_len rfl) ?_
        refine O_p (.i .i64 0) (r_mv rfl) ?_
        refine O_nil ?_
        refine C_block ?_
        refine C_loop ?_
        refine C_seq ?_
        refine C_region ?_
        refine O_p (.b true) (r_bin rfl rfl rfl) ?_
        refine O_nil ?_
        refine C_seq ?_
        refine C_cond (x := true) rfl (fun _ => ?_) (fun h => by cases h)
        refine C_skip ?_
        refine C_seq ?_
        refine C_block ?_
        refine C_seq ?_
        refine C_region ?_
        refine O_p (.p (some (n78, 0))) (by exact (r_isl' rfl rfl (by decide) (by decide) rfl)) ?_
        refine O_p (.p (some (n35, 2))) (r_ld rfl hN80.2.2.1 rfl) ?_
        refine O_p (.p (some (n35, 2))) (r_mv rfl) ?_
        refine O_nil ?_
        refine C_region ?_
        refine O_p (.p (some (n35, 2))) (r_mv rfl) ?_
        refine O_p (.p (some (rn71, 0))) (r_mv rfl) ?_
        refine O_call (Ev.mono (get32_ev h40 h30 hO85.ok hRd84 (by first | omega | (simp only [List.length_take, List.length_drop, List.length_append, List.length_cons, List.length_nil, beN_len] <;> omega))) fun v86 H87 hq88 => ?_)
        obtain ⟨hBut89, hRd90, rfl⟩ := hq88
        have hb91 := (hBut89.keep _ (by omega) (by omega)).trans hb82
        have hb92 := (hBut89.keep _ (by omega) (by omega)).trans hb83
        have hb93 := (hBut89.keep _ (by omega) (by omega)).trans hN80.2.2.1
        have hx_hBut89 := hBut89.next
        have hlt_n1 : n1 < H87.next := by omega
        have hlt_n35 : n35 < H87.next := by omega
        have hlt_n78 : n78 < H87.next := by omega
        have hO94 := hO85.but hBut89 (by omega)
        have hx_hO94 := hO94.next
        have hlt_rn71 := hRd90.lt hBut89.ok
        refine O_p (.tup [(.i .u32 (num ((b.drop 16).take 4))), (.i .i64 0)]) (r_mv rfl) ?_
        refine O_p (.i .u32 (num ((b.drop 16).take 4))) (r_ext rfl rfl) ?_
        refine O_p (.i .i64 0) (r_ext rfl rfl) ?_
        refine O_p (.p (some (n35, 2))) (r_nilc rfl) ?_
        refine O_store (vs := [(.i .u32 (num ((b.drop 16).take 4)))]) (c' := [(.i .i64 (IntKind.i64.wrap (num (b.take 8)))), (.i .i64 (IntKind.i64.wrap (num ((b.drop 8).take 8)))), (.i .u32 (num ((b.drop 16).take 4))), (.i .u32 0), (.i .u32 0), (.i .u32 0), (.i .u32 0), (.i .u16 0), (.i .u16 0), (.i .u32 0), (.i .u32 0)]) rfl (by rfl) hb92 rfl (List.cons_ne_nil _ _) (Nat.le_of_ble_eq_true rfl) rfl fun H95 hW96 => ?_
        have hb97 := (hW96.2.2 _ (by omega)).trans hb91
        have hb98 := (hW96.2.2 _ (by omega)).trans hb93
        have hRd99 := hRd90.wr hO94.ok hW96 (by omega) (by omega) (by omega)
        have hO100 := hO94.wr hW96 (by omega) (by omega)
        have hx_hO100 := hO100.next
        have hnx_H95 : H95.next = H87.next := hW96.1
        have hlt_n1 : n1 < H95.next := by omega
        have hlt_n35 : n35 < H95.next := by omega
        have hlt_n78 : n78 < H95.next := by omega
        refine O_nil ?_
        refine C_region ?_
        refine O_p (.i .i64 1) (r_bin rfl rfl rfl) ?_
        refine O_p (.i .i64 1) (r_mv rfl) ?_
        refine O_nil ?_
        refine C_loop ?_
        refine C_seq ?_
        refine C_region ?_
        refine O_p (.b true) (r_bin rfl rfl rfl) ?_
        refine O_nil ?_
        refine C_seq ?_
        refine C_cond (x := true) rfl (fun _ => ?_) (fun h => by cases h)
        refine C_skip ?_
        refine C_seq ?_
        refine C_block ?_
        refine C_seq ?_
        refine C_region ?_
        refine O_p (.p (some (n78, 1))) (by exact (r_isl' rfl rfl (by decide) (by decide) rfl)) ?_
        refine O_p (.p (some (n35, 3))) (r_ld rfl hb98 rfl) ?_
        refine O_p (.p (some (n35, 3))) (r_mv rfl) ?_
        refine O_nil ?_
        refine C_region ?_
        refine O_p (.p (some (n35, 3))) (r_mv rfl) ?_
        refine O_p (.p (some (rn71, 0))) (r_mv rfl) ?_
        refine O_call (Ev.mono (get32_ev h40 h30 hO100.ok hRd99 (by first | omega | (simp only [List.length_take, List.length_drop, List.length_append, List.length_cons, List.length_nil, beN_len] <;> omega))) fun v101 H102 hq103 => ?_)
        obtain ⟨hBut104, hRd105, rfl⟩ := hq103
        have hb106 := (hBut104.keep _ (by omega) (by omega)).trans hb97
        have hb107 := (hBut104.keep _ (by omega) (by omega)).trans hW96.2.1
        have hb108 := (hBut104.keep _ (by omega) (by omega)).trans hb98
        have hx_hBut104 := hBut104.next
        have hlt_n1 : n1 < H102.next := by omega
        have hlt_n35 : n35 < H102.next := by omega
        have hlt_n78 : n78 < H102.next := by omega
        have hO109 := hO100.but hBut104 (by omega)
        have hx_hO109 := hO109.next
        have hlt_rn71 := hRd105.lt hBut104.ok
        refine O_p (.tup [(.i .u32 (num (((b.drop 16).drop 4).take 4))), (.i .i64 0)]) (r_mv rfl) ?_
        refine O_p (.i .u32 (num (((b.drop 16).drop 4).take 4))) (r_ext rfl rfl) ?_
        refine O_p (.i .i64 0) (r_ext rfl rfl) ?_
        refine O_p (.p (some (n35, 3))) (r_nilc rfl) ?_
        refine O_store (vs := [(.i .u32 (num (((b.drop 16).drop 4).take 4)))]) (c' := [(.i .i64 (IntKind.i64.wrap (num (b.take 8)))), (.i .i64 (IntKind.i64.wrap (num ((b.drop 8).take 8)))), (.i .u32 (num ((b.drop 16).take 4))), (.i .u32 (num (((b.drop 16).drop 4).take 4))), (.i .u32 0), (.i .u32 0), (.i .u32 0), (.i .u16 0), (.i .u16 0), (.i .u32 0), (.i .u32 0)]) rfl (by rfl) hb107 rfl (List.cons_ne_nil _ _) (Nat.le_of_ble_eq_true rfl) rfl fun H110 hW111 => ?_
        have hb112 := (hW111.2.2 _ (by omega)).trans hb106
        have hb113 := (hW111.2.2 _ (by omega)).trans hb108
        have hRd114 := hRd105.wr hO109.ok hW111 (by omega) (by omega) (by omega)
        have hO115 := hO109.wr hW111 (by omega) (by omega)
        have hx_hO115 := hO115.next
        have hnx_H110 : H110.next = H102.next := hW111.1
        have hlt_n1 : n1 < H110.next := by omega
        have hlt_n35 : n35 < H110.next := by omega
        have hlt_n78 : n78 < H110.next := by omega
        refine O_nil ?_
        refine C_region ?_
        refine O_p (.i .i64 2) (r_bin rfl rfl rfl) ?_
        refine O_p (.i .i64 2) (r_mv rfl) ?_
        refine O_nil ?_
        refine C_loop ?_
        refine C_seq ?_
        refine C_region ?_
        refine O_p (.b true) (r_bin rfl rfl rfl) ?_
        refine O_nil ?_
        refine C_seq ?_
        refine C_cond (x := true) rfl (fun _ => ?_) (fun h => by cases h)
        refine C_skip ?_
        refine C_seq ?_
        refine C_block ?_
        refine C_seq ?_
        refine C_region ?_
        refine O_p (.p (some (n78, 2))) (by exact (r_isl' rfl rfl (by decide) (by decide) rfl)) ?_
        refine O_p (.p (some (n35, 4))) (r_ld rfl hb113 rfl) ?_
        refine O_p (.p (some (n35, 4))) (r_mv rfl) ?_
        refine O_nil ?_
        refine C_region ?_
        refine O_p (.p (some (n35, 4))) (r_mv rfl) ?_
        refine O_p (.p (some (rn71, 0))) (r_mv rfl) ?_
        refine O_call (Ev.mono (get32_ev h40 h30 hO115.ok hRd114 (by first | omega | (simp only [List.length_take, List.length_drop, List.length_append, List.length_cons, List.length_nil, beN_len] <;> omega))) fun v116 H117 hq118 => ?_)
        obtain ⟨hBut119, hRd120, rfl⟩ := hq118
        have hb121 := (hBut119.keep _ (by omega) (by omega)).trans hb112
        have hb122 := (hBut119.keep _ (by omega) (by omega)).trans hW111.2.1
        have hb123 := (hBut119.keep _ (by omega) (by omega)).trans hb113
        have hx_hBut119 := hBut119.next
        have hlt_n1 : n1 < H117.next := by omega
        have hlt_n35 : n35 < H117.next := by omega
        have hlt_n78 : n78 < H117.next := by omega
        have hO124 := hO115.but hBut119 (by omega)
        have hx_hO124 := hO124.next
        have hlt_rn71 := hRd120.lt hBut119.ok
        refine O_p (.tup [(.i .u32 (num ((((b.drop 16).drop 4).drop 4).take 4))), (.i .i64 0)]) (r_mv rfl) ?_
        refine O_p (.i .u32 (num ((((b.drop 16).drop 4).drop 4).take 4))) (r_ext rfl rfl) ?_
        refine O_p (.i .i64 0) (r_ext rfl rfl) ?_
        refine O_p (.p (some (n35, 4))) (r_nilc rfl) ?_
        refine O_store (vs := [(.i .u32 (num ((((b.drop 16).drop 4).drop 4).take 4)))]) (c' := [(.i .i64 (IntKind.i64.wrap (num (b.take 8)))), (.i .i64 (IntKind.i64.wrap (num ((b.drop 8).take 8)))), (.i .u32 (num ((b.drop 16).take 4))), (.i .u32 (num (((b.drop 16).drop 4).take 4))), (.i .u32 (num ((((b.drop 16).drop 4).drop 4).take 4))), (.i .u32 0), (.i .u32 0), (.i .u16 0), (.i .u16 0), (.i .u32 0), (.i .u32 0)]) rfl (by rfl) hb122 rfl (List.cons_ne_nil _ _) (Nat.le_of_ble_eq_true rfl) rfl fun H125 hW126 => ?_
        have hb127 := (hW126.2.2 _ (by omega)).trans hb121
        have hb128 := (hW126.2.2 _ (by omega)).trans hb123
        have hRd129 := hRd120.wr hO124.ok hW126 (by omega) (by omega) (by omega)
        have hO130 := hO124.wr hW126 (by omega) (by omega)
        have hx_hO130 := hO130.next
        have hnx_H125 : H125.next = H117.next := hW126.1
        have hlt_n1 : n1 < H125.next := by omega
        have hlt_n35 : n35 < H125.next := by omega
        have hlt_n78 : n78 < H125.next := by omega
        refine O_nil ?_
        refine C_region ?_
        refine O_p (.i .i64 3) (r_bin rfl rfl rfl) ?_
        refine O_p (.i .i64 3) (r_mv rfl) ?_
        refine O_nil ?_
        refine C_loop ?_
        refine C_seq ?_
        refine C_region ?_
        refine O_p (.b true) (r_bin rfl rfl rfl) ?_
        refine O_nil ?_
        refine C_seq ?_
        refine C_cond (x := true) rfl (fun _ => ?_) (fun h => by cases h)
        refine C_skip ?_
        refine C_seq ?_
        refine C_block ?_
        refine C_seq ?_
        refine C_region ?_
        refine O_p (.p (some (n78, 3))) (by exact (r_isl' rfl rfl (by decide) (by decide) rfl)) ?_
        refine O_p (.p (some (n35, 5))) (r_ld rfl hb128 rfl) ?_
        refine O_p (.p (some (n35, 5))) (r_mv rfl) ?_
        refine O_nil ?_
        refine C_region ?_
        refine O_p (.p (some (n35, 5))) (r_mv rfl) ?_
        refine O_p (.p (some (rn71, 0))) (r_mv rfl) ?_
        refine O_call (Ev.mono (get32_ev h40 h30 hO130.ok hRd129 (by first | omega | (simp only [List.length_take, List.length_drop, List.length_append, List.length_cons, List.length_nil, beN_len] <;> omega))) fun v131 H132 hq133 => ?_)
        obtain ⟨hBut134, hRd135, rfl⟩ := hq133
        have hb136 := (hBut134.keep _ (by omega) (by omega)).trans hb127
        have hb137 := (hBut134.keep _ (by omega) (by omega)).trans hW126.2.1
        have hb138 := (hBut134.keep _ (by omega) (by omega)).trans hb128
        have hx_hBut134 := hBut134.next
        have hlt_n1 : n1 < H132.next := by omega
        have hlt_n35 : n35 < H132.next := by omega
        have hlt_n78 : n78 < H132.next := by omega
        have hO139 := hO130.but hBut134 (by omega)
        have hx_hO139 := hO139.next
        have hlt_rn71 := hRd135.lt hBut134.ok
        refine O_p (.tup [(.i .u32 (num (((((b.drop 16).drop 4).drop 4).drop 4).take 4))), (.i .i64 0)]) (r_mv rfl) ?_
        refine O_p (.i .u32 (num (((((b.drop 16).drop 4).drop 4).drop 4).take 4))) (r_ext rfl rfl) ?_
        refine O_p (.i .i64 0) (r_ext rfl rfl) ?_
        refine O_p (.p (some (n35, 5))) (r_nilc rfl) ?_
        refine O_store (vs := [(.i .u32 (num (((((b.drop 16).drop 4).drop 4).drop 4).take 4)))]) (c' := [(.i .i64 (IntKind.i64.wrap (num (b.take 8)))), (.i .i64 (IntKind.i64.wrap (num ((b.drop 8).take 8)))), (.i .u32 (num ((b.drop 16).take 4))), (.i .u32 (num (((b.drop 16).drop 4).take 4))), (.i .u32 (num ((((b.drop 16).drop 4).drop 4).take 4))), (.i .u32 (num (((((b.drop 16).drop 4).drop 4).drop 4).take 4))), (.i .u32 0), (.i .u16 0), (.i .u16 0), (.i .u32 0), (.i .u32 0)]) rfl (by rfl) hb137 rfl (List.cons_ne_nil _ _) (Nat.le_of_ble_eq_true rfl) rfl fun H140 hW141 => ?_
        have hb142 := (hW141.2.2 _ (by omega)).trans hb136
        have hb143 := (hW141.2.2 _ (by omega)).trans hb138
        have hRd144 := hRd135.wr hO139.ok hW141 (by omega) (by omega) (by omega)
        have hO145 := hO139.wr hW141 (by omega) (by omega)
        have hx_hO145 := hO145.next
        have hnx_H140 : H140.next = H132.next := hW141.1
        have hlt_n1 : n1 < H140.next := by omega
        have hlt_n35 : n35 < H140.next := by omega
        have hlt_n78 : n78 < H140.next := by omega
        refine O_nil ?_
        refine C_region ?_
        refine O_p (.i .i64 4) (r_bin rfl rfl rfl) ?_
        refine O_p (.i .i64 4) (r_mv rfl) ?_
        refine O_nil ?_
        refine C_loop ?_
        refine C_seq ?_
        refine C_region ?_
        refine O_p (.b true) (r_bin rfl rfl rfl) ?_
        refine O_nil ?_
        refine C_seq ?_
        refine C_cond (x := true) rfl (fun _ => ?_) (fun h => by cases h)
        refine C_skip ?_
        refine C_seq ?_
        refine C_block ?_
        refine C_seq ?_
        refine C_region ?_
        refine O_p (.p (some (n78, 4))) (by exact (r_isl' rfl rfl (by decide) (by decide) rfl)) ?_
        refine O_p (.p (some (n35, 6))) (r_ld rfl hb143 rfl) ?_
        refine O_p (.p (some (n35, 6))) (r_mv rfl) ?_
        refine O_nil ?_
        refine C_region ?_
        refine O_p (.p (some (n35, 6))) (r_mv rfl) ?_
        refine O_p (.p (some (rn71, 0))) (r_mv rfl) ?_
        refine O_call (Ev.mono (get32_ev h40 h30 hO145.ok hRd144 (by first | omega | (simp only [List.length_take, List.length_drop, List.length_append, List.length_cons, List.length_nil, beN_len] <;> omega))) fun v146 H147 hq148 => ?_)
        obtain ⟨hBut149, hRd150, rfl⟩ := hq148
        have hb151 := (hBut149.keep _ (by omega) (by omega)).trans hb142
        have hb152 := (hBut149.keep _ (by omega) (by omega)).trans hW141.2.1
        have hb153 := (hBut149.keep _ (by omega) (by omega)).trans hb143
        have hx_hBut149 := hBut149.next
        have hlt_n1 : n1 < H147.next := by omega
        have hlt_n35 : n35 < H147.next := by omega
        have hlt_n78 : n78 < H147.next := by omega
        have hO154 := hO145.but hBut149 (by omega)
        have hx_hO154 := hO154.next
        have hlt_rn71 := hRd150.lt hBut149.ok
        refine O_p (.tup [(.i .u32 (num ((((((b.drop 16).drop 4).drop 4).drop 4).drop 4).take 4))), (.i .i64 0)]) (r_mv rfl) ?_
        refine O_p (.i .u32 (num ((((((b.drop 16).drop 4).drop 4).drop 4).drop 4).take 4))) (r_ext rfl rfl) ?_
        refine O_p (.i .i64 0) (r_ext rfl rfl) ?_
        refine O_p (.p (some (n35, 6))) (r_nilc rfl) ?_
        refine O_store (vs := [(.i .u32 (num ((((((b.drop 16).drop 4).drop 4).drop 4).drop 4).take 4)))]) (c' := [(.i .i64 (IntKind.i64.wrap (num (b.take 8)))), (.i .i64 (IntKind.i64.wrap (num ((b.drop 8).take 8)))), (.i .u32 (num ((b.drop 16).take 4))), (.i .u32 (num (((b.drop 16).drop 4).take 4))), (.i .u32 (num ((((b.drop 16).drop 4).drop 4).take 4))), (.i .u32 (num (((((b.drop 16).drop 4).drop 4).drop 4).take 4))), (.i .u32 (num ((((((b.drop 16).drop 4).drop 4).drop 4).drop 4).take 4))), (.i .u16 0), (.i .u16 0), (.i .u32 0), (.i .u32 0)]) rfl (by rfl) hb152 rfl (List.cons_ne_nil _ _) (Nat.le_of_ble_eq_true rfl) rfl fun H155 hW156 => ?_
        have hb157 := (hW156.2.2 _ (by omega)).trans hb151
        have hb158 := (hW156.2.2 _ (by omega)).trans hb153
        have hRd159 := hRd150.wr hO154.ok hW156 (by omega) (by omega) (by omega)
        have hO160 := hO154.wr hW156 (by omega) (by omega)
        have hx_hO160 := hO160.next
        have hnx_H155 : H155.next = H147.next := hW156.1
        have hlt_n1 : n1 < H155.next := by omega
        have hlt_n35 : n35 < H155.next := by omega
        have hlt_n78 : n78 < H155.next := by omega
        refine O_nil ?_
        refine C_region ?_
        refine O_p (.i .i64 5) (r_bin rfl rfl rfl) ?_
        refine O_p (.i .i64 5) (r_mv rfl) ?_
        refine O_nil ?_
        refine C_loop ?_
        refine C_seq ?_
        refine C_region ?_
        refine O_p (.b true) (r_bin rfl rfl rfl) ?_
        refine O_nil ?_
        refine C_seq ?_
        refine C_cond (x := true) rfl (fun _ => ?_) (fun h => by cases h)
        refine C_skip ?_
        refine C_seq ?_
        refine C_block ?_
        refine C_seq ?_
        refine C_region ?_
        refine O_p (.p (some (n78, 5))) (by exact (r_isl' rfl rfl (by decide) (by decide) rfl)) ?_
        refine O_p (.p (some (n35, 9))) (r_ld rfl hb158 rfl) ?_
        refine O_p (.p (some (n35, 9))) (r_mv rfl) ?_
        refine O_nil ?_
        refine C_region ?_
        refine O_p (.p (some (n35, 9))) (r_mv rfl) ?_
        refine O_p (.p (some (rn71, 0))) (r_mv rfl) ?_
        refine O_call (Ev.mono (get32_ev h40 h30 hO160.ok hRd159 (by first | omega | (simp only [List.length_take, List.length_drop, List.length_append, List.length_cons, List.length_nil, beN_len] <;> omega))) fun v161 H162 hq163 => ?_)
        obtain ⟨hBut164, hRd165, rfl⟩ := hq163
        have hb166 := (hBut164.keep _ (by omega) (by omega)).trans hb157
        have hb167 := (hBut164.keep _ (by omega) (by omega)).trans hW156.2.1
        have hb168 := (hBut164.keep _ (by omega) (by omega)).trans hb158
        have hx_hBut164 := hBut164.next
        have hlt_n1 : n1 < H162.next := by omega
        have hlt_n35 : n35 < H162.next := by omega
        have hlt_n78 : n78 < H162.next := by omega
        have hO169 := hO160.but hBut164 (by omega)
        have hx_hO169 := hO169.next
        have hlt_rn71 := hRd165.lt hBut164.ok
        refine O_p (.tup [(.i .u32 (num (((((((b.drop 16).drop 4).drop 4).drop 4).drop 4).drop 4).take 4))), (.i .i64 0)]) (r_mv rfl) ?_
        refine O_p (.i .u32 (num (((((((b.drop 16).drop 4).drop 4).drop 4).drop 4).drop 4).take 4))) (r_ext rfl rfl) ?_
        refine O_p (.i .i64 0) (r_ext rfl rfl) ?_
        refine O_p (.p (some (n35, 9))) (r_nilc rfl) ?_
        refine O_store (vs := [(.i .u32 (num (((((((b.drop 16).drop 4).drop 4).drop 4).drop 4).drop 4).take 4)))]) (c' := [(.i .i64 (IntKind.i64.wrap (num (b.take 8)))), (.i .i64 (IntKind.i64.wrap (num ((b.drop 8).take 8)))), (.i .u32 (num ((b.drop 16).take 4))), (.i .u32 (num (((b.drop 16).drop 4).take 4))), (.i .u32 (num ((((b.drop 16).drop 4).drop 4).take 4))), (.i .u32 (num (((((b.drop 16).drop 4).drop 4).drop 4).take 4))), (.i .u32 (num ((((((b.drop 16).drop 4).drop 4).drop 4).drop 4).take 4))), (.i .u16 0), (.i .u16 0), (.i .u32 (num (((((((b.drop 16).drop 4).drop 4).drop 4).drop 4).drop 4).take 4))), (.i .u32 0)]) rfl (by rfl) hb167 rfl (List.cons_ne_nil _ _) (Nat.le_of_ble_eq_true rfl) rfl fun H170 hW171 => ?_
        have hb172 := (hW171.2.2 _ (by omega)).trans hb166
        have hb173 := (hW171.2.2 _ (by omega)).trans hb168
        have hRd174 := hRd165.wr hO169.ok hW171 (by omega) (by omega) (by omega)
        have hO175 := hO169.wr hW171 (by omega) (by omega)
        have hx_hO175 := hO175.next
        have hnx_H170 : H170.next = H162.next := hW171.1
        have hlt_n1 : n1 < H170.next := by omega
        have hlt_n35 : n35 < H170.next := by omega
        have hlt_n78 : n78 < H170.next := by omega
        refine O_nil ?_
        refine C_region ?_
        refine O_p (.i .i64 6) (r_bin rfl rfl rfl) ?_
        refine O_p (.i .i64 6) (r_mv rfl) ?_
        refine O_nil ?_
        refine C_loop ?_
        refine C_seq ?_
        refine C_region ?_
        refine O_p (.b true) (r_bin rfl rfl rfl) ?_
        refine O_nil ?_
        refine C_seq ?_
        refine C_cond (x := true) rfl (fun _ => ?_) (fun h => by cases h)
        refine C_skip ?_
        refine C_seq ?_
        refine C_block ?_
        refine C_seq ?_
        refine C_region ?_
        refine O_p (.p (some (n78, 6))) (by exact (r_isl' rfl rfl (by decide) (by decide) rfl)) ?_
        refine O_p (.p (some (n35, 10))) (r_ld rfl hb173 rfl) ?_
        refine O_p (.p (some (n35, 10))) (r_mv rfl) ?_
        refine O_nil ?_
        refine C_region ?_
        refine O_p (.p (some (n35, 10))) (r_mv rfl) ?_
        refine O_p (.p (some (rn71, 0))) (r_mv rfl) ?_
        refine O_call (Ev.mono (get32_ev h40 h30 hO175.ok hRd174 (by first | omega | (simp only [List.length_take, List.length_drop, List.length_append, List.length_cons, List.length_nil, beN_len] <;> omega))) fun v176 H177 hq178 => ?_)
        obtain ⟨hBut179, hRd180, rfl⟩ := hq178
        have hb181 := (hBut179.keep _ (by omega) (by omega)).trans hb172
        have hb182 := (hBut179.keep _ (by omega) (by omega)).trans hW171.2.1
        have hb183 := (hBut179.keep _ (by omega) (by omega)).trans hb173
        have hx_hBut179 := hBut179.next
        have hlt_n1 : n1 < H177.next := by omega
        have hlt_n35 : n35 < H177.next := by omega
        have hlt_n78 : n78 < H177.next := by omega
        have hO184 := hO175.but hBut179 (by omega)
        have hx_hO184 := hO184.next
        have hlt_rn71 := hRd180.lt hBut179.ok
        refine O_p (.tup [(.i .u32 (num ((((((((b.drop 16).drop 4).drop 4).drop 4).drop 4).drop 4).drop 4).take 4))), (.i .i64 0)]) (r_mv rfl) ?_
        refine O_p (.i .u32 (num ((((((((b.drop 16).drop 4).drop 4).drop 4).drop 4).drop 4).drop 4).take 4))) (r_ext rfl rfl) ?_
        refine O_p (.i .i64 0) (r_ext rfl rfl) ?_
        refine O_p (.p (some (n35, 10))) (r_nilc rfl) ?_
        refine O_store (vs := [(.i .u32 (num ((((((((b.drop 16).drop 4).drop 4).drop 4).drop 4).drop 4).drop 4).take 4)))]) (c' := [(.i .i64 (IntKind.i64.wrap (num (b.take 8)))), (.i .i64 (IntKind.i64.wrap (num ((b.drop 8).take 8)))), (.i .u32 (num ((b.drop 16).take 4))), (.i .u32 (num (((b.drop 16).drop 4).take 4))), (.i .u32 (num ((((b.drop 16).drop 4).drop 4).take 4))), (.i .u32 (num (((((b.drop 16).drop 4).drop 4).drop 4).take 4))), (.i .u32 (num ((((((b.drop 16).drop 4).drop 4).drop 4).drop 4).take 4))), (.i .u16 0), (.i .u16 0), (.i .u32 (num (((((((b.drop 16).drop 4).drop 4).drop 4).drop 4).drop 4).take 4))), (.i .u32 (num ((((((((b.drop 16).drop 4).drop 4).drop 4).drop 4).drop 4).drop 4).take 4)))]) rfl (by rfl) hb182 rfl (List.cons_ne_nil _ _) (Nat.le_of_ble_eq_true rfl) rfl fun H185 hW186 => ?_
        have hb187 := (hW186.2.2 _ (by omega)).trans hb181
        have hb188 := (hW186.2.2 _ (by omega)).trans hb183
        have hRd189 := hRd180.wr hO184.ok hW186 (by omega) (by omega) (by omega)
        have hO190 := hO184.wr hW186 (by omega) (by omega)
        have hx_hO190 := hO190.next
        have hnx_H185 : H185.next = H177.next := hW186.1
        have hlt_n1 : n1 < H185.next := by omega
        have hlt_n35 : n35 < H185.next := by omega
        have hlt_n78 : n78 < H185.next := by omega
        refine O_nil ?_
        refine C_region ?_
        refine O_p (.i .i64 7) (r_bin rfl rfl rfl) ?_
        refine O_p (.i .i64 7) (r_mv rfl) ?_
        refine O_nil ?_
        refine C_loop ?_
        refine C_seq ?_
        refine C_region ?_
        refine O_p (.b false) (r_bin rfl rfl rfl) ?_
        refine O_nil ?_
        refine C_seq ?_
        refine C_cond (x := false) rfl (fun h => by cases h) (fun _ => ?_)
        refine C_exit ?_
        refine nx_exit ?_
        refine nx_exit ?_
        refine bk_hit ?_
        refine C_seq ?_
        refine C_region ?_
        refine O_p (.p (some (rn71, 0))) (r_mv rfl) ?_
        refine O_call (Ev.mono (get16_ev h40 h31 hO190.ok hRd189 (by first | omega | (simp only [List.length_take, List.length_drop, List.length_append, List.length_cons, List.length_nil, beN_len] <;> omega))) fun v191 H192 hq193 => ?_)
        obtain ⟨hBut194, hRd195, rfl⟩ := hq193
        have hb196 := (hBut194.keep _ (by omega) (by omega)).trans hb187
        have hb197 := (hBut194.keep _ (by omega) (by omega)).trans hW186.2.1
        have hb198 := (hBut194.keep _ (by omega) (by omega)).trans hb188
        have hx_hBut194 := hBut194.next
        have hlt_n1 : n1 < H192.next := by omega
        have hlt_n35 : n35 < H192.next := by omega
        have hlt_n78 : n78 < H192.next := by omega
        have hO199 := hO190.but hBut194 (by omega)
        have hx_hO199 := hO199.next
        have hlt_rn71 := hRd195.lt hBut194.ok
        refine O_p (.tup [(.i .u16 (num (((((((((b.drop 16).drop 4).drop 4).drop 4).drop 4).drop 4).drop 4).drop 4).take 2))), (.i .i64 0)]) (r_mv rfl) ?_
        refine O_p (.i .u16 (num (((((((((b.drop 16).drop 4).drop 4).drop 4).drop 4).drop 4).drop 4).drop 4).take 2))) (r_ext rfl rfl) ?_
        refine O_p (.i .i64 0) (r_ext rfl rfl) ?_
        refine O_p (.p (some (n35, 7))) (r_fadd' rfl rfl) ?_
        refine O_store (vs := [(.i .u16 (num (((((((((b.drop 16).drop 4).drop 4).drop 4).drop 4).drop 4).drop 4).drop 4).take 2)))]) (c' := [(.i .i64 (IntKind.i64.wrap (num (b.take 8)))), (.i .i64 (IntKind.i64.wrap (num ((b.drop 8).take 8)))), (.i .u32 (num ((b.drop 16).take 4))), (.i .u32 (num (((b.drop 16).drop 4).take 4))), (.i .u32 (num ((((b.drop 16).drop 4).drop 4).take 4))), (.i .u32 (num (((((b.drop 16).drop 4).drop 4).drop 4).take 4))), (.i .u32 (num ((((((b.drop 16).drop 4).drop 4).drop 4).drop 4).take 4))), (.i .u16 (num (((((((((b.drop 16).drop 4).drop 4).drop 4).drop 4).drop 4).drop 4).drop 4).take 2))), (.i .u16 0), (.i .u32 (num (((((((b.drop 16).drop 4).drop 4).drop 4).drop 4).drop 4).take 4))), (.i .u32 (num ((((((((b.drop 16).drop 4).drop 4).drop 4).drop 4).drop 4).drop 4).take 4)))]) rfl (by rfl) hb197 rfl (List.cons_ne_nil _ _) (Nat.le_of_ble_eq_true rfl) rfl fun H200 hW201 => ?_
        have hb202 := (hW201.2.2 _ (by omega)).trans hb196
        have hb203 := (hW201.2.2 _ (by omega)).trans hb198
        have hRd204 := hRd195.wr hO199.ok hW201 (by omega) (by omega) (by omega)
        have hO205 := hO199.wr hW201 (by omega) (by omega)
        have hx_hO205 := hO205.next
        have hnx_H200 : H200.next = H192.next := hW201.1
        have hlt_n1 : n1 < H200.next := by omega
        have hlt_n35 : n35 < H200.next := by omega
        have hlt_n78 : n78 < H200.next := by omega
        refine O_nil ?_
        refine C_seq ?_
        refine C_region ?_
        refine O_p (.p (some (rn71, 0))) (r_mv rfl) ?_
        refine O_call (Ev.mono (get16_ev h40 h31 hO205.ok hRd204 (by first | omega | (simp only [List.length_take, List.length_drop, List.length_append, List.length_cons, List.length_nil, beN_len] <;> omega))) fun v206 H207 hq208 => ?_)
        obtain ⟨hBut209, hRd210, rfl⟩ := hq208
        have hb211 := (hBut209.keep _ (by omega) (by omega)).trans hb202
        have hb212 := (hBut209.keep _ (by omega) (by omega)).trans hW201.2.1
        have hb213 := (hBut209.keep _ (by omega) (by omega)).trans hb203
        have hx_hBut209 := hBut209.next
        have hlt_n1 : n1 < H207.next := by omega
        have hlt_n35 : n35 < H207.next := by omega
        have hlt_n78 : n78 < H207.next := by omega
        have hO214 := hO205.but hBut209 (by omega)
        have hx_hO214 := hO214.next
        have hlt_rn71 := hRd210.lt hBut209.ok
        refine O_p (.tup [(.i .u16 (num ((((((((((b.drop 16).drop 4).drop 4).drop 4).drop 4).drop 4).drop 4).drop 4).drop 2).take 2))), (.i .i64 0)]) (r_mv rfl) ?_
        refine O_p (.i .u16 (num ((((((((((b.drop 16).drop 4).drop 4).drop 4).drop 4).drop 4).drop 4).drop 4).drop 2).take 2))) (r_ext rfl rfl) ?_
        refine O_p (.i .i64 0) (r_ext rfl rfl) ?_
        refine O_p (.p (some (n35, 8))) (r_fadd' rfl rfl) ?_
        refine O_store (vs := [(.i .u16 (num ((((((((((b.drop 16).drop 4).drop 4).drop 4).drop 4).drop 4).drop 4).drop 4).drop 2).take 2)))]) (c' := [(.i .i64 (IntKind.i64.wrap (num (b.take 8)))), (.i .i64 (IntKind.i64.wrap (num ((b.drop 8).take 8)))), (.i .u32 (num ((b.drop 16).take 4))), (.i .u32 (num (((b.drop 16).drop 4).take 4))), (.i .u32 (num ((((b.drop 16).drop 4).drop 4).take 4))), (.i .u32 (num (((((b.drop 16).drop 4).drop 4).drop 4).take 4))), (.i .u32 (num ((((((b.drop 16).drop 4).drop 4).drop 4).drop 4).take 4))), (.i .u16 (num (((((((((b.drop 16).drop 4).drop 4).drop 4).drop 4).drop 4).drop 4).drop 4).take 2))), (.i .u16 (num ((((((((((b.drop 16).drop 4).drop 4).drop 4).drop 4).drop 4).drop 4).drop 4).drop 2).take 2))), (.i .u32 (num (((((((b.drop 16).drop 4).drop 4).drop 4).drop 4).drop 4).take 4))), (.i .u32 (num ((((((((b.drop 16).drop 4).drop 4).drop 4).drop 4).drop 4).drop 4).take 4)))]) rfl (by rfl) hb212 rfl (List.cons_ne_nil _ _) (Nat.le_of_ble_eq_true rfl) rfl fun H215 hW216 => ?_
        have hb217 := (hW216.2.2 _ (by omega)).trans hb211
        have hb218 := (hW216.2.2 _ (by omega)).trans hb213
        have hRd219 := hRd210.wr hO214.ok hW216 (by omega) (by omega) (by omega)
        have hO220 := hO214.wr hW216 (by omega) (by omega)
        have hx_hO220 := hO220.next
        have hnx_H215 : H215.next = H207.next := hW216.1
        have hlt_n1 : n1 < H215.next := by omega
        have hlt_n35 : n35 < H215.next := by omega
        have hlt_n78 : n78 < H215.next := by omega
        refine O_nil ?_
        refine C_seq ?_
        refine C_region ?_
        refine O_p (.agg [(.i .i64 (IntKind.i64.wrap (num (b.take 8)))), (.i .i64 (IntKind.i64.wrap (num ((b.drop 8).take 8)))), (.i .u32 (num ((b.drop 16).take 4))), (.i .u32 (num (((b.drop 16).drop 4).take 4))), (.i .u32 (num ((((b.drop 16).drop 4).drop 4).take 4))), (.i .u32 (num (((((b.drop 16).drop 4).drop 4).drop 4).take 4))), (.i .u32 (num ((((((b.drop 16).drop 4).drop 4).drop 4).drop 4).take 4))), (.i .u16 (num (((((((((b.drop 16).drop 4).drop 4).drop 4).drop 4).drop 4).drop 4).drop 4).take 2))), (.i .u16 (num ((((((((((b.drop 16).drop 4).drop 4).drop 4).drop 4).drop 4).drop 4).drop 4).drop 2).take 2))), (.i .u32 (num (((((((b.drop 16).drop 4).drop 4).drop 4).drop 4).drop 4).take 4))), (.i .u32 (num ((((((((b.drop 16).drop 4).drop 4).drop 4).drop 4).drop 4).drop 4).take 4)))]) (r_ldA rfl hW216.2.1 rfl) ?_
        refine O_store (vs := [(.i .i64 (IntKind.i64.wrap (num (b.take 8)))), (.i .i64 (IntKind.i64.wrap (num ((b.drop 8).take 8)))), (.i .u32 (num ((b.drop 16).take 4))), (.i .u32 (num (((b.drop 16).drop 4).take 4))), (.i .u32 (num ((((b.drop 16).drop 4).drop 4).take 4))), (.i .u32 (num (((((b.drop 16).drop 4).drop 4).drop 4).take 4))), (.i .u32 (num ((((((b.drop 16).drop 4).drop 4).drop 4).drop 4).take 4))), (.i .u16 (num (((((((((b.drop 16).drop 4).drop 4).drop 4).drop 4).drop 4).drop 4).drop 4).take 2))), (.i .u16 (num ((((((((((b.drop 16).drop 4).drop 4).drop 4).drop 4).drop 4).drop 4).drop 4).drop 2).take 2))), (.i .u32 (num (((((((b.drop 16).drop 4).drop 4).drop 4).drop 4).drop 4).take 4))), (.i .u32 (num ((((((((b.drop 16).drop 4).drop 4).drop 4).drop 4).drop 4).drop 4).take 4)))]) (c' := [(.i .i64 (IntKind.i64.wrap (num (b.take 8)))), (.i .i64 (IntKind.i64.wrap (num ((b.drop 8).take 8)))), (.i .u32 (num ((b.drop 16).take 4))), (.i .u32 (num (((b.drop 16).drop 4).take 4))), (.i .u32 (num ((((b.drop 16).drop 4).drop 4).take 4))), (.i .u32 (num (((((b.drop 16).drop 4).drop 4).drop 4).take 4))), (.i .u32 (num ((((((b.drop 16).drop 4).drop 4).drop 4).drop 4).take 4))), (.i .u16 (num (((((((((b.drop 16).drop 4).drop 4).drop 4).drop 4).drop 4).drop 4).drop 4).take 2))), (.i .u16 (num ((((((((((b.drop 16).drop 4).drop 4).drop 4).drop 4).drop 4).drop 4).drop 4).drop 2).take 2))), (.i .u32 (num (((((((b.drop 16).drop 4).drop 4).drop 4).drop 4).drop 4).take 4))), (.i .u32 (num ((((((((b.drop 16).drop 4).drop 4).drop 4).drop 4).drop 4).drop 4).take 4)))]) rfl (by rfl) hb217 rfl (List.cons_ne_nil _ _) (Nat.le_of_ble_eq_true rfl) rfl fun H221 hW222 => ?_
        have hb223 := (hW222.2.2 _ (by omega)).trans hW216.2.1
        have hb224 := (hW222.2.2 _ (by omega)).trans hb218
        have hRd225 := hRd219.wr hO220.ok hW222 (by omega) (by omega) (by omega)
        have hO226 := hO220.wr hW222 (by omega) (by omega)
        have hx_hO226 := hO226.next
        have hnx_H221 : H221.next = H215.next := hW222.1
        have hlt_n1 : n1 < H221.next := by omega
        have hlt_n35 : n35 < H221.next := by omega
        have hlt_n78 : n78 < H221.next := by omega
        refine O_p (.i .i64 0) (r_mv rfl) ?_
        refine O_nil ?_
        refine C_ret ?_
        have he := cErr_0 hk16 hl60 hsg hcd ⟨htm.1, htm.2⟩
        have hw1 : IntKind.i64.wrap (num (b.take 8)) = num (b.take 8) := wrap_i64 (by have := (num_bound b 8 (by omega)).1; omega) (by omega)
        have hw2 : IntKind.i64.wrap (num ((b.drop 8).take 8)) = num ((b.drop 8).take 8) := wrap_i64 (by have := (num_bound (b.drop 8) 8 (by rw [List.length_drop]; omega)).1; omega) (by omega)
        refine ⟨.inr rfl, _, resL_cons (r_cellA rfl hW222.2.1 rfl) (resL_one (r_tmp (v := (.i .i64 0)) rfl)), ?_, hO226⟩
        simp only [cSt_ok he, he]; rw [hw1, hw2]; simp only [List.drop_drop]; rfl
theorem dec_ev {H : AH} (hok : H.Ok) {ka : Option (Nat × Nat)} {kn kc kg : Nat} (khg : kg = 0 ∨ kg = 1) {key : List UInt8} (khb : Bs H (.sl ka kn kc kg) key) (khc : kn ≤ kc) (khm : kc ≤ 9223372036854775807) {ba : Option (Nat × Nat)} {bn bc bg : Nat} (bhg : bg = 0 ∨ bg = 1) {b : List UInt8} (bhb : Bs H (.sl ba bn bc bg) b) (bhc : bn ≤ bc) (bhm : bc ≤ 9223372036854775807) : Ev tabA spA (.fn (.func 14) [] []) [.sl ka kn kc kg, .sl ba bn bc bg] H (fun r H' => r = .tup [.agg [.i .i64 (cSt key b 0), .i .i64 (cSt key b 1), .i .u32 (cSt key b 2), .i .u32 (cSt key b 3), .i .u32 (cSt key b 4), .i .u32 (cSt key b 5), .i .u32 (cSt key b 6), .i .u16 (cSt key b 7), .i .u16 (cSt key b 8), .i .u32 (cSt key b 9), .i .u32 (cSt key b 10)], .i .i64 (cErr key b)] ∧ Kp H H') := by
  by_cases hk : key.length = 16
  · have hbl := bhb.length
    by_cases h1 : b.length < 60
    · exact dec_short hok khg khb khc khm bhg bhb bhc bhm hk h1
    · by_cases h2 : 60 < b.length
      · exact dec_long hok khg khb khc khm bhg bhb bhc bhm hk h2
      · exact dec_exact hok khg khb khc khm bhg bhb bhc bhm hk (by omega)
  · exact dec_key hok khg khb khc khm bhg bhb bhc bhm hk
set_option maxRecDepth 100000 in
theorem chk_ev {H : AH} (hok : H.Ok) {ka : Option (Nat × Nat)} {kn kc kg : Nat} (khg : kg = 0 ∨ kg = 1) {key : List UInt8} (khb : Bs H (.sl ka kn kc kg) key) (khc : kn ≤ kc) (khm : kc ≤ 9223372036854775807) {ba : Option (Nat × Nat)} {bn bc bg : Nat} (bhg : bg = 0 ∨ bg = 1) {b : List UInt8} (bhb : Bs H (.sl ba bn bc bg) b) (bhc : bn ≤ bc) (bhm : bc ≤ 9223372036854775807) (now : Int) : Ev tabA spA (.fn (.func 16) [] []) [.sl ka kn kc kg, .sl ba bn bc bg, .i .i64 now] H (fun r H' => r = .tup [.agg [.i .i64 (kSt key b now 0), .i .i64 (kSt key b now 1), .i .u32 (kSt key b now 2), .i .u32 (kSt key b now 3), .i .u32 (kSt key b now 4), .i .u32 (kSt key b now 5), .i .u32 (kSt key b now 6), .i .u16 (kSt key b now 7), .i .u16 (kSt key b now 8), .i .u32 (kSt key b now 9), .i .u32 (kSt key b now 10)], .i .i64 (kErr key b now)] ∧ Kp H H') := by
  have khl := khb.length
  subst khl
  refine Ev_C (F := x16) rfl ?_
  have bhl := bhb.length
  subst bhl
  have hO0 := Old.refl hok
  obtain ⟨⟨ht0, ht1⟩, ht2, ht3⟩ := cSt_times key b
  refine C_seq ?_
  refine C_region ?_
  refine O_alloc fun n1 H2 hN3 => ?_
  have hF4 := hN3.fr (fun _ => False)
  have hO5 := hO0.new hN3
  have hx_hO5 := hO5.next
  have hnm_n1 : n1 = H.next := hN3.1
  have hnx_H2 : H2.next = H.next + 1 := hN3.2.1
  have hlt_n1 : n1 < H2.next := by omega
  refine O_p (.i .i64 0) (r_mv rfl) ?_
  refine O_nil ?_
  refine C_seq ?_
  refine C_region ?_
  refine O_p (.sl ka key.length kc kg) (r_mv rfl) ?_
  refine O_p (.sl ba b.length bc bg) (r_mv rfl) ?_
  refine O_call (Ev.mono (dec_ev hO5.ok khg (khb.old hok hO5) (by first | omega | (simp only [List.length_take, List.length_drop, List.length_append, List.length_cons, List.length_nil, beN_len] <;> omega)) (by first | omega | (simp only [List.length_take, List.length_drop, List.length_append, List.length_cons, List.length_nil, beN_len] <;> omega)) bhg (bhb.old hok hO5) (by first | omega | (simp only [List.length_take, List.length_drop, List.length_append, List.length_cons, List.length_nil, beN_len] <;> omega)) (by first | omega | (simp only [List.length_take, List.length_drop, List.length_append, List.length_cons, List.length_nil, beN_len] <;> omega))) fun v6 H7 hq8 => ?_)
  obtain ⟨rfl, hK9⟩ := hq8
  have hb10 := (hK9.keep _ (by omega)).trans hN3.2.2.1
  have hx_hK9 := hK9.next
  have hlt_n1 : n1 < H7.next := by omega
  have hO11 := hO5.trans hK9
  have hx_hO11 := hO11.next
  refine O_p (.tup [(.agg [(.i .i64 (cSt key b 0)), (.i .i64 (cSt key b 1)), (.i .u32 (cSt key b 2)), (.i .u32 (cSt key b 3)), (.i .u32 (cSt key b 4)), (.i .u32 (cSt key b 5)), (.i .u32 (cSt key b 6)), (.i .u16 (cSt key b 7)), (.i .u16 (cSt key b 8)), (.i .u32 (cSt key b 9)), (.i .u32 (cSt key b 10))]), (.i .i64 (cErr key b))]) (r_mv rfl) ?_
  refine O_p (.agg [(.i .i64 (cSt key b 0)), (.i .i64 (cSt key b 1)), (.i .u32 (cSt key b 2)), (.i .u32 (cSt key b 3)), (.i .u32 (cSt key b 4)), (.i .u32 (cSt key b 5)), (.i .u32 (cSt key b 6)), (.i .u16 (cSt key b 7)), (.i .u16 (cSt key b 8)), (.i .u32 (cSt key b 9)), (.i .u32 (cSt key b 10))]) (r_ext rfl rfl) ?_
  refine O_p (.i .i64 (cErr key b)) (r_ext rfl rfl) ?_
  refine O_alloc fun n12 H13 hN14 => ?_
  have hF15 := hN14.fr (fun _ => False)
  have hb16 := (hF15.keep _ (by exact hlt_n1) (fun h => h)).trans hb10
  have hO17 := hO11.new hN14
  have hx_hO17 := hO17.next
  have hnm_n12 : n12 = H7.next := hN14.1
  have hnx_H13 : H13.next = H7.next + 1 := hN14.2.1
  have hlt_n1 : n1 < H13.next := by omega
  have hlt_n12 : n12 < H13.next := by omega
  refine O_store (vs := [(.i .i64 (cSt key b 0)), (.i .i64 (cSt key b 1)), (.i .u32 (cSt key b 2)), (.i .u32 (cSt key b 3)), (.i .u32 (cSt key b 4)), (.i .u32 (cSt key b 5)), (.i .u32 (cSt key b 6)), (.i .u16 (cSt key b 7)), (.i .u16 (cSt key b 8)), (.i .u32 (cSt key b 9)), (.i .u32 (cSt key b 10))]) (c' := [(.i .i64 (cSt key b 0)), (.i .i64 (cSt key b 1)), (.i .u32 (cSt key b 2)), (.i .u32 (cSt key b 3)), (.i .u32 (cSt key b 4)), (.i .u32 (cSt key b 5)), (.i .u32 (cSt key b 6)), (.i .u16 (cSt key b 7)), (.i .u16 (cSt key b 8)), (.i .u32 (cSt key b 9)), (.i .u32 (cSt key b 10))]) rfl (by rfl) hN14.2.2.1 rfl (List.cons_ne_nil _ _) (Nat.le_of_ble_eq_true rfl) rfl fun H18 hW19 => ?_
  have hb20 := (hW19.2.2 _ (by omega)).trans hb16
  have hO21 := hO17.wr hW19 (by omega) (by omega)
  have hx_hO21 := hO21.next
  have hnx_H18 : H18.next = H13.next := hW19.1
  have hlt_n1 : n1 < H18.next := by omega
  have hlt_n12 : n12 < H18.next := by omega
  refine O_p (.i .i64 (cErr key b)) (r_mv rfl) ?_
  refine O_nil ?_
  refine C_seq ?_
  refine C_block ?_
  refine C_seq ?_
  refine C_region ?_
  refine O_p (.i .i64 (cErr key b)) (r_mv rfl) ?_
  refine O_p (.b (!decide ((cErr key b) = 0))) (r_neq rfl rfl) ?_
  refine O_p (.b (!decide ((cErr key b) = 0))) (r_mv rfl) ?_
  refine O_nil ?_
  refine C_cond (x := (!decide ((cErr key b) = 0))) rfl (fun hc22 => ?_) (fun hc22 => ?_)
  ·
    simp only [decide_eq_true_eq, decide_eq_false_iff_not, Bool.not_eq_true', Bool.not_eq_false', Bool.and_eq_true, Bool.or_eq_true, Bool.or_eq_false_iff, Bool.not_not] at hc22
    have hce : ¬ cErr key b = 0 := hc22
    refine C_seq ?_
    refine C_region ?_
    refine O_p (.agg [(.i .i64 0), (.i .i64 0), (.i .u32 0), (.i .u32 0), (.i .u32 0), (.i .u32 0), (.i .u32 0), (.i .u16 0), (.i .u16 0), (.i .u32 0), (.i .u32 0)]) (r_build rfl) ?_
    refine O_p (.i .i64 (cErr key b)) (r_mv rfl) ?_
    refine O_store (vs := [(.i .i64 0), (.i .i64 0), (.i .u32 0), (.i .u32 0), (.i .u32 0), (.i .u32 0), (.i .u32 0), (.i .u16 0), (.i .u16 0), (.i .u32 0), (.i .u32 0)]) (c' := [(.i .i64 0), (.i .i64 0), (.i .u32 0), (.i .u32 0), (.i .u32 0), (.i .u32 0), (.i .u32 0), (.i .u16 0), (.i .u16 0), (.i .u32 0), (.i .u32 0)]) rfl (by rfl) hb20 rfl (List.cons_ne_nil _ _) (Nat.le_of_ble_eq_true rfl) rfl fun H23 hW24 => ?_
    have hb25 := (hW24.2.2 _ (by omega)).trans hW19.2.1
    have hO26 := hO21.wr hW24 (by omega) (by omega)
    have hx_hO26 := hO26.next
    have hnx_H23 : H23.next = H18.next := hW24.1
    have hlt_n1 : n1 < H23.next := by omega
    have hlt_n12 : n12 < H23.next := by omega
    refine O_p (.i .i64 (cErr key b)) (r_mv rfl) ?_
    refine O_nil ?_
    refine C_ret ?_
    refine bk_ret ?_
    refine nx_ret ?_
    have he := kErr_d (now := now) hce
    have hb0 : ¬ kErr key b now = 0 := by rw [he]; exact hce
    exact ⟨.inr rfl, _, resL_cons (r_cellA rfl hW24.2.1 rfl) (resL_one (r_tmp (v := (.i .i64 (cErr key b))) rfl)), by simp only [kSt_bad hb0, he]; rfl, hO26⟩
  ·
    simp only [decide_eq_true_eq, decide_eq_false_iff_not, Bool.not_eq_true', Bool.not_eq_false', Bool.and_eq_true, Bool.or_eq_true, Bool.or_eq_false_iff, Bool.not_not] at hc22
    have hce : cErr key b = 0 := hc22
    refine C_seq ?_
    refine C_region ?_
    refine O_p (.i .i64 now) (r_mv rfl) ?_
    refine O_p (.p (some (n12, 0))) (r_fadd' rfl rfl) ?_
    refine O_p (.i .i64 (cSt key b 0)) (r_ld rfl hW19.2.1 rfl) ?_
    refine O_p (.b (decide (now < (cSt key b 0)))) (r_lss rfl rfl) ?_
    refine O_p (.b (decide (now < (cSt key b 0)))) (r_mv rfl) ?_
    refine O_gx (e := (!(decide (now < (cSt key b 0))))) (v := (.i .i64 now)) (wf rfl) (fun he => (r_mv rfl)) ?_
    refine O_gx (e := (!(decide (now < (cSt key b 0))))) (v := (.p (some (n12, 0)))) (wf rfl) (fun he => (r_fadd' rfl rfl)) ?_
    refine O_gx (e := (!(decide (now < (cSt key b 0))))) (v := (.i .i64 (cSt key b 0))) (wf rfl) (fun he => (r_ld (cond_pos he) hW19.2.1 rfl)) ?_
    refine O_gx (e := (!(decide (now < (cSt key b 0))))) (v := (.p (some (n12, 1)))) (wf rfl) (fun he => (r_fadd' rfl rfl)) ?_
    refine O_gx (e := (!(decide (now < (cSt key b 0))))) (v := (.i .i64 (cSt key b 1))) (wf rfl) (fun he => (r_ld (cond_pos he) hW19.2.1 rfl)) ?_
    refine O_gx (e := (!(decide (now < (cSt key b 0))))) (v := (.i .i64 ((cSt key b 0) + (cSt key b 1)))) (wf rfl) (fun he => (by exact (r_addi (cond_pos he) (cond_pos he) (wrap_i64 (by omega) (by omega))))) ?_
    refine O_gx (e := (!(decide (now < (cSt key b 0))))) (v := (.b (decide (((cSt key b 0) + (cSt key b 1)) < now)))) (wf rfl) (fun he => (r_gtr (cond_pos he) (cond_pos he))) ?_
    refine O_p (.b ((decide (now < (cSt key b 0))) || (decide (((cSt key b 0) + (cSt key b 1)) < now)))) (r_pick_or rfl rfl rfl rfl) ?_
    refine O_p (.b ((decide (now < (cSt key b 0))) || (decide (((cSt key b 0) + (cSt key b 1)) < now)))) (r_mv rfl) ?_
    refine O_nil ?_
    refine C_cond (x := ((decide (now < (cSt key b 0))) || (decide (((cSt key b 0) + (cSt key b 1)) < now)))) rfl (fun hc27 => ?_) (fun hc27 => ?_)
    ·
      simp only [decide_eq_true_eq, decide_eq_false_iff_not, Bool.not_eq_true', Bool.not_eq_false', Bool.and_eq_true, Bool.or_eq_true, Bool.or_eq_false_iff, Bool.not_not] at hc27
      have hst := hc27
      refine C_seq ?_
      refine C_region ?_
      refine O_p (.agg [(.i .i64 0), (.i .i64 0), (.i .u32 0), (.i .u32 0), (.i .u32 0), (.i .u32 0), (.i .u32 0), (.i .u16 0), (.i .u16 0), (.i .u32 0), (.i .u32 0)]) (r_build rfl) ?_
      refine O_store (vs := [(.i .i64 0), (.i .i64 0), (.i .u32 0), (.i .u32 0), (.i .u32 0), (.i .u32 0), (.i .u32 0), (.i .u16 0), (.i .u16 0), (.i .u32 0), (.i .u32 0)]) (c' := [(.i .i64 0), (.i .i64 0), (.i .u32 0), (.i .u32 0), (.i .u32 0), (.i .u32 0), (.i .u32 0), (.i .u16 0), (.i .u16 0), (.i .u32 0), (.i .u32 0)]) rfl (by rfl) hb20 rfl (List.cons_ne_nil _ _) (Nat.le_of_ble_eq_true rfl) rfl fun H28 hW29 => ?_
      have hb30 := (hW29.2.2 _ (by omega)).trans hW19.2.1
      have hO31 := hO21.wr hW29 (by omega) (by omega)
      have hx_hO31 := hO31.next
      have hnx_H28 : H28.next = H18.next := hW29.1
      have hlt_n1 : n1 < H28.next := by omega
      have hlt_n12 : n12 < H28.next := by omega
      refine O_p (.i .i64 7) (r_mv rfl) ?_
      refine O_nil ?_
      refine C_ret ?_
      refine bk_ret ?_
      refine nx_ret ?_
      have he := kErr_7 (now := now) hce hst
      have hb0 : ¬ kErr key b now = 0 := by rw [he]; decide
      exact ⟨.inr rfl, _, resL_cons (r_cellA rfl hW29.2.1 rfl) (resL_one (r_tmp (v := (.i .i64 7)) rfl)), by simp only [kSt_bad hb0, he]; rfl, hO31⟩
    ·
      simp only [decide_eq_true_eq, decide_eq_false_iff_not, Bool.not_eq_true', Bool.not_eq_false', Bool.and_eq_true, Bool.or_eq_true, Bool.or_eq_false_iff, Bool.not_not] at hc27
      have hst := hc27
      refine C_skip ?_
      refine C_seq ?_
      refine C_region ?_
      refine O_p (.agg [(.i .i64 (cSt key b 0)), (.i .i64 (cSt key b 1)), (.i .u32 (cSt key b 2)), (.i .u32 (cSt key b 3)), (.i .u32 (cSt key b 4)), (.i .u32 (cSt key b 5)), (.i .u32 (cSt key b 6)), (.i .u16 (cSt key b 7)), (.i .u16 (cSt key b 8)), (.i .u32 (cSt key b 9)), (.i .u32 (cSt key b 10))]) (r_ldA rfl hW19.2.1 rfl) ?_
      refine O_store (vs := [(.i .i64 (cSt key b 0)), (.i .i64 (cSt key b 1)), (.i .u32 (cSt key b 2)), (.i .u32 (cSt key b 3)), (.i .u32 (cSt key b 4)), (.i .u32 (cSt key b 5)), (.i .u32 (cSt key b 6)), (.i .u16 (cSt key b 7)), (.i .u16 (cSt key b 8)), (.i .u32 (cSt key b 9)), (.i .u32 (cSt key b 10))]) (c' := [(.i .i64 (cSt key b 0)), (.i .i64 (cSt key b 1)), (.i .u32 (cSt key b 2)), (.i .u32 (cSt key b 3)), (.i .u32 (cSt key b 4)), (.i .u32 (cSt key b 5)), (.i .u32 (cSt key b 6)), (.i .u16 (cSt key b 7)), (.i .u16 (cSt key b 8)), (.i .u32 (cSt key b 9)), (.i .u32 (cSt key b 10))]) rfl (by rfl) hb20 rfl (List.cons_ne_nil _ _) (Nat.le_of_ble_eq_true rfl) rfl fun H32 hW33 => ?_
      have hb34 := (hW33.2.2 _ (by omega)).trans hW19.2.1
      have hO35 := hO21.wr hW33 (by omega) (by omega)
      have hx_hO35 := hO35.next
      have hnx_H32 : H32.next = H18.next := hW33.1
      have hlt_n1 : n1 < H32.next := by omega
      have hlt_n12 : n12 < H32.next := by omega
      refine O_p (.i .i64 0) (r_mv rfl) ?_
      refine O_nil ?_
      refine C_ret ?_
      have he := kErr_0 (now := now) hce (by simpa only [not_or] using hst)
      exact ⟨.inr rfl, _, resL_cons (r_cellA rfl hW33.2.1 rfl) (resL_one (r_tmp (v := (.i .i64 0)) rfl)), by simp only [kSt_ok he, he]; rfl, hO35⟩
end Go.Proofs.Yteapgimihapefaa.E
