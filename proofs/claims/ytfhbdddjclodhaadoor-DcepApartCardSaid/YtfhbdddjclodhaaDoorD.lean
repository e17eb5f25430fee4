/- Layer 18's Decode, walked. It bears no condition. -/
import Derived.Test.YtfhbdddjclodhaaDoorC
namespace Go.Proofs.YtfhbdddjclodhaaDoor.E
abbrev zDAA : List AV := [(.i .u8 0), (.i .u16 0), (.i .u32 0), (.s ⟨#[]⟩), (.s ⟨#[]⟩)]

open Go.Lib
set_option linter.unusedVariables false
set_option linter.unusedSimpArgs false
def dN (b : List UInt8) : Nat := (num ((b.drop 8).take 2)).toNat
def dM (b : List UInt8) : Nat := (num ((b.drop 10).take 2)).toNat
def dTxt (b : List UInt8) : List UInt8 := (b.drop 12).take (dN b)
def dPro (b : List UInt8) : List UInt8 := (b.drop (12 + dN b)).take (dM b)
def dErr (b : List UInt8) : Int :=
 if 0 < b.length ∧ ¬ (b.getD 0 0).toNat = 3 then 3 else if b.length < 12 then 2 else if 256 < dN b ∨ 256 < dM b then 10
 else if b.length < 12 + dN b + dM b then 2 else if 12 + dN b + dM b < b.length then 3 else if mayB ((b.getD 1 0).toNat : Int) (dTxt b) (dPro b) = false then 1 else 0
def dK (b : List UInt8) : Int := if dErr b = 0 then ((b.getD 1 0).toNat : Int) else 0
def dP (b : List UInt8) : Int := if dErr b = 0 then num ((b.drop 2).take 2) else 0
def dL (b : List UInt8) : Int := if dErr b = 0 then num ((b.drop 4).take 4) else 0
def dT (b : List UInt8) : List UInt8 := if dErr b = 0 then dTxt b else []
def dO (b : List UInt8) : List UInt8 := if dErr b = 0 then dPro b else []
def dCells (b : List UInt8) : List AV := [.i .u8 (dK b), .i .u16 (dP b), .i .u32 (dL b), .s (txt (dT b)), .s (txt (dO b))]
theorem dCells_bad {b : List UInt8} (h : ¬ dErr b = 0) : dCells b = [.i .u8 0, .i .u16 0, .i .u32 0, .s ⟨#[]⟩, .s ⟨#[]⟩] := by
 simp only [dCells, dK, dP, dL, dT, dO, if_neg h]; rfl
theorem dCells_ok {b : List UInt8} (h : dErr b = 0) : dCells b = [.i .u8 ((b.getD 1 0).toNat : Int), .i .u16 (num ((b.drop 2).take 2)), .i .u32 (num ((b.drop 4).take 4)), .s (txt (dTxt b)), .s (txt (dPro b))] := by
 simp only [dCells, dK, dP, dL, dT, dO, if_pos h]
theorem num_lt {l : List UInt8} {k : Nat} (h : k ≤ l.length) : 0 ≤ num (l.take k) ∧ num (l.take k) < 256 ^ k := num_bound l k h
theorem dN_num {b : List UInt8} (h : 12 ≤ b.length) : num ((b.drop 8).take 2) = (dN b : Nat) ∧ num ((b.drop 10).take 2) = (dM b : Nat) ∧ dN b < 65536 ∧ dM b < 65536 := by
 have h1 := num_lt (l := b.drop 8) (k := 2) (by rw [List.length_drop]; omega)
 have h2 := num_lt (l := b.drop 10) (k := 2) (by rw [List.length_drop]; omega)
 unfold dN dM
 omega
theorem num_one {b : List UInt8} (h : 2 ≤ b.length) : num ((b.drop 1).take 1) = ((b.getD 1 0).toNat : Int) := by
 have := num_take (l := b.drop 1) (n := 0) (by rw [List.length_drop]; omega)
 rw [this, List.take_zero, num_nil, List.getD_eq_getElem?_getD, List.getElem?_drop, List.getD_eq_getElem?_getD]
 simp
section
variable {b : List UInt8}
theorem dErr_3a (h : 0 < b.length ∧ ¬ (b.getD 0 0).toNat = 3) : dErr b = 3 := if_pos h
theorem dErr_2a (h : ¬ (0 < b.length ∧ ¬ (b.getD 0 0).toNat = 3)) (h2 : b.length < 12) : dErr b = 2 := by unfold dErr; rw [if_neg h, if_pos h2]
theorem dErr_10 (h : ¬ (0 < b.length ∧ ¬ (b.getD 0 0).toNat = 3)) (h2 : ¬ b.length < 12) (h3 : 256 < dN b ∨ 256 < dM b) : dErr b = 10 := by unfold dErr; rw [if_neg h, if_neg h2, if_pos h3]
theorem dErr_2b (h : ¬ (0 < b.length ∧ ¬ (b.getD 0 0).toNat = 3)) (h2 : ¬ b.length < 12) (h3 : ¬ (256 < dN b ∨ 256 < dM b)) (h4 : b.length < 12 + dN b + dM b) : dErr b = 2 := by unfold dErr; rw [if_neg h, if_neg h2, if_neg h3, if_pos h4]
theorem dErr_3b (h : ¬ (0 < b.length ∧ ¬ (b.getD 0 0).toNat = 3)) (h2 : ¬ b.length < 12) (h3 : ¬ (256 < dN b ∨ 256 < dM b)) (h4 : 12 + dN b + dM b < b.length) : dErr b = 3 := by unfold dErr; rw [if_neg h, if_neg h2, if_neg h3, if_neg (by omega), if_pos h4]
theorem dErr_1 (h : ¬ (0 < b.length ∧ ¬ (b.getD 0 0).toNat = 3)) (h2 : ¬ b.length < 12) (h3 : ¬ (256 < dN b ∨ 256 < dM b)) (h4 : b.length = 12 + dN b + dM b) (h5 : mayB ((b.getD 1 0).toNat : Int) (dTxt b) (dPro b) = false) : dErr b = 1 := by unfold dErr; rw [if_neg h, if_neg h2, if_neg h3, if_neg (by omega), if_neg (by omega), if_pos h5]
theorem dErr_0 (h : ¬ (0 < b.length ∧ ¬ (b.getD 0 0).toNat = 3)) (h2 : ¬ b.length < 12) (h3 : ¬ (256 < dN b ∨ 256 < dM b)) (h4 : b.length = 12 + dN b + dM b) (h5 : mayB ((b.getD 1 0).toNat : Int) (dTxt b) (dPro b) = true) : dErr b = 0 := by unfold dErr; rw [if_neg h, if_neg h2, if_neg h3, if_neg (by omega), if_neg (by omega), if_neg (by rw [h5]; decide)]
end
theorem dTxt_le (b : List UInt8) : (dTxt b).length ≤ b.length ∧ (dPro b).length ≤ b.length := by
 unfold dTxt dPro; simp only [List.length_take, List.length_drop]; omega
theorem nest8 (b : List UInt8) : ((((b.drop 1).drop 1).drop 2).drop 4).take 2 = (b.drop 8).take 2 := by simp only [List.drop_drop]
theorem nest10 (b : List UInt8) : (((((b.drop 1).drop 1).drop 2).drop 4).drop 2).take 2 = (b.drop 10).take 2 := by simp only [List.drop_drop]
theorem nest2 (b : List UInt8) : ((b.drop 1).drop 1).take 2 = (b.drop 2).take 2 := by simp only [List.drop_drop]
theorem nest4 (b : List UInt8) : (((b.drop 1).drop 1).drop 2).take 4 = (b.drop 4).take 4 := by simp only [List.drop_drop]
theorem nest12 (b : List UInt8) : ((((((b.drop 1).drop 1).drop 2).drop 4).drop 2).drop 2) = b.drop 12 := by simp only [List.drop_drop]
theorem take_short {tab : Nat → Option XFun} {sp : Nat → List AV → AH → Option (AV × AH)} (h66 : tab 66 = some x66) {H : AH} (hok : H.Ok) {lo n : Nat} {l : List UInt8} (hr : Rd H lo n l) {k : Nat} (hk : l.length < k) : Ev tab sp (.fn (.func 66) [] []) [.p (some (n, 0)), .i .i64 k] H (fun r H' => r = .tup [.sl none 0 0 0, .i .i64 2] ∧ H' = H) := by
 refine Ev_C (F := x66) h66 ?_
 obtain ⟨ra, rc, rg, rget, rhg, rlen, rcm, rbs, rnm⟩ := hr
 have hlt_n : n < H.next := hok _ _ rget
 refine sr ?_
 refine pv (.sl none 0 0 0) rfl ?_
 refine pv (.i .i64 0) rfl ?_
 refine O_nil ?_
 refine C_seq ?_
 refine C_block ?_
 refine sr ?_
 refine pv (.p (some (n, 0))) rfl ?_
 refine O_p (.b false) (r_nilq_s rfl) ?_
 refine pv (.b false) rfl ?_
 refine O_gs (v := (.i .i64 (((k : Nat)) : Int))) rfl (r_mv rfl) ?_
 refine O_gs (v := (.b (decide ((((k : Nat)) : Int) < 0)))) rfl (r_lss rfl rfl) ?_
 refine O_p (.b (decide ((((k : Nat)) : Int) < 0))) (r_pick_f rfl rfl) ?_
 refine pv (.b (decide ((((k : Nat)) : Int) < 0))) rfl ?_
 refine O_nil ?_
 refine C_cond (x := (decide ((((k : Nat)) : Int) < 0))) rfl (fun hc1 => ?_) (fun hc1 => ?_)
 ·
  simp only [decide_eq_true_eq, decide_eq_false_iff_not, Bool.not_eq_true', Bool.not_eq_false', Bool.and_eq_true, Bool.or_eq_true, Bool.or_eq_false_iff, Bool.not_not] at hc1
  exfalso; omega
 ·
  simp only [decide_eq_true_eq, decide_eq_false_iff_not, Bool.not_eq_true', Bool.not_eq_false', Bool.and_eq_true, Bool.or_eq_true, Bool.or_eq_false_iff, Bool.not_not] at hc1
  refine sr ?_
  refine pv (.i .i64 (((k : Nat)) : Int)) rfl ?_
  refine pv (.p (some (n, 0))) rfl ?_
  refine O_p (.p (some (n, 0))) (r_nilc rfl) ?_
  refine pf (.p (some (n, 0))) rfl rfl ?_
  refine O_p (.sl ra l.length rc rg) (r_ld rfl rget rfl) ?_
  refine O_p (.i .i64 (((l.length : Nat)) : Int)) (r_len rfl) ?_
  refine O_p (.b (decide ((((l.length : Nat)) : Int) < (((k : Nat)) : Int)))) (r_gtr rfl rfl) ?_
  refine pv (.b (decide ((((l.length : Nat)) : Int) < (((k : Nat)) : Int)))) rfl ?_
  refine O_nil ?_
  refine C_cond (x := (decide ((((l.length : Nat)) : Int) < (((k : Nat)) : Int)))) rfl (fun hc2 => ?_) (fun hc2 => ?_)
  ·
   simp only [decide_eq_true_eq, decide_eq_false_iff_not, Bool.not_eq_true', Bool.not_eq_false', Bool.and_eq_true, Bool.or_eq_true, Bool.or_eq_false_iff, Bool.not_not] at hc2
   refine sr ?_
   refine pv (.sl none 0 0 0) rfl ?_
   refine pv (.i .i64 2) rfl ?_
   refine O_nil ?_
   refine C_ret ?_
   refine bk_ret ?_
   refine nx_ret ?_
   exact ⟨.inr rfl, _, resL_cons (r_tmp (v := .sl none 0 0 0) rfl) (resL_one (r_tmp (v := .i .i64 2) rfl)), rfl, rfl⟩
  ·
   simp only [decide_eq_true_eq, decide_eq_false_iff_not, Bool.not_eq_true', Bool.not_eq_false', Bool.and_eq_true, Bool.or_eq_true, Bool.or_eq_false_iff, Bool.not_not] at hc2
   exfalso; omega
theorem bytes_short {tab : Nat → Option XFun} {sp : Nat → List AV → AH → Option (AV × AH)} (h66 : tab 66 = some x66) (h48 : tab 48 = some x48) (h45 : tab 45 = some x45) {H : AH} (hok : H.Ok) {lo n : Nat} {l : List UInt8} (hr : Rd H lo n l) {k : Nat} (hk : l.length < k) : Ev tab sp (.fn (.func 45) [] []) [.p (some (n, 0)), .i .i64 k] H (fun r H' => ∃ v, r = .tup [v, .i .i64 2] ∧ Kp H H') := by
 refine Ev_C (F := x45) h45 ?_
 have hO0 := Old.refl hok
 refine sr ?_
 refine pv (.sl none 0 0 0) rfl ?_
 refine pv (.i .i64 0) rfl ?_
 refine O_nil (sr ?_)
 refine pv (.p (some (n, 0))) rfl ?_
 refine pv (.i .i64 (((k : Nat)) : Int)) rfl ?_
 refine O_call (Ev.mono (take_short h66 hok hr (by omega)) fun v1 H2 hq3 => ?_)
 obtain ⟨rfl, hq3⟩ := hq3
 subst H2
 refine pv (.tup [(.sl none 0 0 0), (.i .i64 2)]) rfl ?_
 refine O_p (.sl none 0 0 0) (r_ext rfl rfl) ?_
 refine O_p (.i .i64 2) (r_ext rfl rfl) ?_
 refine pv (.sl none 0 0 0) rfl ?_
 refine pv (.i .i64 2) rfl ?_
 refine O_nil (sr ?_)
 refine pv (.sl none 0 0 0) rfl ?_
 refine O_call (Ev.mono (clone_ev h48 hO0.ok (.inl rfl) Bs.nil (by first | omega | (simp only [List.length_take, List.length_drop, List.length_append, List.length_cons, List.length_nil, beN_len] <;> omega)) (by first | omega | (simp only [List.length_take, List.length_drop, List.length_append, List.length_cons, List.length_nil, beN_len] <;> omega)) (by first | omega | (simp only [List.length_take, List.length_drop, List.length_append, List.length_cons, List.length_nil, beN_len] <;> omega))) fun v4 H5 hq6 => ?_)
 obtain ⟨hM7, hK8⟩ := hq6
 have hx_hK8 := hK8.next
 have hO9 := hO0.trans hK8
 have hx_hO9 := hO9.next
 have hM10 := hM7.down (N := H.next) (by omega)
 refine pv (.i .i64 2) rfl ?_
 refine pv v4 rfl ?_
 refine pv (.i .i64 2) rfl ?_
 refine O_nil ?_
 refine C_ret ?_
 exact ⟨.inr rfl, _, resL_cons (r_tmp (v := v4) rfl) (resL_one (r_tmp (v := .i .i64 2) rfl)), _, rfl, hO9⟩
set_option maxRecDepth 100000 in
set_option maxHeartbeats 1000000 in
theorem dec_s1 {H : AH} (hok : H.Ok) (htb : Tb H) {ba : Option (Nat × Nat)} {bn bc bg : Nat} (bhg : bg = 0 ∨ bg = 1) {b : List UInt8} (bhb : Bs H (.sl ba bn bc bg) b) (bhc : bn ≤ bc) (bhm : bc ≤ 9223372036854775807) (hfit : bn ≤ 1073741824) (hv : 12 ≤ b.length ∧ dN b ≤ 256 ∧ dM b ≤ 256 ∧ b.length < 12 + dN b) : Ev tabV spV (.fn (.func 16) [] []) [.sl ba bn bc bg] H (fun r H' => r = .tup [.agg (dCells b), .i .i64 (dErr b)] ∧ Kp H H') := by
 refine Ev_C (F := x16) rfl ?_
 have bhl := bhb.length
 subst bhl
 have hO0 := Old.refl hok
 have h41 : tabV 41 = some x41 := rfl
 have h48 : tabV 48 = some x48 := rfl
 have h42 : tabV 42 = some x42 := rfl
 have h43 : tabV 43 = some x43 := rfl
 have h44 : tabV 44 = some x44 := rfl
 have h66 : tabV 66 = some x66 := rfl
 have h45 : tabV 45 = some x45 := rfl
 have h46 : tabV 46 = some x46 := rfl
 have hdt := dTxt_le b
 have hb1 := (b.getD 1 0).toNat_lt
 refine sr ?_
 refine O_alloc fun n1 H2 hN3 => ?_
 have hF4 := hN3.fr (fun _ => False)
 have hO5 := hO0.new hN3
 have hx_hO5 := hO5.next
 have hnm_n1 : n1 = H.next := hN3.1
 have hnx_H2 : H2.next = H.next + 1 := hN3.2.1
 have hlt_n1 : n1 < H2.next := by omega
 refine pv (.i .i64 0) rfl ?_
 refine O_nil ?_
 refine C_seq ?_
 refine C_block ?_
 refine sr ?_
 refine pv (.sl ba b.length bc bg) rfl ?_
 refine O_p (.i .i64 (((b.length : Nat)) : Int)) (r_len rfl) ?_
 refine O_p (.b (decide (0 < (((b.length : Nat)) : Int)))) (r_gtr rfl rfl) ?_
 refine pv (.b (decide (0 < (((b.length : Nat)) : Int)))) rfl ?_
 refine O_gx (e := (decide (0 < (((b.length : Nat)) : Int)))) (v := (.sl ba b.length bc bg)) (wt rfl) (fun he => (r_mv rfl)) ?_
 refine O_gq (e := (decide (0 < (((b.length : Nat)) : Int)))) (wt rfl) (fun he => by exact Bs.ix (bhb.old hok hO5) (by exact (cond_pos he)) (i := 0) (by exact rfl) (by simp only [decide_eq_true_eq, Bool.and_eq_true] at he; omega)) fun v6 hv7 => ?_
 refine O_gx (e := (decide (0 < (((b.length : Nat)) : Int)))) (v := (.i .u8 ((b.getD 0 0).toNat : Int))) (wt rfl) (fun he => ((hv7 he).load (cond_pos he))) ?_
 refine O_gx (e := (decide (0 < (((b.length : Nat)) : Int)))) (v := (.b (!decide (((b.getD 0 0).toNat : Int) = 3)))) (wt rfl) (fun he => (r_neq (cond_pos he) rfl)) ?_
 refine O_p (.b ((decide (0 < (((b.length : Nat)) : Int))) && (!decide (((b.getD 0 0).toNat : Int) = 3)))) (r_pick_and rfl rfl rfl rfl) ?_
 refine pv (.b ((decide (0 < (((b.length : Nat)) : Int))) && (!decide (((b.getD 0 0).toNat : Int) = 3)))) rfl ?_
 refine O_nil ?_
 refine C_cond (x := ((decide (0 < (((b.length : Nat)) : Int))) && (!decide (((b.getD 0 0).toNat : Int) = 3)))) rfl (fun hc8 => ?_) (fun hc8 => ?_)
 ·
  have hr9 := hc8
  simp only [decide_eq_true_eq, decide_eq_false_iff_not, Bool.not_eq_true', Bool.not_eq_false', Bool.and_eq_true, Bool.or_eq_true, Bool.or_eq_false_iff, Bool.not_not, Bool.and_eq_false_iff] at hc8
  refine sr ?_
  refine O_p (.agg zDAA ) (r_build rfl) ?_
  refine O_store (vs := zDAA ) (c' := zDAA ) rfl (by rfl) hN3.2.2.1 rfl (List.cons_ne_nil _ _) (Nat.le_of_ble_eq_true rfl) rfl fun H10 hW11 => ?_
  have hO12 := hO5.wr hW11 (by omega) (by omega)
  have hx_hO12 := hO12.next
  have hnx_H10 : H10.next = H2.next := hW11.1
  have hlt_n1 : n1 < H10.next := by omega
  refine pv (.i .i64 3) rfl ?_
  refine O_nil ?_
  refine C_ret ?_
  refine bk_ret ?_
  refine nx_ret ?_
  have he := dErr_3a (b := b) (by omega)
  have hb0 : ¬ dErr b = 0 := by rw [he]; decide
  exact ⟨.inr rfl, _, resL_cons (r_cellA rfl hW11.2.1 rfl) (resL_one (r_tmp (v := .i .i64 3) rfl)), by rw [dCells_bad hb0, he]; rfl, hO12⟩
 ·
  have hr13 := hc8
  simp only [decide_eq_true_eq, decide_eq_false_iff_not, Bool.not_eq_true', Bool.not_eq_false', Bool.and_eq_true, Bool.or_eq_true, Bool.or_eq_false_iff, Bool.not_not, Bool.and_eq_false_iff] at hc8
  refine sr ?_
  refine pv (.sl ba b.length bc bg) rfl ?_
  refine O_p (.i .i64 (((b.length : Nat)) : Int)) (r_len rfl) ?_
  refine O_p (.b (decide ((((b.length : Nat)) : Int) < 12))) (r_lss rfl rfl) ?_
  refine pv (.b (decide ((((b.length : Nat)) : Int) < 12))) rfl ?_
  refine O_nil ?_
  refine C_cond (x := (decide ((((b.length : Nat)) : Int) < 12))) rfl (fun hc14 => ?_) (fun hc14 => ?_)
  ·
   have hr15 := hc14
   simp only [decide_eq_true_eq, decide_eq_false_iff_not, Bool.not_eq_true', Bool.not_eq_false', Bool.and_eq_true, Bool.or_eq_true, Bool.or_eq_false_iff, Bool.not_not, Bool.and_eq_false_iff] at hc14
   refine sr ?_
   refine O_p (.agg zDAA ) (r_build rfl) ?_
   refine O_store (vs := zDAA ) (c' := zDAA ) rfl (by rfl) hN3.2.2.1 rfl (List.cons_ne_nil _ _) (Nat.le_of_ble_eq_true rfl) rfl fun H16 hW17 => ?_
   have hO18 := hO5.wr hW17 (by omega) (by omega)
   have hx_hO18 := hO18.next
   have hnx_H16 : H16.next = H2.next := hW17.1
   have hlt_n1 : n1 < H16.next := by omega
   refine pv (.i .i64 2) rfl ?_
   refine O_nil ?_
   refine C_ret ?_
   refine bk_ret ?_
   refine nx_ret ?_
   have he := dErr_2a (b := b) (by omega) (by omega)
   have hb0 : ¬ dErr b = 0 := by rw [he]; decide
   exact ⟨.inr rfl, _, resL_cons (r_cellA rfl hW17.2.1 rfl) (resL_one (r_tmp (v := .i .i64 2) rfl)), by rw [dCells_bad hb0, he]; rfl, hO18⟩
  ·
   have hr19 := hc14
   simp only [decide_eq_true_eq, decide_eq_false_iff_not, Bool.not_eq_true', Bool.not_eq_false', Bool.and_eq_true, Bool.or_eq_true, Bool.or_eq_false_iff, Bool.not_not, Bool.and_eq_false_iff] at hc14
   obtain ⟨hN, hM, hN2, hM2⟩ := dN_num (b := b) (by omega)
   refine C_skip ?_
   refine sr ?_
   refine pv (.sl ba b.length bc bg) rfl ?_
   refine O_q (by exact Bs.lo bhb bhg rfl (i := 1) rfl (by first | omega | (simp only [List.length_take, List.length_drop, List.length_append, List.length_cons, List.length_nil, beN_len] <;> omega)) (by first | omega | (simp only [List.length_take, List.length_drop, List.length_append, List.length_cons, List.length_nil, beN_len] <;> omega))) fun v23 hv22 => ?_
   obtain ⟨a20, rfl, hb21⟩ := hv22
   refine O_call (Ev.mono (new_ev h48 h41 hO5.ok bhg (hb21.old hok hO5) (by first | omega | (simp only [List.length_take, List.length_drop, List.length_append, List.length_cons, List.length_nil, beN_len] <;> omega)) (by first | omega | (simp only [List.length_take, List.length_drop, List.length_append, List.length_cons, List.length_nil, beN_len] <;> omega)) (by first | omega | (simp only [List.length_take, List.length_drop, List.length_append, List.length_cons, List.length_nil, beN_len] <;> omega))) fun v24 H25 hq26 => ?_)
   obtain ⟨rn27, rfl, hge28, hRd29, hK30⟩ := hq26
   have hlt_rn27 := hRd29.lt hK30.ok
   have hb31 := (hK30.keep _ (by omega)).trans hN3.2.2.1
   have hx_hK30 := hK30.next
   have hlt_n1 : n1 < H25.next := by omega
   have hO32 := hO5.trans hK30
   have hx_hO32 := hO32.next
   refine pv (.p (some (rn27, 0))) rfl ?_
   refine O_nil (sr ?_)
   refine O_alloc fun n33 H34 hN35 => ?_
   have hF36 := hN35.fr (fun _ => False)
   have hb37 := (hF36.keep _ (by exact hlt_n1) (fun h => h)).trans hb31
   have hRd38 := hRd29.kp hO32.ok ((Old.refl hO32.ok).new hN35)
   have hO39 := hO32.new hN35
   have hx_hO39 := hO39.next
   have hnm_n33 : n33 = H25.next := hN35.1
   have hnx_H34 : H34.next = H25.next + 1 := hN35.2.1
   have hlt_n1 : n1 < H34.next := by omega
   have hlt_n33 : n33 < H34.next := by omega
   refine O_nil (sr ?_)
   refine pv (.p (some (rn27, 0))) rfl ?_
   refine O_call (Ev.mono (get8_ev h66 h42 hO39.ok hRd38 (by first | omega | (simp only [List.length_take, List.length_drop, List.length_append, List.length_cons, List.length_nil, beN_len] <;> omega))) fun v40 H41 hq42 => ?_)
   obtain ⟨hBut43, hRd44, hq42⟩ := hq42
   rw [num_one (by omega)] at hq42
   subst hq42
   have hb45 := (hBut43.keep _ (by omega) (by omega)).trans hb37
   have hb46 := (hBut43.keep _ (by omega) (by omega)).trans hN35.2.2.1
   have hx_hBut43 := hBut43.next
   have hlt_n1 : n1 < H41.next := by omega
   have hlt_n33 : n33 < H41.next := by omega
   have hO47 := hO39.but hBut43 (by omega)
   have hx_hO47 := hO47.next
   have hlt_rn27 := hRd44.lt hBut43.ok
   refine pv (.tup [(.i .u8 ((b.getD 1 0).toNat : Int)), (.i .i64 0)]) rfl ?_
   refine O_p (.i .u8 ((b.getD 1 0).toNat : Int)) (r_ext rfl rfl) ?_
   refine O_p (.i .i64 0) (r_ext rfl rfl) ?_
   refine pf (.p (some (n33, 0))) rfl rfl ?_
   refine O_store (vs := [(.i .u8 ((b.getD 1 0).toNat : Int))]) (c' := [(.i .u8 ((b.getD 1 0).toNat : Int)), (.i .u16 0), (.i .u32 0), (.s ⟨#[]⟩), (.s ⟨#[]⟩)]) rfl (by rfl) hb46 rfl (List.cons_ne_nil _ _) (Nat.le_of_ble_eq_true rfl) rfl fun H48 hW49 => ?_
   have hb50 := (hW49.2.2 _ (by omega)).trans hb45
   have hRd51 := hRd44.wr hO47.ok hW49 (by omega) (by omega) (by omega)
   have hO52 := hO47.wr hW49 (by omega) (by omega)
   have hx_hO52 := hO52.next
   have hnx_H48 : H48.next = H41.next := hW49.1
   have hlt_n1 : n1 < H48.next := by omega
   have hlt_n33 : n33 < H48.next := by omega
   refine O_nil (sr ?_)
   refine pv (.p (some (rn27, 0))) rfl ?_
   refine O_call (Ev.mono (get16_ev h66 h43 hO52.ok hRd51 (by first | omega | (simp only [List.length_take, List.length_drop, List.length_append, List.length_cons, List.length_nil, beN_len] <;> omega))) fun v53 H54 hq55 => ?_)
   obtain ⟨hBut56, hRd57, hq55⟩ := hq55
   rw [nest2] at hq55
   subst hq55
   have hb58 := (hBut56.keep _ (by omega) (by omega)).trans hb50
   have hb59 := (hBut56.keep _ (by omega) (by omega)).trans hW49.2.1
   have hx_hBut56 := hBut56.next
   have hlt_n1 : n1 < H54.next := by omega
   have hlt_n33 : n33 < H54.next := by omega
   have hO60 := hO52.but hBut56 (by omega)
   have hx_hO60 := hO60.next
   have hlt_rn27 := hRd57.lt hBut56.ok
   refine pv (.tup [(.i .u16 (num ((b.drop 2).take 2))), (.i .i64 0)]) rfl ?_
   refine O_p (.i .u16 (num ((b.drop 2).take 2))) (r_ext rfl rfl) ?_
   refine O_p (.i .i64 0) (r_ext rfl rfl) ?_
   refine pf (.p (some (n33, 1))) rfl rfl ?_
   refine O_store (vs := [(.i .u16 (num ((b.drop 2).take 2)))]) (c' := [(.i .u8 ((b.getD 1 0).toNat : Int)), (.i .u16 (num ((b.drop 2).take 2))), (.i .u32 0), (.s ⟨#[]⟩), (.s ⟨#[]⟩)]) rfl (by rfl) hb59 rfl (List.cons_ne_nil _ _) (Nat.le_of_ble_eq_true rfl) rfl fun H61 hW62 => ?_
   have hb63 := (hW62.2.2 _ (by omega)).trans hb58
   have hRd64 := hRd57.wr hO60.ok hW62 (by omega) (by omega) (by omega)
   have hO65 := hO60.wr hW62 (by omega) (by omega)
   have hx_hO65 := hO65.next
   have hnx_H61 : H61.next = H54.next := hW62.1
   have hlt_n1 : n1 < H61.next := by omega
   have hlt_n33 : n33 < H61.next := by omega
   refine O_nil (sr ?_)
   refine pv (.p (some (rn27, 0))) rfl ?_
   refine O_call (Ev.mono (get32_ev h66 h44 hO65.ok hRd64 (by first | omega | (simp only [List.length_take, List.length_drop, List.length_append, List.length_cons, List.length_nil, beN_len] <;> omega))) fun v66 H67 hq68 => ?_)
   obtain ⟨hBut69, hRd70, hq68⟩ := hq68
   rw [nest4] at hq68
   subst hq68
   have hb71 := (hBut69.keep _ (by omega) (by omega)).trans hb63
   have hb72 := (hBut69.keep _ (by omega) (by omega)).trans hW62.2.1
   have hx_hBut69 := hBut69.next
   have hlt_n1 : n1 < H67.next := by omega
   have hlt_n33 : n33 < H67.next := by omega
   have hO73 := hO65.but hBut69 (by omega)
   have hx_hO73 := hO73.next
   have hlt_rn27 := hRd70.lt hBut69.ok
   refine pv (.tup [(.i .u32 (num ((b.drop 4).take 4))), (.i .i64 0)]) rfl ?_
   refine O_p (.i .u32 (num ((b.drop 4).take 4))) (r_ext rfl rfl) ?_
   refine O_p (.i .i64 0) (r_ext rfl rfl) ?_
   refine pf (.p (some (n33, 2))) rfl rfl ?_
   refine O_store (vs := [(.i .u32 (num ((b.drop 4).take 4)))]) (c' := [(.i .u8 ((b.getD 1 0).toNat : Int)), (.i .u16 (num ((b.drop 2).take 2))), (.i .u32 (num ((b.drop 4).take 4))), (.s ⟨#[]⟩), (.s ⟨#[]⟩)]) rfl (by rfl) hb72 rfl (List.cons_ne_nil _ _) (Nat.le_of_ble_eq_true rfl) rfl fun H74 hW75 => ?_
   have hb76 := (hW75.2.2 _ (by omega)).trans hb71
   have hRd77 := hRd70.wr hO73.ok hW75 (by omega) (by omega) (by omega)
   have hO78 := hO73.wr hW75 (by omega) (by omega)
   have hx_hO78 := hO78.next
   have hnx_H74 : H74.next = H67.next := hW75.1
   have hlt_n1 : n1 < H74.next := by omega
   have hlt_n33 : n33 < H74.next := by omega
   refine O_nil (sr ?_)
   refine pv (.p (some (rn27, 0))) rfl ?_
   refine O_call (Ev.mono (get16_ev h66 h43 hO78.ok hRd77 (by first | omega | (simp only [List.length_take, List.length_drop, List.length_append, List.length_cons, List.length_nil, beN_len] <;> omega))) fun v79 H80 hq81 => ?_)
   obtain ⟨hBut82, hRd83, hq81⟩ := hq81
   rw [nest8, hN] at hq81
   subst hq81
   have hb84 := (hBut82.keep _ (by omega) (by omega)).trans hb76
   have hb85 := (hBut82.keep _ (by omega) (by omega)).trans hW75.2.1
   have hx_hBut82 := hBut82.next
   have hlt_n1 : n1 < H80.next := by omega
   have hlt_n33 : n33 < H80.next := by omega
   have hO86 := hO78.but hBut82 (by omega)
   have hx_hO86 := hO86.next
   have hlt_rn27 := hRd83.lt hBut82.ok
   refine pv (.tup [(.i .u16 ((dN b : Nat) : Int)), (.i .i64 0)]) rfl ?_
   refine O_p (.i .u16 ((dN b : Nat) : Int)) (r_ext rfl rfl) ?_
   refine O_p (.i .i64 0) (r_ext rfl rfl) ?_
   refine pv (.i .u16 ((dN b : Nat) : Int)) rfl ?_
   refine pv (.i .i64 0) rfl ?_
   refine O_nil (sr ?_)
   refine pv (.p (some (rn27, 0))) rfl ?_
   refine O_call (Ev.mono (get16_ev h66 h43 hO86.ok hRd83 (by first | omega | (simp only [List.length_take, List.length_drop, List.length_append, List.length_cons, List.length_nil, beN_len] <;> omega))) fun v87 H88 hq89 => ?_)
   obtain ⟨hBut90, hRd91, hq89⟩ := hq89
   rw [nest10, hM] at hq89
   subst hq89
   have hb92 := (hBut90.keep _ (by omega) (by omega)).trans hb84
   have hb93 := (hBut90.keep _ (by omega) (by omega)).trans hb85
   have hx_hBut90 := hBut90.next
   have hlt_n1 : n1 < H88.next := by omega
   have hlt_n33 : n33 < H88.next := by omega
   have hO94 := hO86.but hBut90 (by omega)
   have hx_hO94 := hO94.next
   have hlt_rn27 := hRd91.lt hBut90.ok
   refine pv (.tup [(.i .u16 ((dM b : Nat) : Int)), (.i .i64 0)]) rfl ?_
   refine O_p (.i .u16 ((dM b : Nat) : Int)) (r_ext rfl rfl) ?_
   refine O_p (.i .i64 0) (r_ext rfl rfl) ?_
   refine pv (.i .u16 ((dM b : Nat) : Int)) rfl ?_
   refine pv (.i .i64 0) rfl ?_
   refine O_nil ?_
   refine C_seq ?_
   refine sr ?_
   refine pv (.i .u16 ((dN b : Nat) : Int)) rfl ?_
   refine O_p (.b (decide (256 < ((dN b : Nat) : Int)))) (r_gtr rfl rfl) ?_
   refine pv (.b (decide (256 < ((dN b : Nat) : Int)))) rfl ?_
   refine O_gx (e := (!(decide (256 < ((dN b : Nat) : Int))))) (v := (.i .u16 ((dM b : Nat) : Int))) (wf rfl) (fun he => (r_mv rfl)) ?_
   refine O_gx (e := (!(decide (256 < ((dN b : Nat) : Int))))) (v := (.b (decide (256 < ((dM b : Nat) : Int))))) (wf rfl) (fun he => (r_gtr (cond_pos he) rfl)) ?_
   refine O_p (.b ((decide (256 < ((dN b : Nat) : Int))) || (decide (256 < ((dM b : Nat) : Int))))) (r_pick_or rfl rfl rfl rfl) ?_
   refine O_nil ?_
   refine C_cond (x := ((decide (256 < ((dN b : Nat) : Int))) || (decide (256 < ((dM b : Nat) : Int))))) rfl (fun hc95 => ?_) (fun hc95 => ?_)
   ·
    have hr96 := hc95
    simp only [decide_eq_true_eq, decide_eq_false_iff_not, Bool.not_eq_true', Bool.not_eq_false', Bool.and_eq_true, Bool.or_eq_true, Bool.or_eq_false_iff, Bool.not_not, Bool.and_eq_false_iff] at hc95
    refine sr ?_
    refine O_p (.agg zDAA ) (r_build rfl) ?_
    refine O_store (vs := zDAA ) (c' := zDAA ) rfl (by rfl) hb92 rfl (List.cons_ne_nil _ _) (Nat.le_of_ble_eq_true rfl) rfl fun H97 hW98 => ?_
    have hb99 := (hW98.2.2 _ (by omega)).trans hb93
    have hRd100 := hRd91.wr hO94.ok hW98 (by omega) (by omega) (by omega)
    have hO101 := hO94.wr hW98 (by omega) (by omega)
    have hx_hO101 := hO101.next
    have hnx_H97 : H97.next = H88.next := hW98.1
    have hlt_n1 : n1 < H97.next := by omega
    have hlt_n33 : n33 < H97.next := by omega
    refine pv (.i .i64 10) rfl ?_
    refine O_nil ?_
    refine C_ret ?_
    refine nx_ret ?_
    have he := dErr_10 (b := b) (by omega) (by omega) (by omega)
    have hb0 : ¬ dErr b = 0 := by rw [he]; decide
    exact ⟨.inr rfl, _, resL_cons (r_cellA rfl hW98.2.1 rfl) (resL_one (r_tmp (v := .i .i64 10) rfl)), by rw [dCells_bad hb0, he]; rfl, hO101⟩
   ·
    have hr102 := hc95
    simp only [decide_eq_true_eq, decide_eq_false_iff_not, Bool.not_eq_true', Bool.not_eq_false', Bool.and_eq_true, Bool.or_eq_true, Bool.or_eq_false_iff, Bool.not_not, Bool.and_eq_false_iff] at hc95
    refine C_skip ?_
    refine sr ?_
    refine pv (.p (some (rn27, 0))) rfl ?_
    refine pv (.i .u16 ((dN b : Nat) : Int)) rfl ?_
    refine O_p (.i .i64 ((((dN b) : Nat)) : Int)) (by exact (r_cint' rfl (wrap_i64 (by omega) (by omega)))) ?_
    refine O_call (Ev.mono (bytes_short h66 h48 h45 hO94.ok hRd91 (k := (dN b)) (by first | omega | (simp only [List.length_take, List.length_drop, List.length_append, List.length_cons, List.length_nil, beN_len] <;> omega))) fun v103 H104 hq105 => ?_)
    obtain ⟨w106, rfl, hK107⟩ := hq105
    have hb108 := (hK107.keep _ (by omega)).trans hb92
    have hb109 := (hK107.keep _ (by omega)).trans hb93
    have hx_hK107 := hK107.next
    have hlt_n1 : n1 < H104.next := by omega
    have hlt_n33 : n33 < H104.next := by omega
    have hRd110 := hRd91.kp hO94.ok ((Old.refl hO94.ok).trans hK107)
    have hO111 := hO94.trans hK107
    have hx_hO111 := hO111.next
    refine pv (.tup [w106, (.i .i64 2)]) rfl ?_
    refine O_p w106 (r_ext rfl rfl) ?_
    refine O_p (.i .i64 2) (r_ext rfl rfl) ?_
    refine pv w106 rfl ?_
    refine pv (.i .i64 2) rfl ?_
    refine O_nil ?_
    refine C_seq ?_
    refine sr ?_
    refine pv (.i .i64 2) rfl ?_
    refine O_p (.b true) (r_bin rfl rfl rfl) ?_
    refine O_nil ?_
    refine C_cond (x := true) rfl (fun _ => ?_) (fun h => by cases h)
    refine sr ?_
    refine O_p (.agg zDAA ) (r_build rfl) ?_
    refine pv (.i .i64 2) rfl ?_
    refine O_store (vs := zDAA ) (c' := zDAA ) rfl (by rfl) hb108 rfl (List.cons_ne_nil _ _) (Nat.le_of_ble_eq_true rfl) rfl fun H112 hW113 => ?_
    have hb114 := (hW113.2.2 _ (by omega)).trans hb109
    have hRd115 := hRd110.wr hO111.ok hW113 (by omega) (by omega) (by omega)
    have hO116 := hO111.wr hW113 (by omega) (by omega)
    have hx_hO116 := hO116.next
    have hnx_H112 : H112.next = H104.next := hW113.1
    have hlt_n1 : n1 < H112.next := by omega
    have hlt_n33 : n33 < H112.next := by omega
    refine pv (.i .i64 2) rfl ?_
    refine O_nil ?_
    refine C_ret ?_
    refine nx_ret ?_
    have he := dErr_2b (b := b) (by omega) (by omega) (by omega) (by omega)
    have hb0 : ¬ dErr b = 0 := by rw [he]; decide
    exact ⟨.inr rfl, _, resL_cons (r_cellA rfl hW113.2.1 rfl) (resL_one (r_tmp (v := .i .i64 2) rfl)), by rw [dCells_bad hb0, he]; rfl, hO116⟩
set_option maxRecDepth 100000 in
set_option maxHeartbeats 1000000 in
theorem dec_s2 {H : AH} (hok : H.Ok) (htb : Tb H) {ba : Option (Nat × Nat)} {bn bc bg : Nat} (bhg : bg = 0 ∨ bg = 1) {b : List UInt8} (bhb : Bs H (.sl ba bn bc bg) b) (bhc : bn ≤ bc) (bhm : bc ≤ 9223372036854775807) (hfit : bn ≤ 1073741824) (hv : 12 ≤ b.length ∧ dN b ≤ 256 ∧ dM b ≤ 256 ∧ 12 + dN b ≤ b.length ∧ b.length < 12 + dN b + dM b) : Ev tabV spV (.fn (.func 16) [] []) [.sl ba bn bc bg] H (fun r H' => r = .tup [.agg (dCells b), .i .i64 (dErr b)] ∧ Kp H H') := by
 refine Ev_C (F := x16) rfl ?_
 have bhl := bhb.length
 subst bhl
 have hO0 := Old.refl hok
 have h41 : tabV 41 = some x41 := rfl
 have h48 : tabV 48 = some x48 := rfl
 have h42 : tabV 42 = some x42 := rfl
 have h43 : tabV 43 = some x43 := rfl
 have h44 : tabV 44 = some x44 := rfl
 have h66 : tabV 66 = some x66 := rfl
 have h45 : tabV 45 = some x45 := rfl
 have h46 : tabV 46 = some x46 := rfl
 have hdt := dTxt_le b
 have hb1 := (b.getD 1 0).toNat_lt
 refine sr ?_
 refine O_alloc fun n1 H2 hN3 => ?_
 have hF4 := hN3.fr (fun _ => False)
 have hO5 := hO0.new hN3
 have hx_hO5 := hO5.next
 have hnm_n1 : n1 = H.next := hN3.1
 have hnx_H2 : H2.next = H.next + 1 := hN3.2.1
 have hlt_n1 : n1 < H2.next := by omega
 refine pv (.i .i64 0) rfl ?_
 refine O_nil ?_
 refine C_seq ?_
 refine C_block ?_
 refine sr ?_
 refine pv (.sl ba b.length bc bg) rfl ?_
 refine O_p (.i .i64 (((b.length : Nat)) : Int)) (r_len rfl) ?_
 refine O_p (.b (decide (0 < (((b.length : Nat)) : Int)))) (r_gtr rfl rfl) ?_
 refine pv (.b (decide (0 < (((b.length : Nat)) : Int)))) rfl ?_
 refine O_gx (e := (decide (0 < (((b.length : Nat)) : Int)))) (v := (.sl ba b.length bc bg)) (wt rfl) (fun he => (r_mv rfl)) ?_
 refine O_gq (e := (decide (0 < (((b.length : Nat)) : Int)))) (wt rfl) (fun he => by exact Bs.ix (bhb.old hok hO5) (by exact (cond_pos he)) (i := 0) (by exact rfl) (by simp only [decide_eq_true_eq, Bool.and_eq_true] at he; omega)) fun v6 hv7 => ?_
 refine O_gx (e := (decide (0 < (((b.length : Nat)) : Int)))) (v := (.i .u8 ((b.getD 0 0).toNat : Int))) (wt rfl) (fun he => ((hv7 he).load (cond_pos he))) ?_
 refine O_gx (e := (decide (0 < (((b.length : Nat)) : Int)))) (v := (.b (!decide (((b.getD 0 0).toNat : Int) = 3)))) (wt rfl) (fun he => (r_neq (cond_pos he) rfl)) ?_
 refine O_p (.b ((decide (0 < (((b.length : Nat)) : Int))) && (!decide (((b.getD 0 0).toNat : Int) = 3)))) (r_pick_and rfl rfl rfl rfl) ?_
 refine pv (.b ((decide (0 < (((b.length : Nat)) : Int))) && (!decide (((b.getD 0 0).toNat : Int) = 3)))) rfl ?_
 refine O_nil ?_
 refine C_cond (x := ((decide (0 < (((b.length : Nat)) : Int))) && (!decide (((b.getD 0 0).toNat : Int) = 3)))) rfl (fun hc8 => ?_) (fun hc8 => ?_)
 ·
  have hr9 := hc8
  simp only [decide_eq_true_eq, decide_eq_false_iff_not, Bool.not_eq_true', Bool.not_eq_false', Bool.and_eq_true, Bool.or_eq_true, Bool.or_eq_false_iff, Bool.not_not, Bool.and_eq_false_iff] at hc8
  refine sr ?_
  refine O_p (.agg zDAA ) (r_build rfl) ?_
  refine O_store (vs := zDAA ) (c' := zDAA ) rfl (by rfl) hN3.2.2.1 rfl (List.cons_ne_nil _ _) (Nat.le_of_ble_eq_true rfl) rfl fun H10 hW11 => ?_
  have hO12 := hO5.wr hW11 (by omega) (by omega)
  have hx_hO12 := hO12.next
  have hnx_H10 : H10.next = H2.next := hW11.1
  have hlt_n1 : n1 < H10.next := by omega
  refine pv (.i .i64 3) rfl ?_
  refine O_nil ?_
  refine C_ret ?_
  refine bk_ret ?_
  refine nx_ret ?_
  have he := dErr_3a (b := b) (by omega)
  have hb0 : ¬ dErr b = 0 := by rw [he]; decide
  exact ⟨.inr rfl, _, resL_cons (r_cellA rfl hW11.2.1 rfl) (resL_one (r_tmp (v := .i .i64 3) rfl)), by rw [dCells_bad hb0, he]; rfl, hO12⟩
 ·
  have hr13 := hc8
  simp only [decide_eq_true_eq, decide_eq_false_iff_not, Bool.not_eq_true', Bool.not_eq_false', Bool.and_eq_true, Bool.or_eq_true, Bool.or_eq_false_iff, Bool.not_not, Bool.and_eq_false_iff] at hc8
  refine sr ?_
  refine pv (.sl ba b.length bc bg) rfl ?_
  refine O_p (.i .i64 (((b.length : Nat)) : Int)) (r_len rfl) ?_
  refine O_p (.b (decide ((((b.length : Nat)) : Int) < 12))) (r_lss rfl rfl) ?_
  refine pv (.b (decide ((((b.length : Nat)) : Int) < 12))) rfl ?_
  refine O_nil ?_
  refine C_cond (x := (decide ((((b.length : Nat)) : Int) < 12))) rfl (fun hc14 => ?_) (fun hc14 => ?_)
  ·
   have hr15 := hc14
   simp only [decide_eq_true_eq, decide_eq_false_iff_not, Bool.not_eq_true', Bool.not_eq_false', Bool.and_eq_true, Bool.or_eq_true, Bool.or_eq_false_iff, Bool.not_not, Bool.and_eq_false_iff] at hc14
   refine sr ?_
   refine O_p (.agg zDAA ) (r_build rfl) ?_
   refine O_store (vs := zDAA ) (c' := zDAA ) rfl (by rfl) hN3.2.2.1 rfl (List.cons_ne_nil _ _) (Nat.le_of_ble_eq_true rfl) rfl fun H16 hW17 => ?_
   have hO18 := hO5.wr hW17 (by omega) (by omega)
   have hx_hO18 := hO18.next
   have hnx_H16 : H16.next = H2.next := hW17.1
   have hlt_n1 : n1 < H16.next := by omega
   refine pv (.i .i64 2) rfl ?_
   refine O_nil ?_
   refine C_ret ?_
   refine bk_ret ?_
   refine nx_ret ?_
   have he := dErr_2a (b := b) (by omega) (by omega)
   have hb0 : ¬ dErr b = 0 := by rw [he]; decide
   exact ⟨.inr rfl, _, resL_cons (r_cellA rfl hW17.2.1 rfl) (resL_one (r_tmp (v := .i .i64 2) rfl)), by rw [dCells_bad hb0, he]; rfl, hO18⟩
  ·
   have hr19 := hc14
   simp only [decide_eq_true_eq, decide_eq_false_iff_not, Bool.not_eq_true', Bool.not_eq_false', Bool.and_eq_true, Bool.or_eq_true, Bool.or_eq_false_iff, Bool.not_not, Bool.and_eq_false_iff] at hc14
   obtain ⟨hN, hM, hN2, hM2⟩ := dN_num (b := b) (by omega)
   refine C_skip ?_
   refine sr ?_
   refine pv (.sl ba b.length bc bg) rfl ?_
   refine O_q (by exact Bs.lo bhb bhg rfl (i := 1) rfl (by first | omega | (simp only [List.length_take, List.length_drop, List.length_append, List.length_cons, List.length_nil, beN_len] <;> omega)) (by first | omega | (simp only [List.length_take, List.length_drop, List.length_append, List.length_cons, List.length_nil, beN_len] <;> omega))) fun v23 hv22 => ?_
   obtain ⟨a20, rfl, hb21⟩ := hv22
   refine O_call (Ev.mono (new_ev h48 h41 hO5.ok bhg (hb21.old hok hO5) (by first | omega | (simp only [List.length_take, List.length_drop, List.length_append, List.length_cons, List.length_nil, beN_len] <;> omega)) (by first | omega | (simp only [List.length_take, List.length_drop, List.length_append, List.length_cons, List.length_nil, beN_len] <;> omega)) (by first | omega | (simp only [List.length_take, List.length_drop, List.length_append, List.length_cons, List.length_nil, beN_len] <;> omega))) fun v24 H25 hq26 => ?_)
   obtain ⟨rn27, rfl, hge28, hRd29, hK30⟩ := hq26
   have hlt_rn27 := hRd29.lt hK30.ok
   have hb31 := (hK30.keep _ (by omega)).trans hN3.2.2.1
   have hx_hK30 := hK30.next
   have hlt_n1 : n1 < H25.next := by omega
   have hO32 := hO5.trans hK30
   have hx_hO32 := hO32.next
   refine pv (.p (some (rn27, 0))) rfl ?_
   refine O_nil (sr ?_)
   refine O_alloc fun n33 H34 hN35 => ?_
   have hF36 := hN35.fr (fun _ => False)
   have hb37 := (hF36.keep _ (by exact hlt_n1) (fun h => h)).trans hb31
   have hRd38 := hRd29.kp hO32.ok ((Old.refl hO32.ok).new hN35)
   have hO39 := hO32.new hN35
   have hx_hO39 := hO39.next
   have hnm_n33 : n33 = H25.next := hN35.1
   have hnx_H34 : H34.next = H25.next + 1 := hN35.2.1
   have hlt_n1 : n1 < H34.next := by omega
   have hlt_n33 : n33 < H34.next := by omega
   refine O_nil (sr ?_)
   refine pv (.p (some (rn27, 0))) rfl ?_
   refine O_call (Ev.mono (get8_ev h66 h42 hO39.ok hRd38 (by first | omega | (simp only [List.length_take, List.length_drop, List.length_append, List.length_cons, List.length_nil, beN_len] <;> omega))) fun v40 H41 hq42 => ?_)
   obtain ⟨hBut43, hRd44, hq42⟩ := hq42
   rw [num_one (by omega)] at hq42
   subst hq42
   have hb45 := (hBut43.keep _ (by omega) (by omega)).trans hb37
   have hb46 := (hBut43.keep _ (by omega) (by omega)).trans hN35.2.2.1
   have hx_hBut43 := hBut43.next
   have hlt_n1 : n1 < H41.next := by omega
   have hlt_n33 : n33 < H41.next := by omega
   have hO47 := hO39.but hBut43 (by omega)
   have hx_hO47 := hO47.next
   have hlt_rn27 := hRd44.lt hBut43.ok
   refine pv (.tup [(.i .u8 ((b.getD 1 0).toNat : Int)), (.i .i64 0)]) rfl ?_
   refine O_p (.i .u8 ((b.getD 1 0).toNat : Int)) (r_ext rfl rfl) ?_
   refine O_p (.i .i64 0) (r_ext rfl rfl) ?_
   refine pf (.p (some (n33, 0))) rfl rfl ?_
   refine O_store (vs := [(.i .u8 ((b.getD 1 0).toNat : Int))]) (c' := [(.i .u8 ((b.getD 1 0).toNat : Int)), (.i .u16 0), (.i .u32 0), (.s ⟨#[]⟩), (.s ⟨#[]⟩)]) rfl (by rfl) hb46 rfl (List.cons_ne_nil _ _) (Nat.le_of_ble_eq_true rfl) rfl fun H48 hW49 => ?_
   have hb50 := (hW49.2.2 _ (by omega)).trans hb45
   have hRd51 := hRd44.wr hO47.ok hW49 (by omega) (by omega) (by omega)
   have hO52 := hO47.wr hW49 (by omega) (by omega)
   have hx_hO52 := hO52.next
   have hnx_H48 : H48.next = H41.next := hW49.1
   have hlt_n1 : n1 < H48.next := by omega
   have hlt_n33 : n33 < H48.next := by omega
   refine O_nil (sr ?_)
   refine pv (.p (some (rn27, 0))) rfl ?_
   refine O_call (Ev.mono (get16_ev h66 h43 hO52.ok hRd51 (by first | omega | (simp only [List.length_take, List.length_drop, List.length_append, List.length_cons, List.length_nil, beN_len] <;> omega))) fun v53 H54 hq55 => ?_)
   obtain ⟨hBut56, hRd57, hq55⟩ := hq55
   rw [nest2] at hq55
   subst hq55
   have hb58 := (hBut56.keep _ (by omega) (by omega)).trans hb50
   have hb59 := (hBut56.keep _ (by omega) (by omega)).trans hW49.2.1
   have hx_hBut56 := hBut56.next
   have hlt_n1 : n1 < H54.next := by omega
   have hlt_n33 : n33 < H54.next := by omega
   have hO60 := hO52.but hBut56 (by omega)
   have hx_hO60 := hO60.next
   have hlt_rn27 := hRd57.lt hBut56.ok
   refine pv (.tup [(.i .u16 (num ((b.drop 2).take 2))), (.i .i64 0)]) rfl ?_
   refine O_p (.i .u16 (num ((b.drop 2).take 2))) (r_ext rfl rfl) ?_
   refine O_p (.i .i64 0) (r_ext rfl rfl) ?_
   refine pf (.p (some (n33, 1))) rfl rfl ?_
   refine O_store (vs := [(.i .u16 (num ((b.drop 2).take 2)))]) (c' := [(.i .u8 ((b.getD 1 0).toNat : Int)), (.i .u16 (num ((b.drop 2).take 2))), (.i .u32 0), (.s ⟨#[]⟩), (.s ⟨#[]⟩)]) rfl (by rfl) hb59 rfl (List.cons_ne_nil _ _) (Nat.le_of_ble_eq_true rfl) rfl fun H61 hW62 => ?_
   have hb63 := (hW62.2.2 _ (by omega)).trans hb58
   have hRd64 := hRd57.wr hO60.ok hW62 (by omega) (by omega) (by omega)
   have hO65 := hO60.wr hW62 (by omega) (by omega)
   have hx_hO65 := hO65.next
   have hnx_H61 : H61.next = H54.next := hW62.1
   have hlt_n1 : n1 < H61.next := by omega
   have hlt_n33 : n33 < H61.next := by omega
   refine O_nil (sr ?_)
   refine pv (.p (some (rn27, 0))) rfl ?_
   refine O_call (Ev.mono (get32_ev h66 h44 hO65.ok hRd64 (by first | omega | (simp only [List.length_take, List.length_drop, List.length_append, List.length_cons, List.length_nil, beN_len] <;> omega))) fun v66 H67 hq68 => ?_)
   obtain ⟨hBut69, hRd70, hq68⟩ := hq68
   rw [nest4] at hq68
   subst hq68
   have hb71 := (hBut69.keep _ (by omega) (by omega)).trans hb63
   have hb72 := (hBut69.keep _ (by omega) (by omega)).trans hW62.2.1
   have hx_hBut69 := hBut69.next
   have hlt_n1 : n1 < H67.next := by omega
   have hlt_n33 : n33 < H67.next := by omega
   have hO73 := hO65.but hBut69 (by omega)
   have hx_hO73 := hO73.next
   have hlt_rn27 := hRd70.lt hBut69.ok
   refine pv (.tup [(.i .u32 (num ((b.drop 4).take 4))), (.i .i64 0)]) rfl ?_
   refine O_p (.i .u32 (num ((b.drop 4).take 4))) (r_ext rfl rfl) ?_
   refine O_p (.i .i64 0) (r_ext rfl rfl) ?_
   refine pf (.p (some (n33, 2))) rfl rfl ?_
   refine O_store (vs := [(.i .u32 (num ((b.drop 4).take 4)))]) (c' := [(.i .u8 ((b.getD 1 0).toNat : Int)), (.i .u16 (num ((b.drop 2).take 2))), (.i .u32 (num ((b.drop 4).take 4))), (.s ⟨#[]⟩), (.s ⟨#[]⟩)]) rfl (by rfl) hb72 rfl (List.cons_ne_nil _ _) (Nat.le_of_ble_eq_true rfl) rfl fun H74 hW75 => ?_
   have hb76 := (hW75.2.2 _ (by omega)).trans hb71
   have hRd77 := hRd70.wr hO73.ok hW75 (by omega) (by omega) (by omega)
   have hO78 := hO73.wr hW75 (by omega) (by omega)
   have hx_hO78 := hO78.next
   have hnx_H74 : H74.next = H67.next := hW75.1
   have hlt_n1 : n1 < H74.next := by omega
   have hlt_n33 : n33 < H74.next := by omega
   refine O_nil (sr ?_)
   refine pv (.p (some (rn27, 0))) rfl ?_
   refine O_call (Ev.mono (get16_ev h66 h43 hO78.ok hRd77 (by first | omega | (simp only [List.length_take, List.length_drop, List.length_append, List.length_cons, List.length_nil, beN_len] <;> omega))) fun v79 H80 hq81 => ?_)
   obtain ⟨hBut82, hRd83, hq81⟩ := hq81
   rw [nest8, hN] at hq81
   subst hq81
   have hb84 := (hBut82.keep _ (by omega) (by omega)).trans hb76
   have hb85 := (hBut82.keep _ (by omega) (by omega)).trans hW75.2.1
   have hx_hBut82 := hBut82.next
   have hlt_n1 : n1 < H80.next := by omega
   have hlt_n33 : n33 < H80.next := by omega
   have hO86 := hO78.but hBut82 (by omega)
   have hx_hO86 := hO86.next
   have hlt_rn27 := hRd83.lt hBut82.ok
   refine pv (.tup [(.i .u16 ((dN b : Nat) : Int)), (.i .i64 0)]) rfl ?_
   refine O_p (.i .u16 ((dN b : Nat) : Int)) (r_ext rfl rfl) ?_
   refine O_p (.i .i64 0) (r_ext rfl rfl) ?_
   refine pv (.i .u16 ((dN b : Nat) : Int)) rfl ?_
   refine pv (.i .i64 0) rfl ?_
   refine O_nil (sr ?_)
   refine pv (.p (some (rn27, 0))) rfl ?_
   refine O_call (Ev.mono (get16_ev h66 h43 hO86.ok hRd83 (by first | omega | (simp only [List.length_take, List.length_drop, List.length_append, List.length_cons, List.length_nil, beN_len] <;> omega))) fun v87 H88 hq89 => ?_)
   obtain ⟨hBut90, hRd91, hq89⟩ := hq89
   rw [nest10, hM] at hq89
   subst hq89
   have hb92 := (hBut90.keep _ (by omega) (by omega)).trans hb84
   have hb93 := (hBut90.keep _ (by omega) (by omega)).trans hb85
   have hx_hBut90 := hBut90.next
   have hlt_n1 : n1 < H88.next := by omega
   have hlt_n33 : n33 < H88.next := by omega
   have hO94 := hO86.but hBut90 (by omega)
   have hx_hO94 := hO94.next
   have hlt_rn27 := hRd91.lt hBut90.ok
   refine pv (.tup [(.i .u16 ((dM b : Nat) : Int)), (.i .i64 0)]) rfl ?_
   refine O_p (.i .u16 ((dM b : Nat) : Int)) (r_ext rfl rfl) ?_
   refine O_p (.i .i64 0) (r_ext rfl rfl) ?_
   refine pv (.i .u16 ((dM b : Nat) : Int)) rfl ?_
   refine pv (.i .i64 0) rfl ?_
   refine O_nil ?_
   refine C_seq ?_
   refine sr ?_
   refine pv (.i .u16 ((dN b : Nat) : Int)) rfl ?_
   refine O_p (.b (decide (256 < ((dN b : Nat) : Int)))) (r_gtr rfl rfl) ?_
   refine pv (.b (decide (256 < ((dN b : Nat) : Int)))) rfl ?_
   refine O_gx (e := (!(decide (256 < ((dN b : Nat) : Int))))) (v := (.i .u16 ((dM b : Nat) : Int))) (wf rfl) (fun he => (r_mv rfl)) ?_
   refine O_gx (e := (!(decide (256 < ((dN b : Nat) : Int))))) (v := (.b (decide (256 < ((dM b : Nat) : Int))))) (wf rfl) (fun he => (r_gtr (cond_pos he) rfl)) ?_
   refine O_p (.b ((decide (256 < ((dN b : Nat) : Int))) || (decide (256 < ((dM b : Nat) : Int))))) (r_pick_or rfl rfl rfl rfl) ?_
   refine O_nil ?_
   refine C_cond (x := ((decide (256 < ((dN b : Nat) : Int))) || (decide (256 < ((dM b : Nat) : Int))))) rfl (fun hc95 => ?_) (fun hc95 => ?_)
   ·
    have hr96 := hc95
    simp only [decide_eq_true_eq, decide_eq_false_iff_not, Bool.not_eq_true', Bool.not_eq_false', Bool.and_eq_true, Bool.or_eq_true, Bool.or_eq_false_iff, Bool.not_not, Bool.and_eq_false_iff] at hc95
    refine sr ?_
    refine O_p (.agg zDAA ) (r_build rfl) ?_
    refine O_store (vs := zDAA ) (c' := zDAA ) rfl (by rfl) hb92 rfl (List.cons_ne_nil _ _) (Nat.le_of_ble_eq_true rfl) rfl fun H97 hW98 => ?_
    have hb99 := (hW98.2.2 _ (by omega)).trans hb93
    have hRd100 := hRd91.wr hO94.ok hW98 (by omega) (by omega) (by omega)
    have hO101 := hO94.wr hW98 (by omega) (by omega)
    have hx_hO101 := hO101.next
    have hnx_H97 : H97.next = H88.next := hW98.1
    have hlt_n1 : n1 < H97.next := by omega
    have hlt_n33 : n33 < H97.next := by omega
    refine pv (.i .i64 10) rfl ?_
    refine O_nil ?_
    refine C_ret ?_
    refine nx_ret ?_
    have he := dErr_10 (b := b) (by omega) (by omega) (by omega)
    have hb0 : ¬ dErr b = 0 := by rw [he]; decide
    exact ⟨.inr rfl, _, resL_cons (r_cellA rfl hW98.2.1 rfl) (resL_one (r_tmp (v := .i .i64 10) rfl)), by rw [dCells_bad hb0, he]; rfl, hO101⟩
   ·
    have hr102 := hc95
    simp only [decide_eq_true_eq, decide_eq_false_iff_not, Bool.not_eq_true', Bool.not_eq_false', Bool.and_eq_true, Bool.or_eq_true, Bool.or_eq_false_iff, Bool.not_not, Bool.and_eq_false_iff] at hc95
    refine C_skip ?_
    refine sr ?_
    refine pv (.p (some (rn27, 0))) rfl ?_
    refine pv (.i .u16 ((dN b : Nat) : Int)) rfl ?_
    refine O_p (.i .i64 ((((dN b) : Nat)) : Int)) (by exact (r_cint' rfl (wrap_i64 (by omega) (by omega)))) ?_
    refine O_call (Ev.mono (bytes_ev h66 h48 h45 hO94.ok hRd91 (k := (dN b)) (by first | omega | (simp only [List.length_take, List.length_drop, List.length_append, List.length_cons, List.length_nil, beN_len] <;> omega)) (by first | omega | (simp only [List.length_take, List.length_drop, List.length_append, List.length_cons, List.length_nil, beN_len] <;> omega))) fun v103 H104 hq105 => ?_)
    obtain ⟨hBut106, hRd107, o109, rfl, hM108⟩ := hq105
    rw [nest12] at hM108 hRd107
    have hb110 := (hBut106.keep _ (by omega) (by omega)).trans hb92
    have hb111 := (hBut106.keep _ (by omega) (by omega)).trans hb93
    have hx_hBut106 := hBut106.next
    have hlt_n1 : n1 < H104.next := by omega
    have hlt_n33 : n33 < H104.next := by omega
    have hO112 := hO94.but hBut106 (by omega)
    have hx_hO112 := hO112.next
    have hlt_rn27 := hRd107.lt hBut106.ok
    have hM113 : Mine H.next 1 H104 o109 (bcells (dTxt b)) := hM108.down (N := H.next) (by omega)
    have hd114 : ¬ o109.nameOf n1 := fun hq => by have := hM108.new _ hq; omega
    have hd115 : ¬ o109.nameOf n33 := fun hq => by have := hM108.new _ hq; omega
    have hd116 : ¬ o109.nameOf rn27 := fun hq => by have := hM108.new _ hq; omega
    refine pv (.tup [o109, (.i .i64 0)]) rfl ?_
    refine O_p o109 (r_ext rfl rfl) ?_
    refine O_p (.i .i64 0) (r_ext rfl rfl) ?_
    refine pv o109 rfl ?_
    refine pv (.i .i64 0) rfl ?_
    refine O_nil ?_
    refine C_seq ?_
    refine sr ?_
    refine pv (.i .i64 0) rfl ?_
    refine O_p (.b false) (r_bin rfl rfl rfl) ?_
    refine O_nil ?_
    refine C_cond (x := false) rfl (fun h => by cases h) (fun _ => ?_)
    refine C_skip ?_
    refine sr ?_
    refine pv (.p (some (rn27, 0))) rfl ?_
    refine pv (.i .u16 ((dM b : Nat) : Int)) rfl ?_
    refine O_p (.i .i64 ((((dM b) : Nat)) : Int)) (by exact (r_cint' rfl (wrap_i64 (by omega) (by omega)))) ?_
    refine O_call (Ev.mono (bytes_short h66 h48 h45 hO112.ok hRd107 (k := (dM b)) (by first | omega | (simp only [List.length_take, List.length_drop, List.length_append, List.length_cons, List.length_nil, beN_len] <;> omega))) fun v117 H118 hq119 => ?_)
    obtain ⟨w120, rfl, hK121⟩ := hq119
    have hb122 := (hK121.keep _ (by omega)).trans hb110
    have hb123 := (hK121.keep _ (by omega)).trans hb111
    have hx_hK121 := hK121.next
    have hlt_n1 : n1 < H118.next := by omega
    have hlt_n33 : n33 < H118.next := by omega
    have hM124 := hM113.kp hK121
    have hRd125 := hRd107.kp hO112.ok ((Old.refl hO112.ok).trans hK121)
    have hO126 := hO112.trans hK121
    have hx_hO126 := hO126.next
    refine pv (.tup [w120, (.i .i64 2)]) rfl ?_
    refine O_p w120 (r_ext rfl rfl) ?_
    refine O_p (.i .i64 2) (r_ext rfl rfl) ?_
    refine pv w120 rfl ?_
    refine pv (.i .i64 2) rfl ?_
    refine O_nil ?_
    refine C_seq ?_
    refine sr ?_
    refine pv (.i .i64 2) rfl ?_
    refine O_p (.b true) (r_bin rfl rfl rfl) ?_
    refine O_nil ?_
    refine C_cond (x := true) rfl (fun _ => ?_) (fun h => by cases h)
    refine sr ?_
    refine O_p (.agg zDAA ) (r_build rfl) ?_
    refine pv (.i .i64 2) rfl ?_
    refine O_store (vs := zDAA ) (c' := zDAA ) rfl (by rfl) hb122 rfl (List.cons_ne_nil _ _) (Nat.le_of_ble_eq_true rfl) rfl fun H127 hW128 => ?_
    have hb129 := (hW128.2.2 _ (by omega)).trans hb123
    have hM130 := hM124.wr hW128 hd114
    have hRd131 := hRd125.wr hO126.ok hW128 (by omega) (by omega) (by omega)
    have hO132 := hO126.wr hW128 (by omega) (by omega)
    have hx_hO132 := hO132.next
    have hnx_H127 : H127.next = H118.next := hW128.1
    have hlt_n1 : n1 < H127.next := by omega
    have hlt_n33 : n33 < H127.next := by omega
    refine pv (.i .i64 2) rfl ?_
    refine O_nil ?_
    refine C_ret ?_
    refine nx_ret ?_
    have he := dErr_2b (b := b) (by omega) (by omega) (by omega) (by omega)
    have hb0 : ¬ dErr b = 0 := by rw [he]; decide
    exact ⟨.inr rfl, _, resL_cons (r_cellA rfl hW128.2.1 rfl) (resL_one (r_tmp (v := .i .i64 2) rfl)), by rw [dCells_bad hb0, he]; rfl, hO132⟩
set_option maxRecDepth 100000 in
set_option maxHeartbeats 1000000 in
theorem dec_r {H : AH} (hok : H.Ok) (htb : Tb H) {ba : Option (Nat × Nat)} {bn bc bg : Nat} (bhg : bg = 0 ∨ bg = 1) {b : List UInt8} (bhb : Bs H (.sl ba bn bc bg) b) (bhc : bn ≤ bc) (bhm : bc ≤ 9223372036854775807) (hfit : bn ≤ 1073741824) (hv : b.length < 12 ∨ 256 < dN b ∨ 256 < dM b ∨ 12 + dN b + dM b ≤ b.length) : Ev tabV spV (.fn (.func 16) [] []) [.sl ba bn bc bg] H (fun r H' => r = .tup [.agg (dCells b), .i .i64 (dErr b)] ∧ Kp H H') := by
 refine Ev_C (F := x16) rfl ?_
 have bhl := bhb.length
 subst bhl
 have hO0 := Old.refl hok
 have h41 : tabV 41 = some x41 := rfl
 have h48 : tabV 48 = some x48 := rfl
 have h42 : tabV 42 = some x42 := rfl
 have h43 : tabV 43 = some x43 := rfl
 have h44 : tabV 44 = some x44 := rfl
 have h66 : tabV 66 = some x66 := rfl
 have h45 : tabV 45 = some x45 := rfl
 have h46 : tabV 46 = some x46 := rfl
 have hdt := dTxt_le b
 have hb1 := (b.getD 1 0).toNat_lt
 refine sr ?_
 refine O_alloc fun n1 H2 hN3 => ?_
 have hF4 := hN3.fr (fun _ => False)
 have hO5 := hO0.new hN3
 have hx_hO5 := hO5.next
 have hnm_n1 : n1 = H.next := hN3.1
 have hnx_H2 : H2.next = H.next + 1 := hN3.2.1
 have hlt_n1 : n1 < H2.next := by omega
 refine pv (.i .i64 0) rfl ?_
 refine O_nil ?_
 refine C_seq ?_
 refine C_block ?_
 refine sr ?_
 refine pv (.sl ba b.length bc bg) rfl ?_
 refine O_p (.i .i64 (((b.length : Nat)) : Int)) (r_len rfl) ?_
 refine O_p (.b (decide (0 < (((b.length : Nat)) : Int)))) (r_gtr rfl rfl) ?_
 refine pv (.b (decide (0 < (((b.length : Nat)) : Int)))) rfl ?_
 refine O_gx (e := (decide (0 < (((b.length : Nat)) : Int)))) (v := (.sl ba b.length bc bg)) (wt rfl) (fun he => (r_mv rfl)) ?_
 refine O_gq (e := (decide (0 < (((b.length : Nat)) : Int)))) (wt rfl) (fun he => by exact Bs.ix (bhb.old hok hO5) (by exact (cond_pos he)) (i := 0) (by exact rfl) (by simp only [decide_eq_true_eq, Bool.and_eq_true] at he; omega)) fun v6 hv7 => ?_
 refine O_gx (e := (decide (0 < (((b.length : Nat)) : Int)))) (v := (.i .u8 ((b.getD 0 0).toNat : Int))) (wt rfl) (fun he => ((hv7 he).load (cond_pos he))) ?_
 refine O_gx (e := (decide (0 < (((b.length : Nat)) : Int)))) (v := (.b (!decide (((b.getD 0 0).toNat : Int) = 3)))) (wt rfl) (fun he => (r_neq (cond_pos he) rfl)) ?_
 refine O_p (.b ((decide (0 < (((b.length : Nat)) : Int))) && (!decide (((b.getD 0 0).toNat : Int) = 3)))) (r_pick_and rfl rfl rfl rfl) ?_
 refine pv (.b ((decide (0 < (((b.length : Nat)) : Int))) && (!decide (((b.getD 0 0).toNat : Int) = 3)))) rfl ?_
 refine O_nil ?_
 refine C_cond (x := ((decide (0 < (((b.length : Nat)) : Int))) && (!decide (((b.getD 0 0).toNat : Int) = 3)))) rfl (fun hc8 => ?_) (fun hc8 => ?_)
 ·
  have hr9 := hc8
  simp only [decide_eq_true_eq, decide_eq_false_iff_not, Bool.not_eq_true', Bool.not_eq_false', Bool.and_eq_true, Bool.or_eq_true, Bool.or_eq_false_iff, Bool.not_not, Bool.and_eq_false_iff] at hc8
  refine sr ?_
  refine O_p (.agg zDAA ) (r_build rfl) ?_
  refine O_store (vs := zDAA ) (c' := zDAA ) rfl (by rfl) hN3.2.2.1 rfl (List.cons_ne_nil _ _) (Nat.le_of_ble_eq_true rfl) rfl fun H10 hW11 => ?_
  have hO12 := hO5.wr hW11 (by omega) (by omega)
  have hx_hO12 := hO12.next
  have hnx_H10 : H10.next = H2.next := hW11.1
  have hlt_n1 : n1 < H10.next := by omega
  refine pv (.i .i64 3) rfl ?_
  refine O_nil ?_
  refine C_ret ?_
  refine bk_ret ?_
  refine nx_ret ?_
  have he := dErr_3a (b := b) (by omega)
  have hb0 : ¬ dErr b = 0 := by rw [he]; decide
  exact ⟨.inr rfl, _, resL_cons (r_cellA rfl hW11.2.1 rfl) (resL_one (r_tmp (v := .i .i64 3) rfl)), by rw [dCells_bad hb0, he]; rfl, hO12⟩
 ·
  have hr13 := hc8
  simp only [decide_eq_true_eq, decide_eq_false_iff_not, Bool.not_eq_true', Bool.not_eq_false', Bool.and_eq_true, Bool.or_eq_true, Bool.or_eq_false_iff, Bool.not_not, Bool.and_eq_false_iff] at hc8
  refine sr ?_
  refine pv (.sl ba b.length bc bg) rfl ?_
  refine O_p (.i .i64 (((b.length : Nat)) : Int)) (r_len rfl) ?_
  refine O_p (.b (decide ((((b.length : Nat)) : Int) < 12))) (r_lss rfl rfl) ?_
  refine pv (.b (decide ((((b.length : Nat)) : Int) < 12))) rfl ?_
  refine O_nil ?_
  refine C_cond (x := (decide ((((b.length : Nat)) : Int) < 12))) rfl (fun hc14 => ?_) (fun hc14 => ?_)
  ·
   have hr15 := hc14
   simp only [decide_eq_true_eq, decide_eq_false_iff_not, Bool.not_eq_true', Bool.not_eq_false', Bool.and_eq_true, Bool.or_eq_true, Bool.or_eq_false_iff, Bool.not_not, Bool.and_eq_false_iff] at hc14
   refine sr ?_
   refine O_p (.agg zDAA ) (r_build rfl) ?_
   refine O_store (vs := zDAA ) (c' := zDAA ) rfl (by rfl) hN3.2.2.1 rfl (List.cons_ne_nil _ _) (Nat.le_of_ble_eq_true rfl) rfl fun H16 hW17 => ?_
   have hO18 := hO5.wr hW17 (by omega) (by omega)
   have hx_hO18 := hO18.next
   have hnx_H16 : H16.next = H2.next := hW17.1
   have hlt_n1 : n1 < H16.next := by omega
   refine pv (.i .i64 2) rfl ?_
   refine O_nil ?_
   refine C_ret ?_
   refine bk_ret ?_
   refine nx_ret ?_
   have he := dErr_2a (b := b) (by omega) (by omega)
   have hb0 : ¬ dErr b = 0 := by rw [he]; decide
   exact ⟨.inr rfl, _, resL_cons (r_cellA rfl hW17.2.1 rfl) (resL_one (r_tmp (v := .i .i64 2) rfl)), by rw [dCells_bad hb0, he]; rfl, hO18⟩
  ·
   have hr19 := hc14
   simp only [decide_eq_true_eq, decide_eq_false_iff_not, Bool.not_eq_true', Bool.not_eq_false', Bool.and_eq_true, Bool.or_eq_true, Bool.or_eq_false_iff, Bool.not_not, Bool.and_eq_false_iff] at hc14
   obtain ⟨hN, hM, hN2, hM2⟩ := dN_num (b := b) (by omega)
   refine C_skip ?_
   refine sr ?_
   refine pv (.sl ba b.length bc bg) rfl ?_
   refine O_q (by exact Bs.lo bhb bhg rfl (i := 1) rfl (by first | omega | (simp only [List.length_take, List.length_drop, List.length_append, List.length_cons, List.length_nil, beN_len] <;> omega)) (by first | omega | (simp only [List.length_take, List.length_drop, List.length_append, List.length_cons, List.length_nil, beN_len] <;> omega))) fun v23 hv22 => ?_
   obtain ⟨a20, rfl, hb21⟩ := hv22
   refine O_call (Ev.mono (new_ev h48 h41 hO5.ok bhg (hb21.old hok hO5) (by first | omega | (simp only [List.length_take, List.length_drop, List.length_append, List.length_cons, List.length_nil, beN_len] <;> omega)) (by first | omega | (simp only [List.length_take, List.length_drop, List.length_append, List.length_cons, List.length_nil, beN_len] <;> omega)) (by first | omega | (simp only [List.length_take, List.length_drop, List.length_append, List.length_cons, List.length_nil, beN_len] <;> omega))) fun v24 H25 hq26 => ?_)
   obtain ⟨rn27, rfl, hge28, hRd29, hK30⟩ := hq26
   have hlt_rn27 := hRd29.lt hK30.ok
   have hb31 := (hK30.keep _ (by omega)).trans hN3.2.2.1
   have hx_hK30 := hK30.next
   have hlt_n1 : n1 < H25.next := by omega
   have hO32 := hO5.trans hK30
   have hx_hO32 := hO32.next
   refine pv (.p (some (rn27, 0))) rfl ?_
   refine O_nil (sr ?_)
   refine O_alloc fun n33 H34 hN35 => ?_
   have hF36 := hN35.fr (fun _ => False)
   have hb37 := (hF36.keep _ (by exact hlt_n1) (fun h => h)).trans hb31
   have hRd38 := hRd29.kp hO32.ok ((Old.refl hO32.ok).new hN35)
   have hO39 := hO32.new hN35
   have hx_hO39 := hO39.next
   have hnm_n33 : n33 = H25.next := hN35.1
   have hnx_H34 : H34.next = H25.next + 1 := hN35.2.1
   have hlt_n1 : n1 < H34.next := by omega
   have hlt_n33 : n33 < H34.next := by omega
   refine O_nil (sr ?_)
   refine pv (.p (some (rn27, 0))) rfl ?_
   refine O_call (Ev.mono (get8_ev h66 h42 hO39.ok hRd38 (by first | omega | (simp only [List.length_take, List.length_drop, List.length_append, List.length_cons, List.length_nil, beN_len] <;> omega))) fun v40 H41 hq42 => ?_)
   obtain ⟨hBut43, hRd44, hq42⟩ := hq42
   rw [num_one (by omega)] at hq42
   subst hq42
   have hb45 := (hBut43.keep _ (by omega) (by omega)).trans hb37
   have hb46 := (hBut43.keep _ (by omega) (by omega)).trans hN35.2.2.1
   have hx_hBut43 := hBut43.next
   have hlt_n1 : n1 < H41.next := by omega
   have hlt_n33 : n33 < H41.next := by omega
   have hO47 := hO39.but hBut43 (by omega)
   have hx_hO47 := hO47.next
   have hlt_rn27 := hRd44.lt hBut43.ok
   refine pv (.tup [(.i .u8 ((b.getD 1 0).toNat : Int)), (.i .i64 0)]) rfl ?_
   refine O_p (.i .u8 ((b.getD 1 0).toNat : Int)) (r_ext rfl rfl) ?_
   refine O_p (.i .i64 0) (r_ext rfl rfl) ?_
   refine pf (.p (some (n33, 0))) rfl rfl ?_
   refine O_store (vs := [(.i .u8 ((b.getD 1 0).toNat : Int))]) (c' := [(.i .u8 ((b.getD 1 0).toNat : Int)), (.i .u16 0), (.i .u32 0), (.s ⟨#[]⟩), (.s ⟨#[]⟩)]) rfl (by rfl) hb46 rfl (List.cons_ne_nil _ _) (Nat.le_of_ble_eq_true rfl) rfl fun H48 hW49 => ?_
   have hb50 := (hW49.2.2 _ (by omega)).trans hb45
   have hRd51 := hRd44.wr hO47.ok hW49 (by omega) (by omega) (by omega)
   have hO52 := hO47.wr hW49 (by omega) (by omega)
   have hx_hO52 := hO52.next
   have hnx_H48 : H48.next = H41.next := hW49.1
   have hlt_n1 : n1 < H48.next := by omega
   have hlt_n33 : n33 < H48.next := by omega
   refine O_nil (sr ?_)
   refine pv (.p (some (rn27, 0))) rfl ?_
   refine O_call (Ev.mono (get16_ev h66 h43 hO52.ok hRd51 (by first | omega | (simp only [List.length_take, List.length_drop, List.length_append, List.length_cons, List.length_nil, beN_len] <;> omega))) fun v53 H54 hq55 => ?_)
   obtain ⟨hBut56, hRd57, hq55⟩ := hq55
   rw [nest2] at hq55
   subst hq55
   have hb58 := (hBut56.keep _ (by omega) (by omega)).trans hb50
   have hb59 := (hBut56.keep _ (by omega) (by omega)).trans hW49.2.1
   have hx_hBut56 := hBut56.next
   have hlt_n1 : n1 < H54.next := by omega
   have hlt_n33 : n33 < H54.next := by omega
   have hO60 := hO52.but hBut56 (by omega)
   have hx_hO60 := hO60.next
   have hlt_rn27 := hRd57.lt hBut56.ok
   refine pv (.tup [(.i .u16 (num ((b.drop 2).take 2))), (.i .i64 0)]) rfl ?_
   refine O_p (.i .u16 (num ((b.drop 2).take 2))) (r_ext rfl rfl) ?_
   refine O_p (.i .i64 0) (r_ext rfl rfl) ?_
   refine pf (.p (some (n33, 1))) rfl rfl ?_
   refine O_store (vs := [(.i .u16 (num ((b.drop 2).take 2)))]) (c' := [(.i .u8 ((b.getD 1 0).toNat : Int)), (.i .u16 (num ((b.drop 2).take 2))), (.i .u32 0), (.s ⟨#[]⟩), (.s ⟨#[]⟩)]) rfl (by rfl) hb59 rfl (List.cons_ne_nil _ _) (Nat.le_of_ble_eq_true rfl) rfl fun H61 hW62 => ?_
   have hb63 := (hW62.2.2 _ (by omega)).trans hb58
   have hRd64 := hRd57.wr hO60.ok hW62 (by omega) (by omega) (by omega)
   have hO65 := hO60.wr hW62 (by omega) (by omega)
   have hx_hO65 := hO65.next
   have hnx_H61 : H61.next = H54.next := hW62.1
   have hlt_n1 : n1 < H61.next := by omega
   have hlt_n33 : n33 < H61.next := by omega
   refine O_nil (sr ?_)
   refine pv (.p (some (rn27, 0))) rfl ?_
   refine O_call (Ev.mono (get32_ev h66 h44 hO65.ok hRd64 (by first | omega | (simp only [List.length_take, List.length_drop, List.length_append, List.length_cons, List.length_nil, beN_len] <;> omega))) fun v66 H67 hq68 => ?_)
   obtain ⟨hBut69, hRd70, hq68⟩ := hq68
   rw [nest4] at hq68
   subst hq68
   have hb71 := (hBut69.keep _ (by omega) (by omega)).trans hb63
   have hb72 := (hBut69.keep _ (by omega) (by omega)).trans hW62.2.1
   have hx_hBut69 := hBut69.next
   have hlt_n1 : n1 < H67.next := by omega
   have hlt_n33 : n33 < H67.next := by omega
   have hO73 := hO65.but hBut69 (by omega)
   have hx_hO73 := hO73.next
   have hlt_rn27 := hRd70.lt hBut69.ok
   refine pv (.tup [(.i .u32 (num ((b.drop 4).take 4))), (.i .i64 0)]) rfl ?_
   refine O_p (.i .u32 (num ((b.drop 4).take 4))) (r_ext rfl rfl) ?_
   refine O_p (.i .i64 0) (r_ext rfl rfl) ?_
   refine pf (.p (some (n33, 2))) rfl rfl ?_
   refine O_store (vs := [(.i .u32 (num ((b.drop 4).take 4)))]) (c' := [(.i .u8 ((b.getD 1 0).toNat : Int)), (.i .u16 (num ((b.drop 2).take 2))), (.i .u32 (num ((b.drop 4).take 4))), (.s ⟨#[]⟩), (.s ⟨#[]⟩)]) rfl (by rfl) hb72 rfl (List.cons_ne_nil _ _) (Nat.le_of_ble_eq_true rfl) rfl fun H74 hW75 => ?_
   have hb76 := (hW75.2.2 _ (by omega)).trans hb71
   have hRd77 := hRd70.wr hO73.ok hW75 (by omega) (by omega) (by omega)
   have hO78 := hO73.wr hW75 (by omega) (by omega)
   have hx_hO78 := hO78.next
   have hnx_H74 : H74.next = H67.next := hW75.1
   have hlt_n1 : n1 < H74.next := by omega
   have hlt_n33 : n33 < H74.next := by omega
   refine O_nil (sr ?_)
   refine pv (.p (some (rn27, 0))) rfl ?_
   refine O_call (Ev.mono (get16_ev h66 h43 hO78.ok hRd77 (by first | omega | (simp only [List.length_take, List.length_drop, List.length_append, List.length_cons, List.length_nil, beN_len] <;> omega))) fun v79 H80 hq81 => ?_)
   obtain ⟨hBut82, hRd83, hq81⟩ := hq81
   rw [nest8, hN] at hq81
   subst hq81
   have hb84 := (hBut82.keep _ (by omega) (by omega)).trans hb76
   have hb85 := (hBut82.keep _ (by omega) (by omega)).trans hW75.2.1
   have hx_hBut82 := hBut82.next
   have hlt_n1 : n1 < H80.next := by omega
   have hlt_n33 : n33 < H80.next := by omega
   have hO86 := hO78.but hBut82 (by omega)
   have hx_hO86 := hO86.next
   have hlt_rn27 := hRd83.lt hBut82.ok
   refine pv (.tup [(.i .u16 ((dN b : Nat) : Int)), (.i .i64 0)]) rfl ?_
   refine O_p (.i .u16 ((dN b : Nat) : Int)) (r_ext rfl rfl) ?_
   refine O_p (.i .i64 0) (r_ext rfl rfl) ?_
   refine pv (.i .u16 ((dN b : Nat) : Int)) rfl ?_
   refine pv (.i .i64 0) rfl ?_
   refine O_nil (sr ?_)
   refine pv (.p (some (rn27, 0))) rfl ?_
   refine O_call (Ev.mono (get16_ev h66 h43 hO86.ok hRd83 (by first | omega | (simp only [List.length_take, List.length_drop, List.length_append, List.length_cons, List.length_nil, beN_len] <;> omega))) fun v87 H88 hq89 => ?_)
   obtain ⟨hBut90, hRd91, hq89⟩ := hq89
   rw [nest10, hM] at hq89
   subst hq89
   have hb92 := (hBut90.keep _ (by omega) (by omega)).trans hb84
   have hb93 := (hBut90.keep _ (by omega) (by omega)).trans hb85
   have hx_hBut90 := hBut90.next
   have hlt_n1 : n1 < H88.next := by omega
   have hlt_n33 : n33 < H88.next := by omega
   have hO94 := hO86.but hBut90 (by omega)
   have hx_hO94 := hO94.next
   have hlt_rn27 := hRd91.lt hBut90.ok
   refine pv (.tup [(.i .u16 ((dM b : Nat) : Int)), (.i .i64 0)]) rfl ?_
   refine O_p (.i .u16 ((dM b : Nat) : Int)) (r_ext rfl rfl) ?_
   refine O_p (.i .i64 0) (r_ext rfl rfl) ?_
   refine pv (.i .u16 ((dM b : Nat) : Int)) rfl ?_
   refine pv (.i .i64 0) rfl ?_
   refine O_nil ?_
   refine C_seq ?_
   refine sr ?_
   refine pv (.i .u16 ((dN b : Nat) : Int)) rfl ?_
   refine O_p (.b (decide (256 < ((dN b : Nat) : Int)))) (r_gtr rfl rfl) ?_
   refine pv (.b (decide (256 < ((dN b : Nat) : Int)))) rfl ?_
   refine O_gx (e := (!(decide (256 < ((dN b : Nat) : Int))))) (v := (.i .u16 ((dM b : Nat) : Int))) (wf rfl) (fun he => (r_mv rfl)) ?_
   refine O_gx (e := (!(decide (256 < ((dN b : Nat) : Int))))) (v := (.b (decide (256 < ((dM b : Nat) : Int))))) (wf rfl) (fun he => (r_gtr (cond_pos he) rfl)) ?_
   refine O_p (.b ((decide (256 < ((dN b : Nat) : Int))) || (decide (256 < ((dM b : Nat) : Int))))) (r_pick_or rfl rfl rfl rfl) ?_
   refine O_nil ?_
   refine C_cond (x := ((decide (256 < ((dN b : Nat) : Int))) || (decide (256 < ((dM b : Nat) : Int))))) rfl (fun hc95 => ?_) (fun hc95 => ?_)
   ·
    have hr96 := hc95
    simp only [decide_eq_true_eq, decide_eq_false_iff_not, Bool.not_eq_true', Bool.not_eq_false', Bool.and_eq_true, Bool.or_eq_true, Bool.or_eq_false_iff, Bool.not_not, Bool.and_eq_false_iff] at hc95
    refine sr ?_
    refine O_p (.agg zDAA ) (r_build rfl) ?_
    refine O_store (vs := zDAA ) (c' := zDAA ) rfl (by rfl) hb92 rfl (List.cons_ne_nil _ _) (Nat.le_of_ble_eq_true rfl) rfl fun H97 hW98 => ?_
    have hb99 := (hW98.2.2 _ (by omega)).trans hb93
    have hRd100 := hRd91.wr hO94.ok hW98 (by omega) (by omega) (by omega)
    have hO101 := hO94.wr hW98 (by omega) (by omega)
    have hx_hO101 := hO101.next
    have hnx_H97 : H97.next = H88.next := hW98.1
    have hlt_n1 : n1 < H97.next := by omega
    have hlt_n33 : n33 < H97.next := by omega
    refine pv (.i .i64 10) rfl ?_
    refine O_nil ?_
    refine C_ret ?_
    refine nx_ret ?_
    have he := dErr_10 (b := b) (by omega) (by omega) (by omega)
    have hb0 : ¬ dErr b = 0 := by rw [he]; decide
    exact ⟨.inr rfl, _, resL_cons (r_cellA rfl hW98.2.1 rfl) (resL_one (r_tmp (v := .i .i64 10) rfl)), by rw [dCells_bad hb0, he]; rfl, hO101⟩
   ·
    have hr102 := hc95
    simp only [decide_eq_true_eq, decide_eq_false_iff_not, Bool.not_eq_true', Bool.not_eq_false', Bool.and_eq_true, Bool.or_eq_true, Bool.or_eq_false_iff, Bool.not_not, Bool.and_eq_false_iff] at hc95
    refine C_skip ?_
    refine sr ?_
    refine pv (.p (some (rn27, 0))) rfl ?_
    refine pv (.i .u16 ((dN b : Nat) : Int)) rfl ?_
    refine O_p (.i .i64 ((((dN b) : Nat)) : Int)) (by exact (r_cint' rfl (wrap_i64 (by omega) (by omega)))) ?_
    refine O_call (Ev.mono (bytes_ev h66 h48 h45 hO94.ok hRd91 (k := (dN b)) (by first | omega | (simp only [List.length_take, List.length_drop, List.length_append, List.length_cons, List.length_nil, beN_len] <;> omega)) (by first | omega | (simp only [List.length_take, List.length_drop, List.length_append, List.length_cons, List.length_nil, beN_len] <;> omega))) fun v103 H104 hq105 => ?_)
    obtain ⟨hBut106, hRd107, o109, rfl, hM108⟩ := hq105
    rw [nest12] at hM108 hRd107
    have hb110 := (hBut106.keep _ (by omega) (by omega)).trans hb92
    have hb111 := (hBut106.keep _ (by omega) (by omega)).trans hb93
    have hx_hBut106 := hBut106.next
    have hlt_n1 : n1 < H104.next := by omega
    have hlt_n33 : n33 < H104.next := by omega
    have hO112 := hO94.but hBut106 (by omega)
    have hx_hO112 := hO112.next
    have hlt_rn27 := hRd107.lt hBut106.ok
    have hM113 : Mine H.next 1 H104 o109 (bcells (dTxt b)) := hM108.down (N := H.next) (by omega)
    have hd114 : ¬ o109.nameOf n1 := fun hq => by have := hM108.new _ hq; omega
    have hd115 : ¬ o109.nameOf n33 := fun hq => by have := hM108.new _ hq; omega
    have hd116 : ¬ o109.nameOf rn27 := fun hq => by have := hM108.new _ hq; omega
    refine pv (.tup [o109, (.i .i64 0)]) rfl ?_
    refine O_p o109 (r_ext rfl rfl) ?_
    refine O_p (.i .i64 0) (r_ext rfl rfl) ?_
    refine pv o109 rfl ?_
    refine pv (.i .i64 0) rfl ?_
    refine O_nil ?_
    refine C_seq ?_
    refine sr ?_
    refine pv (.i .i64 0) rfl ?_
    refine O_p (.b false) (r_bin rfl rfl rfl) ?_
    refine O_nil ?_
    refine C_cond (x := false) rfl (fun h => by cases h) (fun _ => ?_)
    refine C_skip ?_
    refine sr ?_
    refine pv (.p (some (rn27, 0))) rfl ?_
    refine pv (.i .u16 ((dM b : Nat) : Int)) rfl ?_
    refine O_p (.i .i64 ((((dM b) : Nat)) : Int)) (by exact (r_cint' rfl (wrap_i64 (by omega) (by omega)))) ?_
    refine O_call (Ev.mono (bytes_ev h66 h48 h45 hO112.ok hRd107 (k := (dM b)) (by first | omega | (simp only [List.length_take, List.length_drop, List.length_append, List.length_cons, List.length_nil, beN_len] <;> omega)) (by first | omega | (simp only [List.length_take, List.length_drop, List.length_append, List.length_cons, List.length_nil, beN_len] <;> omega))) fun v117 H118 hq119 => ?_)
    obtain ⟨hBut120, hRd121, o123, rfl, hM122⟩ := hq119
    rw [show (b.drop 12).drop (dN b) = b.drop (12 + dN b) from List.drop_drop] at hM122 hRd121
    have hb124 := (hBut120.keep _ (by omega) (by omega)).trans hb110
    have hb125 := (hBut120.keep _ (by omega) (by omega)).trans hb111
    have hx_hBut120 := hBut120.next
    have hlt_n1 : n1 < H118.next := by omega
    have hlt_n33 : n33 < H118.next := by omega
    have hM126 := hM113.but hBut120 hd116
    have hO127 := hO112.but hBut120 (by omega)
    have hx_hO127 := hO127.next
    have hlt_rn27 := hRd121.lt hBut120.ok
    have hM128 : Mine H.next 1 H118 o123 (bcells (dPro b)) := hM122.down (N := H.next) (by omega)
    have hd129 : ¬ o123.nameOf n1 := fun hq => by have := hM122.new _ hq; omega
    have hd130 : ¬ o123.nameOf n33 := fun hq => by have := hM122.new _ hq; omega
    have hd131 : ¬ o123.nameOf rn27 := fun hq => by have := hM122.new _ hq; omega
    refine pv (.tup [o123, (.i .i64 0)]) rfl ?_
    refine O_p o123 (r_ext rfl rfl) ?_
    refine O_p (.i .i64 0) (r_ext rfl rfl) ?_
    refine pv o123 rfl ?_
    refine pv (.i .i64 0) rfl ?_
    refine O_nil ?_
    refine C_seq ?_
    refine sr ?_
    refine pv (.i .i64 0) rfl ?_
    refine O_p (.b false) (r_bin rfl rfl rfl) ?_
    refine O_nil ?_
    refine C_cond (x := false) rfl (fun h => by cases h) (fun _ => ?_)
    refine C_skip ?_
    refine C_seq ?_
    refine C_draw fun b132 H133 hbase134 hA135 => ?_
    have hnx136 : H133.next = H118.next + 8 := hA135.1
    have hb137 := (hA135.2 _).trans hb124
    have hb138 := (hA135.2 _).trans hb125
    have hF139 := hA135.fr (fun _ => False)
    have hM140 := hM126.aside hA135
    have hM141 := hM128.aside hA135
    have hRd142 := hRd121.kp hO127.ok ((Old.refl hO127.ok).aside hA135)
    have hO143 := hO127.aside hA135
    have hx_hO143 := hO143.next
    have hlt_n1 : n1 < H133.next := by omega
    have hlt_n33 : n33 < H133.next := by omega
    refine D_l (v := o109) rfl rfl rfl (r_mv rfl) ?_
    refine D_l (v := o123) rfl rfl rfl (r_mv rfl) ?_
    have hsf148 : Own 1 H133 o109 (bcells (dTxt b)) := hM140.own
    obtain ⟨oa144, og145, rfl, hog146, hob147⟩ := hsf148.bs
    have base149 := Old.refl hO143.ok
    refine D_r (v := (.s (txt (dTxt b)))) rfl rfl rfl ((hM140.own.asbs).text rfl) ?_
    refine D_l (v := (.p (some (n33, 3)))) rfl rfl rfl (r_fadd' rfl rfl) ?_
    have hsf154 : Own 1 H133 o123 (bcells (dPro b)) := hM141.own
    obtain ⟨oa150, og151, rfl, hog152, hob153⟩ := hsf154.bs
    have base155 := Old.refl hO143.ok
    refine D_r (v := (.s (txt (dPro b)))) rfl rfl rfl ((hM141.own.asbs).text rfl) ?_
    refine D_store (vs := [(.s (txt (dTxt b)))]) (c' := [(.i .u8 ((b.getD 1 0).toNat : Int)), (.i .u16 (num ((b.drop 2).take 2))), (.i .u32 (num ((b.drop 4).take 4))), (.s (txt (dTxt b))), (.s ⟨#[]⟩)]) rfl (by rfl) hb138 rfl (List.cons_ne_nil _ _) (Nat.le_of_ble_eq_true rfl) rfl fun H156 hW157 => ?_
    have hb158 := (hW157.2.2 _ (by omega)).trans hb137
    have hM159 := hM140.wr hW157 hd115
    have hM160 := hM141.wr hW157 hd130
    have hRd161 := hRd142.wr hO143.ok hW157 (by omega) (by omega) (by omega)
    have hO162 := hO143.wr hW157 (by omega) (by omega)
    have hx_hO162 := hO162.next
    have hnx_H156 : H156.next = H133.next := hW157.1
    have hlt_n1 : n1 < H156.next := by omega
    have hlt_n33 : n33 < H156.next := by omega
    refine And.intro (And.intro (Or.inr (look_run rfl rfl ((hM160.own.asbs).text rfl))) (And.intro (Or.inl rfl) True.intro)) ?_
    refine D_l (v := (.p (some (n33, 4)))) rfl rfl rfl (r_fadd' rfl rfl) ?_
    refine D_store (vs := [(.s (txt (dPro b)))]) (c' := [(.i .u8 ((b.getD 1 0).toNat : Int)), (.i .u16 (num ((b.drop 2).take 2))), (.i .u32 (num ((b.drop 4).take 4))), (.s (txt (dTxt b))), (.s (txt (dPro b)))]) rfl (by rfl) hW157.2.1 rfl (List.cons_ne_nil _ _) (Nat.le_of_ble_eq_true rfl) rfl fun H163 hW164 => ?_
    have hb165 := (hW164.2.2 _ (by omega)).trans hb158
    have hM166 := hM159.wr hW164 hd115
    have hM167 := hM160.wr hW164 hd130
    have hRd168 := hRd161.wr hO162.ok hW164 (by omega) (by omega) (by omega)
    have hO169 := hO162.wr hW164 (by omega) (by omega)
    have hx_hO169 := hO169.next
    have hnx_H163 : H163.next = H156.next := hW164.1
    have hlt_n1 : n1 < H163.next := by omega
    have hlt_n33 : n33 < H163.next := by omega
    refine And.intro (And.intro (Or.inl rfl) True.intro) ?_
    refine D_nil ?_
    refine C_seq ?_
    refine C_block ?_
    refine sr ?_
    refine pv (.p (some (rn27, 0))) rfl ?_
    refine O_call (Ev.mono (left_ev h46 hO169.ok hRd168) fun v170 H171 hq172 => ?_)
    obtain ⟨rfl, hq172⟩ := hq172
    subst H171
    refine O_p (.b (decide (0 < (((((b.drop (12 + dN b)).drop (dM b)).length : Nat)) : Int)))) (r_gtr rfl rfl) ?_
    refine pv (.b (decide (0 < (((((b.drop (12 + dN b)).drop (dM b)).length : Nat)) : Int)))) rfl ?_
    refine O_nil ?_
    refine C_cond (x := (decide (0 < (((((b.drop (12 + dN b)).drop (dM b)).length : Nat)) : Int)))) rfl (fun hc173 => ?_) (fun hc173 => ?_)
    ·
     have hr174 := hc173
     simp only [decide_eq_true_eq, decide_eq_false_iff_not, Bool.not_eq_true', Bool.not_eq_false', Bool.and_eq_true, Bool.or_eq_true, Bool.or_eq_false_iff, Bool.not_not, Bool.and_eq_false_iff] at hc173
     simp only [List.length_drop] at hc173
     refine sr ?_
     refine O_p (.agg zDAA ) (r_build rfl) ?_
     refine O_store (vs := zDAA ) (c' := zDAA ) rfl (by rfl) hb165 rfl (List.cons_ne_nil _ _) (Nat.le_of_ble_eq_true rfl) rfl fun H175 hW176 => ?_
     have hb177 := (hW176.2.2 _ (by omega)).trans hW164.2.1
     have hM178 := hM166.wr hW176 hd114
     have hM179 := hM167.wr hW176 hd129
     have hRd180 := hRd168.wr hO169.ok hW176 (by omega) (by omega) (by omega)
     have hO181 := hO169.wr hW176 (by omega) (by omega)
     have hx_hO181 := hO181.next
     have hnx_H175 : H175.next = H163.next := hW176.1
     have hlt_n1 : n1 < H175.next := by omega
     have hlt_n33 : n33 < H175.next := by omega
     refine pv (.i .i64 3) rfl ?_
     refine O_nil ?_
     refine C_ret ?_
     refine bk_ret ?_
     refine nx_ret ?_
     have he := dErr_3b (b := b) (by omega) (by omega) (by omega) (by omega)
     have hb0 : ¬ dErr b = 0 := by rw [he]; decide
     exact ⟨.inr rfl, _, resL_cons (r_cellA rfl hW176.2.1 rfl) (resL_one (r_tmp (v := .i .i64 3) rfl)), by rw [dCells_bad hb0, he]; rfl, hO181⟩
    ·
     have hr182 := hc173
     simp only [decide_eq_true_eq, decide_eq_false_iff_not, Bool.not_eq_true', Bool.not_eq_false', Bool.and_eq_true, Bool.or_eq_true, Bool.or_eq_false_iff, Bool.not_not, Bool.and_eq_false_iff] at hc173
     simp only [List.length_drop] at hc173
     refine sr ?_
     refine O_p (.agg [(.i .u8 ((b.getD 1 0).toNat : Int)), (.i .u16 (num ((b.drop 2).take 2))), (.i .u32 (num ((b.drop 4).take 4))), (.s (txt (dTxt b))), (.s (txt (dPro b)))]) (r_ldA rfl hW164.2.1 rfl) ?_
     refine O_call (Ev.mono (right_ev hO169.ok (htb.kp hok hO169) ((b.getD 1 0).toNat : Int) (num ((b.drop 2).take 2)) (num ((b.drop 4).take 4)) (dTxt b) (dPro b) (by constructor <;> omega) (by first | omega | (simp only [List.length_take, List.length_drop, List.length_append, List.length_cons, List.length_nil, beN_len] <;> omega)) (by first | omega | (simp only [List.length_take, List.length_drop, List.length_append, List.length_cons, List.length_nil, beN_len] <;> omega))) fun v183 H184 hq185 => ?_)
     obtain ⟨rfl, hK186⟩ := hq185
     have hb187 := (hK186.keep _ (by omega)).trans hb165
     have hb188 := (hK186.keep _ (by omega)).trans hW164.2.1
     have hx_hK186 := hK186.next
     have hlt_n1 : n1 < H184.next := by omega
     have hlt_n33 : n33 < H184.next := by omega
     have hM189 := hM166.kp hK186
     have hM190 := hM167.kp hK186
     have hRd191 := hRd168.kp hO169.ok ((Old.refl hO169.ok).trans hK186)
     have hO192 := hO169.trans hK186
     have hx_hO192 := hO192.next
     refine O_p (.b (!(mayB ((b.getD 1 0).toNat : Int) (dTxt b) (dPro b)))) (r_not rfl) ?_
     refine pv (.b (!(mayB ((b.getD 1 0).toNat : Int) (dTxt b) (dPro b)))) rfl ?_
     refine O_nil ?_
     refine C_cond (x := (!(mayB ((b.getD 1 0).toNat : Int) (dTxt b) (dPro b)))) rfl (fun hc193 => ?_) (fun hc193 => ?_)
     ·
      have hr194 := hc193
      have hmb : mayB ((b.getD 1 0).toNat : Int) (dTxt b) (dPro b) = false := by simpa using hc193
      refine sr ?_
      refine O_p (.agg zDAA ) (r_build rfl) ?_
      refine O_store (vs := zDAA ) (c' := zDAA ) rfl (by rfl) hb187 rfl (List.cons_ne_nil _ _) (Nat.le_of_ble_eq_true rfl) rfl fun H195 hW196 => ?_
      have hb197 := (hW196.2.2 _ (by omega)).trans hb188
      have hM198 := hM189.wr hW196 hd114
      have hM199 := hM190.wr hW196 hd129
      have hRd200 := hRd191.wr hO192.ok hW196 (by omega) (by omega) (by omega)
      have hO201 := hO192.wr hW196 (by omega) (by omega)
      have hx_hO201 := hO201.next
      have hnx_H195 : H195.next = H184.next := hW196.1
      have hlt_n1 : n1 < H195.next := by omega
      have hlt_n33 : n33 < H195.next := by omega
      refine pv (.i .i64 1) rfl ?_
      refine O_nil ?_
      refine C_ret ?_
      refine bk_ret ?_
      refine nx_ret ?_
      have he := dErr_1 (b := b) (by omega) (by omega) (by omega) (by omega) hmb
      have hb0 : ¬ dErr b = 0 := by rw [he]; decide
      exact ⟨.inr rfl, _, resL_cons (r_cellA rfl hW196.2.1 rfl) (resL_one (r_tmp (v := .i .i64 1) rfl)), by rw [dCells_bad hb0, he]; rfl, hO201⟩
     ·
      have hr202 := hc193
      have hmb : mayB ((b.getD 1 0).toNat : Int) (dTxt b) (dPro b) = true := by simpa using hc193
      refine C_skip ?_
      refine sr ?_
      refine O_p (.agg [(.i .u8 ((b.getD 1 0).toNat : Int)), (.i .u16 (num ((b.drop 2).take 2))), (.i .u32 (num ((b.drop 4).take 4))), (.s (txt (dTxt b))), (.s (txt (dPro b)))]) (r_ldA rfl hb188 rfl) ?_
      refine O_store (vs := [(.i .u8 ((b.getD 1 0).toNat : Int)), (.i .u16 (num ((b.drop 2).take 2))), (.i .u32 (num ((b.drop 4).take 4))), (.s (txt (dTxt b))), (.s (txt (dPro b)))]) (c' := [(.i .u8 ((b.getD 1 0).toNat : Int)), (.i .u16 (num ((b.drop 2).take 2))), (.i .u32 (num ((b.drop 4).take 4))), (.s (txt (dTxt b))), (.s (txt (dPro b)))]) rfl (by rfl) hb187 rfl (List.cons_ne_nil _ _) (Nat.le_of_ble_eq_true rfl) rfl fun H203 hW204 => ?_
      have hb205 := (hW204.2.2 _ (by omega)).trans hb188
      have hM206 := hM189.wr hW204 hd114
      have hM207 := hM190.wr hW204 hd129
      have hRd208 := hRd191.wr hO192.ok hW204 (by omega) (by omega) (by omega)
      have hO209 := hO192.wr hW204 (by omega) (by omega)
      have hx_hO209 := hO209.next
      have hnx_H203 : H203.next = H184.next := hW204.1
      have hlt_n1 : n1 < H203.next := by omega
      have hlt_n33 : n33 < H203.next := by omega
      refine pv (.i .i64 0) rfl ?_
      refine O_nil ?_
      refine C_ret ?_
      have he := dErr_0 (b := b) (by omega) (by omega) (by omega) (by omega) hmb
      exact ⟨.inr rfl, _, resL_cons (r_cellA rfl hW204.2.1 rfl) (resL_one (r_tmp (v := .i .i64 0) rfl)), by rw [dCells_ok he, he]; rfl, hO209⟩
theorem dec_ev {H : AH} (hok : H.Ok) (htb : Tb H) {ba : Option (Nat × Nat)} {bn bc bg : Nat} (bhg : bg = 0 ∨ bg = 1) {b : List UInt8} (bhb : Bs H (.sl ba bn bc bg) b) (bhc : bn ≤ bc) (bhm : bc ≤ 9223372036854775807) (hfit : bn ≤ 1073741824) : Ev tabV spV (.fn (.func 16) [] []) [.sl ba bn bc bg] H (fun r H' => r = .tup [.agg (dCells b), .i .i64 (dErr b)] ∧ Kp H H') := by
  by_cases h : b.length < 12 ∨ 256 < dN b ∨ 256 < dM b ∨ 12 + dN b + dM b ≤ b.length
  · exact dec_r hok htb bhg bhb bhc bhm hfit h
  · by_cases h2 : b.length < 12 + dN b
    · exact dec_s1 hok htb bhg bhb bhc bhm hfit (by omega)
    · exact dec_s2 hok htb bhg bhb bhc bhm hfit (by omega)
end Go.Proofs.YtfhbdddjclodhaaDoor.E
