/- CookieOnly, for every input, without conditions. -/
import Derived.Test.YteapgimihapefaaA
import Derived.Test.YteapgimihapefaaE37
import Derived.Test.YteapgimihapefaaRows
import Derived.ProofKit
import Derived.OpenShut
namespace Go.Proofs.Yteapgimihapefaa.E
open Go.RowKit (Below)
set_option linter.unusedVariables false
set_option linter.unusedSimpArgs false
theorem num_split (l : List UInt8) {a : Nat} (h : a + 4 = l.length) (hl : l.length = 8) : num l = num (l.take 4) * 4294967296 + num (l.drop 4) := by
  have e := num_app (l.take 4) (l.drop 4)
  rw [List.take_append_drop, List.length_drop, hl] at e
  exact e
theorem be4_of {l : List UInt8} (h : l.length = 4) : beN (num l) 4 = l := by
  match l, h with
  | [a, b, c, d], _ => exact be4_num a b c d
theorem be2_of {l : List UInt8} (h : l.length = 2) : beN (num l) 2 = l := by
  match l, h with
  | [a, b], _ => exact be2_num a b
theorem num_rng (l : List UInt8) (n : Nat) (h : l.length = n) : 0 ≤ num l ∧ num l < 256 ^ n := by
  subst h; have := num_bound l l.length (Nat.le_refl _); rwa [List.take_length] at this
theorem long_back {l : List UInt8} (h : l.length = 8) : beN (w32 (Int.fdiv (num l) (2 ^ 32))) 4 ++ beN (w32 (num l)) 4 = l := by
  have h1 := num_rng (l.take 4) 4 (by rw [List.length_take]; omega)
  have h2 := num_rng (l.drop 4) 4 (by rw [List.length_drop]; omega)
  have e := num_split l (a := 4) (by omega) h
  have e1 : w32 (Int.fdiv (num l) (2 ^ 32)) = num (l.take 4) := by
    unfold w32; rw [wrap_u32, Int.fdiv_eq_ediv_of_nonneg _ (by decide), e]; omega
  have e2 : w32 (num l) = num (l.drop 4) := by unfold w32; rw [wrap_u32, e]; omega
  rw [e1, e2, be4_of (by rw [List.length_take]; omega), be4_of (by rw [List.length_drop]; omega), List.take_append_drop]
theorem piece {l : List UInt8} {k n m : Nat} : (l.drop k).take n ++ (l.drop (k + n)).take m = (l.drop k).take (n + m) := by
  rw [List.take_add, List.drop_drop]
theorem cErr_parts {key b : List UInt8} (h : cErr key b = 0) : key.length = 16 ∧ b.length = 60 ∧ b.drop 56 = [66, 79, 76, 49] ∧ code key (b.take 48) = num ((b.drop 48).take 8) ∧ num (b.take 8) ≤ 281474976710656 ∧ num ((b.drop 8).take 8) ≤ 281474976710656 := by
  unfold cErr at h
  split at h
  · cases h
  · split at h
    · cases h
    · split at h
      · cases h
      · split at h
        · cases h
        · split at h
          · rename_i h1 h2 h3 h4 h5
            have h3' := not_or.1 h3
            exact ⟨by omega, by omega, Decidable.not_not.1 h3'.2, Decidable.not_not.1 h4, h5⟩
          · cases h
theorem cSt_rng {key b : List UInt8} (h : cErr key b = 0) : (0 ≤ cSt key b 0 ∧ cSt key b 0 ≤ 281474976710656) ∧ (0 ≤ cSt key b 1 ∧ cSt key b 1 ≤ 281474976710656) ∧ (0 ≤ cSt key b 2 ∧ cSt key b 2 < 4294967296) ∧ (0 ≤ cSt key b 3 ∧ cSt key b 3 < 4294967296) ∧ (0 ≤ cSt key b 4 ∧ cSt key b 4 < 4294967296) ∧ (0 ≤ cSt key b 5 ∧ cSt key b 5 < 4294967296) ∧ (0 ≤ cSt key b 6 ∧ cSt key b 6 < 4294967296) ∧ (0 ≤ cSt key b 7 ∧ cSt key b 7 < 65536) ∧ (0 ≤ cSt key b 8 ∧ cSt key b 8 < 65536) ∧ (0 ≤ cSt key b 9 ∧ cSt key b 9 < 4294967296) ∧ (0 ≤ cSt key b 10 ∧ cSt key b 10 < 4294967296) := by
  obtain ⟨_, hl, _, _, h1, h2⟩ := cErr_parts h
  have r : ∀ k n, k + n ≤ 60 → 0 ≤ num ((b.drop k).take n) ∧ num ((b.drop k).take n) < 256 ^ n := fun k n hk => num_rng _ _ (by rw [List.length_take, List.length_drop]; omega)
  simp only [cSt_ok h]
  exact ⟨⟨(r 0 8 (by omega)).1, h1⟩, ⟨(r 8 8 (by omega)).1, h2⟩, r 16 4 (by omega), r 20 4 (by omega), r 24 4 (by omega), r 28 4 (by omega), r 32 4 (by omega), r 44 2 (by omega), r 46 2 (by omega), r 36 4 (by omega), r 40 4 (by omega)⟩
theorem cSt_okS {key b : List UInt8} (h : cErr key b = 0) : okS (cSt key b 0) (cSt key b 1) = true := by
  have r := cSt_rng h
  unfold okS; simp only [Bool.and_eq_true, decide_eq_true_eq]; omega
set_option maxRecDepth 20000 in
theorem sealed_back {key b : List UInt8} (h : cErr key b = 0) : sealed key (b32 (wordsL (cSt key b 0) (cSt key b 1) (cSt key b 2) (cSt key b 3) (cSt key b 4) (cSt key b 5) (cSt key b 6) (cSt key b 7) (cSt key b 8) (cSt key b 9) (cSt key b 10))) = b := by
  have r := cSt_rng h
  obtain ⟨_, hl, hs, hc, _, _⟩ := cErr_parts h
  have lt : ∀ k n, k + n ≤ 60 → ((b.drop k).take n).length = n := fun k n hk => by rw [List.length_take, List.length_drop]; omega
  have e4 : ∀ k, k + 4 ≤ 60 → beN (num ((b.drop k).take 4)) 4 = (b.drop k).take 4 := fun k hk => be4_of (lt k 4 hk)
  have e2 : ∀ k, k + 2 ≤ 60 → beN (num ((b.drop k).take 2)) 2 = (b.drop k).take 2 := fun k hk => be2_of (lt k 2 hk)
  have e8 : ∀ k, k + 8 ≤ 60 → ∀ R, beN (w32 (Int.fdiv (num ((b.drop k).take 8)) (2 ^ 32))) 4 ++ (beN (w32 (num ((b.drop k).take 8))) 4 ++ R) = (b.drop k).take 8 ++ R := fun k hk R => by rw [← List.append_assoc, long_back (lt k 8 hk)]
  have w : b32 (wordsL (cSt key b 0) (cSt key b 1) (cSt key b 2) (cSt key b 3) (cSt key b 4) (cSt key b 5) (cSt key b 6) (cSt key b 7) (cSt key b 8) (cSt key b 9) (cSt key b 10)) = b.take 48 := by
    simp only [wordsL, b32, List.flatMap_cons, List.flatMap_nil, be22 r.2.2.2.2.2.2.2.1 r.2.2.2.2.2.2.2.2.1]
    simp only [cSt_ok h]
    have d0 : (cFld b).getD 0 0 = num ((b.drop 0).take 8) := rfl
    have d1 : (cFld b).getD 1 0 = num ((b.drop 8).take 8) := rfl
    have d2 : (cFld b).getD 2 0 = num ((b.drop 16).take 4) := rfl
    have d3 : (cFld b).getD 3 0 = num ((b.drop 20).take 4) := rfl
    have d4 : (cFld b).getD 4 0 = num ((b.drop 24).take 4) := rfl
    have d5 : (cFld b).getD 5 0 = num ((b.drop 28).take 4) := rfl
    have d6 : (cFld b).getD 6 0 = num ((b.drop 32).take 4) := rfl
    have d7 : (cFld b).getD 7 0 = num ((b.drop 44).take 2) := rfl
    have d8 : (cFld b).getD 8 0 = num ((b.drop 46).take 2) := rfl
    have d9 : (cFld b).getD 9 0 = num ((b.drop 36).take 4) := rfl
    have d10 : (cFld b).getD 10 0 = num ((b.drop 40).take 4) := rfl
    rw [d0, d1, d2, d3, d4, d5, d6, d7, d8, d9, d10]
    rw [e8 0 (by omega), e8 8 (by omega), e4 16 (by omega), e4 20 (by omega), e4 24 (by omega), e4 28 (by omega), e4 32 (by omega), e4 36 (by omega), e4 40 (by omega), e2 44 (by omega), e2 46 (by omega)]
    have p : ∀ k n m, (b.drop k).take n ++ (b.drop (k + n)).take m = (b.drop k).take (n + m) := fun k n m => piece
    simp only [← List.append_assoc, List.append_nil]
    rw [p 0 8 8, p 0 16 4, p 0 20 4, p 0 24 4, p 0 28 4, p 0 32 4, p 0 36 4, p 0 40 4, p 0 44 2, p 0 46 2, List.drop_zero]
  rw [w]
  unfold sealed
  rw [hc, List.append_assoc (b.take 48), long_back (lt 48 8 (by omega)), ← hs, ← List.drop_zero (l := b.take 48), List.drop_zero]
  have p : ∀ k n m, (b.drop k).take n ++ (b.drop (k + n)).take m = (b.drop k).take (n + m) := fun k n m => piece
  have q := p 0 48 8
  rw [List.drop_zero] at q
  rw [q, List.take_append_drop]
set_option maxRecDepth 100000 in
set_option maxHeartbeats 4000000 in
theorem run6bad (H : AH) (hok : H.Ok) (ka : Option (Nat × Nat)) (kc : Nat) (key : List UInt8) (khb : Bs H (.sl ka key.length kc 0) key) (khc : key.length ≤ kc) (khm0 : kc ≤ maxLen) (ba : Option (Nat × Nat)) (bc : Nat) (b : List UInt8) (bhb : Bs H (.sl ba b.length bc 0) b) (bhc : b.length ≤ bc) (bhm0 : bc ≤ maxLen) (hce : ¬ cErr key b = 0) : Ev tabA spA (.fn (.func 6) [] []) [.sl ka key.length kc 0, .sl ba b.length bc 0] H (fun v _ => v = .b true) := by
  refine Ev_C (F := x6) rfl ?_
  have hO0 := Old.refl hok
  have khm : kc ≤ 9223372036854775807 := khm0
  have bhm : bc ≤ 9223372036854775807 := bhm0
  have h12 : tabA 12 = some x12 := rfl
  have h13 : tabA 13 = some x13 := rfl
  refine C_seq ?_
  refine C_region ?_
  refine O_p (.b false) (r_mv rfl) ?_
  refine O_nil ?_
  refine C_seq ?_
  refine C_region ?_
  refine O_call (Ev.mono (awake_ev hO0.ok) fun v1 H2 hq3 => ?_)
  obtain ⟨rfl, hK4⟩ := hq3
  have hx_hK4 := hK4.next
  have hO5 := hO0.trans hK4
  have hx_hO5 := hO5.next
  refine O_p (.b true) (r_mv rfl) ?_
  refine O_nil ?_
  refine C_seq ?_
  refine C_seq ?_
  refine C_region ?_
  refine O_p (.sl ka key.length kc 0) (r_mv rfl) ?_
  refine O_p (.i .i64 (((key.length : Nat)) : Int)) (r_len rfl) ?_
  refine O_p (.b (decide (300 < (((key.length : Nat)) : Int)))) (r_gtr rfl rfl) ?_
  refine O_p (.b (decide (300 < (((key.length : Nat)) : Int)))) (r_mv rfl) ?_
  refine O_gx (e := (!(decide (300 < (((key.length : Nat)) : Int))))) (v := (.sl ba b.length bc 0)) (wf rfl) (fun he => (r_mv rfl)) ?_
  refine O_gx (e := (!(decide (300 < (((key.length : Nat)) : Int))))) (v := (.i .i64 (((b.length : Nat)) : Int))) (wf rfl) (fun he => (r_len (cond_pos he))) ?_
  refine O_gx (e := (!(decide (300 < (((key.length : Nat)) : Int))))) (v := (.b (decide (300 < (((b.length : Nat)) : Int))))) (wf rfl) (fun he => (r_gtr (cond_pos he) rfl)) ?_
  refine O_p (.b ((decide (300 < (((key.length : Nat)) : Int))) || (decide (300 < (((b.length : Nat)) : Int))))) (r_pick_or rfl rfl rfl rfl) ?_
  refine O_nil ?_
  refine C_cond (x := ((decide (300 < (((key.length : Nat)) : Int))) || (decide (300 < (((b.length : Nat)) : Int))))) rfl (fun hc6 => ?_) (fun hc6 => ?_)
  ·
    simp only [decide_eq_true_eq, decide_eq_false_iff_not, Bool.not_eq_true', Bool.not_eq_false', Bool.and_eq_true, Bool.or_eq_true, Bool.or_eq_false_iff, Bool.not_not] at hc6
    refine C_seq ?_
    refine C_region ?_
    refine O_p (.b true) (r_mv rfl) ?_
    refine O_p (.b true) (r_mv rfl) ?_
    refine O_nil ?_
    refine C_ret ?_
    refine nx_ret ?_
    exact ⟨.inr rfl, _, resL_one (r_tmp (v := .b true) rfl), rfl⟩
  ·
    simp only [decide_eq_true_eq, decide_eq_false_iff_not, Bool.not_eq_true', Bool.not_eq_false', Bool.and_eq_true, Bool.or_eq_true, Bool.or_eq_false_iff, Bool.not_not] at hc6
    refine C_skip ?_
    refine C_seq ?_
    refine C_region ?_
    refine O_p (.sl ka key.length kc 0) (r_mv rfl) ?_
    refine O_p (.sl ba b.length bc 0) (r_mv rfl) ?_
    refine O_call (Ev.mono (dec_ev hO5.ok (.inl rfl) (khb.old hok hO5) (by first | omega | (simp only [List.length_take, List.length_drop, List.length_append, List.length_cons, List.length_nil, beN_len] <;> omega)) (by first | omega | (simp only [List.length_take, List.length_drop, List.length_append, List.length_cons, List.length_nil, beN_len] <;> omega)) (.inl rfl) (bhb.old hok hO5) (by first | omega | (simp only [List.length_take, List.length_drop, List.length_append, List.length_cons, List.length_nil, beN_len] <;> omega)) (by first | omega | (simp only [List.length_take, List.length_drop, List.length_append, List.length_cons, List.length_nil, beN_len] <;> omega))) fun v7 H8 hq9 => ?_)
    simp only [cSt_bad hce] at hq9
    obtain ⟨rfl, hK10⟩ := hq9
    have hx_hK10 := hK10.next
    have hO11 := hO5.trans hK10
    have hx_hO11 := hO11.next
    refine O_p (.tup [(.agg [(.i .i64 0), (.i .i64 0), (.i .u32 0), (.i .u32 0), (.i .u32 0), (.i .u32 0), (.i .u32 0), (.i .u16 0), (.i .u16 0), (.i .u32 0), (.i .u32 0)]), (.i .i64 (cErr key b))]) (r_mv rfl) ?_
    refine O_p (.agg [(.i .i64 0), (.i .i64 0), (.i .u32 0), (.i .u32 0), (.i .u32 0), (.i .u32 0), (.i .u32 0), (.i .u16 0), (.i .u16 0), (.i .u32 0), (.i .u32 0)]) (r_ext rfl rfl) ?_
    refine O_p (.i .i64 (cErr key b)) (r_ext rfl rfl) ?_
    refine O_alloc fun n12 H13 hN14 => ?_
    have hF15 := hN14.fr (fun _ => False)
    have hO16 := hO11.new hN14
    have hx_hO16 := hO16.next
    have hnm_n12 : n12 = H8.next := hN14.1
    have hnx_H13 : H13.next = H8.next + 1 := hN14.2.1
    have hlt_n12 : n12 < H13.next := by omega
    refine O_store (vs := [(.i .i64 0), (.i .i64 0), (.i .u32 0), (.i .u32 0), (.i .u32 0), (.i .u32 0), (.i .u32 0), (.i .u16 0), (.i .u16 0), (.i .u32 0), (.i .u32 0)]) (c' := [(.i .i64 0), (.i .i64 0), (.i .u32 0), (.i .u32 0), (.i .u32 0), (.i .u32 0), (.i .u32 0), (.i .u16 0), (.i .u16 0), (.i .u32 0), (.i .u32 0)]) rfl (by rfl) hN14.2.2.1 rfl (List.cons_ne_nil _ _) (Nat.le_of_ble_eq_true rfl) rfl fun H17 hW18 => ?_
    have hO19 := hO16.wr hW18 (by omega) (by omega)
    have hx_hO19 := hO19.next
    have hnx_H17 : H17.next = H13.next := hW18.1
    have hlt_n12 : n12 < H17.next := by omega
    refine O_p (.i .i64 (cErr key b)) (r_mv rfl) ?_
    refine O_nil ?_
    refine C_seq ?_
    refine C_seq ?_
    refine C_region ?_
    refine O_p (.i .i64 (cErr key b)) (r_mv rfl) ?_
    refine O_p (.b true) (by exact (by rw [r_neq rfl rfl, decide_eq_false (by first | omega | assumption)]; rfl)) ?_
    refine O_nil ?_
    refine C_cond (x := true) rfl (fun _ => ?_) (fun h => by cases h)
    refine C_seq ?_
    refine C_region ?_
    refine O_p (.b true) (r_mv rfl) ?_
    refine O_p (.b true) (r_mv rfl) ?_
    refine O_gs (v := (.agg [(.i .i64 0), (.i .i64 0), (.i .u32 0), (.i .u32 0), (.i .u32 0), (.i .u32 0), (.i .u32 0), (.i .u16 0), (.i .u16 0), (.i .u32 0), (.i .u32 0)])) rfl (r_ldA rfl hW18.2.1 rfl) ?_
    refine O_gs (v := (.agg [(.i .i64 0), (.i .i64 0), (.i .i64 0), (.i .i64 0), (.i .i64 0), (.i .i64 0), (.i .i64 0), (.i .i64 0), (.i .i64 0), (.i .i64 0), (.i .i64 0)])) rfl (r_build rfl) ?_
    refine O_gcall rfl (Ev.mono (alike_ev hO19.ok 0 0 0 0 0 0 0 0 0 0 0 (by decide) (by decide) (by decide) (by decide) (by decide) (by decide) (by decide) (by decide) (by decide)) fun v20 H21 hq22 => ?_)
    obtain ⟨rfl, hK23⟩ := hq22
    have hb24 := (hK23.keep _ (by omega)).trans hW18.2.1
    have hx_hK23 := hK23.next
    have hlt_n12 : n12 < H21.next := by omega
    have hO25 := hO19.trans hK23
    have hx_hO25 := hO25.next
    refine O_p (.b true) (r_pick_t rfl rfl) ?_
    refine O_p (.b true) (r_mv rfl) ?_
    refine O_nil ?_
    refine C_ret ?_
    refine nx_ret ?_
    exact ⟨.inr rfl, _, resL_one (r_tmp (v := .b true) rfl), rfl⟩
set_option maxRecDepth 100000 in
set_option maxHeartbeats 4000000 in
theorem run6ok (H : AH) (hok : H.Ok) (ka : Option (Nat × Nat)) (kc : Nat) (key : List UInt8) (khb : Bs H (.sl ka key.length kc 0) key) (khc : key.length ≤ kc) (khm0 : kc ≤ maxLen) (ba : Option (Nat × Nat)) (bc : Nat) (b : List UInt8) (bhb : Bs H (.sl ba b.length bc 0) b) (bhc : b.length ≤ bc) (bhm0 : bc ≤ maxLen) (hce : cErr key b = 0) : Ev tabA spA (.fn (.func 6) [] []) [.sl ka key.length kc 0, .sl ba b.length bc 0] H (fun v _ => v = .b true) := by
  refine Ev_C (F := x6) rfl ?_
  have hO0 := Old.refl hok
  have khm : kc ≤ 9223372036854775807 := khm0
  have bhm : bc ≤ 9223372036854775807 := bhm0
  have h12 : tabA 12 = some x12 := rfl
  have h13 : tabA 13 = some x13 := rfl
  have hk16 := (cErr_parts hce).1
  refine C_seq ?_
  refine C_region ?_
  refine O_p (.b false) (r_mv rfl) ?_
  refine O_nil ?_
  refine C_seq ?_
  refine C_region ?_
  refine O_call (Ev.mono (awake_ev hO0.ok) fun v1 H2 hq3 => ?_)
  obtain ⟨rfl, hK4⟩ := hq3
  have hx_hK4 := hK4.next
  have hO5 := hO0.trans hK4
  have hx_hO5 := hO5.next
  refine O_p (.b true) (r_mv rfl) ?_
  refine O_nil ?_
  refine C_seq ?_
  refine C_seq ?_
  refine C_region ?_
  refine O_p (.sl ka key.length kc 0) (r_mv rfl) ?_
  refine O_p (.i .i64 (((key.length : Nat)) : Int)) (r_len rfl) ?_
  refine O_p (.b (decide (300 < (((key.length : Nat)) : Int)))) (r_gtr rfl rfl) ?_
  refine O_p (.b (decide (300 < (((key.length : Nat)) : Int)))) (r_mv rfl) ?_
  refine O_gx (e := (!(decide (300 < (((key.length : Nat)) : Int))))) (v := (.sl ba b.length bc 0)) (wf rfl) (fun he => (r_mv rfl)) ?_
  refine O_gx (e := (!(decide (300 < (((key.length : Nat)) : Int))))) (v := (.i .i64 (((b.length : Nat)) : Int))) (wf rfl) (fun he => (r_len (cond_pos he))) ?_
  refine O_gx (e := (!(decide (300 < (((key.length : Nat)) : Int))))) (v := (.b (decide (300 < (((b.length : Nat)) : Int))))) (wf rfl) (fun he => (r_gtr (cond_pos he) rfl)) ?_
  refine O_p (.b ((decide (300 < (((key.length : Nat)) : Int))) || (decide (300 < (((b.length : Nat)) : Int))))) (r_pick_or rfl rfl rfl rfl) ?_
  refine O_nil ?_
  refine C_cond (x := ((decide (300 < (((key.length : Nat)) : Int))) || (decide (300 < (((b.length : Nat)) : Int))))) rfl (fun hc6 => ?_) (fun hc6 => ?_)
  ·
    simp only [decide_eq_true_eq, decide_eq_false_iff_not, Bool.not_eq_true', Bool.not_eq_false', Bool.and_eq_true, Bool.or_eq_true, Bool.or_eq_false_iff, Bool.not_not] at hc6
    refine C_seq ?_
    refine C_region ?_
    refine O_p (.b true) (r_mv rfl) ?_
    refine O_p (.b true) (r_mv rfl) ?_
    refine O_nil ?_
    refine C_ret ?_
    refine nx_ret ?_
    exact ⟨.inr rfl, _, resL_one (r_tmp (v := .b true) rfl), rfl⟩
  ·
    simp only [decide_eq_true_eq, decide_eq_false_iff_not, Bool.not_eq_true', Bool.not_eq_false', Bool.and_eq_true, Bool.or_eq_true, Bool.or_eq_false_iff, Bool.not_not] at hc6
    refine C_skip ?_
    refine C_seq ?_
    refine C_region ?_
    refine O_p (.sl ka key.length kc 0) (r_mv rfl) ?_
    refine O_p (.sl ba b.length bc 0) (r_mv rfl) ?_
    refine O_call (Ev.mono (dec_ev hO5.ok (.inl rfl) (khb.old hok hO5) (by first | omega | (simp only [List.length_take, List.length_drop, List.length_append, List.length_cons, List.length_nil, beN_len] <;> omega)) (by first | omega | (simp only [List.length_take, List.length_drop, List.length_append, List.length_cons, List.length_nil, beN_len] <;> omega)) (.inl rfl) (bhb.old hok hO5) (by first | omega | (simp only [List.length_take, List.length_drop, List.length_append, List.length_cons, List.length_nil, beN_len] <;> omega)) (by first | omega | (simp only [List.length_take, List.length_drop, List.length_append, List.length_cons, List.length_nil, beN_len] <;> omega))) fun v7 H8 hq9 => ?_)
    rw [hce] at hq9
    obtain ⟨rfl, hK10⟩ := hq9
    have hx_hK10 := hK10.next
    have hO11 := hO5.trans hK10
    have hx_hO11 := hO11.next
    refine O_p (.tup [(.agg [(.i .i64 (cSt key b 0)), (.i .i64 (cSt key b 1)), (.i .u32 (cSt key b 2)), (.i .u32 (cSt key b 3)), (.i .u32 (cSt key b 4)), (.i .u32 (cSt key b 5)), (.i .u32 (cSt key b 6)), (.i .u16 (cSt key b 7)), (.i .u16 (cSt key b 8)), (.i .u32 (cSt key b 9)), (.i .u32 (cSt key b 10))]), (.i .i64 0)]) (r_mv rfl) ?_
    refine O_p (.agg [(.i .i64 (cSt key b 0)), (.i .i64 (cSt key b 1)), (.i .u32 (cSt key b 2)), (.i .u32 (cSt key b 3)), (.i .u32 (cSt key b 4)), (.i .u32 (cSt key b 5)), (.i .u32 (cSt key b 6)), (.i .u16 (cSt key b 7)), (.i .u16 (cSt key b 8)), (.i .u32 (cSt key b 9)), (.i .u32 (cSt key b 10))]) (r_ext rfl rfl) ?_
    refine O_p (.i .i64 0) (r_ext rfl rfl) ?_
    refine O_alloc fun n12 H13 hN14 => ?_
    have hF15 := hN14.fr (fun _ => False)
    have hO16 := hO11.new hN14
    have hx_hO16 := hO16.next
    have hnm_n12 : n12 = H8.next := hN14.1
    have hnx_H13 : H13.next = H8.next + 1 := hN14.2.1
    have hlt_n12 : n12 < H13.next := by omega
    refine O_store (vs := [(.i .i64 (cSt key b 0)), (.i .i64 (cSt key b 1)), (.i .u32 (cSt key b 2)), (.i .u32 (cSt key b 3)), (.i .u32 (cSt key b 4)), (.i .u32 (cSt key b 5)), (.i .u32 (cSt key b 6)), (.i .u16 (cSt key b 7)), (.i .u16 (cSt key b 8)), (.i .u32 (cSt key b 9)), (.i .u32 (cSt key b 10))]) (c' := [(.i .i64 (cSt key b 0)), (.i .i64 (cSt key b 1)), (.i .u32 (cSt key b 2)), (.i .u32 (cSt key b 3)), (.i .u32 (cSt key b 4)), (.i .u32 (cSt key b 5)), (.i .u32 (cSt key b 6)), (.i .u16 (cSt key b 7)), (.i .u16 (cSt key b 8)), (.i .u32 (cSt key b 9)), (.i .u32 (cSt key b 10))]) rfl (by rfl) hN14.2.2.1 rfl (List.cons_ne_nil _ _) (Nat.le_of_ble_eq_true rfl) rfl fun H17 hW18 => ?_
    have hO19 := hO16.wr hW18 (by omega) (by omega)
    have hx_hO19 := hO19.next
    have hnx_H17 : H17.next = H13.next := hW18.1
    have hlt_n12 : n12 < H17.next := by omega
    refine O_p (.i .i64 0) (r_mv rfl) ?_
    refine O_nil ?_
    refine C_seq ?_
    refine C_seq ?_
    refine C_region ?_
    refine O_p (.i .i64 0) (r_mv rfl) ?_
    refine O_p (.b false) (r_bin rfl rfl rfl) ?_
    refine O_nil ?_
    refine C_cond (x := false) rfl (fun h => by cases h) (fun _ => ?_)
    refine C_skip ?_
    refine C_seq ?_
    refine C_region ?_
    refine O_p (.sl ka key.length kc 0) (r_mv rfl) ?_
    refine O_p (.agg [(.i .i64 (cSt key b 0)), (.i .i64 (cSt key b 1)), (.i .u32 (cSt key b 2)), (.i .u32 (cSt key b 3)), (.i .u32 (cSt key b 4)), (.i .u32 (cSt key b 5)), (.i .u32 (cSt key b 6)), (.i .u16 (cSt key b 7)), (.i .u16 (cSt key b 8)), (.i .u32 (cSt key b 9)), (.i .u32 (cSt key b 10))]) (r_ldA rfl hW18.2.1 rfl) ?_
    refine O_call (Ev.mono (enc_t hO19.ok (.inl rfl) (khb.old hok hO19) (by first | omega | (simp only [List.length_take, List.length_drop, List.length_append, List.length_cons, List.length_nil, beN_len] <;> omega)) (by first | omega | (simp only [List.length_take, List.length_drop, List.length_append, List.length_cons, List.length_nil, beN_len] <;> omega)) (cSt key b 0) (cSt key b 1) (cSt key b 2) (cSt key b 3) (cSt key b 4) (cSt key b 5) (cSt key b 6) (cSt key b 7) (cSt key b 8) (cSt key b 9) (cSt key b 10) hk16 (cSt_okS hce)) fun v20 H21 hq22 => ?_)
    obtain ⟨o23, rfl, hM24, hK25⟩ := hq22
    rw [sealed_back hce] at hM24
    have hb26 := (hK25.keep _ (by omega)).trans hW18.2.1
    have hx_hK25 := hK25.next
    have hlt_n12 : n12 < H21.next := by omega
    have hO27 := hO19.trans hK25
    have hx_hO27 := hO27.next
    have hM28 := hM24.down (N := H.next) (by omega)
    have hd29 : ¬ o23.nameOf n12 := fun hq => by have := hM24.new _ hq; omega
    refine O_p (.tup [o23, (.b true)]) (r_mv rfl) ?_
    refine O_p o23 (r_ext rfl rfl) ?_
    refine O_p (.b true) (r_ext rfl rfl) ?_
    refine O_p o23 (r_mv rfl) ?_
    refine O_p (.b true) (r_mv rfl) ?_
    refine O_nil ?_
    refine C_seq ?_
    refine C_region ?_
    refine O_p (.b true) (r_mv rfl) ?_
    refine O_p (.b true) (r_mv rfl) ?_
    refine O_gs (v := (.b true)) rfl (r_mv rfl) ?_
    refine O_p (.b true) (r_pick_t rfl rfl) ?_
    refine O_p (.b true) (r_mv rfl) ?_
    refine O_gs (v := (.sl ba b.length bc 0)) rfl (r_mv rfl) ?_
    refine O_gs (v := o23) rfl (r_mv rfl) ?_
    have hsf34 : Own 1 H21 o23 (bcells b) := hM28.own
    obtain ⟨oa30, og31, rfl, hog32, hob33⟩ := hsf34.bs
    have base35 := Old.refl hO27.ok
    refine O_gcall rfl (Ev.mono (same_ev h13 hO27.ok (.inl rfl) (bhb.old hok hO27) (by first | omega | (simp only [List.length_take, List.length_drop, List.length_append, List.length_cons, List.length_nil, beN_len] <;> omega)) (by first | omega | (simp only [List.length_take, List.length_drop, List.length_append, List.length_cons, List.length_nil, beN_len] <;> omega)) hog32 (hM28.own.asbs) (by first | omega | (simp only [List.length_take, List.length_drop, List.length_append, List.length_cons, List.length_nil, beN_len] <;> omega)) (by first | omega | (simp only [List.length_take, List.length_drop, List.length_append, List.length_cons, List.length_nil, beN_len] <;> omega))) fun v36 H37 hq38 => ?_)
    rw [show decide (b = b) = true from decide_eq_true rfl] at hq38
    obtain ⟨rfl, hq38⟩ := hq38
    subst H37
    refine O_p (.b true) (r_pick_t rfl rfl) ?_
    refine O_p (.b true) (r_mv rfl) ?_
    refine O_nil ?_
    refine C_ret ?_
    exact ⟨.inr rfl, _, resL_one (r_tmp (v := .b true) rfl), rfl⟩
theorem run6 (H : AH) (hok : H.Ok) (ka : Option (Nat × Nat)) (kc : Nat) (key : List UInt8) (khb : Bs H (.sl ka key.length kc 0) key) (khc : key.length ≤ kc) (khm0 : kc ≤ maxLen) (ba : Option (Nat × Nat)) (bc : Nat) (b : List UInt8) (bhb : Bs H (.sl ba b.length bc 0) b) (bhc : b.length ≤ bc) (bhm0 : bc ≤ maxLen) : Ev tabA spA (.fn (.func 6) [] []) [.sl ka key.length kc 0, .sl ba b.length bc 0] H (fun v _ => v = .b true) := by
  by_cases hce : cErr key b = 0
  · exact run6ok H hok ka kc key khb khc khm0 ba bc b bhb bhc bhm0 hce
  · exact run6bad H hok ka kc key khb khc khm0 ba bc b bhb bhc bhm0 hce
theorem law6 (W : World) (ρ : Rho) (H : AH) (xs : List AV) (args : Array Value) (hR : Rel Try.prog W.heap.size W ρ H W) (hro : RO H) (hv : VRL ρ xs args.toList) (ht : TypedVs Try.prog H 9 Try.f6.params.toList xs) :
    Calls Try.prog 6 args W fun e w' => e = .returned (.bool true) ∧ Below W.heap.size W w' := by
  rw [Try.params6] at ht
  obtain ⟨a0, xs, rfl, h0, a1, xs, rfl, h1, rfl⟩ := ht
  obtain ⟨p0, n0, c0, key, rfl, hb0, rfl, hc0, hm0⟩ := typed_bytes Try.underlying22 Try.underlying5 (by kernel_rfl) (typedV_slice Try.underlying22 h0)
  obtain ⟨p1, n1, c1, b, rfl, hb1, rfl, hc1, hm1⟩ := typed_bytes Try.underlying22 Try.underlying5 (by kernel_rfl) (typedV_slice Try.underlying22 h1)
  obtain ⟨k, v, H', hex, rfl⟩ := run6 H hR.aok p0 c0 key hb0 hc0 hm0 p1 c1 b hb1 hc1 hm1
  exact law_of mixed tabA_ok spA_ok hex hR hv
end Go.Proofs.Yteapgimihapefaa.E
namespace Go.Proofs.Yteapgimihapefaa.cookieOnly
open Go.ChangeShapes Go.WideShapes Go.RowKit
set_option linter.unusedVariables false
theorem own : ownKnob Try.prog.godebug = none := by kernel_rfl
theorem types : (Try.f6.params.toList.all fun t => E.fit Try.prog 9 t && (Try.prog.readableRec t && decide (t < Try.prog.types.size))) = true := by kernel_rfl
set_option maxRecDepth 100000 in
theorem lifted (os : Os) (started : os.Started) (H : Type) (enc : TypeId × Value → H) :
    ReturnsInHanded {} Try.checked os 6 .any (Rows.cookieOnlySpec.pre6 enc Try.prog Try.f6 Rows.cookieOnlyRow.domain false) (Rows.cookieOnlySpec.post enc Try.prog Try.f6 false true false false) :=
  E.law_lifted (C := Try.checked) (k := 9) (tb := 4) E.globals0 E.laid own started (by kernel_rfl) Try.func6
    (ChangeSpec.witness6 (enc := enc) (C := Try.checked) false ⟨#[], #[.slice none 0 0, .slice none 0 0], []⟩ 8 (by kernel_rfl) (by kernel_rfl) (by kernel_rfl) (by kernel_rfl))
    rfl rfl Try.underlying4 (fun t ht => by have h := List.all_eq_true.1 types t ht; simp only [Bool.and_eq_true, decide_eq_true_eq] at h; exact h)
    (fun ds hd => by
      rw [Try.params6] at hd
      match ds, hd with
      | [d0, d1], _ => rfl) E.law6
theorem over : Rows.cookieOnlyRow.holds Try.pinned (OpenSpec.ofChange Rows.cookieOnlySpec) :=
  OpenClaim.holds_of_wide 6 Try.f6 rfl rfl rfl rfl rfl rfl rfl ⟨rfl, rfl, rfl, rfl, rfl⟩ rfl rfl rfl rfl rfl (by kernel_rfl) Try.func6 (by kernel_rfl)
    (of_decide_eq_true (by kernel_rfl)) (by unfold Func.isWrapper; first | (rw [if_pos (by decide +kernel)]; kernel_rfl) | (rw [if_neg (by decide +kernel)]; exact ⟨rfl, rfl⟩))
    (fun os started H enc _ => lifted os started H enc)
end Go.Proofs.Yteapgimihapefaa.cookieOnly
namespace Go.Proofs.Yteapgimihapefaa
/-- The row, under a short name, for the claim. -/
theorem cookieOnly_holds : Rows.CookieOnlySaid := cookieOnly.over
#print axioms cookieOnly_holds
end Go.Proofs.Yteapgimihapefaa
