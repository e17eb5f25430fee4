/- The document's Decode, walked. It bears no condition. -/
import Derived.Test.YteapgimihapefaaA
import Derived.Test.YteapgimihapefaaE37
namespace Go.Proofs.Yteapgimihapefaa.E
set_option linter.unusedVariables false
set_option linter.unusedSimpArgs false
theorem num_split (l : List UInt8) {a : Nat} (h : a + 4 = l.length) (hl : l.length = 8) : num l = num (l.take 4) * 4294967296 + num (l.drop 4) := by
  have e := num_app (l.take 4) (l.drop 4)
  rw [List.take_append_drop, List.length_drop, hl] at e
  exact e
theorem be4_of {l : List UInt8} (h : l.length = 4) : beN (num l) 4 = l := by
  match l, h with
  | [a, b, c, d], _ => exact be4_num a b c d
theorem be2_of {l : List UInt8} (h : l.length = 2) : beN (num l) 2 = l := by
  match l, h with
  | [a, b], _ => exact be2_num a b
theorem num_rng (l : List UInt8) (n : Nat) (h : l.length = n) : 0 ≤ num l ∧ num l < 256 ^ n := by
  subst h; have := num_bound l l.length (Nat.le_refl _); rwa [List.take_length] at this
theorem long_back {l : List UInt8} (h : l.length = 8) : beN (w32 (Int.fdiv (num l) (2 ^ 32))) 4 ++ beN (w32 (num l)) 4 = l := by
  have h1 := num_rng (l.take 4) 4 (by rw [List.length_take]; omega)
  have h2 := num_rng (l.drop 4) 4 (by rw [List.length_drop]; omega)
  have e := num_split l (a := 4) (by omega) h
  have e1 : w32 (Int.fdiv (num l) (2 ^ 32)) = num (l.take 4) := by
    unfold w32; rw [wrap_u32, Int.fdiv_eq_ediv_of_nonneg _ (by decide), e]; omega
  have e2 : w32 (num l) = num (l.drop 4) := by unfold w32; rw [wrap_u32, e]; omega
  rw [e1, e2, be4_of (by rw [List.length_take]; omega), be4_of (by rw [List.length_drop]; omega), List.take_append_drop]
theorem piece {l : List UInt8} {k n m : Nat} : (l.drop k).take n ++ (l.drop (k + n)).take m = (l.drop k).take (n + m) := by
  rw [List.take_add, List.drop_drop]
theorem cErr_parts {key b : List UInt8} (h : cErr key b = 0) : key.length = 16 ∧ b.length = 60 ∧ b.drop 56 = [66, 79, 76, 49] ∧ code key (b.take 48) = num ((b.drop 48).take 8) ∧ num (b.take 8) ≤ 281474976710656 ∧ num ((b.drop 8).take 8) ≤ 281474976710656 := by
  unfold cErr at h
  split at h
  · cases h
  · split at h
    · cases h
    · split at h
      · cases h
      · split at h
        · cases h
        · split at h
          · rename_i h1 h2 h3 h4 h5
            have h3' := not_or.1 h3
            exact ⟨by omega, by omega, Decidable.not_not.1 h3'.2, Decidable.not_not.1 h4, h5⟩
          · cases h
theorem cSt_rng {key b : List UInt8} (h : cErr key b = 0) : (0 ≤ cSt key b 0 ∧ cSt key b 0 ≤ 281474976710656) ∧ (0 ≤ cSt key b 1 ∧ cSt key b 1 ≤ 281474976710656) ∧ (0 ≤ cSt key b 2 ∧ cSt key b 2 < 4294967296) ∧ (0 ≤ cSt key b 3 ∧ cSt key b 3 < 4294967296) ∧ (0 ≤ cSt key b 4 ∧ cSt key b 4 < 4294967296) ∧ (0 ≤ cSt key b 5 ∧ cSt key b 5 < 4294967296) ∧ (0 ≤ cSt key b 6 ∧ cSt key b 6 < 4294967296) ∧ (0 ≤ cSt key b 7 ∧ cSt key b 7 < 65536) ∧ (0 ≤ cSt key b 8 ∧ cSt key b 8 < 65536) ∧ (0 ≤ cSt key b 9 ∧ cSt key b 9 < 4294967296) ∧ (0 ≤ cSt key b 10 ∧ cSt key b 10 < 4294967296) := by
  obtain ⟨_, hl, _, _, h1, h2⟩ := cErr_parts h
  have r : ∀ k n, k + n ≤ 60 → 0 ≤ num ((b.drop k).take n) ∧ num ((b.drop k).take n) < 256 ^ n := fun k n hk => num_rng _ _ (by rw [List.length_take, List.length_drop]; omega)
  simp only [cSt_ok h]
  exact ⟨⟨(r 0 8 (by omega)).1, h1⟩, ⟨(r 8 8 (by omega)).1, h2⟩, r 16 4 (by omega), r 20 4 (by omega), r 24 4 (by omega), r 28 4 (by omega), r 32 4 (by omega), r 44 2 (by omega), r 46 2 (by omega), r 36 4 (by omega), r 40 4 (by omega)⟩
theorem sealed_iff {key b : List UInt8} (hl : b.length = 60) (hs : b.drop 56 = [66, 79, 76, 49]) : sealed key (b.take 48) = b ↔ code key (b.take 48) = num ((b.drop 48).take 8) := by
  have h48 : (b.take 48).length = 48 := by rw [List.length_take]; omega
  constructor
  · intro h
    have := sealed_code (key := key) h48
    rw [h] at this; exact this.symm
  · intro h
    unfold sealed
    rw [h, List.append_assoc (b.take 48), long_back (by rw [List.length_take, List.length_drop]; omega), ← hs]
    have p : ∀ k n m, (b.drop k).take n ++ (b.drop (k + n)).take m = (b.drop k).take (n + m) := fun k n m => piece
    have q := p 0 48 8
    rw [List.drop_zero] at q
    rw [q, List.take_append_drop]
theorem at_step {b : List UInt8} {A k : Nat} (h : A + k < b.length) : num ((b.drop A).take (k + 1)) = num ((b.drop A).take k) * 256 + ((b.getD (A + k) 0).toNat : Int) := by
  rw [num_take (by rw [List.length_drop]; omega)]
  congr 2
  rw [List.getD_eq_getElem?_getD, List.getD_eq_getElem?_getD, List.getElem?_drop]
theorem at_bound (b : List UInt8) {A k n : Nat} (h : A + n ≤ b.length) (hk : k ≤ n) : 0 ≤ num ((b.drop A).take k) ∧ num ((b.drop A).take k) < 256 ^ k ∧ num ((b.drop A).take k) ≤ num ((b.drop A).take n) := by
  have h1 := num_bound (b.drop A) k (by rw [List.length_drop]; omega)
  exact ⟨h1.1, h1.2, num_mono _ hk (by rw [List.length_drop]; omega)⟩
theorem cSt_r9 (key b : List UInt8) : (0 ≤ cSt key b 2 ∧ cSt key b 2 < 4294967296) ∧ (0 ≤ cSt key b 3 ∧ cSt key b 3 < 4294967296) ∧ (0 ≤ cSt key b 4 ∧ cSt key b 4 < 4294967296) ∧ (0 ≤ cSt key b 5 ∧ cSt key b 5 < 4294967296) ∧ (0 ≤ cSt key b 6 ∧ cSt key b 6 < 4294967296) ∧ (0 ≤ cSt key b 7 ∧ cSt key b 7 < 65536) ∧ (0 ≤ cSt key b 8 ∧ cSt key b 8 < 65536) ∧ (0 ≤ cSt key b 9 ∧ cSt key b 9 < 4294967296) ∧ (0 ≤ cSt key b 10 ∧ cSt key b 10 < 4294967296) := by
  by_cases h : cErr key b = 0
  · exact (cSt_rng h).2.2
  · simp only [cSt_bad h]; decide
theorem kSt_r9 (key b : List UInt8) (now : Int) : (0 ≤ kSt key b now 2 ∧ kSt key b now 2 < 4294967296) ∧ (0 ≤ kSt key b now 3 ∧ kSt key b now 3 < 4294967296) ∧ (0 ≤ kSt key b now 4 ∧ kSt key b now 4 < 4294967296) ∧ (0 ≤ kSt key b now 5 ∧ kSt key b now 5 < 4294967296) ∧ (0 ≤ kSt key b now 6 ∧ kSt key b now 6 < 4294967296) ∧ (0 ≤ kSt key b now 7 ∧ kSt key b now 7 < 65536) ∧ (0 ≤ kSt key b now 8 ∧ kSt key b now 8 < 65536) ∧ (0 ≤ kSt key b now 9 ∧ kSt key b now 9 < 4294967296) ∧ (0 ≤ kSt key b now 10 ∧ kSt key b now 10 < 4294967296) := by
  by_cases h : kErr key b now = 0
  · simp only [kSt_ok h]; exact cSt_r9 key b
  · simp only [kSt_bad h]; decide
set_option maxRecDepth 100000 in
set_option maxHeartbeats 4000000 in
theorem rdec_key {H : AH} (hok : H.Ok) {ka : Option (Nat × Nat)} {kn kc kg : Nat} (khg : kg = 0 ∨ kg = 1) {key : List UInt8} (khb : Bs H (.sl ka kn kc kg) key) (khc : kn ≤ kc) (khm : kc ≤ 9223372036854775807) {ba : Option (Nat × Nat)} {bn bc bg : Nat} (bhg : bg = 0 ∨ bg = 1) {b : List UInt8} (bhb : Bs H (.sl ba bn bc bg) b) (bhc : bn ≤ bc) (bhm : bc ≤ 9223372036854775807) (hk16 : ¬ key.length = 16) : Ev tabA spA (.fn (.func 15) [] []) [.sl ka kn kc kg, .sl ba bn bc bg] H (fun r H' => r = .tup [.agg [.i .i64 (cSt key b 0), .i .i64 (cSt key b 1), .i .i64 (cSt key b 2), .i .i64 (cSt key b 3), .i .i64 (cSt key b 4), .i .i64 (cSt key b 5), .i .i64 (cSt key b 6), .i .i64 (cSt key b 9), .i .i64 (cSt key b 10), .i .i64 (cSt key b 7), .i .i64 (cSt key b 8)], .i .i64 (cErr key b)] ∧ Kp H H') := by
  have khl := khb.length
  subst khl
  refine Ev_C (F := x15) rfl ?_
  have bhl := bhb.length
  subst bhl
  have hO0 := Old.refl hok
  have h24 : tabA 24 = some x24 := rfl
  have h37 : tabA 37 = some x37 := rfl
  refine C_seq ?_
  refine C_region ?_
  refine O_alloc fun n1 H2 hN3 => ?_
  have hF4 := hN3.fr (fun _ => False)
  have hO5 := hO0.new hN3
  have hx_hO5 := hO5.next
  have hnm_n1 : n1 = H.next := hN3.1
  have hnx_H2 : H2.next = H.next + 1 := hN3.2.1
  have hlt_n1 : n1 < H2.next := by omega
  refine O_p (.i .i64 0) (r_mv rfl) ?_
  refine O_nil ?_
  refine C_seq ?_
  refine C_seq ?_
  refine C_region ?_
  refine O_p (.sl ka key.length kc kg) (r_mv rfl) ?_
  refine O_p (.i .i64 (((key.length : Nat)) : Int)) (r_len rfl) ?_
  refine O_p (.b true) (by exact (by rw [r_neq rfl rfl, decide_eq_false (by omega)]; rfl)) ?_
  refine O_nil ?_
  refine C_cond (x := true) rfl (fun _ => ?_) (fun h => by cases h)
  refine C_seq ?_
  refine C_region ?_
  refine O_p (.agg [(.i .i64 0), (.i .i64 0), (.i .i64 0), (.i .i64 0), (.i .i64 0), (.i .i64 0), (.i .i64 0), (.i .i64 0), (.i .i64 0), (.i .i64 0), (.i .i64 0)]) (r_build rfl) ?_
  refine O_store (vs := [(.i .i64 0), (.i .i64 0), (.i .i64 0), (.i .i64 0), (.i .i64 0), (.i .i64 0), (.i .i64 0), (.i .i64 0), (.i .i64 0), (.i .i64 0), (.i .i64 0)]) (c' := [(.i .i64 0), (.i .i64 0), (.i .i64 0), (.i .i64 0), (.i .i64 0), (.i .i64 0), (.i .i64 0), (.i .i64 0), (.i .i64 0), (.i .i64 0), (.i .i64 0)]) rfl (by rfl) hN3.2.2.1 rfl (List.cons_ne_nil _ _) (Nat.le_of_ble_eq_true rfl) rfl fun H6 hW7 => ?_
  have hO8 := hO5.wr hW7 (by omega) (by omega)
  have hx_hO8 := hO8.next
  have hnx_H6 : H6.next = H2.next := hW7.1
  have hlt_n1 : n1 < H6.next := by omega
  refine O_p (.i .i64 1) (r_mv rfl) ?_
  refine O_nil ?_
  refine C_ret ?_
  refine nx_ret ?_
  have he := cErr_1 (b := b) hk16
  have hb0 : ¬ cErr key b = 0 := by rw [he]; decide
  exact ⟨.inr rfl, _, resL_cons (r_cellA rfl hW7.2.1 rfl) (resL_one (r_tmp (v := (.i .i64 1)) rfl)), by simp only [cSt_bad hb0, he]; rfl, hO8⟩
set_option maxRecDepth 100000 in
set_option maxHeartbeats 4000000 in
theorem rdec_short {H : AH} (hok : H.Ok) {ka : Option (Nat × Nat)} {kn kc kg : Nat} (khg : kg = 0 ∨ kg = 1) {key : List UInt8} (khb : Bs H (.sl ka kn kc kg) key) (khc : kn ≤ kc) (khm : kc ≤ 9223372036854775807) {ba : Option (Nat × Nat)} {bn bc bg : Nat} (bhg : bg = 0 ∨ bg = 1) {b : List UInt8} (bhb : Bs H (.sl ba bn bc bg) b) (bhc : bn ≤ bc) (bhm : bc ≤ 9223372036854775807) (hk16 : key.length = 16) (hl60 : b.length < 60) : Ev tabA spA (.fn (.func 15) [] []) [.sl ka kn kc kg, .sl ba bn bc bg] H (fun r H' => r = .tup [.agg [.i .i64 (cSt key b 0), .i .i64 (cSt key b 1), .i .i64 (cSt key b 2), .i .i64 (cSt key b 3), .i .i64 (cSt key b 4), .i .i64 (cSt key b 5), .i .i64 (cSt key b 6), .i .i64 (cSt key b 9), .i .i64 (cSt key b 10), .i .i64 (cSt key b 7), .i .i64 (cSt key b 8)], .i .i64 (cErr key b)] ∧ Kp H H') := by
  have khl := khb.length
  subst khl
  refine Ev_C (F := x15) rfl ?_
  have bhl := bhb.length
  subst bhl
  have hO0 := Old.refl hok
  have h24 : tabA 24 = some x24 := rfl
  have h37 : tabA 37 = some x37 := rfl
  refine C_seq ?_
  refine C_region ?_
  refine O_alloc fun n1 H2 hN3 => ?_
  have hF4 := hN3.fr (fun _ => False)
  have hO5 := hO0.new hN3
  have hx_hO5 := hO5.next
  have hnm_n1 : n1 = H.next := hN3.1
  have hnx_H2 : H2.next = H.next + 1 := hN3.2.1
  have hlt_n1 : n1 < H2.next := by omega
  refine O_p (.i .i64 0) (r_mv rfl) ?_
  refine O_nil ?_
  refine C_seq ?_
  refine C_seq ?_
  refine C_region ?_
  refine O_p (.sl ka key.length kc kg) (r_mv rfl) ?_
  refine O_p (.i .i64 (((key.length : Nat)) : Int)) (r_len rfl) ?_
  refine O_p (.b false) (by exact (by rw [r_neq rfl rfl, decide_eq_true (by omega)]; rfl)) ?_
  refine O_nil ?_
  refine C_cond (x := false) rfl (fun h => by cases h) (fun _ => ?_)
  refine C_skip ?_
  refine C_seq ?_
  refine C_seq ?_
  refine C_region ?_
  refine O_p (.sl ba b.length bc bg) (r_mv rfl) ?_
  refine O_p (.i .i64 (((b.length : Nat)) : Int)) (r_len rfl) ?_
  refine O_p (.b true) (by exact (by rw [r_lss rfl rfl, decide_eq_true (by omega)])) ?_
  refine O_nil ?_
  refine C_cond (x := true) rfl (fun _ => ?_) (fun h => by cases h)
  refine C_seq ?_
  refine C_region ?_
  refine O_p (.agg [(.i .i64 0), (.i .i64 0), (.i .i64 0), (.i .i64 0), (.i .i64 0), (.i .i64 0), (.i .i64 0), (.i .i64 0), (.i .i64 0), (.i .i64 0), (.i .i64 0)]) (r_build rfl) ?_
  refine O_store (vs := [(.i .i64 0), (.i .i64 0), (.i .i64 0), (.i .i64 0), (.i .i64 0), (.i .i64 0), (.i .i64 0), (.i .i64 0), (.i .i64 0), (.i .i64 0), (.i .i64 0)]) (c' := [(.i .i64 0), (.i .i64 0), (.i .i64 0), (.i .i64 0), (.i .i64 0), (.i .i64 0), (.i .i64 0), (.i .i64 0), (.i .i64 0), (.i .i64 0), (.i .i64 0)]) rfl (by rfl) hN3.2.2.1 rfl (List.cons_ne_nil _ _) (Nat.le_of_ble_eq_true rfl) rfl fun H6 hW7 => ?_
  have hO8 := hO5.wr hW7 (by omega) (by omega)
  have hx_hO8 := hO8.next
  have hnx_H6 : H6.next = H2.next := hW7.1
  have hlt_n1 : n1 < H6.next := by omega
  refine O_p (.i .i64 2) (r_mv rfl) ?_
  refine O_nil ?_
  refine C_ret ?_
  refine nx_ret ?_
  have he := cErr_2 (b := b) hk16 (by omega)
  have hb0 : ¬ cErr key b = 0 := by rw [he]; decide
  exact ⟨.inr rfl, _, resL_cons (r_cellA rfl hW7.2.1 rfl) (resL_one (r_tmp (v := (.i .i64 2)) rfl)), by simp only [cSt_bad hb0, he]; rfl, hO8⟩
set_option maxRecDepth 100000 in
set_option maxHeartbeats 4000000 in
theorem rdec_long {H : AH} (hok : H.Ok) {ka : Option (Nat × Nat)} {kn kc kg : Nat} (khg : kg = 0 ∨ kg = 1) {key : List UInt8} (khb : Bs H (.sl ka kn kc kg) key) (khc : kn ≤ kc) (khm : kc ≤ 9223372036854775807) {ba : Option (Nat × Nat)} {bn bc bg : Nat} (bhg : bg = 0 ∨ bg = 1) {b : List UInt8} (bhb : Bs H (.sl ba bn bc bg) b) (bhc : bn ≤ bc) (bhm : bc ≤ 9223372036854775807) (hk16 : key.length = 16) (hl60 : 60 < b.length) : Ev tabA spA (.fn (.func 15) [] []) [.sl ka kn kc kg, .sl ba bn bc bg] H (fun r H' => r = .tup [.agg [.i .i64 (cSt key b 0), .i .i64 (cSt key b 1), .i .i64 (cSt key b 2), .i .i64 (cSt key b 3), .i .i64 (cSt key b 4), .i .i64 (cSt key b 5), .i .i64 (cSt key b 6), .i .i64 (cSt key b 9), .i .i64 (cSt key b 10), .i .i64 (cSt key b 7), .i .i64 (cSt key b 8)], .i .i64 (cErr key b)] ∧ Kp H H') := by
  have khl := khb.length
  subst khl
  refine Ev_C (F := x15) rfl ?_
  have bhl := bhb.length
  subst bhl
  have hO0 := Old.refl hok
  have h24 : tabA 24 = some x24 := rfl
  have h37 : tabA 37 = some x37 := rfl
  refine C_seq ?_
  refine C_region ?_
  refine O_alloc fun n1 H2 hN3 => ?_
  have hF4 := hN3.fr (fun _ => False)
  have hO5 := hO0.new hN3
  have hx_hO5 := hO5.next
  have hnm_n1 : n1 = H.next := hN3.1
  have hnx_H2 : H2.next = H.next + 1 := hN3.2.1
  have hlt_n1 : n1 < H2.next := by omega
  refine O_p (.i .i64 0) (r_mv rfl) ?_
  refine O_nil ?_
  refine C_seq ?_
  refine C_seq ?_
  refine C_region ?_
  refine O_p (.sl ka key.length kc kg) (r_mv rfl) ?_
  refine O_p (.i .i64 (((key.length : Nat)) : Int)) (r_len rfl) ?_
  refine O_p (.b false) (by exact (by rw [r_neq rfl rfl, decide_eq_true (by omega)]; rfl)) ?_
  refine O_nil ?_
  refine C_cond (x := false) rfl (fun h => by cases h) (fun _ => ?_)
  refine C_skip ?_
  refine C_seq ?_
  refine C_seq ?_
  refine C_region ?_
  refine O_p (.sl ba b.length bc bg) (r_mv rfl) ?_
  refine O_p (.i .i64 (((b.length : Nat)) : Int)) (r_len rfl) ?_
  refine O_p (.b false) (by exact (by rw [r_lss rfl rfl, decide_eq_false (by omega)])) ?_
  refine O_nil ?_
  refine C_cond (x := false) rfl (fun h => by cases h) (fun _ => ?_)
  refine C_skip ?_
  refine C_seq ?_
  refine C_seq ?_
  refine C_region ?_
  refine O_p (.sl ba b.length bc bg) (r_mv rfl) ?_
  refine O_p (.i .i64 (((b.length : Nat)) : Int)) (r_len rfl) ?_
  refine O_p (.b true) (by exact (by rw [r_gtr rfl rfl, decide_eq_true (by omega)])) ?_
  refine O_p (.b true) (r_mv rfl) ?_
  refine O_gf rfl ?_
  refine O_gf rfl ?_
  refine O_gf rfl ?_
  refine O_gf rfl ?_
  refine O_p (.b true) (r_pick_t rfl rfl) ?_
  refine O_nil ?_
  refine C_cond (x := true) rfl (fun _ => ?_) (fun h => by cases h)
  refine C_seq ?_
  refine C_region ?_
  refine O_p (.agg [(.i .i64 0), (.i .i64 0), (.i .i64 0), (.i .i64 0), (.i .i64 0), (.i .i64 0), (.i .i64 0), (.i .i64 0), (.i .i64 0), (.i .i64 0), (.i .i64 0)]) (r_build rfl) ?_
  refine O_store (vs := [(.i .i64 0), (.i .i64 0), (.i .i64 0), (.i .i64 0), (.i .i64 0), (.i .i64 0), (.i .i64 0), (.i .i64 0), (.i .i64 0), (.i .i64 0), (.i .i64 0)]) (c' := [(.i .i64 0), (.i .i64 0), (.i .i64 0), (.i .i64 0), (.i .i64 0), (.i .i64 0), (.i .i64 0), (.i .i64 0), (.i .i64 0), (.i .i64 0), (.i .i64 0)]) rfl (by rfl) hN3.2.2.1 rfl (List.cons_ne_nil _ _) (Nat.le_of_ble_eq_true rfl) rfl fun H6 hW7 => ?_
  have hO8 := hO5.wr hW7 (by omega) (by omega)
  have hx_hO8 := hO8.next
  have hnx_H6 : H6.next = H2.next := hW7.1
  have hlt_n1 : n1 < H6.next := by omega
  refine O_p (.i .i64 3) (r_mv rfl) ?_
  refine O_nil ?_
  refine C_ret ?_
  refine nx_ret ?_
  have he := cErr_3 (b := b) hk16 (by omega) (.inl (by omega))
  have hb0 : ¬ cErr key b = 0 := by rw [he]; decide
  exact ⟨.inr rfl, _, resL_cons (r_cellA rfl hW7.2.1 rfl) (resL_one (r_tmp (v := (.i .i64 3)) rfl)), by simp only [cSt_bad hb0, he]; rfl, hO8⟩
set_option maxRecDepth 100000 in
set_option maxHeartbeats 4000000 in
theorem rdec_sign {H : AH} (hok : H.Ok) {ka : Option (Nat × Nat)} {kn kc kg : Nat} (khg : kg = 0 ∨ kg = 1) {key : List UInt8} (khb : Bs H (.sl ka kn kc kg) key) (khc : kn ≤ kc) (khm : kc ≤ 9223372036854775807) {ba : Option (Nat × Nat)} {bn bc bg : Nat} (bhg : bg = 0 ∨ bg = 1) {b : List UInt8} (bhb : Bs H (.sl ba bn bc bg) b) (bhc : bn ≤ bc) (bhm : bc ≤ 9223372036854775807) (hk16 : key.length = 16) (hl60 : b.length = 60) (hsg : ¬ b.drop 56 = [66, 79, 76, 49]) : Ev tabA spA (.fn (.func 15) [] []) [.sl ka kn kc kg, .sl ba bn bc bg] H (fun r H' => r = .tup [.agg [.i .i64 (cSt key b 0), .i .i64 (cSt key b 1), .i .i64 (cSt key b 2), .i .i64 (cSt key b 3), .i .i64 (cSt key b 4), .i .i64 (cSt key b 5), .i .i64 (cSt key b 6), .i .i64 (cSt key b 9), .i .i64 (cSt key b 10), .i .i64 (cSt key b 7), .i .i64 (cSt key b 8)], .i .i64 (cErr key b)] ∧ Kp H H') := by
  have khl := khb.length
  subst khl
  refine Ev_C (F := x15) rfl ?_
  have bhl := bhb.length
  subst bhl
  have hO0 := Old.refl hok
  have h24 : tabA 24 = some x24 := rfl
  have h37 : tabA 37 = some x37 := rfl
  refine C_seq ?_
  refine C_region ?_
  refine O_alloc fun n1 H2 hN3 => ?_
  have hF4 := hN3.fr (fun _ => False)
  have hO5 := hO0.new hN3
  have hx_hO5 := hO5.next
  have hnm_n1 : n1 = H.next := hN3.1
  have hnx_H2 : H2.next = H.next + 1 := hN3.2.1
  have hlt_n1 : n1 < H2.next := by omega
  refine O_p (.i .i64 0) (r_mv rfl) ?_
  refine O_nil ?_
  refine C_seq ?_
  refine C_seq ?_
  refine C_region ?_
  refine O_p (.sl ka key.length kc kg) (r_mv rfl) ?_
  refine O_p (.i .i64 (((key.length : Nat)) : Int)) (r_len rfl) ?_
  refine O_p (.b false) (by exact (by rw [r_neq rfl rfl, decide_eq_true (by omega)]; rfl)) ?_
  refine O_nil ?_
  refine C_cond (x := false) rfl (fun h => by cases h) (fun _ => ?_)
  refine C_skip ?_
  refine C_seq ?_
  refine C_seq ?_
  refine C_region ?_
  refine O_p (.sl ba b.length bc bg) (r_mv rfl) ?_
  refine O_p (.i .i64 (((b.length : Nat)) : Int)) (r_len rfl) ?_
  refine O_p (.b false) (by exact (by rw [r_lss rfl rfl, decide_eq_false (by omega)])) ?_
  refine O_nil ?_
  refine C_cond (x := false) rfl (fun h => by cases h) (fun _ => ?_)
  refine C_skip ?_
  refine C_seq ?_
  refine C_seq ?_
  refine C_region ?_
  refine O_p (.sl ba b.length bc bg) (r_mv rfl) ?_
  refine O_p (.i .i64 (((b.length : Nat)) : Int)) (r_len rfl) ?_
  refine O_p (.b false) (by exact (by rw [r_gtr rfl rfl, decide_eq_false (by omega)])) ?_
  refine O_p (.b false) (r_mv rfl) ?_
  refine O_gs (v := (.sl ba b.length bc bg)) rfl (r_mv rfl) ?_
  refine O_gqs rfl (by exact Bs.lo bhb bhg rfl (i := 56) rfl (by first | omega | (simp only [List.length_take, List.length_drop, List.length_append, List.length_cons, List.length_nil, beN_len] <;> omega)) (by first | omega | (simp only [List.length_take, List.length_drop, List.length_append, List.length_cons, List.length_nil, beN_len] <;> omega))) fun v9 hv8 => ?_
  obtain ⟨a6, rfl, hb7⟩ := hv8
  refine O_gs (v := (.s (txt (b.drop 56)))) rfl ((hb7.old hok hO5).text rfl) ?_
  refine O_gs (v := (.b true)) rfl (by exact (by rw [r_eqtn (a := b.drop 56) (b := [66, 79, 76, 49]) rfl rfl, decide_eq_false hsg]; rfl)) ?_
  refine O_p (.b true) (r_pick_f rfl rfl) ?_
  refine O_nil ?_
  refine C_cond (x := true) rfl (fun _ => ?_) (fun h => by cases h)
  refine C_seq ?_
  refine C_region ?_
  refine O_p (.agg [(.i .i64 0), (.i .i64 0), (.i .i64 0), (.i .i64 0), (.i .i64 0), (.i .i64 0), (.i .i64 0), (.i .i64 0), (.i .i64 0), (.i .i64 0), (.i .i64 0)]) (r_build rfl) ?_
  refine O_store (vs := [(.i .i64 0), (.i .i64 0), (.i .i64 0), (.i .i64 0), (.i .i64 0), (.i .i64 0), (.i .i64 0), (.i .i64 0), (.i .i64 0), (.i .i64 0), (.i .i64 0)]) (c' := [(.i .i64 0), (.i .i64 0), (.i .i64 0), (.i .i64 0), (.i .i64 0), (.i .i64 0), (.i .i64 0), (.i .i64 0), (.i .i64 0), (.i .i64 0), (.i .i64 0)]) rfl (by rfl) hN3.2.2.1 rfl (List.cons_ne_nil _ _) (Nat.le_of_ble_eq_true rfl) rfl fun H10 hW11 => ?_
  have hO12 := hO5.wr hW11 (by omega) (by omega)
  have hx_hO12 := hO12.next
  have hnx_H10 : H10.next = H2.next := hW11.1
  have hlt_n1 : n1 < H10.next := by omega
  refine O_p (.i .i64 3) (r_mv rfl) ?_
  refine O_nil ?_
  refine C_ret ?_
  refine nx_ret ?_
  have he := cErr_3 (b := b) hk16 (by omega) (.inr hsg)
  have hb0 : ¬ cErr key b = 0 := by rw [he]; decide
  exact ⟨.inr rfl, _, resL_cons (r_cellA rfl hW11.2.1 rfl) (resL_one (r_tmp (v := (.i .i64 3)) rfl)), by simp only [cSt_bad hb0, he]; rfl, hO12⟩
set_option maxRecDepth 100000 in
set_option maxHeartbeats 4000000 in
theorem rdec_code {H : AH} (hok : H.Ok) {ka : Option (Nat × Nat)} {kn kc kg : Nat} (khg : kg = 0 ∨ kg = 1) {key : List UInt8} (khb : Bs H (.sl ka kn kc kg) key) (khc : kn ≤ kc) (khm : kc ≤ 9223372036854775807) {ba : Option (Nat × Nat)} {bn bc bg : Nat} (bhg : bg = 0 ∨ bg = 1) {b : List UInt8} (bhb : Bs H (.sl ba bn bc bg) b) (bhc : bn ≤ bc) (bhm : bc ≤ 9223372036854775807) (hk16 : key.length = 16) (hl60 : b.length = 60) (hsg : b.drop 56 = [66, 79, 76, 49]) (hcd : ¬ code key (b.take 48) = num ((b.drop 48).take 8)) : Ev tabA spA (.fn (.func 15) [] []) [.sl ka kn kc kg, .sl ba bn bc bg] H (fun r H' => r = .tup [.agg [.i .i64 (cSt key b 0), .i .i64 (cSt key b 1), .i .i64 (cSt key b 2), .i .i64 (cSt key b 3), .i .i64 (cSt key b 4), .i .i64 (cSt key b 5), .i .i64 (cSt key b 6), .i .i64 (cSt key b 9), .i .i64 (cSt key b 10), .i .i64 (cSt key b 7), .i .i64 (cSt key b 8)], .i .i64 (cErr key b)] ∧ Kp H H') := by
  have khl := khb.length
  subst khl
  refine Ev_C (F := x15) rfl ?_
  have bhl := bhb.length
  subst bhl
  have hO0 := Old.refl hok
  have h24 : tabA 24 = some x24 := rfl
  have h37 : tabA 37 = some x37 := rfl
  refine C_seq ?_
  refine C_region ?_
  refine O_alloc fun n1 H2 hN3 => ?_
  have hF4 := hN3.fr (fun _ => False)
  have hO5 := hO0.new hN3
  have hx_hO5 := hO5.next
  have hnm_n1 : n1 = H.next := hN3.1
  have hnx_H2 : H2.next = H.next + 1 := hN3.2.1
  have hlt_n1 : n1 < H2.next := by omega
  refine O_p (.i .i64 0) (r_mv rfl) ?_
  refine O_nil ?_
  refine C_seq ?_
  refine C_seq ?_
  refine C_region ?_
  refine O_p (.sl ka key.length kc kg) (r_mv rfl) ?_
  refine O_p (.i .i64 (((key.length : Nat)) : Int)) (r_len rfl) ?_
  refine O_p (.b false) (by exact (by rw [r_neq rfl rfl, decide_eq_true (by omega)]; rfl)) ?_
  refine O_nil ?_
  refine C_cond (x := false) rfl (fun h => by cases h) (fun _ => ?_)
  refine C_skip ?_
  refine C_seq ?_
  refine C_seq ?_
  refine C_region ?_
  refine O_p (.sl ba b.length bc bg) (r_mv rfl) ?_
  refine O_p (.i .i64 (((b.length : Nat)) : Int)) (r_len rfl) ?_
  refine O_p (.b false) (by exact (by rw [r_lss rfl rfl, decide_eq_false (by omega)])) ?_
  refine O_nil ?_
  refine C_cond (x := false) rfl (fun h => by cases h) (fun _ => ?_)
  refine C_skip ?_
  refine C_seq ?_
  refine C_seq ?_
  refine C_region ?_
  refine O_p (.sl ba b.length bc bg) (r_mv rfl) ?_
  refine O_p (.i .i64 (((b.length : Nat)) : Int)) (r_len rfl) ?_
  refine O_p (.b false) (by exact (by rw [r_gtr rfl rfl, decide_eq_false (by omega)])) ?_
  refine O_p (.b false) (r_mv rfl) ?_
  refine O_gs (v := (.sl ba b.length bc bg)) rfl (r_mv rfl) ?_
  refine O_gqs rfl (by exact Bs.lo bhb bhg rfl (i := 56) rfl (by first | omega | (simp only [List.length_take, List.length_drop, List.length_append, List.length_cons, List.length_nil, beN_len] <;> omega)) (by first | omega | (simp only [List.length_take, List.length_drop, List.length_append, List.length_cons, List.length_nil, beN_len] <;> omega))) fun v9 hv8 => ?_
  obtain ⟨a6, rfl, hb7⟩ := hv8
  refine O_gs (v := (.s (txt (b.drop 56)))) rfl ((hb7.old hok hO5).text rfl) ?_
  refine O_gs (v := (.b false)) rfl (by exact (by rw [r_eqtn (a := b.drop 56) (b := [66, 79, 76, 49]) rfl rfl, decide_eq_true hsg]; rfl)) ?_
  refine O_p (.b false) (r_pick_f rfl rfl) ?_
  refine O_nil ?_
  refine C_cond (x := false) rfl (fun h => by cases h) (fun _ => ?_)
  refine C_skip ?_
  refine C_seq ?_
  refine C_seq ?_
  refine C_draw fun b10 H11 hbase12 hA13 => ?_
  have hnx14 : H11.next = H2.next + 10 := hA13.1
  have hb15 := (hA13.2 _).trans hN3.2.2.1
  have hF16 := hA13.fr (fun _ => False)
  have hO17 := hO5.aside hA13
  have hx_hO17 := hO17.next
  have hlt_n1 : n1 < H11.next := by omega
  refine D_l (v := (.sl ka key.length kc kg)) rfl rfl rfl (r_mv rfl) ?_
  refine D_l (v := (.sl ba b.length bc bg)) rfl rfl rfl (r_mv rfl) ?_
  refine D_q rfl rfl rfl (by exact Bs.hi bhb bhg rfl (j := 48) rfl (by first | omega | (simp only [List.length_take, List.length_drop, List.length_append, List.length_cons, List.length_nil, beN_len] <;> omega)) (by first | omega | (simp only [List.length_take, List.length_drop, List.length_append, List.length_cons, List.length_nil, beN_len] <;> omega))) fun v21 hv20 => ?_
  obtain ⟨a18, rfl, hb19⟩ := hv20
  refine D_l (v := (.sl ba b.length bc bg)) rfl rfl rfl (r_mv rfl) ?_
  refine D_r (v := (.s (txt b))) rfl rfl rfl ((bhb.old hok hO17).text rfl) ?_
  refine D_m (f := fun n => ((.sl (some (n, 0)) 0 0 0), .cells [] true)) rfl rfl fun H23 hW24 => ?_
  generalize hn25 : b10 + 1 = n22 at hW24 ⊢
  have hb26 := (hW24.2.2 _ (by omega)).trans hb15
  have hO27 := hO17.wr hW24 (by omega) (by omega)
  have hx_hO27 := hO27.next
  have hnx_H23 : H23.next = H11.next := hW24.1
  have hlt_n1 : n1 < H23.next := by omega
  have hlt_n22 : n22 < H23.next := by omega
  refine And.intro (And.intro (Or.inr (look_run rfl rfl ((bhb.old hok hO27).text rfl))) True.intro) ?_
  have hM28 : Mine H.next 1 H23 (.sl (some (n22, 0)) 0 0 0) [] := ⟨.mk (n := 0) hW24.2.1 (by omega) (.inl rfl) rfl, fun q hq => by rw [nameOf_sl] at hq; omega⟩
  have hd29 : ¬ ((.sl (some (n22, 0)) 0 0 0) : AV).nameOf n1 := fun hq => by rw [nameOf_sl] at hq; omega
  refine D_qh rfl rfl (by exact r_app (n := 0) (k := (b.take 48).length) (new := (bcells (b.take 48))) hO27.ok hO27.next hM28 rfl rfl rfl ((hb19.old hok hO27).len) ((hb19.old hok hO27).src) ((bcells_len _).trans (Nat.mul_one _).symm) (by decide) (by decide) (by first | omega | (simp only [List.length_take, List.length_drop, List.length_append, List.length_cons, List.length_nil, beN_len] <;> omega))) fun o30 H31 hA32 => ?_
  have hx_H31 := hA32.2.1
  have hb33 := (hA32.2.2.1 _ (by omega) hd29).trans hb26
  have hlt_n1 : n1 < H31.next := by omega
  have hO34 := hA32.old hM28 hO27
  have hx_hO34 := hO34.next
  have hM35 : Mine H.next 1 H31 o30 (bcells (b.take 48)) := hA32.1
  have hd36 := hA32.dis (n := n1) (by omega) hd29
  refine And.intro (And.intro (Or.inr (look_run rfl rfl ((bhb.old hok hO34).text rfl))) True.intro) ?_
  have hsf41 : Own 1 H31 o30 (bcells (b.take 48)) := hM35.own
  obtain ⟨oa37, og38, rfl, hog39, hob40⟩ := hsf41.bs
  have base42 := Old.refl hO34.ok
  refine D_call (Ev.mono (coded_ev hO34.ok khg (khb.old hok hO34) (by first | omega | (simp only [List.length_take, List.length_drop, List.length_append, List.length_cons, List.length_nil, beN_len] <;> omega)) (by first | omega | (simp only [List.length_take, List.length_drop, List.length_append, List.length_cons, List.length_nil, beN_len] <;> omega)) hog39 (hM35.own.asbs) (by first | omega | (simp only [List.length_take, List.length_drop, List.length_append, List.length_cons, List.length_nil, beN_len] <;> omega)) (by first | omega | (simp only [List.length_take, List.length_drop, List.length_append, List.length_cons, List.length_nil, beN_len] <;> omega)) hk16 (by first | omega | (simp only [List.length_take, List.length_drop, List.length_append, List.length_cons, List.length_nil, beN_len] <;> omega))) fun v43 H44 hq45 => ?_)
  obtain ⟨hM46, hK47⟩ := hq45
  have hb48 := (hK47.keep _ (by omega)).trans hb33
  have hx_hK47 := hK47.next
  have hlt_n1 : n1 < H44.next := by omega
  have hM49 := hM35.kp hK47
  have hO50 := hO34.trans hK47
  have hx_hO50 := hO50.next
  have hO51 := base42.trans hK47
  have hM52 := hM46.down (N := H.next) (by omega)
  have hd53 : ¬ v43.nameOf n1 := fun hq => by have := hM46.new _ hq; omega
  refine And.intro (And.intro (Or.inr (look_run rfl rfl ((bhb.old hok hO50).text rfl))) True.intro) ?_
  have hsf58 : Own 1 H44 v43 (bcells (sealed key (b.take 48))) := hM52.own
  obtain ⟨oa54, og55, rfl, hog56, hob57⟩ := hsf58.bs
  have base59 := Old.refl hO50.ok
  refine D_r (v := (.s (txt (sealed key (b.take 48))))) rfl rfl rfl ((hM52.own.asbs).text rfl) ?_
  refine D_l (v := (.b true)) rfl rfl rfl (by exact (by rw [r_eqtn (a := sealed key (b.take 48)) (b := b) rfl rfl, decide_eq_false (fun h => hcd ((sealed_iff hl60 hsg).1 h))]; rfl)) ?_
  refine D_nil ?_
  refine C_cond (x := true) rfl (fun _ => ?_) (fun h => by cases h)
  refine C_seq ?_
  refine C_region ?_
  refine O_p (.agg [(.i .i64 0), (.i .i64 0), (.i .i64 0), (.i .i64 0), (.i .i64 0), (.i .i64 0), (.i .i64 0), (.i .i64 0), (.i .i64 0), (.i .i64 0), (.i .i64 0)]) (r_build rfl) ?_
  refine O_store (vs := [(.i .i64 0), (.i .i64 0), (.i .i64 0), (.i .i64 0), (.i .i64 0), (.i .i64 0), (.i .i64 0), (.i .i64 0), (.i .i64 0), (.i .i64 0), (.i .i64 0)]) (c' := [(.i .i64 0), (.i .i64 0), (.i .i64 0), (.i .i64 0), (.i .i64 0), (.i .i64 0), (.i .i64 0), (.i .i64 0), (.i .i64 0), (.i .i64 0), (.i .i64 0)]) rfl (by rfl) hb48 rfl (List.cons_ne_nil _ _) (Nat.le_of_ble_eq_true rfl) rfl fun H60 hW61 => ?_
  have hM62 := hM49.wr hW61 hd36
  have hM63 := hM52.wr hW61 hd53
  have hO64 := hO50.wr hW61 (by omega) (by omega)
  have hx_hO64 := hO64.next
  have hnx_H60 : H60.next = H44.next := hW61.1
  have hlt_n1 : n1 < H60.next := by omega
  refine O_p (.i .i64 6) (r_mv rfl) ?_
  refine O_nil ?_
  refine C_ret ?_
  refine nx_ret ?_
  have he := cErr_6 hk16 hl60 hsg hcd
  have hb0 : ¬ cErr key b = 0 := by rw [he]; decide
  exact ⟨.inr rfl, _, resL_cons (r_cellA rfl hW61.2.1 rfl) (resL_one (r_tmp (v := (.i .i64 6)) rfl)), by simp only [cSt_bad hb0, he]; rfl, hO64⟩
set_option maxRecDepth 100000 in
set_option maxHeartbeats 4000000 in
theorem rdec_ok {H : AH} (hok : H.Ok) {ka : Option (Nat × Nat)} {kn kc kg : Nat} (khg : kg = 0 ∨ kg = 1) {key : List UInt8} (khb : Bs H (.sl ka kn kc kg) key) (khc : kn ≤ kc) (khm : kc ≤ 9223372036854775807) {ba : Option (Nat × Nat)} {bn bc bg : Nat} (bhg : bg = 0 ∨ bg = 1) {b : List UInt8} (bhb : Bs H (.sl ba bn bc bg) b) (bhc : bn ≤ bc) (bhm : bc ≤ 9223372036854775807) (hk16 : key.length = 16) (hl60 : b.length = 60) (hsg : b.drop 56 = [66, 79, 76, 49]) (hcd : code key (b.take 48) = num ((b.drop 48).take 8)) : Ev tabA spA (.fn (.func 15) [] []) [.sl ka kn kc kg, .sl ba bn bc bg] H (fun r H' => r = .tup [.agg [.i .i64 (cSt key b 0), .i .i64 (cSt key b 1), .i .i64 (cSt key b 2), .i .i64 (cSt key b 3), .i .i64 (cSt key b 4), .i .i64 (cSt key b 5), .i .i64 (cSt key b 6), .i .i64 (cSt key b 9), .i .i64 (cSt key b 10), .i .i64 (cSt key b 7), .i .i64 (cSt key b 8)], .i .i64 (cErr key b)] ∧ Kp H H') := by
  have khl := khb.length
  subst khl
  refine Ev_C (F := x15) rfl ?_
  have bhl := bhb.length
  subst bhl
  have hO0 := Old.refl hok
  have h24 : tabA 24 = some x24 := rfl
  have h37 : tabA 37 = some x37 := rfl
  have hT0 := at_bound b (A := 0) (k := 8) (n := 8) (by omega) (Nat.le_refl _)
  have hT1 := at_bound b (A := 8) (k := 8) (n := 8) (by omega) (Nat.le_refl _)
  have hd0 : num (b.take 8) = num ((b.drop 0).take 8) := rfl
  refine C_seq ?_
  refine C_region ?_
  refine O_alloc fun n1 H2 hN3 => ?_
  have hF4 := hN3.fr (fun _ => False)
  have hO5 := hO0.new hN3
  have hx_hO5 := hO5.next
  have hnm_n1 : n1 = H.next := hN3.1
  have hnx_H2 : H2.next = H.next + 1 := hN3.2.1
  have hlt_n1 : n1 < H2.next := by omega
  refine O_p (.i .i64 0) (r_mv rfl) ?_
  refine O_nil ?_
  refine C_seq ?_
  refine C_seq ?_
  refine C_region ?_
  refine O_p (.sl ka key.length kc kg) (r_mv rfl) ?_
  refine O_p (.i .i64 (((key.length : Nat)) : Int)) (r_len rfl) ?_
  refine O_p (.b false) (by exact (by rw [r_neq rfl rfl, decide_eq_true (by omega)]; rfl)) ?_
  refine O_nil ?_
  refine C_cond (x := false) rfl (fun h => by cases h) (fun _ => ?_)
  refine C_skip ?_
  refine C_seq ?_
  refine C_seq ?_
  refine C_region ?_
  refine O_p (.sl ba b.length bc bg) (r_mv rfl) ?_
  refine O_p (.i .i64 (((b.length : Nat)) : Int)) (r_len rfl) ?_
  refine O_p (.b false) (by exact (by rw [r_lss rfl rfl, decide_eq_false (by omega)])) ?_
  refine O_nil ?_
  refine C_cond (x := false) rfl (fun h => by cases h) (fun _ => ?_)
  refine C_skip ?_
  refine C_seq ?_
  refine C_seq ?_
  refine C_region ?_
  refine O_p (.sl ba b.length bc bg) (r_mv rfl) ?_
  refine O_p (.i .i64 (((b.length : Nat)) : Int)) (r_len rfl) ?_
  refine O_p (.b false) (by exact (by rw [r_gtr rfl rfl, decide_eq_false (by omega)])) ?_
  refine O_p (.b false) (r_mv rfl) ?_
  refine O_gs (v := (.sl ba b.length bc bg)) rfl (r_mv rfl) ?_
  refine O_gqs rfl (by exact Bs.lo bhb bhg rfl (i := 56) rfl (by first | omega | (simp only [List.length_take, List.length_drop, List.length_append, List.length_cons, List.length_nil, beN_len] <;> omega)) (by first | omega | (simp only [List.length_take, List.length_drop, List.length_append, List.length_cons, List.length_nil, beN_len] <;> omega))) fun v9 hv8 => ?_
  obtain ⟨a6, rfl, hb7⟩ := hv8
  refine O_gs (v := (.s (txt (b.drop 56)))) rfl ((hb7.old hok hO5).text rfl) ?_
  refine O_gs (v := (.b false)) rfl (by exact (by rw [r_eqtn (a := b.drop 56) (b := [66, 79, 76, 49]) rfl rfl, decide_eq_true hsg]; rfl)) ?_
  refine O_p (.b false) (r_pick_f rfl rfl) ?_
  refine O_nil ?_
  refine C_cond (x := false) rfl (fun h => by cases h) (fun _ => ?_)
  refine C_skip ?_
  refine C_seq ?_
  refine C_seq ?_
  refine C_draw fun b10 H11 hbase12 hA13 => ?_
  have hnx14 : H11.next = H2.next + 10 := hA13.1
  have hb15 := (hA13.2 _).trans hN3.2.2.1
  have hF16 := hA13.fr (fun _ => False)
  have hO17 := hO5.aside hA13
  have hx_hO17 := hO17.next
  have hlt_n1 : n1 < H11.next := by omega
  refine D_l (v := (.sl ka key.length kc kg)) rfl rfl rfl (r_mv rfl) ?_
  refine D_l (v := (.sl ba b.length bc bg)) rfl rfl rfl (r_mv rfl) ?_
  refine D_q rfl rfl rfl (by exact Bs.hi bhb bhg rfl (j := 48) rfl (by first | omega | (simp only [List.length_take, List.length_drop, List.length_append, List.length_cons, List.length_nil, beN_len] <;> omega)) (by first | omega | (simp only [List.length_take, List.length_drop, List.length_append, List.length_cons, List.length_nil, beN_len] <;> omega))) fun v21 hv20 => ?_
  obtain ⟨a18, rfl, hb19⟩ := hv20
  refine D_l (v := (.sl ba b.length bc bg)) rfl rfl rfl (r_mv rfl) ?_
  refine D_r (v := (.s (txt b))) rfl rfl rfl ((bhb.old hok hO17).text rfl) ?_
  refine D_m (f := fun n => ((.sl (some (n, 0)) 0 0 0), .cells [] true)) rfl rfl fun H23 hW24 => ?_
  generalize hn25 : b10 + 1 = n22 at hW24 ⊢
  have hb26 := (hW24.2.2 _ (by omega)).trans hb15
  have hO27 := hO17.wr hW24 (by omega) (by omega)
  have hx_hO27 := hO27.next
  have hnx_H23 : H23.next = H11.next := hW24.1
  have hlt_n1 : n1 < H23.next := by omega
  have hlt_n22 : n22 < H23.next := by omega
  refine And.intro (And.intro (Or.inr (look_run rfl rfl ((bhb.old hok hO27).text rfl))) True.intro) ?_
  have hM28 : Mine H.next 1 H23 (.sl (some (n22, 0)) 0 0 0) [] := ⟨.mk (n := 0) hW24.2.1 (by omega) (.inl rfl) rfl, fun q hq => by rw [nameOf_sl] at hq; omega⟩
  have hd29 : ¬ ((.sl (some (n22, 0)) 0 0 0) : AV).nameOf n1 := fun hq => by rw [nameOf_sl] at hq; omega
  refine D_qh rfl rfl (by exact r_app (n := 0) (k := (b.take 48).length) (new := (bcells (b.take 48))) hO27.ok hO27.next hM28 rfl rfl rfl ((hb19.old hok hO27).len) ((hb19.old hok hO27).src) ((bcells_len _).trans (Nat.mul_one _).symm) (by decide) (by decide) (by first | omega | (simp only [List.length_take, List.length_drop, List.length_append, List.length_cons, List.length_nil, beN_len] <;> omega))) fun o30 H31 hA32 => ?_
  have hx_H31 := hA32.2.1
  have hb33 := (hA32.2.2.1 _ (by omega) hd29).trans hb26
  have hlt_n1 : n1 < H31.next := by omega
  have hO34 := hA32.old hM28 hO27
  have hx_hO34 := hO34.next
  have hM35 : Mine H.next 1 H31 o30 (bcells (b.take 48)) := hA32.1
  have hd36 := hA32.dis (n := n1) (by omega) hd29
  refine And.intro (And.intro (Or.inr (look_run rfl rfl ((bhb.old hok hO34).text rfl))) True.intro) ?_
  have hsf41 : Own 1 H31 o30 (bcells (b.take 48)) := hM35.own
  obtain ⟨oa37, og38, rfl, hog39, hob40⟩ := hsf41.bs
  have base42 := Old.refl hO34.ok
  refine D_call (Ev.mono (coded_ev hO34.ok khg (khb.old hok hO34) (by first | omega | (simp only [List.length_take, List.length_drop, List.length_append, List.length_cons, List.length_nil, beN_len] <;> omega)) (by first | omega | (simp only [List.length_take, List.length_drop, List.length_append, List.length_cons, List.length_nil, beN_len] <;> omega)) hog39 (hM35.own.asbs) (by first | omega | (simp only [List.length_take, List.length_drop, List.length_append, List.length_cons, List.length_nil, beN_len] <;> omega)) (by first | omega | (simp only [List.length_take, List.length_drop, List.length_append, List.length_cons, List.length_nil, beN_len] <;> omega)) hk16 (by first | omega | (simp only [List.length_take, List.length_drop, List.length_append, List.length_cons, List.length_nil, beN_len] <;> omega))) fun v43 H44 hq45 => ?_)
  obtain ⟨hM46, hK47⟩ := hq45
  have hb48 := (hK47.keep _ (by omega)).trans hb33
  have hx_hK47 := hK47.next
  have hlt_n1 : n1 < H44.next := by omega
  have hM49 := hM35.kp hK47
  have hO50 := hO34.trans hK47
  have hx_hO50 := hO50.next
  have hO51 := base42.trans hK47
  have hM52 := hM46.down (N := H.next) (by omega)
  have hd53 : ¬ v43.nameOf n1 := fun hq => by have := hM46.new _ hq; omega
  refine And.intro (And.intro (Or.inr (look_run rfl rfl ((bhb.old hok hO50).text rfl))) True.intro) ?_
  have hsf58 : Own 1 H44 v43 (bcells (sealed key (b.take 48))) := hM52.own
  obtain ⟨oa54, og55, rfl, hog56, hob57⟩ := hsf58.bs
  have base59 := Old.refl hO50.ok
  refine D_r (v := (.s (txt (sealed key (b.take 48))))) rfl rfl rfl ((hM52.own.asbs).text rfl) ?_
  refine D_l (v := (.b false)) rfl rfl rfl (by exact (by rw [r_eqtn (a := sealed key (b.take 48)) (b := b) rfl rfl, decide_eq_true ((sealed_iff hl60 hsg).2 hcd)]; rfl)) ?_
  refine D_nil ?_
  refine C_cond (x := false) rfl (fun h => by cases h) (fun _ => ?_)
  refine C_skip ?_
  refine C_seq ?_
  refine C_region ?_
  refine O_p (.agg [(.i .i64 0), (.i .i64 0), (.i .i64 0), (.i .i64 0), (.i .i64 0), (.i .i64 0), (.i .i64 0), (.i .i64 0), (.i .i64 0), (.i .i64 0), (.i .i64 0)]) (r_build rfl) ?_
  refine O_alloc fun n60 H61 hN62 => ?_
  have hF63 := hN62.fr (fun _ => False)
  have hb64 := (hF63.keep _ (by exact hlt_n1) (fun h => h)).trans hb48
  have hM65 := hM49.anew hN62
  have hM66 := hM52.anew hN62
  have hO67 := hO50.new hN62
  have hx_hO67 := hO67.next
  have hO68 := hO51.new hN62
  have hO69 := base59.new hN62
  have hd70 : ¬ ((.sl oa37 ((b.take 48)).length ((b.take 48)).length og38) : AV).nameOf n60 := hM49.dis (by have := hN62.1; omega)
  have hd71 : ¬ ((.sl oa54 ((sealed key (b.take 48))).length ((sealed key (b.take 48))).length og55) : AV).nameOf n60 := hM52.dis (by have := hN62.1; omega)
  have hnm_n60 : n60 = H44.next := hN62.1
  have hnx_H61 : H61.next = H44.next + 1 := hN62.2.1
  have hlt_n1 : n1 < H61.next := by omega
  have hlt_n60 : n60 < H61.next := by omega
  refine O_store (vs := [(.i .i64 0), (.i .i64 0), (.i .i64 0), (.i .i64 0), (.i .i64 0), (.i .i64 0), (.i .i64 0), (.i .i64 0), (.i .i64 0), (.i .i64 0), (.i .i64 0)]) (c' := [(.i .i64 0), (.i .i64 0), (.i .i64 0), (.i .i64 0), (.i .i64 0), (.i .i64 0), (.i .i64 0), (.i .i64 0), (.i .i64 0), (.i .i64 0), (.i .i64 0)]) rfl (by rfl) hN62.2.2.1 rfl (List.cons_ne_nil _ _) (Nat.le_of_ble_eq_true rfl) rfl fun H72 hW73 => ?_
  have hb74 := (hW73.2.2 _ (by omega)).trans hb64
  have hM75 := hM65.wr hW73 hd70
  have hM76 := hM66.wr hW73 hd71
  have hO77 := hO67.wr hW73 (by omega) (by omega)
  have hx_hO77 := hO77.next
  have hO78 := hO68.wr hW73 (by omega) (by omega)
  have hO79 := hO69.wr hW73 (by omega) (by omega)
  have hnx_H72 : H72.next = H61.next := hW73.1
  have hlt_n1 : n1 < H72.next := by omega
  have hlt_n60 : n60 < H72.next := by omega
  refine O_nil ?_
  refine C_seq ?_
  refine C_region ?_
  refine O_call (Ev.mono (widths_ev h24 hO77.ok) fun v80 H81 hq82 => ?_)
  obtain ⟨q24, rfl, hq24, hq24n, hK24⟩ := hq82
  have hb83 := (hK24.keep _ (by omega)).trans hb74
  have hb84 := (hK24.keep _ (by omega)).trans hW73.2.1
  have hx_hK24 := hK24.next
  have hlt_n1 : n1 < H81.next := by omega
  have hlt_n60 : n60 < H81.next := by omega
  have hO85 := hO77.trans hK24
  have hx_hO85 := hO85.next
  have hO86 := hO78.trans hK24
  have hO87 := hO79.trans hK24
  have hlt_q24 : q24 < H81.next := hK24.ok _ _ hq24
  refine O_p (.sl (some (q24, 0)) 11 11 0) (r_mv rfl) ?_
  refine O_nil ?_
  refine C_seq ?_
  refine C_region ?_
  refine O_p (.i .i64 0) (r_mv rfl) ?_
  refine O_nil ?_
  refine C_seq ?_
  refine C_seq ?_
  refine C_region ?_
  refine O_p (.i .i64 0) (r_mv rfl) ?_
  refine O_nil ?_
  refine C_block ?_
  refine C_loop ?_
  refine C_seq ?_
  refine C_seq ?_
  refine C_region ?_
  refine O_p (.i .i64 0) (r_mv rfl) ?_
  refine O_p (.sl (some (q24, 0)) 11 11 0) (r_mv rfl) ?_
  refine O_p (.i .i64 11) (r_len rfl) ?_
  refine O_p (.b true) (r_bin rfl rfl rfl) ?_
  refine O_nil ?_
  refine C_cond (x := true) rfl (fun _ => ?_) (fun h => by cases h)
  refine C_skip ?_
  refine C_seq ?_
  refine C_block ?_
  refine C_seq ?_
  refine C_region ?_
  refine O_p (.i .i64 0) (r_mv rfl) ?_
  refine O_nil ?_
  refine C_block ?_
  have hz0 : num ((b.drop 0).take 0) = 0 := rfl
  refine C_while (fun m88 T89 H90 => ∃ k : Nat, m88 = 8 - k ∧ k ≤ 8 ∧ Old H.next H H90 ∧ H90.get n1 = some (.cells [(.i .i64 0), (.i .i64 0), (.i .i64 0), (.i .i64 0), (.i .i64 0), (.i .i64 0), (.i .i64 0), (.i .i64 0), (.i .i64 0), (.i .i64 0), (.i .i64 0)] true) ∧ n1 < H90.next ∧ H90.get n60 = some (.cells [(.i .i64 (num ((b.drop 0).take k))), (.i .i64 0), (.i .i64 0), (.i .i64 0), (.i .i64 0), (.i .i64 0), (.i .i64 0), (.i .i64 0), (.i .i64 0), (.i .i64 0), (.i .i64 0)] true) ∧ n60 < H90.next ∧ H90.get q24 = some (.cells [(.i .i64 8), (.i .i64 8), (.i .i64 4), (.i .i64 4), (.i .i64 4), (.i .i64 4), (.i .i64 4), (.i .i64 4), (.i .i64 4), (.i .i64 2), (.i .i64 2)] true) ∧ q24 < H90.next ∧ T89.get 0 = (.sl ka key.length kc kg) ∧ T89.get 1 = (.sl ba b.length bc bg) ∧ T89.get 4 = (.p (some (n1, 0))) ∧ T89.get 5 = (.i .i64 0) ∧ T89.get 6 = (.p (some (n60, 0))) ∧ T89.get 7 = (.sl (some (q24, 0)) 11 11 0) ∧ T89.get 9 = (.i .i64 0) ∧ T89.get 8 = (.i .i64 ((((0 + k) : Nat)) : Int)) ∧ T89.get 10 = (.i .i64 (((k : Nat)) : Int))) (fun m88 T89 H90 hI91 => ?_) 8 _ _ ⟨0, rfl, Nat.zero_le _, hO85, hb83, hlt_n1, hb84, hlt_n60, hq24, hlt_q24, rfl, rfl, rfl, rfl, rfl, rfl, rfl, rfl, rfl⟩
  obtain ⟨k, hm92, hp93, hO104, hb105, hlt_n1, hb106, hlt_n60, hb107, hlt_q24, hT94, hT95, hT96, hT97, hT98, hT99, hT100, hT101, hT102⟩ := hI91
  have hx_hO104 := hO104.next
  have hab := at_bound b (A := 0) (k := k) (n := 8) (by omega) (by omega)
  refine C_seq ?_
  refine C_seq ?_
  refine C_region ?_
  refine O_p (.i .i64 (((k : Nat)) : Int)) (r_mv hT102) ?_
  refine O_p (.sl (some (q24, 0)) 11 11 0) (r_mv hT99) ?_
  refine O_p (.i .i64 0) (r_mv hT100) ?_
  refine O_p (.p (some (q24, 0))) (by exact (r_isl' rfl rfl (by decide) (by decide) rfl)) ?_
  refine O_p (.i .i64 8) (r_ld rfl hb107 rfl) ?_
  refine O_p (.b (decide ((((k : Nat)) : Int) < 8))) (r_lss rfl rfl) ?_
  refine O_nil ?_
  refine C_cond (x := (decide ((((k : Nat)) : Int) < 8))) rfl (fun hc108 => ?_) (fun hc108 => ?_)
  ·
    simp only [decide_eq_true_eq, decide_eq_false_iff_not, Bool.not_eq_true', Bool.not_eq_false', Bool.and_eq_true, Bool.or_eq_true, Bool.or_eq_false_iff, Bool.not_not] at hc108
    refine C_skip ?_
    refine C_seq ?_
    refine C_block ?_
    refine C_seq ?_
    refine C_seq ?_
    refine C_region ?_
    refine O_p (.i .i64 0) (r_mv hT100) ?_
    refine O_p (.p (some (n60, 0))) (r_iarr' hT98 rfl rfl rfl) ?_
    refine O_p (.i .i64 (num ((b.drop 0).take k))) (r_ld rfl hb106 rfl) ?_
    refine O_p (.b (decide (18014398509481984 < (num ((b.drop 0).take k))))) (r_gtr rfl rfl) ?_
    refine O_nil ?_
    refine C_cond (x := (decide (18014398509481984 < (num ((b.drop 0).take k))))) rfl (fun hc109 => ?_) (fun hc109 => ?_)
    ·
      simp only [decide_eq_true_eq, decide_eq_false_iff_not, Bool.not_eq_true', Bool.not_eq_false', Bool.and_eq_true, Bool.or_eq_true, Bool.or_eq_false_iff, Bool.not_not] at hc109
      refine C_seq ?_
      refine C_region ?_
      refine O_p (.agg [(.i .i64 0), (.i .i64 0), (.i .i64 0), (.i .i64 0), (.i .i64 0), (.i .i64 0), (.i .i64 0), (.i .i64 0), (.i .i64 0), (.i .i64 0), (.i .i64 0)]) (r_build rfl) ?_
      refine O_store (vs := [(.i .i64 0), (.i .i64 0), (.i .i64 0), (.i .i64 0), (.i .i64 0), (.i .i64 0), (.i .i64 0), (.i .i64 0), (.i .i64 0), (.i .i64 0), (.i .i64 0)]) (c' := [(.i .i64 0), (.i .i64 0), (.i .i64 0), (.i .i64 0), (.i .i64 0), (.i .i64 0), (.i .i64 0), (.i .i64 0), (.i .i64 0), (.i .i64 0), (.i .i64 0)]) hT96 (by rfl) hb105 rfl (List.cons_ne_nil _ _) (Nat.le_of_ble_eq_true rfl) rfl fun H110 hW111 => ?_
      have hb112 := (hW111.2.2 _ (by omega)).trans hb106
      have hb113 := (hW111.2.2 _ (by omega)).trans hb107
      have hO114 := hO104.wr hW111 (by omega) (by omega)
      have hx_hO114 := hO114.next
      have hnx_H110 : H110.next = H90.next := hW111.1
      have hlt_n1 : n1 < H110.next := by omega
      have hlt_n60 : n60 < H110.next := by omega
      have hlt_q24 : q24 < H110.next := by omega
      refine O_p (.i .i64 3) (r_mv rfl) ?_
      refine O_nil ?_
      refine C_ret ?_
      refine nx_ret ?_
      refine bk_ret ?_
      refine nx_ret ?_
      refine nx_ret ?_
      refine bk_ret ?_
      refine bk_ret ?_
      refine nx_ret ?_
      refine nx_ret ?_
      refine bk_ret ?_
      refine nx_ret ?_
      have he := cErr_t hk16 hl60 hsg hcd (by rintro ⟨ha, hb⟩; omega)
      have hb0 : ¬ cErr key b = 0 := by rw [he]; decide
      exact ⟨.inr rfl, _, resL_cons (r_cellA hT96 hW111.2.1 rfl) (resL_one (r_tmp (v := (.i .i64 3)) rfl)), by simp only [cSt_bad hb0, he]; rfl, hO114⟩
    ·
      simp only [decide_eq_true_eq, decide_eq_false_iff_not, Bool.not_eq_true', Bool.not_eq_false', Bool.and_eq_true, Bool.or_eq_true, Bool.or_eq_false_iff, Bool.not_not] at hc109
      have hyt := (b.getD ((0 + k)) 0).toNat_lt
      refine C_skip ?_
      refine C_seq ?_
      refine C_draw fun b115 H116 hbase117 hA118 => ?_
      have hnx119 : H116.next = H90.next + 13 := hA118.1
      have hb120 := (hA118.2 _).trans hb105
      have hb121 := (hA118.2 _).trans hb106
      have hb122 := (hA118.2 _).trans hb107
      have hF123 := hA118.fr (fun _ => False)
      have hO124 := hO104.aside hA118
      have hx_hO124 := hO124.next
      have hlt_n1 : n1 < H116.next := by omega
      have hlt_n60 : n60 < H116.next := by omega
      have hlt_q24 : q24 < H116.next := by omega
      refine D_l (v := (.i .i64 0)) rfl rfl rfl (r_mv hT100) ?_
      refine D_l (v := (.i .i64 0)) rfl rfl rfl (r_mv hT100) ?_
      refine D_l (v := (.p (some (n60, 0)))) rfl rfl rfl (r_iarr' hT98 rfl rfl rfl) ?_
      refine D_l (v := (.sl ba b.length bc bg)) rfl rfl rfl (r_mv hT95) ?_
      refine D_l (v := (.i .i64 ((((0 + k) : Nat)) : Int))) rfl rfl rfl (r_mv hT101) ?_
      refine D_q rfl rfl rfl (by exact Bs.ix (bhb.old hok hO124) rfl (i := (0 + k)) rfl (by first | omega | (simp only [List.length_take, List.length_drop, List.length_append, List.length_cons, List.length_nil, beN_len] <;> omega))) fun v126 hv125 => ?_
      refine D_r (v := (.i .i64 (num ((b.drop 0).take k)))) rfl rfl rfl (r_ld rfl hb121 rfl) ?_
      refine D_l (v := (.i .i64 ((num ((b.drop 0).take k)) * 256))) rfl rfl rfl (by exact (r_muli rfl rfl (wrap_i64 (by omega) (by omega)))) ?_
      refine D_r (v := (.i .u8 ((b.getD (0 + k) 0).toNat : Int))) rfl rfl rfl (hv125.load rfl) ?_
      refine D_l (v := (.i .i64 ((b.getD (0 + k) 0).toNat : Int))) rfl rfl rfl (by exact (r_cint' rfl (wrap_i64 (by omega) (by omega)))) ?_
      refine D_l (v := (.i .i64 (((num ((b.drop 0).take k)) * 256) + ((b.getD (0 + k) 0).toNat : Int)))) rfl rfl rfl (by exact (r_addi rfl rfl (wrap_i64 (by omega) (by omega)))) ?_
      refine D_l (v := (.p (some (n60, 0)))) rfl rfl rfl (r_iarr' hT98 rfl rfl rfl) ?_
      refine D_store (vs := [(.i .i64 (((num ((b.drop 0).take k)) * 256) + ((b.getD (0 + k) 0).toNat : Int)))]) (c' := [(.i .i64 (((num ((b.drop 0).take k)) * 256) + ((b.getD (0 + k) 0).toNat : Int))), (.i .i64 0), (.i .i64 0), (.i .i64 0), (.i .i64 0), (.i .i64 0), (.i .i64 0), (.i .i64 0), (.i .i64 0), (.i .i64 0), (.i .i64 0)]) rfl (by rfl) hb121 rfl (List.cons_ne_nil _ _) (Nat.le_of_ble_eq_true rfl) rfl fun H127 hW128 => ?_
      have hb129 := (hW128.2.2 _ (by omega)).trans hb120
      have hb130 := (hW128.2.2 _ (by omega)).trans hb122
      have hO131 := hO124.wr hW128 (by omega) (by omega)
      have hx_hO131 := hO131.next
      have hnx_H127 : H127.next = H116.next := hW128.1
      have hlt_n1 : n1 < H127.next := by omega
      have hlt_n60 : n60 < H127.next := by omega
      have hlt_q24 : q24 < H127.next := by omega
      refine And.intro (And.intro (Or.inl rfl) (And.intro (Or.inl rfl) True.intro)) ?_
      refine D_nil ?_
      refine C_region ?_
      refine O_p (.i .i64 ((((0 + k) : Nat)) : Int)) (r_mv hT101) ?_
      refine O_p (.i .i64 (((((0 + k) : Nat)) : Int) + 1)) (by exact (r_addi rfl rfl (wrap_i64 (by omega) (by omega)))) ?_
      refine O_p (.i .i64 (((((0 + k) : Nat)) : Int) + 1)) (r_mv rfl) ?_
      refine O_nil ?_
      refine C_region ?_
      refine O_p (.i .i64 (((k : Nat)) : Int)) (r_mv hT102) ?_
      refine O_p (.i .i64 ((((k : Nat)) : Int) + 1)) (by exact (r_addi rfl rfl (wrap_i64 (by omega) (by omega)))) ?_
      refine O_p (.i .i64 ((((k : Nat)) : Int) + 1)) (r_mv rfl) ?_
      refine O_nil ?_
      have hst := at_step (b := b) (A := 0) (k := k) (by omega)
      exact ⟨8 - (k + 1), by omega, k + 1, rfl, by omega, hO131, hb129, hlt_n1, (by rw [hst]; exact hW128.2.1), hlt_n60, hb130, hlt_q24, hT94, hT95, hT96, hT97, hT98, hT99, hT100, congrArg (AV.i .i64) (by omega), rfl⟩
  ·
    simp only [decide_eq_true_eq, decide_eq_false_iff_not, Bool.not_eq_true', Bool.not_eq_false', Bool.and_eq_true, Bool.or_eq_true, Bool.or_eq_false_iff, Bool.not_not] at hc108
    refine C_exit ?_
    refine nx_exit ?_
    refine nx_exit ?_
    refine bk_hit ?_
    refine C_region ?_
    have hk : k = 8 := by omega
    subst hk
    refine O_p (.i .i64 0) (r_mv hT100) ?_
    refine O_p (.i .i64 1) (r_bin rfl rfl rfl) ?_
    refine O_p (.i .i64 1) (r_mv rfl) ?_
    refine O_nil ?_
    refine C_loop ?_
    refine C_seq ?_
    refine C_seq ?_
    refine C_region ?_
    refine O_p (.i .i64 1) (r_mv rfl) ?_
    refine O_p (.sl (some (q24, 0)) 11 11 0) (r_mv hT99) ?_
    refine O_p (.i .i64 11) (r_len rfl) ?_
    refine O_p (.b true) (r_bin rfl rfl rfl) ?_
    refine O_nil ?_
    refine C_cond (x := true) rfl (fun _ => ?_) (fun h => by cases h)
    refine C_skip ?_
    refine C_seq ?_
    refine C_block ?_
    refine C_seq ?_
    refine C_region ?_
    refine O_p (.i .i64 0) (r_mv rfl) ?_
    refine O_nil ?_
    refine C_block ?_
    have hz1 : num ((b.drop 8).take 0) = 0 := rfl
    refine C_while (fun m132 T133 H134 => ∃ k : Nat, m132 = 8 - k ∧ k ≤ 8 ∧ Old H.next H H134 ∧ H134.get n1 = some (.cells [(.i .i64 0), (.i .i64 0), (.i .i64 0), (.i .i64 0), (.i .i64 0), (.i .i64 0), (.i .i64 0), (.i .i64 0), (.i .i64 0), (.i .i64 0), (.i .i64 0)] true) ∧ n1 < H134.next ∧ H134.get n60 = some (.cells [(.i .i64 (num ((b.drop 0).take 8))), (.i .i64 (num ((b.drop 8).take k))), (.i .i64 0), (.i .i64 0), (.i .i64 0), (.i .i64 0), (.i .i64 0), (.i .i64 0), (.i .i64 0), (.i .i64 0), (.i .i64 0)] true) ∧ n60 < H134.next ∧ H134.get q24 = some (.cells [(.i .i64 8), (.i .i64 8), (.i .i64 4), (.i .i64 4), (.i .i64 4), (.i .i64 4), (.i .i64 4), (.i .i64 4), (.i .i64 4), (.i .i64 2), (.i .i64 2)] true) ∧ q24 < H134.next ∧ T133.get 0 = (.sl ka key.length kc kg) ∧ T133.get 1 = (.sl ba b.length bc bg) ∧ T133.get 4 = (.p (some (n1, 0))) ∧ T133.get 5 = (.i .i64 0) ∧ T133.get 6 = (.p (some (n60, 0))) ∧ T133.get 7 = (.sl (some (q24, 0)) 11 11 0) ∧ T133.get 9 = (.i .i64 1) ∧ T133.get 8 = (.i .i64 ((((8 + k) : Nat)) : Int)) ∧ T133.get 10 = (.i .i64 (((k : Nat)) : Int))) (fun m132 T133 H134 hI135 => ?_) 8 _ _ ⟨0, rfl, Nat.zero_le _, hO104, hb105, hlt_n1, hb106, hlt_n60, hb107, hlt_q24, hT94, hT95, hT96, hT97, hT98, hT99, rfl, hT101, rfl⟩
    obtain ⟨k, hm136, hp137, hO148, hb149, hlt_n1, hb150, hlt_n60, hb151, hlt_q24, hT138, hT139, hT140, hT141, hT142, hT143, hT144, hT145, hT146⟩ := hI135
    have hx_hO148 := hO148.next
    have hab := at_bound b (A := 8) (k := k) (n := 8) (by omega) (by omega)
    refine C_seq ?_
    refine C_seq ?_
    refine C_region ?_
    refine O_p (.i .i64 (((k : Nat)) : Int)) (r_mv hT146) ?_
    refine O_p (.sl (some (q24, 0)) 11 11 0) (r_mv hT143) ?_
    refine O_p (.i .i64 1) (r_mv hT144) ?_
    refine O_p (.p (some (q24, 1))) (by exact (r_isl' rfl rfl (by decide) (by decide) rfl)) ?_
    refine O_p (.i .i64 8) (r_ld rfl hb151 rfl) ?_
    refine O_p (.b (decide ((((k : Nat)) : Int) < 8))) (r_lss rfl rfl) ?_
    refine O_nil ?_
    refine C_cond (x := (decide ((((k : Nat)) : Int) < 8))) rfl (fun hc152 => ?_) (fun hc152 => ?_)
    ·
      simp only [decide_eq_true_eq, decide_eq_false_iff_not, Bool.not_eq_true', Bool.not_eq_false', Bool.and_eq_true, Bool.or_eq_true, Bool.or_eq_false_iff, Bool.not_not] at hc152
      refine C_skip ?_
      refine C_seq ?_
      refine C_block ?_
      refine C_seq ?_
      refine C_seq ?_
      refine C_region ?_
      refine O_p (.i .i64 1) (r_mv hT144) ?_
      refine O_p (.p (some (n60, 1))) (r_iarr' hT142 rfl rfl rfl) ?_
      refine O_p (.i .i64 (num ((b.drop 8).take k))) (r_ld rfl hb150 rfl) ?_
      refine O_p (.b (decide (18014398509481984 < (num ((b.drop 8).take k))))) (r_gtr rfl rfl) ?_
      refine O_nil ?_
      refine C_cond (x := (decide (18014398509481984 < (num ((b.drop 8).take k))))) rfl (fun hc153 => ?_) (fun hc153 => ?_)
      ·
        simp only [decide_eq_true_eq, decide_eq_false_iff_not, Bool.not_eq_true', Bool.not_eq_false', Bool.and_eq_true, Bool.or_eq_true, Bool.or_eq_false_iff, Bool.not_not] at hc153
        refine C_seq ?_
        refine C_region ?_
        refine O_p (.agg [(.i .i64 0), (.i .i64 0), (.i .i64 0), (.i .i64 0), (.i .i64 0), (.i .i64 0), (.i .i64 0), (.i .i64 0), (.i .i64 0), (.i .i64 0), (.i .i64 0)]) (r_build rfl) ?_
        refine O_store (vs := [(.i .i64 0), (.i .i64 0), (.i .i64 0), (.i .i64 0), (.i .i64 0), (.i .i64 0), (.i .i64 0), (.i .i64 0), (.i .i64 0), (.i .i64 0), (.i .i64 0)]) (c' := [(.i .i64 0), (.i .i64 0), (.i .i64 0), (.i .i64 0), (.i .i64 0), (.i .i64 0), (.i .i64 0), (.i .i64 0), (.i .i64 0), (.i .i64 0), (.i .i64 0)]) hT140 (by rfl) hb149 rfl (List.cons_ne_nil _ _) (Nat.le_of_ble_eq_true rfl) rfl fun H154 hW155 => ?_
        have hb156 := (hW155.2.2 _ (by omega)).trans hb150
        have hb157 := (hW155.2.2 _ (by omega)).trans hb151
        have hO158 := hO148.wr hW155 (by omega) (by omega)
        have hx_hO158 := hO158.next
        have hnx_H154 : H154.next = H134.next := hW155.1
        have hlt_n1 : n1 < H154.next := by omega
        have hlt_n60 : n60 < H154.next := by omega
        have hlt_q24 : q24 < H154.next := by omega
        refine O_p (.i .i64 3) (r_mv rfl) ?_
        refine O_nil ?_
        refine C_ret ?_
        refine nx_ret ?_
        refine bk_ret ?_
        refine nx_ret ?_
        refine nx_ret ?_
        refine bk_ret ?_
        refine bk_ret ?_
        refine nx_ret ?_
        refine nx_ret ?_
        refine bk_ret ?_
        refine nx_ret ?_
        have he := cErr_t hk16 hl60 hsg hcd (by rintro ⟨ha, hb⟩; omega)
        have hb0 : ¬ cErr key b = 0 := by rw [he]; decide
        exact ⟨.inr rfl, _, resL_cons (r_cellA hT140 hW155.2.1 rfl) (resL_one (r_tmp (v := (.i .i64 3)) rfl)), by simp only [cSt_bad hb0, he]; rfl, hO158⟩
      ·
        simp only [decide_eq_true_eq, decide_eq_false_iff_not, Bool.not_eq_true', Bool.not_eq_false', Bool.and_eq_true, Bool.or_eq_true, Bool.or_eq_false_iff, Bool.not_not] at hc153
        have hyt := (b.getD ((8 + k)) 0).toNat_lt
        refine C_skip ?_
        refine C_seq ?_
        refine C_draw fun b159 H160 hbase161 hA162 => ?_
        have hnx163 : H160.next = H134.next + 13 := hA162.1
        have hb164 := (hA162.2 _).trans hb149
        have hb165 := (hA162.2 _).trans hb150
        have hb166 := (hA162.2 _).trans hb151
        have hF167 := hA162.fr (fun _ => False)
        have hO168 := hO148.aside hA162
        have hx_hO168 := hO168.next
        have hlt_n1 : n1 < H160.next := by omega
        have hlt_n60 : n60 < H160.next := by omega
        have hlt_q24 : q24 < H160.next := by omega
        refine D_l (v := (.i .i64 1)) rfl rfl rfl (r_mv hT144) ?_
        refine D_l (v := (.i .i64 1)) rfl rfl rfl (r_mv hT144) ?_
        refine D_l (v := (.p (some (n60, 1)))) rfl rfl rfl (r_iarr' hT142 rfl rfl rfl) ?_
        refine D_l (v := (.sl ba b.length bc bg)) rfl rfl rfl (r_mv hT139) ?_
        refine D_l (v := (.i .i64 ((((8 + k) : Nat)) : Int))) rfl rfl rfl (r_mv hT145) ?_
        refine D_q rfl rfl rfl (by exact Bs.ix (bhb.old hok hO168) rfl (i := (8 + k)) rfl (by first | omega | (simp only [List.length_take, List.length_drop, List.length_append, List.length_cons, List.length_nil, beN_len] <;> omega))) fun v170 hv169 => ?_
        refine D_r (v := (.i .i64 (num ((b.drop 8).take k)))) rfl rfl rfl (r_ld rfl hb165 rfl) ?_
        refine D_l (v := (.i .i64 ((num ((b.drop 8).take k)) * 256))) rfl rfl rfl (by exact (r_muli rfl rfl (wrap_i64 (by omega) (by omega)))) ?_
        refine D_r (v := (.i .u8 ((b.getD (8 + k) 0).toNat : Int))) rfl rfl rfl (hv169.load rfl) ?_
        refine D_l (v := (.i .i64 ((b.getD (8 + k) 0).toNat : Int))) rfl rfl rfl (by exact (r_cint' rfl (wrap_i64 (by omega) (by omega)))) ?_
        refine D_l (v := (.i .i64 (((num ((b.drop 8).take k)) * 256) + ((b.getD (8 + k) 0).toNat : Int)))) rfl rfl rfl (by exact (r_addi rfl rfl (wrap_i64 (by omega) (by omega)))) ?_
        refine D_l (v := (.p (some (n60, 1)))) rfl rfl rfl (r_iarr' hT142 rfl rfl rfl) ?_
        refine D_store (vs := [(.i .i64 (((num ((b.drop 8).take k)) * 256) + ((b.getD (8 + k) 0).toNat : Int)))]) (c' := [(.i .i64 (num ((b.drop 0).take 8))), (.i .i64 (((num ((b.drop 8).take k)) * 256) + ((b.getD (8 + k) 0).toNat : Int))), (.i .i64 0), (.i .i64 0), (.i .i64 0), (.i .i64 0), (.i .i64 0), (.i .i64 0), (.i .i64 0), (.i .i64 0), (.i .i64 0)]) rfl (by rfl) hb165 rfl (List.cons_ne_nil _ _) (Nat.le_of_ble_eq_true rfl) rfl fun H171 hW172 => ?_
        have hb173 := (hW172.2.2 _ (by omega)).trans hb164
        have hb174 := (hW172.2.2 _ (by omega)).trans hb166
        have hO175 := hO168.wr hW172 (by omega) (by omega)
        have hx_hO175 := hO175.next
        have hnx_H171 : H171.next = H160.next := hW172.1
        have hlt_n1 : n1 < H171.next := by omega
        have hlt_n60 : n60 < H171.next := by omega
        have hlt_q24 : q24 < H171.next := by omega
        refine And.intro (And.intro (Or.inl rfl) (And.intro (Or.inl rfl) True.intro)) ?_
        refine D_nil ?_
        refine C_region ?_
        refine O_p (.i .i64 ((((8 + k) : Nat)) : Int)) (r_mv hT145) ?_
        refine O_p (.i .i64 (((((8 + k) : Nat)) : Int) + 1)) (by exact (r_addi rfl rfl (wrap_i64 (by omega) (by omega)))) ?_
        refine O_p (.i .i64 (((((8 + k) : Nat)) : Int) + 1)) (r_mv rfl) ?_
        refine O_nil ?_
        refine C_region ?_
        refine O_p (.i .i64 (((k : Nat)) : Int)) (r_mv hT146) ?_
        refine O_p (.i .i64 ((((k : Nat)) : Int) + 1)) (by exact (r_addi rfl rfl (wrap_i64 (by omega) (by omega)))) ?_
        refine O_p (.i .i64 ((((k : Nat)) : Int) + 1)) (r_mv rfl) ?_
        refine O_nil ?_
        have hst := at_step (b := b) (A := 8) (k := k) (by omega)
        exact ⟨8 - (k + 1), by omega, k + 1, rfl, by omega, hO175, hb173, hlt_n1, (by rw [hst]; exact hW172.2.1), hlt_n60, hb174, hlt_q24, hT138, hT139, hT140, hT141, hT142, hT143, hT144, congrArg (AV.i .i64) (by omega), rfl⟩
    ·
      simp only [decide_eq_true_eq, decide_eq_false_iff_not, Bool.not_eq_true', Bool.not_eq_false', Bool.and_eq_true, Bool.or_eq_true, Bool.or_eq_false_iff, Bool.not_not] at hc152
      refine C_exit ?_
      refine nx_exit ?_
      refine nx_exit ?_
      refine bk_hit ?_
      refine C_region ?_
      have hk : k = 8 := by omega
      subst hk
      refine O_p (.i .i64 1) (r_mv hT144) ?_
      refine O_p (.i .i64 2) (r_bin rfl rfl rfl) ?_
      refine O_p (.i .i64 2) (r_mv rfl) ?_
      refine O_nil ?_
      refine C_loop ?_
      refine C_seq ?_
      refine C_seq ?_
      refine C_region ?_
      refine O_p (.i .i64 2) (r_mv rfl) ?_
      refine O_p (.sl (some (q24, 0)) 11 11 0) (r_mv hT143) ?_
      refine O_p (.i .i64 11) (r_len rfl) ?_
      refine O_p (.b true) (r_bin rfl rfl rfl) ?_
      refine O_nil ?_
      refine C_cond (x := true) rfl (fun _ => ?_) (fun h => by cases h)
      refine C_skip ?_
      refine C_seq ?_
      refine C_block ?_
      refine C_seq ?_
      refine C_region ?_
      refine O_p (.i .i64 0) (r_mv rfl) ?_
      refine O_nil ?_
      refine C_block ?_
      have hz2 : num ((b.drop 16).take 0) = 0 := rfl
      refine C_while (fun m176 T177 H178 => ∃ k : Nat, m176 = 4 - k ∧ k ≤ 4 ∧ Old H.next H H178 ∧ H178.get n1 = some (.cells [(.i .i64 0), (.i .i64 0), (.i .i64 0), (.i .i64 0), (.i .i64 0), (.i .i64 0), (.i .i64 0), (.i .i64 0), (.i .i64 0), (.i .i64 0), (.i .i64 0)] true) ∧ n1 < H178.next ∧ H178.get n60 = some (.cells [(.i .i64 (num ((b.drop 0).take 8))), (.i .i64 (num ((b.drop 8).take 8))), (.i .i64 (num ((b.drop 16).take k))), (.i .i64 0), (.i .i64 0), (.i .i64 0), (.i .i64 0), (.i .i64 0), (.i .i64 0), (.i .i64 0), (.i .i64 0)] true) ∧ n60 < H178.next ∧ H178.get q24 = some (.cells [(.i .i64 8), (.i .i64 8), (.i .i64 4), (.i .i64 4), (.i .i64 4), (.i .i64 4), (.i .i64 4), (.i .i64 4), (.i .i64 4), (.i .i64 2), (.i .i64 2)] true) ∧ q24 < H178.next ∧ T177.get 0 = (.sl ka key.length kc kg) ∧ T177.get 1 = (.sl ba b.length bc bg) ∧ T177.get 4 = (.p (some (n1, 0))) ∧ T177.get 5 = (.i .i64 0) ∧ T177.get 6 = (.p (some (n60, 0))) ∧ T177.get 7 = (.sl (some (q24, 0)) 11 11 0) ∧ T177.get 9 = (.i .i64 2) ∧ T177.get 8 = (.i .i64 ((((16 + k) : Nat)) : Int)) ∧ T177.get 10 = (.i .i64 (((k : Nat)) : Int))) (fun m176 T177 H178 hI179 => ?_) 4 _ _ ⟨0, rfl, Nat.zero_le _, hO148, hb149, hlt_n1, hb150, hlt_n60, hb151, hlt_q24, hT138, hT139, hT140, hT141, hT142, hT143, rfl, hT145, rfl⟩
      obtain ⟨k, hm180, hp181, hO192, hb193, hlt_n1, hb194, hlt_n60, hb195, hlt_q24, hT182, hT183, hT184, hT185, hT186, hT187, hT188, hT189, hT190⟩ := hI179
      have hx_hO192 := hO192.next
      have hab := at_bound b (A := 16) (k := k) (n := 4) (by omega) (by omega)
      refine C_seq ?_
      refine C_seq ?_
      refine C_region ?_
      refine O_p (.i .i64 (((k : Nat)) : Int)) (r_mv hT190) ?_
      refine O_p (.sl (some (q24, 0)) 11 11 0) (r_mv hT187) ?_
      refine O_p (.i .i64 2) (r_mv hT188) ?_
      refine O_p (.p (some (q24, 2))) (by exact (r_isl' rfl rfl (by decide) (by decide) rfl)) ?_
      refine O_p (.i .i64 4) (r_ld rfl hb195 rfl) ?_
      refine O_p (.b (decide ((((k : Nat)) : Int) < 4))) (r_lss rfl rfl) ?_
      refine O_nil ?_
      refine C_cond (x := (decide ((((k : Nat)) : Int) < 4))) rfl (fun hc196 => ?_) (fun hc196 => ?_)
      ·
        simp only [decide_eq_true_eq, decide_eq_false_iff_not, Bool.not_eq_true', Bool.not_eq_false', Bool.and_eq_true, Bool.or_eq_true, Bool.or_eq_false_iff, Bool.not_not] at hc196
        refine C_skip ?_
        refine C_seq ?_
        refine C_block ?_
        refine C_seq ?_
        refine C_seq ?_
        refine C_region ?_
        refine O_p (.i .i64 2) (r_mv hT188) ?_
        refine O_p (.p (some (n60, 2))) (r_iarr' hT186 rfl rfl rfl) ?_
        refine O_p (.i .i64 (num ((b.drop 16).take k))) (r_ld rfl hb194 rfl) ?_
        refine O_p (.b (decide (18014398509481984 < (num ((b.drop 16).take k))))) (r_gtr rfl rfl) ?_
        refine O_nil ?_
        refine C_cond (x := (decide (18014398509481984 < (num ((b.drop 16).take k))))) rfl (fun hc197 => ?_) (fun hc197 => ?_)
        ·
          simp only [decide_eq_true_eq, decide_eq_false_iff_not, Bool.not_eq_true', Bool.not_eq_false', Bool.and_eq_true, Bool.or_eq_true, Bool.or_eq_false_iff, Bool.not_not] at hc197
          have hbd : num ((b.drop 16).take 4) < 256 ^ 4 := (at_bound b (A := 16) (k := 4) (n := 4) (by omega) (Nat.le_refl _)).2.1
          exfalso; omega
        ·
          simp only [decide_eq_true_eq, decide_eq_false_iff_not, Bool.not_eq_true', Bool.not_eq_false', Bool.and_eq_true, Bool.or_eq_true, Bool.or_eq_false_iff, Bool.not_not] at hc197
          have hyt := (b.getD ((16 + k)) 0).toNat_lt
          refine C_skip ?_
          refine C_seq ?_
          refine C_draw fun b198 H199 hbase200 hA201 => ?_
          have hnx202 : H199.next = H178.next + 13 := hA201.1
          have hb203 := (hA201.2 _).trans hb193
          have hb204 := (hA201.2 _).trans hb194
          have hb205 := (hA201.2 _).trans hb195
          have hF206 := hA201.fr (fun _ => False)
          have hO207 := hO192.aside hA201
          have hx_hO207 := hO207.next
          have hlt_n1 : n1 < H199.next := by omega
          have hlt_n60 : n60 < H199.next := by omega
          have hlt_q24 : q24 < H199.next := by omega
          refine D_l (v := (.i .i64 2)) rfl rfl rfl (r_mv hT188) ?_
          refine D_l (v := (.i .i64 2)) rfl rfl rfl (r_mv hT188) ?_
          refine D_l (v := (.p (some (n60, 2)))) rfl rfl rfl (r_iarr' hT186 rfl rfl rfl) ?_
          refine D_l (v := (.sl ba b.length bc bg)) rfl rfl rfl (r_mv hT183) ?_
          refine D_l (v := (.i .i64 ((((16 + k) : Nat)) : Int))) rfl rfl rfl (r_mv hT189) ?_
          refine D_q rfl rfl rfl (by exact Bs.ix (bhb.old hok hO207) rfl (i := (16 + k)) rfl (by first | omega | (simp only [List.length_take, List.length_drop, List.length_append, List.length_cons, List.length_nil, beN_len] <;> omega))) fun v209 hv208 => ?_
          refine D_r (v := (.i .i64 (num ((b.drop 16).take k)))) rfl rfl rfl (r_ld rfl hb204 rfl) ?_
          refine D_l (v := (.i .i64 ((num ((b.drop 16).take k)) * 256))) rfl rfl rfl (by exact (r_muli rfl rfl (wrap_i64 (by omega) (by omega)))) ?_
          refine D_r (v := (.i .u8 ((b.getD (16 + k) 0).toNat : Int))) rfl rfl rfl (hv208.load rfl) ?_
          refine D_l (v := (.i .i64 ((b.getD (16 + k) 0).toNat : Int))) rfl rfl rfl (by exact (r_cint' rfl (wrap_i64 (by omega) (by omega)))) ?_
          refine D_l (v := (.i .i64 (((num ((b.drop 16).take k)) * 256) + ((b.getD (16 + k) 0).toNat : Int)))) rfl rfl rfl (by exact (r_addi rfl rfl (wrap_i64 (by omega) (by omega)))) ?_
          refine D_l (v := (.p (some (n60, 2)))) rfl rfl rfl (r_iarr' hT186 rfl rfl rfl) ?_
          refine D_store (vs := [(.i .i64 (((num ((b.drop 16).take k)) * 256) + ((b.getD (16 + k) 0).toNat : Int)))]) (c' := [(.i .i64 (num ((b.drop 0).take 8))), (.i .i64 (num ((b.drop 8).take 8))), (.i .i64 (((num ((b.drop 16).take k)) * 256) + ((b.getD (16 + k) 0).toNat : Int))), (.i .i64 0), (.i .i64 0), (.i .i64 0), (.i .i64 0), (.i .i64 0), (.i .i64 0), (.i .i64 0), (.i .i64 0)]) rfl (by rfl) hb204 rfl (List.cons_ne_nil _ _) (Nat.le_of_ble_eq_true rfl) rfl fun H210 hW211 => ?_
          have hb212 := (hW211.2.2 _ (by omega)).trans hb203
          have hb213 := (hW211.2.2 _ (by omega)).trans hb205
          have hO214 := hO207.wr hW211 (by omega) (by omega)
          have hx_hO214 := hO214.next
          have hnx_H210 : H210.next = H199.next := hW211.1
          have hlt_n1 : n1 < H210.next := by omega
          have hlt_n60 : n60 < H210.next := by omega
          have hlt_q24 : q24 < H210.next := by omega
          refine And.intro (And.intro (Or.inl rfl) (And.intro (Or.inl rfl) True.intro)) ?_
          refine D_nil ?_
          refine C_region ?_
          refine O_p (.i .i64 ((((16 + k) : Nat)) : Int)) (r_mv hT189) ?_
          refine O_p (.i .i64 (((((16 + k) : Nat)) : Int) + 1)) (by exact (r_addi rfl rfl (wrap_i64 (by omega) (by omega)))) ?_
          refine O_p (.i .i64 (((((16 + k) : Nat)) : Int) + 1)) (r_mv rfl) ?_
          refine O_nil ?_
          refine C_region ?_
          refine O_p (.i .i64 (((k : Nat)) : Int)) (r_mv hT190) ?_
          refine O_p (.i .i64 ((((k : Nat)) : Int) + 1)) (by exact (r_addi rfl rfl (wrap_i64 (by omega) (by omega)))) ?_
          refine O_p (.i .i64 ((((k : Nat)) : Int) + 1)) (r_mv rfl) ?_
          refine O_nil ?_
          have hst := at_step (b := b) (A := 16) (k := k) (by omega)
          exact ⟨4 - (k + 1), by omega, k + 1, rfl, by omega, hO214, hb212, hlt_n1, (by rw [hst]; exact hW211.2.1), hlt_n60, hb213, hlt_q24, hT182, hT183, hT184, hT185, hT186, hT187, hT188, congrArg (AV.i .i64) (by omega), rfl⟩
      ·
        simp only [decide_eq_true_eq, decide_eq_false_iff_not, Bool.not_eq_true', Bool.not_eq_false', Bool.and_eq_true, Bool.or_eq_true, Bool.or_eq_false_iff, Bool.not_not] at hc196
        refine C_exit ?_
        refine nx_exit ?_
        refine nx_exit ?_
        refine bk_hit ?_
        refine C_region ?_
        have hk : k = 4 := by omega
        subst hk
        refine O_p (.i .i64 2) (r_mv hT188) ?_
        refine O_p (.i .i64 3) (r_bin rfl rfl rfl) ?_
        refine O_p (.i .i64 3) (r_mv rfl) ?_
        refine O_nil ?_
        refine C_loop ?_
        refine C_seq ?_
        refine C_seq ?_
        refine C_region ?_
        refine O_p (.i .i64 3) (r_mv rfl) ?_
        refine O_p (.sl (some (q24, 0)) 11 11 0) (r_mv hT187) ?_
        refine O_p (.i .i64 11) (r_len rfl) ?_
        refine O_p (.b true) (r_bin rfl rfl rfl) ?_
        refine O_nil ?_
        refine C_cond (x := true) rfl (fun _ => ?_) (fun h => by cases h)
        refine C_skip ?_
        refine C_seq ?_
        refine C_block ?_
        refine C_seq ?_
        refine C_region ?_
        refine O_p (.i .i64 0) (r_mv rfl) ?_
        refine O_nil ?_
        refine C_block ?_
        have hz3 : num ((b.drop 20).take 0) = 0 := rfl
        refine C_while (fun m215 T216 H217 => ∃ k : Nat, m215 = 4 - k ∧ k ≤ 4 ∧ Old H.next H H217 ∧ H217.get n1 = some (.cells [(.i .i64 0), (.i .i64 0), (.i .i64 0), (.i .i64 0), (.i .i64 0), (.i .i64 0), (.i .i64 0), (.i .i64 0), (.i .i64 0), (.i .i64 0), (.i .i64 0)] true) ∧ n1 < H217.next ∧ H217.get n60 = some (.cells [(.i .i64 (num ((b.drop 0).take 8))), (.i .i64 (num ((b.drop 8).take 8))), (.i .i64 (num ((b.drop 16).take 4))), (.i .i64 (num ((b.drop 20).take k))), (.i .i64 0), (.i .i64 0), (.i .i64 0), (.i .i64 0), (.i .i64 0), (.i .i64 0), (.i .i64 0)] true) ∧ n60 < H217.next ∧ H217.get q24 = some (.cells [(.i .i64 8), (.i .i64 8), (.i .i64 4), (.i .i64 4), (.i .i64 4), (.i .i64 4), (.i .i64 4), (.i .i64 4), (.i .i64 4), (.i .i64 2), (.i .i64 2)] true) ∧ q24 < H217.next ∧ T216.get 0 = (.sl ka key.length kc kg) ∧ T216.get 1 = (.sl ba b.length bc bg) ∧ T216.get 4 = (.p (some (n1, 0))) ∧ T216.get 5 = (.i .i64 0) ∧ T216.get 6 = (.p (some (n60, 0))) ∧ T216.get 7 = (.sl (some (q24, 0)) 11 11 0) ∧ T216.get 9 = (.i .i64 3) ∧ T216.get 8 = (.i .i64 ((((20 + k) : Nat)) : Int)) ∧ T216.get 10 = (.i .i64 (((k : Nat)) : Int))) (fun m215 T216 H217 hI218 => ?_) 4 _ _ ⟨0, rfl, Nat.zero_le _, hO192, hb193, hlt_n1, hb194, hlt_n60, hb195, hlt_q24, hT182, hT183, hT184, hT185, hT186, hT187, rfl, hT189, rfl⟩
        obtain ⟨k, hm219, hp220, hO231, hb232, hlt_n1, hb233, hlt_n60, hb234, hlt_q24, hT221, hT222, hT223, hT224, hT225, hT226, hT227, hT228, hT229⟩ := hI218
        have hx_hO231 := hO231.next
        have hab := at_bound b (A := 20) (k := k) (n := 4) (by omega) (by omega)
        refine C_seq ?_
        refine C_seq ?_
        refine C_region ?_
        refine O_p (.i .i64 (((k : Nat)) : Int)) (r_mv hT229) ?_
        refine O_p (.sl (some (q24, 0)) 11 11 0) (r_mv hT226) ?_
        refine O_p (.i .i64 3) (r_mv hT227) ?_
        refine O_p (.p (some (q24, 3))) (by exact (r_isl' rfl rfl (by decide) (by decide) rfl)) ?_
        refine O_p (.i .i64 4) (r_ld rfl hb234 rfl) ?_
        refine O_p (.b (decide ((((k : Nat)) : Int) < 4))) (r_lss rfl rfl) ?_
        refine O_nil ?_
        refine C_cond (x := (decide ((((k : Nat)) : Int) < 4))) rfl (fun hc235 => ?_) (fun hc235 => ?_)
        ·
          simp only [decide_eq_true_eq, decide_eq_false_iff_not, Bool.not_eq_true', Bool.not_eq_false', Bool.and_eq_true, Bool.or_eq_true, Bool.or_eq_false_iff, Bool.not_not] at hc235
          refine C_skip ?_
          refine C_seq ?_
          refine C_block ?_
          refine C_seq ?_
          refine C_seq ?_
          refine C_region ?_
          refine O_p (.i .i64 3) (r_mv hT227) ?_
          refine O_p (.p (some (n60, 3))) (r_iarr' hT225 rfl rfl rfl) ?_
          refine O_p (.i .i64 (num ((b.drop 20).take k))) (r_ld rfl hb233 rfl) ?_
          refine O_p (.b (decide (18014398509481984 < (num ((b.drop 20).take k))))) (r_gtr rfl rfl) ?_
          refine O_nil ?_
          refine C_cond (x := (decide (18014398509481984 < (num ((b.drop 20).take k))))) rfl (fun hc236 => ?_) (fun hc236 => ?_)
          ·
            simp only [decide_eq_true_eq, decide_eq_false_iff_not, Bool.not_eq_true', Bool.not_eq_false', Bool.and_eq_true, Bool.or_eq_true, Bool.or_eq_false_iff, Bool.not_not] at hc236
            have hbd : num ((b.drop 20).take 4) < 256 ^ 4 := (at_bound b (A := 20) (k := 4) (n := 4) (by omega) (Nat.le_refl _)).2.1
            exfalso; omega
          ·
            simp only [decide_eq_true_eq, decide_eq_false_iff_not, Bool.not_eq_true', Bool.not_eq_false', Bool.and_eq_true, Bool.or_eq_true, Bool.or_eq_false_iff, Bool.not_not] at hc236
            have hyt := (b.getD ((20 + k)) 0).toNat_lt
            refine C_skip ?_
            refine C_seq ?_
            refine C_draw fun b237 H238 hbase239 hA240 => ?_
            have hnx241 : H238.next = H217.next + 13 := hA240.1
            have hb242 := (hA240.2 _).trans hb232
            have hb243 := (hA240.2 _).trans hb233
            have hb244 := (hA240.2 _).trans hb234
            have hF245 := hA240.fr (fun _ => False)
            have hO246 := hO231.aside hA240
            have hx_hO246 := hO246.next
            have hlt_n1 : n1 < H238.next := by omega
            have hlt_n60 : n60 < H238.next := by omega
            have hlt_q24 : q24 < H238.next := by omega
            refine D_l (v := (.i .i64 3)) rfl rfl rfl (r_mv hT227) ?_
            refine D_l (v := (.i .i64 3)) rfl rfl rfl (r_mv hT227) ?_
            refine D_l (v := (.p (some (n60, 3)))) rfl rfl rfl (r_iarr' hT225 rfl rfl rfl) ?_
            refine D_l (v := (.sl ba b.length bc bg)) rfl rfl rfl (r_mv hT222) ?_
            refine D_l (v := (.i .i64 ((((20 + k) : Nat)) : Int))) rfl rfl rfl (r_mv hT228) ?_
            refine D_q rfl rfl rfl (by exact Bs.ix (bhb.old hok hO246) rfl (i := (20 + k)) rfl (by first | omega | (simp only [List.length_take, List.length_drop, List.length_append, List.length_cons, List.length_nil, beN_len] <;> omega))) fun v248 hv247 => ?_
            refine D_r (v := (.i .i64 (num ((b.drop 20).take k)))) rfl rfl rfl (r_ld rfl hb243 rfl) ?_
            refine D_l (v := (.i .i64 ((num ((b.drop 20).take k)) * 256))) rfl rfl rfl (by exact (r_muli rfl rfl (wrap_i64 (by omega) (by omega)))) ?_
            refine D_r (v := (.i .u8 ((b.getD (20 + k) 0).toNat : Int))) rfl rfl rfl (hv247.load rfl) ?_
            refine D_l (v := (.i .i64 ((b.getD (20 + k) 0).toNat : Int))) rfl rfl rfl (by exact (r_cint' rfl (wrap_i64 (by omega) (by omega)))) ?_
            refine D_l (v := (.i .i64 (((num ((b.drop 20).take k)) * 256) + ((b.getD (20 + k) 0).toNat : Int)))) rfl rfl rfl (by exact (r_addi rfl rfl (wrap_i64 (by omega) (by omega)))) ?_
            refine D_l (v := (.p (some (n60, 3)))) rfl rfl rfl (r_iarr' hT225 rfl rfl rfl) ?_
            refine D_store (vs := [(.i .i64 (((num ((b.drop 20).take k)) * 256) + ((b.getD (20 + k) 0).toNat : Int)))]) (c' := [(.i .i64 (num ((b.drop 0).take 8))), (.i .i64 (num ((b.drop 8).take 8))), (.i .i64 (num ((b.drop 16).take 4))), (.i .i64 (((num ((b.drop 20).take k)) * 256) + ((b.getD (20 + k) 0).toNat : Int))), (.i .i64 0), (.i .i64 0), (.i .i64 0), (.i .i64 0), (.i .i64 0), (.i .i64 0), (.i .i64 0)]) rfl (by rfl) hb243 rfl (List.cons_ne_nil _ _) (Nat.le_of_ble_eq_true rfl) rfl fun H249 hW250 => ?_
            have hb251 := (hW250.2.2 _ (by omega)).trans hb242
            have hb252 := (hW250.2.2 _ (by omega)).trans hb244
            have hO253 := hO246.wr hW250 (by omega) (by omega)
            have hx_hO253 := hO253.next
            have hnx_H249 : H249.next = H238.next := hW250.1
            have hlt_n1 : n1 < H249.next := by omega
            have hlt_n60 : n60 < H249.next := by omega
            have hlt_q24 : q24 < H249.next := by omega
            refine And.intro (And.intro (Or.inl rfl) (And.intro (Or.inl rfl) True.intro)) ?_
            refine D_nil ?_
            refine C_region ?_
            refine O_p (.i .i64 ((((20 + k) : Nat)) : Int)) (r_mv hT228) ?_
            refine O_p (.i .i64 (((((20 + k) : Nat)) : Int) + 1)) (by exact (r_addi rfl rfl (wrap_i64 (by omega) (by omega)))) ?_
            refine O_p (.i .i64 (((((20 + k) : Nat)) : Int) + 1)) (r_mv rfl) ?_
            refine O_nil ?_
            refine C_region ?_
            refine O_p (.i .i64 (((k : Nat)) : Int)) (r_mv hT229) ?_
            refine O_p (.i .i64 ((((k : Nat)) : Int) + 1)) (by exact (r_addi rfl rfl (wrap_i64 (by omega) (by omega)))) ?_
            refine O_p (.i .i64 ((((k : Nat)) : Int) + 1)) (r_mv rfl) ?_
            refine O_nil ?_
            have hst := at_step (b := b) (A := 20) (k := k) (by omega)
            exact ⟨4 - (k + 1), by omega, k + 1, rfl, by omega, hO253, hb251, hlt_n1, (by rw [hst]; exact hW250.2.1), hlt_n60, hb252, hlt_q24, hT221, hT222, hT223, hT224, hT225, hT226, hT227, congrArg (AV.i .i64) (by omega), rfl⟩
        ·
          simp only [decide_eq_true_eq, decide_eq_false_iff_not, Bool.not_eq_true', Bool.not_eq_false', Bool.and_eq_true, Bool.or_eq_true, Bool.or_eq_false_iff, Bool.not_not] at hc235
          refine C_exit ?_
          refine nx_exit ?_
          refine nx_exit ?_
          refine bk_hit ?_
          refine C_region ?_
          have hk : k = 4 := by omega
          subst hk
          refine O_p (.i .i64 3) (r_mv hT227) ?_
          refine O_p (.i .i64 4) (r_bin rfl rfl rfl) ?_
          refine O_p (.i .i64 4) (r_mv rfl) ?_
          refine O_nil ?_
          refine C_loop ?_
          refine C_seq ?_
          refine C_seq ?_
          refine C_region ?_
          refine O_p (.i .i64 4) (r_mv rfl) ?_
          refine O_p (.sl (some (q24, 0)) 11 11 0) (r_mv hT226) ?_
          refine O_p (.i .i64 11) (r_len rfl) ?_
          refine O_p (.b true) (r_bin rfl rfl rfl) ?_
          refine O_nil ?_
          refine C_cond (x := true) rfl (fun _ => ?_) (fun h => by cases h)
          refine C_skip ?_
          refine C_seq ?_
          refine C_block ?_
          refine C_seq ?_
          refine C_region ?_
          refine O_p (.i .i64 0) (r_mv rfl) ?_
          refine O_nil ?_
          refine C_block ?_
          have hz4 : num ((b.drop 24).take 0) = 0 := rfl
          refine C_while (fun m254 T255 H256 => ∃ k : Nat, m254 = 4 - k ∧ k ≤ 4 ∧ Old H.next H H256 ∧ H256.get n1 = some (.cells [(.i .i64 0), (.i .i64 0), (.i .i64 0), (.i .i64 0), (.i .i64 0), (.i .i64 0), (.i .i64 0), (.i .i64 0), (.i .i64 0), (.i .i64 0), (.i .i64 0)] true) ∧ n1 < H256.next ∧ H256.get n60 = some (.cells [(.i .i64 (num ((b.drop 0).take 8))), (.i .i64 (num ((b.drop 8).take 8))), (.i .i64 (num ((b.drop 16).take 4))), (.i .i64 (num ((b.drop 20).take 4))), (.i .i64 (num ((b.drop 24).take k))), (.i .i64 0), (.i .i64 0), (.i .i64 0), (.i .i64 0), (.i .i64 0), (.i .i64 0)] true) ∧ n60 < H256.next ∧ H256.get q24 = some (.cells [(.i .i64 8), (.i .i64 8), (.i .i64 4), (.i .i64 4), (.i .i64 4), (.i .i64 4), (.i .i64 4), (.i .i64 4), (.i .i64 4), (.i .i64 2), (.i .i64 2)] true) ∧ q24 < H256.next ∧ T255.get 0 = (.sl ka key.length kc kg) ∧ T255.get 1 = (.sl ba b.length bc bg) ∧ T255.get 4 = (.p (some (n1, 0))) ∧ T255.get 5 = (.i .i64 0) ∧ T255.get 6 = (.p (some (n60, 0))) ∧ T255.get 7 = (.sl (some (q24, 0)) 11 11 0) ∧ T255.get 9 = (.i .i64 4) ∧ T255.get 8 = (.i .i64 ((((24 + k) : Nat)) : Int)) ∧ T255.get 10 = (.i .i64 (((k : Nat)) : Int))) (fun m254 T255 H256 hI257 => ?_) 4 _ _ ⟨0, rfl, Nat.zero_le _, hO231, hb232, hlt_n1, hb233, hlt_n60, hb234, hlt_q24, hT221, hT222, hT223, hT224, hT225, hT226, rfl, hT228, rfl⟩
          obtain ⟨k, hm258, hp259, hO270, hb271, hlt_n1, hb272, hlt_n60, hb273, hlt_q24, hT260, hT261, hT262, hT263, hT264, hT265, hT266, hT267, hT268⟩ := hI257
          have hx_hO270 := hO270.next
          have hab := at_bound b (A := 24) (k := k) (n := 4) (by omega) (by omega)
          refine C_seq ?_
          refine C_seq ?_
          refine C_region ?_
          refine O_p (.i .i64 (((k : Nat)) : Int)) (r_mv hT268) ?_
          refine O_p (.sl (some (q24, 0)) 11 11 0) (r_mv hT265) ?_
          refine O_p (.i .i64 4) (r_mv hT266) ?_
          refine O_p (.p (some (q24, 4))) (by exact (r_isl' rfl rfl (by decide) (by decide) rfl)) ?_
          refine O_p (.i .i64 4) (r_ld rfl hb273 rfl) ?_
          refine O_p (.b (decide ((((k : Nat)) : Int) < 4))) (r_lss rfl rfl) ?_
          refine O_nil ?_
          refine C_cond (x := (decide ((((k : Nat)) : Int) < 4))) rfl (fun hc274 => ?_) (fun hc274 => ?_)
          ·
            simp only [decide_eq_true_eq, decide_eq_false_iff_not, Bool.not_eq_true', Bool.not_eq_false', Bool.and_eq_true, Bool.or_eq_true, Bool.or_eq_false_iff, Bool.not_not] at hc274
            refine C_skip ?_
            refine C_seq ?_
            refine C_block ?_
            refine C_seq ?_
            refine C_seq ?_
            refine C_region ?_
            refine O_p (.i .i64 4) (r_mv hT266) ?_
            refine O_p (.p (some (n60, 4))) (r_iarr' hT264 rfl rfl rfl) ?_
            refine O_p (.i .i64 (num ((b.drop 24).take k))) (r_ld rfl hb272 rfl) ?_
            refine O_p (.b (decide (18014398509481984 < (num ((b.drop 24).take k))))) (r_gtr rfl rfl) ?_
            refine O_nil ?_
            refine C_cond (x := (decide (18014398509481984 < (num ((b.drop 24).take k))))) rfl (fun hc275 => ?_) (fun hc275 => ?_)
            ·
              simp only [decide_eq_true_eq, decide_eq_false_iff_not, Bool.not_eq_true', Bool.not_eq_false', Bool.and_eq_true, Bool.or_eq_true, Bool.or_eq_false_iff, Bool.not_not] at hc275
              have hbd : num ((b.drop 24).take 4) < 256 ^ 4 := (at_bound b (A := 24) (k := 4) (n := 4) (by omega) (Nat.le_refl _)).2.1
              exfalso; omega
            ·
              simp only [decide_eq_true_eq, decide_eq_false_iff_not, Bool.not_eq_true', Bool.not_eq_false', Bool.and_eq_true, Bool.or_eq_true, Bool.or_eq_false_iff, Bool.not_not] at hc275
              have hyt := (b.getD ((24 + k)) 0).toNat_lt
              refine C_skip ?_
              refine C_seq ?_
              refine C_draw fun b276 H277 hbase278 hA279 => ?_
              have hnx280 : H277.next = H256.next + 13 := hA279.1
              have hb281 := (hA279.2 _).trans hb271
              have hb282 := (hA279.2 _).trans hb272
              have hb283 := (hA279.2 _).trans hb273
              have hF284 := hA279.fr (fun _ => False)
              have hO285 := hO270.aside hA279
              have hx_hO285 := hO285.next
              have hlt_n1 : n1 < H277.next := by omega
              have hlt_n60 : n60 < H277.next := by omega
              have hlt_q24 : q24 < H277.next := by omega
              refine D_l (v := (.i .i64 4)) rfl rfl rfl (r_mv hT266) ?_
              refine D_l (v := (.i .i64 4)) rfl rfl rfl (r_mv hT266) ?_
              refine D_l (v := (.p (some (n60, 4)))) rfl rfl rfl (r_iarr' hT264 rfl rfl rfl) ?_
              refine D_l (v := (.sl ba b.length bc bg)) rfl rfl rfl (r_mv hT261) ?_
              refine D_l (v := (.i .i64 ((((24 + k) : Nat)) : Int))) rfl rfl rfl (r_mv hT267) ?_
              refine D_q rfl rfl rfl (by exact Bs.ix (bhb.old hok hO285) rfl (i := (24 + k)) rfl (by first | omega | (simp only [List.length_take, List.length_drop, List.length_append, List.length_cons, List.length_nil, beN_len] <;> omega))) fun v287 hv286 => ?_
              refine D_r (v := (.i .i64 (num ((b.drop 24).take k)))) rfl rfl rfl (r_ld rfl hb282 rfl) ?_
              refine D_l (v := (.i .i64 ((num ((b.drop 24).take k)) * 256))) rfl rfl rfl (by exact (r_muli rfl rfl (wrap_i64 (by omega) (by omega)))) ?_
              refine D_r (v := (.i .u8 ((b.getD (24 + k) 0).toNat : Int))) rfl rfl rfl (hv286.load rfl) ?_
              refine D_l (v := (.i .i64 ((b.getD (24 + k) 0).toNat : Int))) rfl rfl rfl (by exact (r_cint' rfl (wrap_i64 (by omega) (by omega)))) ?_
              refine D_l (v := (.i .i64 (((num ((b.drop 24).take k)) * 256) + ((b.getD (24 + k) 0).toNat : Int)))) rfl rfl rfl (by exact (r_addi rfl rfl (wrap_i64 (by omega) (by omega)))) ?_
              refine D_l (v := (.p (some (n60, 4)))) rfl rfl rfl (r_iarr' hT264 rfl rfl rfl) ?_
              refine D_store (vs := [(.i .i64 (((num ((b.drop 24).take k)) * 256) + ((b.getD (24 + k) 0).toNat : Int)))]) (c' := [(.i .i64 (num ((b.drop 0).take 8))), (.i .i64 (num ((b.drop 8).take 8))), (.i .i64 (num ((b.drop 16).take 4))), (.i .i64 (num ((b.drop 20).take 4))), (.i .i64 (((num ((b.drop 24).take k)) * 256) + ((b.getD (24 + k) 0).toNat : Int))), (.i .i64 0), (.i .i64 0), (.i .i64 0), (.i .i64 0), (.i .i64 0), (.i .i64 0)]) rfl (by rfl) hb282 rfl (List.cons_ne_nil _ _) (Nat.le_of_ble_eq_true rfl) rfl fun H288 hW289 => ?_
              have hb290 := (hW289.2.2 _ (by omega)).trans hb281
              have hb291 := (hW289.2.2 _ (by omega)).trans hb283
              have hO292 := hO285.wr hW289 (by omega) (by omega)
              have hx_hO292 := hO292.next
              have hnx_H288 : H288.next = H277.next := hW289.1
              have hlt_n1 : n1 < H288.next := by omega
              have hlt_n60 : n60 < H288.next := by omega
              have hlt_q24 : q24 < H288.next := by omega
              refine And.intro (And.intro (Or.inl rfl) (And.intro (Or.inl rfl) True.intro)) ?_
              refine D_nil ?_
              refine C_region ?_
              refine O_p (.i .i64 ((((24 + k) : Nat)) : Int)) (r_mv hT267) ?_
              refine O_p (.i .i64 (((((24 + k) : Nat)) : Int) + 1)) (by exact (r_addi rfl rfl (wrap_i64 (by omega) (by omega)))) ?_
              refine O_p (.i .i64 (((((24 + k) : Nat)) : Int) + 1)) (r_mv rfl) ?_
              refine O_nil ?_
              refine C_region ?_
              refine O_p (.i .i64 (((k : Nat)) : Int)) (r_mv hT268) ?_
              refine O_p (.i .i64 ((((k : Nat)) : Int) + 1)) (by exact (r_addi rfl rfl (wrap_i64 (by omega) (by omega)))) ?_
              refine O_p (.i .i64 ((((k : Nat)) : Int) + 1)) (r_mv rfl) ?_
              refine O_nil ?_
              have hst := at_step (b := b) (A := 24) (k := k) (by omega)
              exact ⟨4 - (k + 1), by omega, k + 1, rfl, by omega, hO292, hb290, hlt_n1, (by rw [hst]; exact hW289.2.1), hlt_n60, hb291, hlt_q24, hT260, hT261, hT262, hT263, hT264, hT265, hT266, congrArg (AV.i .i64) (by omega), rfl⟩
          ·
            simp only [decide_eq_true_eq, decide_eq_false_iff_not, Bool.not_eq_true', Bool.not_eq_false', Bool.and_eq_true, Bool.or_eq_true, Bool.or_eq_false_iff, Bool.not_not] at hc274
            refine C_exit ?_
            refine nx_exit ?_
            refine nx_exit ?_
            refine bk_hit ?_
            refine C_region ?_
            have hk : k = 4 := by omega
            subst hk
            refine O_p (.i .i64 4) (r_mv hT266) ?_
            refine O_p (.i .i64 5) (r_bin rfl rfl rfl) ?_
            refine O_p (.i .i64 5) (r_mv rfl) ?_
            refine O_nil ?_
            refine C_loop ?_
            refine C_seq ?_
            refine C_seq ?_
            refine C_region ?_
            refine O_p (.i .i64 5) (r_mv rfl) ?_
            refine O_p (.sl (some (q24, 0)) 11 11 0) (r_mv hT265) ?_
            refine O_p (.i .i64 11) (r_len rfl) ?_
            refine O_p (.b true) (r_bin rfl rfl rfl) ?_
            refine O_nil ?_
            refine C_cond (x := true) rfl (fun _ => ?_) (fun h => by cases h)
            refine C_skip ?_
            refine C_seq ?_
            refine C_block ?_
            refine C_seq ?_
            refine C_region ?_
            refine O_p (.i .i64 0) (r_mv rfl) ?_
            refine O_nil ?_
            refine C_block ?_
            have hz5 : num ((b.drop 28).take 0) = 0 := rfl
            refine C_while (fun m293 T294 H295 => ∃ k : Nat, m293 = 4 - k ∧ k ≤ 4 ∧ Old H.next H H295 ∧ H295.get n1 = some (.cells [(.i .i64 0), (.i .i64 0), (.i .i64 0), (.i .i64 0), (.i .i64 0), (.i .i64 0), (.i .i64 0), (.i .i64 0), (.i .i64 0), (.i .i64 0), (.i .i64 0)] true) ∧ n1 < H295.next ∧ H295.get n60 = some (.cells [(.i .i64 (num ((b.drop 0).take 8))), (.i .i64 (num ((b.drop 8).take 8))), (.i .i64 (num ((b.drop 16).take 4))), (.i .i64 (num ((b.drop 20).take 4))), (.i .i64 (num ((b.drop 24).take 4))), (.i .i64 (num ((b.drop 28).take k))), (.i .i64 0), (.i .i64 0), (.i .i64 0), (.i .i64 0), (.i .i64 0)] true) ∧ n60 < H295.next ∧ H295.get q24 = some (.cells [(.i .i64 8), (.i .i64 8), (.i .i64 4), (.i .i64 4), (.i .i64 4), (.i .i64 4), (.i .i64 4), (.i .i64 4), (.i .i64 4), (.i .i64 2), (.i .i64 2)] true) ∧ q24 < H295.next ∧ T294.get 0 = (.sl ka key.length kc kg) ∧ T294.get 1 = (.sl ba b.length bc bg) ∧ T294.get 4 = (.p (some (n1, 0))) ∧ T294.get 5 = (.i .i64 0) ∧ T294.get 6 = (.p (some (n60, 0))) ∧ T294.get 7 = (.sl (some (q24, 0)) 11 11 0) ∧ T294.get 9 = (.i .i64 5) ∧ T294.get 8 = (.i .i64 ((((28 + k) : Nat)) : Int)) ∧ T294.get 10 = (.i .i64 (((k : Nat)) : Int))) (fun m293 T294 H295 hI296 => ?_) 4 _ _ ⟨0, rfl, Nat.zero_le _, hO270, hb271, hlt_n1, hb272, hlt_n60, hb273, hlt_q24, hT260, hT261, hT262, hT263, hT264, hT265, rfl, hT267, rfl⟩
            obtain ⟨k, hm297, hp298, hO309, hb310, hlt_n1, hb311, hlt_n60, hb312, hlt_q24, hT299, hT300, hT301, hT302, hT303, hT304, hT305, hT306, hT307⟩ := hI296
            have hx_hO309 := hO309.next
            have hab := at_bound b (A := 28) (k := k) (n := 4) (by omega) (by omega)
            refine C_seq ?_
            refine C_seq ?_
            refine C_region ?_
            refine O_p (.i .i64 (((k : Nat)) : Int)) (r_mv hT307) ?_
            refine O_p (.sl (some (q24, 0)) 11 11 0) (r_mv hT304) ?_
            refine O_p (.i .i64 5) (r_mv hT305) ?_
            refine O_p (.p (some (q24, 5))) (by exact (r_isl' rfl rfl (by decide) (by decide) rfl)) ?_
            refine O_p (.i .i64 4) (r_ld rfl hb312 rfl) ?_
            refine O_p (.b (decide ((((k : Nat)) : Int) < 4))) (r_lss rfl rfl) ?_
            refine O_nil ?_
            refine C_cond (x := (decide ((((k : Nat)) : Int) < 4))) rfl (fun hc313 => ?_) (fun hc313 => ?_)
            ·
              simp only [decide_eq_true_eq, decide_eq_false_iff_not, Bool.not_eq_true', Bool.not_eq_false', Bool.and_eq_true, Bool.or_eq_true, Bool.or_eq_false_iff, Bool.not_not] at hc313
              refine C_skip ?_
              refine C_seq ?_
              refine C_block ?_
              refine C_seq ?_
              refine C_seq ?_
              refine C_region ?_
              refine O_p (.i .i64 5) (r_mv hT305) ?_
              refine O_p (.p (some (n60, 5))) (r_iarr' hT303 rfl rfl rfl) ?_
              refine O_p (.i .i64 (num ((b.drop 28).take k))) (r_ld rfl hb311 rfl) ?_
              refine O_p (.b (decide (18014398509481984 < (num ((b.drop 28).take k))))) (r_gtr rfl rfl) ?_
              refine O_nil ?_
              refine C_cond (x := (decide (18014398509481984 < (num ((b.drop 28).take k))))) rfl (fun hc314 => ?_) (fun hc314 => ?_)
              ·
                simp only [decide_eq_true_eq, decide_eq_false_iff_not, Bool.not_eq_true', Bool.not_eq_false', Bool.and_eq_true, Bool.or_eq_true, Bool.or_eq_false_iff, Bool.not_not] at hc314
                have hbd : num ((b.drop 28).take 4) < 256 ^ 4 := (at_bound b (A := 28) (k := 4) (n := 4) (by omega) (Nat.le_refl _)).2.1
                exfalso; omega
              ·
                simp only [decide_eq_true_eq, decide_eq_false_iff_not, Bool.not_eq_true', Bool.not_eq_false', Bool.and_eq_true, Bool.or_eq_true, Bool.or_eq_false_iff, Bool.not_not] at hc314
                have hyt := (b.getD ((28 + k)) 0).toNat_lt
                refine C_skip ?_
                refine C_seq ?_
                refine C_draw fun b315 H316 hbase317 hA318 => ?_
                have hnx319 : H316.next = H295.next + 13 := hA318.1
                have hb320 := (hA318.2 _).trans hb310
                have hb321 := (hA318.2 _).trans hb311
                have hb322 := (hA318.2 _).trans hb312
                have hF323 := hA318.fr (fun _ => False)
                have hO324 := hO309.aside hA318
                have hx_hO324 := hO324.next
                have hlt_n1 : n1 < H316.next := by omega
                have hlt_n60 : n60 < H316.next := by omega
                have hlt_q24 : q24 < H316.next := by omega
                refine D_l (v := (.i .i64 5)) rfl rfl rfl (r_mv hT305) ?_
                refine D_l (v := (.i .i64 5)) rfl rfl rfl (r_mv hT305) ?_
                refine D_l (v := (.p (some (n60, 5)))) rfl rfl rfl (r_iarr' hT303 rfl rfl rfl) ?_
                refine D_l (v := (.sl ba b.length bc bg)) rfl rfl rfl (r_mv hT300) ?_
                refine D_l (v := (.i .i64 ((((28 + k) : Nat)) : Int))) rfl rfl rfl (r_mv hT306) ?_
                refine D_q rfl rfl rfl (by exact Bs.ix (bhb.old hok hO324) rfl (i := (28 + k)) rfl (by first | omega | (simp only [List.length_take, List.length_drop, List.length_append, List.length_cons, List.length_nil, beN_len] <;> omega))) fun v326 hv325 => ?_
                refine D_r (v := (.i .i64 (num ((b.drop 28).take k)))) rfl rfl rfl (r_ld rfl hb321 rfl) ?_
                refine D_l (v := (.i .i64 ((num ((b.drop 28).take k)) * 256))) rfl rfl rfl (by exact (r_muli rfl rfl (wrap_i64 (by omega) (by omega)))) ?_
                refine D_r (v := (.i .u8 ((b.getD (28 + k) 0).toNat : Int))) rfl rfl rfl (hv325.load rfl) ?_
                refine D_l (v := (.i .i64 ((b.getD (28 + k) 0).toNat : Int))) rfl rfl rfl (by exact (r_cint' rfl (wrap_i64 (by omega) (by omega)))) ?_
                refine D_l (v := (.i .i64 (((num ((b.drop 28).take k)) * 256) + ((b.getD (28 + k) 0).toNat : Int)))) rfl rfl rfl (by exact (r_addi rfl rfl (wrap_i64 (by omega) (by omega)))) ?_
                refine D_l (v := (.p (some (n60, 5)))) rfl rfl rfl (r_iarr' hT303 rfl rfl rfl) ?_
                refine D_store (vs := [(.i .i64 (((num ((b.drop 28).take k)) * 256) + ((b.getD (28 + k) 0).toNat : Int)))]) (c' := [(.i .i64 (num ((b.drop 0).take 8))), (.i .i64 (num ((b.drop 8).take 8))), (.i .i64 (num ((b.drop 16).take 4))), (.i .i64 (num ((b.drop 20).take 4))), (.i .i64 (num ((b.drop 24).take 4))), (.i .i64 (((num ((b.drop 28).take k)) * 256) + ((b.getD (28 + k) 0).toNat : Int))), (.i .i64 0), (.i .i64 0), (.i .i64 0), (.i .i64 0), (.i .i64 0)]) rfl (by rfl) hb321 rfl (List.cons_ne_nil _ _) (Nat.le_of_ble_eq_true rfl) rfl fun H327 hW328 => ?_
                have hb329 := (hW328.2.2 _ (by omega)).trans hb320
                have hb330 := (hW328.2.2 _ (by omega)).trans hb322
                have hO331 := hO324.wr hW328 (by omega) (by omega)
                have hx_hO331 := hO331.next
                have hnx_H327 : H327.next = H316.next := hW328.1
                have hlt_n1 : n1 < H327.next := by omega
                have hlt_n60 : n60 < H327.next := by omega
                have hlt_q24 : q24 < H327.next := by omega
                refine And.intro (And.intro (Or.inl rfl) (And.intro (Or.inl rfl) True.intro)) ?_
                refine D_nil ?_
                refine C_region ?_
                refine O_p (.i .i64 ((((28 + k) : Nat)) : Int)) (r_mv hT306) ?_
                refine O_p (.i .i64 (((((28 + k) : Nat)) : Int) + 1)) (by exact (r_addi rfl rfl (wrap_i64 (by omega) (by omega)))) ?_
                refine O_p (.i .i64 (((((28 + k) : Nat)) : Int) + 1)) (r_mv rfl) ?_
                refine O_nil ?_
                refine C_region ?_
                refine O_p (.i .i64 (((k : Nat)) : Int)) (r_mv hT307) ?_
                refine O_p (.i .i64 ((((k : Nat)) : Int) + 1)) (by exact (r_addi rfl rfl (wrap_i64 (by omega) (by omega)))) ?_
                refine O_p (.i .i64 ((((k : Nat)) : Int) + 1)) (r_mv rfl) ?_
                refine O_nil ?_
                have hst := at_step (b := b) (A := 28) (k := k) (by omega)
                exact ⟨4 - (k + 1), by omega, k + 1, rfl, by omega, hO331, hb329, hlt_n1, (by rw [hst]; exact hW328.2.1), hlt_n60, hb330, hlt_q24, hT299, hT300, hT301, hT302, hT303, hT304, hT305, congrArg (AV.i .i64) (by omega), rfl⟩
            ·
              simp only [decide_eq_true_eq, decide_eq_false_iff_not, Bool.not_eq_true', Bool.not_eq_false', Bool.and_eq_true, Bool.or_eq_true, Bool.or_eq_false_iff, Bool.not_not] at hc313
              refine C_exit ?_
              refine nx_exit ?_
              refine nx_exit ?_
              refine bk_hit ?_
              refine C_region ?_
              have hk : k = 4 := by omega
              subst hk
              refine O_p (.i .i64 5) (r_mv hT305) ?_
              refine O_p (.i .i64 6) (r_bin rfl rfl rfl) ?_
              refine O_p (.i .i64 6) (r_mv rfl) ?_
              refine O_nil ?_
              refine C_loop ?_
              refine C_seq ?_
              refine C_seq ?_
              refine C_region ?_
              refine O_p (.i .i64 6) (r_mv rfl) ?_
              refine O_p (.sl (some (q24, 0)) 11 11 0) (r_mv hT304) ?_
              refine O_p (.i .i64 11) (r_len rfl) ?_
              refine O_p (.b true) (r_bin rfl rfl rfl) ?_
              refine O_nil ?_
              refine C_cond (x := true) rfl (fun _ => ?_) (fun h => by cases h)
              refine C_skip ?_
              refine C_seq ?_
              refine C_block ?_
              refine C_seq ?_
              refine C_region ?_
              refine O_p (.i .i64 0) (r_mv rfl) ?_
              refine O_nil ?_
              refine C_block ?_
              have hz6 : num ((b.drop 32).take 0) = 0 := rfl
              refine C_while (fun m332 T333 H334 => ∃ k : Nat, m332 = 4 - k ∧ k ≤ 4 ∧ Old H.next H H334 ∧ H334.get n1 = some (.cells [(.i .i64 0), (.i .i64 0), (.i .i64 0), (.i .i64 0), (.i .i64 0), (.i .i64 0), (.i .i64 0), (.i .i64 0), (.i .i64 0), (.i .i64 0), (.i .i64 0)] true) ∧ n1 < H334.next ∧ H334.get n60 = some (.cells [(.i .i64 (num ((b.drop 0).take 8))), (.i .i64 (num ((b.drop 8).take 8))), (.i .i64 (num ((b.drop 16).take 4))), (.i .i64 (num ((b.drop 20).take 4))), (.i .i64 (num ((b.drop 24).take 4))), (.i .i64 (num ((b.drop 28).take 4))), (.i .i64 (num ((b.drop 32).take k))), (.i .i64 0), (.i .i64 0), (.i .i64 0), (.i .i64 0)] true) ∧ n60 < H334.next ∧ H334.get q24 = some (.cells [(.i .i64 8), (.i .i64 8), (.i .i64 4), (.i .i64 4), (.i .i64 4), (.i .i64 4), (.i .i64 4), (.i .i64 4), (.i .i64 4), (.i .i64 2), (.i .i64 2)] true) ∧ q24 < H334.next ∧ T333.get 0 = (.sl ka key.length kc kg) ∧ T333.get 1 = (.sl ba b.length bc bg) ∧ T333.get 4 = (.p (some (n1, 0))) ∧ T333.get 5 = (.i .i64 0) ∧ T333.get 6 = (.p (some (n60, 0))) ∧ T333.get 7 = (.sl (some (q24, 0)) 11 11 0) ∧ T333.get 9 = (.i .i64 6) ∧ T333.get 8 = (.i .i64 ((((32 + k) : Nat)) : Int)) ∧ T333.get 10 = (.i .i64 (((k : Nat)) : Int))) (fun m332 T333 H334 hI335 => ?_) 4 _ _ ⟨0, rfl, Nat.zero_le _, hO309, hb310, hlt_n1, hb311, hlt_n60, hb312, hlt_q24, hT299, hT300, hT301, hT302, hT303, hT304, rfl, hT306, rfl⟩
              obtain ⟨k, hm336, hp337, hO348, hb349, hlt_n1, hb350, hlt_n60, hb351, hlt_q24, hT338, hT339, hT340, hT341, hT342, hT343, hT344, hT345, hT346⟩ := hI335
              have hx_hO348 := hO348.next
              have hab := at_bound b (A := 32) (k := k) (n := 4) (by omega) (by omega)
              refine C_seq ?_
              refine C_seq ?_
              refine C_region ?_
              refine O_p (.i .i64 (((k : Nat)) : Int)) (r_mv hT346) ?_
              refine O_p (.sl (some (q24, 0)) 11 11 0) (r_mv hT343) ?_
              refine O_p (.i .i64 6) (r_mv hT344) ?_
              refine O_p (.p (some (q24, 6))) (by exact (r_isl' rfl rfl (by decide) (by decide) rfl)) ?_
              refine O_p (.i .i64 4) (r_ld rfl hb351 rfl) ?_
              refine O_p (.b (decide ((((k : Nat)) : Int) < 4))) (r_lss rfl rfl) ?_
              refine O_nil ?_
              refine C_cond (x := (decide ((((k : Nat)) : Int) < 4))) rfl (fun hc352 => ?_) (fun hc352 => ?_)
              ·
                simp only [decide_eq_true_eq, decide_eq_false_iff_not, Bool.not_eq_true', Bool.not_eq_false', Bool.and_eq_true, Bool.or_eq_true, Bool.or_eq_false_iff, Bool.not_not] at hc352
                refine C_skip ?_
                refine C_seq ?_
                refine C_block ?_
                refine C_seq ?_
                refine C_seq ?_
                refine C_region ?_
                refine O_p (.i .i64 6) (r_mv hT344) ?_
                refine O_p (.p (some (n60, 6))) (r_iarr' hT342 rfl rfl rfl) ?_
                refine O_p (.i .i64 (num ((b.drop 32).take k))) (r_ld rfl hb350 rfl) ?_
                refine O_p (.b (decide (18014398509481984 < (num ((b.drop 32).take k))))) (r_gtr rfl rfl) ?_
                refine O_nil ?_
                refine C_cond (x := (decide (18014398509481984 < (num ((b.drop 32).take k))))) rfl (fun hc353 => ?_) (fun hc353 => ?_)
                ·
                  simp only [decide_eq_true_eq, decide_eq_false_iff_not, Bool.not_eq_true', Bool.not_eq_false', Bool.and_eq_true, Bool.or_eq_true, Bool.or_eq_false_iff, Bool.not_not] at hc353
                  have hbd : num ((b.drop 32).take 4) < 256 ^ 4 := (at_bound b (A := 32) (k := 4) (n := 4) (by omega) (Nat.le_refl _)).2.1
                  exfalso; omega
                ·
                  simp only [decide_eq_true_eq, decide_eq_false_iff_not, Bool.not_eq_true', Bool.not_eq_false', Bool.and_eq_true, Bool.or_eq_true, Bool.or_eq_false_iff, Bool.not_not] at hc353
                  have hyt := (b.getD ((32 + k)) 0).toNat_lt
                  refine C_skip ?_
                  refine C_seq ?_
                  refine C_draw fun b354 H355 hbase356 hA357 => ?_
                  have hnx358 : H355.next = H334.next + 13 := hA357.1
                  have hb359 := (hA357.2 _).trans hb349
                  have hb360 := (hA357.2 _).trans hb350
                  have hb361 := (hA357.2 _).trans hb351
                  have hF362 := hA357.fr (fun _ => False)
                  have hO363 := hO348.aside hA357
                  have hx_hO363 := hO363.next
                  have hlt_n1 : n1 < H355.next := by omega
                  have hlt_n60 : n60 < H355.next := by omega
                  have hlt_q24 : q24 < H355.next := by omega
                  refine D_l (v := (.i .i64 6)) rfl rfl rfl (r_mv hT344) ?_
                  refine D_l (v := (.i .i64 6)) rfl rfl rfl (r_mv hT344) ?_
                  refine D_l (v := (.p (some (n60, 6)))) rfl rfl rfl (r_iarr' hT342 rfl rfl rfl) ?_
                  refine D_l (v := (.sl ba b.length bc bg)) rfl rfl rfl (r_mv hT339) ?_
                  refine D_l (v := (.i .i64 ((((32 + k) : Nat)) : Int))) rfl rfl rfl (r_mv hT345) ?_
                  refine D_q rfl rfl rfl (by exact Bs.ix (bhb.old hok hO363) rfl (i := (32 + k)) rfl (by first | omega | (simp only [List.length_take, List.length_drop, List.length_append, List.length_cons, List.length_nil, beN_len] <;> omega))) fun v365 hv364 => ?_
                  refine D_r (v := (.i .i64 (num ((b.drop 32).take k)))) rfl rfl rfl (r_ld rfl hb360 rfl) ?_
                  refine D_l (v := (.i .i64 ((num ((b.drop 32).take k)) * 256))) rfl rfl rfl (by exact (r_muli rfl rfl (wrap_i64 (by omega) (by omega)))) ?_
                  refine D_r (v := (.i .u8 ((b.getD (32 + k) 0).toNat : Int))) rfl rfl rfl (hv364.load rfl) ?_
                  refine D_l (v := (.i .i64 ((b.getD (32 + k) 0).toNat : Int))) rfl rfl rfl (by exact (r_cint' rfl (wrap_i64 (by omega) (by omega)))) ?_
                  refine D_l (v := (.i .i64 (((num ((b.drop 32).take k)) * 256) + ((b.getD (32 + k) 0).toNat : Int)))) rfl rfl rfl (by exact (r_addi rfl rfl (wrap_i64 (by omega) (by omega)))) ?_
                  refine D_l (v := (.p (some (n60, 6)))) rfl rfl rfl (r_iarr' hT342 rfl rfl rfl) ?_
                  refine D_store (vs := [(.i .i64 (((num ((b.drop 32).take k)) * 256) + ((b.getD (32 + k) 0).toNat : Int)))]) (c' := [(.i .i64 (num ((b.drop 0).take 8))), (.i .i64 (num ((b.drop 8).take 8))), (.i .i64 (num ((b.drop 16).take 4))), (.i .i64 (num ((b.drop 20).take 4))), (.i .i64 (num ((b.drop 24).take 4))), (.i .i64 (num ((b.drop 28).take 4))), (.i .i64 (((num ((b.drop 32).take k)) * 256) + ((b.getD (32 + k) 0).toNat : Int))), (.i .i64 0), (.i .i64 0), (.i .i64 0), (.i .i64 0)]) rfl (by rfl) hb360 rfl (List.cons_ne_nil _ _) (Nat.le_of_ble_eq_true rfl) rfl fun H366 hW367 => ?_
                  have hb368 := (hW367.2.2 _ (by omega)).trans hb359
                  have hb369 := (hW367.2.2 _ (by omega)).trans hb361
                  have hO370 := hO363.wr hW367 (by omega) (by omega)
                  have hx_hO370 := hO370.next
                  have hnx_H366 : H366.next = H355.next := hW367.1
                  have hlt_n1 : n1 < H366.next := by omega
                  have hlt_n60 : n60 < H366.next := by omega
                  have hlt_q24 : q24 < H366.next := by omega
                  refine And.intro (And.intro (Or.inl rfl) (And.intro (Or.inl rfl) True.intro)) ?_
                  refine D_nil ?_
                  refine C_region ?_
                  refine O_p (.i .i64 ((((32 + k) : Nat)) : Int)) (r_mv hT345) ?_
                  refine O_p (.i .i64 (((((32 + k) : Nat)) : Int) + 1)) (by exact (r_addi rfl rfl (wrap_i64 (by omega) (by omega)))) ?_
                  refine O_p (.i .i64 (((((32 + k) : Nat)) : Int) + 1)) (r_mv rfl) ?_
                  refine O_nil ?_
                  refine C_region ?_
                  refine O_p (.i .i64 (((k : Nat)) : Int)) (r_mv hT346) ?_
                  refine O_p (.i .i64 ((((k : Nat)) : Int) + 1)) (by exact (r_addi rfl rfl (wrap_i64 (by omega) (by omega)))) ?_
                  refine O_p (.i .i64 ((((k : Nat)) : Int) + 1)) (r_mv rfl) ?_
                  refine O_nil ?_
                  have hst := at_step (b := b) (A := 32) (k := k) (by omega)
                  exact ⟨4 - (k + 1), by omega, k + 1, rfl, by omega, hO370, hb368, hlt_n1, (by rw [hst]; exact hW367.2.1), hlt_n60, hb369, hlt_q24, hT338, hT339, hT340, hT341, hT342, hT343, hT344, congrArg (AV.i .i64) (by omega), rfl⟩
              ·
                simp only [decide_eq_true_eq, decide_eq_false_iff_not, Bool.not_eq_true', Bool.not_eq_false', Bool.and_eq_true, Bool.or_eq_true, Bool.or_eq_false_iff, Bool.not_not] at hc352
                refine C_exit ?_
                refine nx_exit ?_
                refine nx_exit ?_
                refine bk_hit ?_
                refine C_region ?_
                have hk : k = 4 := by omega
                subst hk
                refine O_p (.i .i64 6) (r_mv hT344) ?_
                refine O_p (.i .i64 7) (r_bin rfl rfl rfl) ?_
                refine O_p (.i .i64 7) (r_mv rfl) ?_
                refine O_nil ?_
                refine C_loop ?_
                refine C_seq ?_
                refine C_seq ?_
                refine C_region ?_
                refine O_p (.i .i64 7) (r_mv rfl) ?_
                refine O_p (.sl (some (q24, 0)) 11 11 0) (r_mv hT343) ?_
                refine O_p (.i .i64 11) (r_len rfl) ?_
                refine O_p (.b true) (r_bin rfl rfl rfl) ?_
                refine O_nil ?_
                refine C_cond (x := true) rfl (fun _ => ?_) (fun h => by cases h)
                refine C_skip ?_
                refine C_seq ?_
                refine C_block ?_
                refine C_seq ?_
                refine C_region ?_
                refine O_p (.i .i64 0) (r_mv rfl) ?_
                refine O_nil ?_
                refine C_block ?_
                have hz7 : num ((b.drop 36).take 0) = 0 := rfl
                refine C_while (fun m371 T372 H373 => ∃ k : Nat, m371 = 4 - k ∧ k ≤ 4 ∧ Old H.next H H373 ∧ H373.get n1 = some (.cells [(.i .i64 0), (.i .i64 0), (.i .i64 0), (.i .i64 0), (.i .i64 0), (.i .i64 0), (.i .i64 0), (.i .i64 0), (.i .i64 0), (.i .i64 0), (.i .i64 0)] true) ∧ n1 < H373.next ∧ H373.get n60 = some (.cells [(.i .i64 (num ((b.drop 0).take 8))), (.i .i64 (num ((b.drop 8).take 8))), (.i .i64 (num ((b.drop 16).take 4))), (.i .i64 (num ((b.drop 20).take 4))), (.i .i64 (num ((b.drop 24).take 4))), (.i .i64 (num ((b.drop 28).take 4))), (.i .i64 (num ((b.drop 32).take 4))), (.i .i64 (num ((b.drop 36).take k))), (.i .i64 0), (.i .i64 0), (.i .i64 0)] true) ∧ n60 < H373.next ∧ H373.get q24 = some (.cells [(.i .i64 8), (.i .i64 8), (.i .i64 4), (.i .i64 4), (.i .i64 4), (.i .i64 4), (.i .i64 4), (.i .i64 4), (.i .i64 4), (.i .i64 2), (.i .i64 2)] true) ∧ q24 < H373.next ∧ T372.get 0 = (.sl ka key.length kc kg) ∧ T372.get 1 = (.sl ba b.length bc bg) ∧ T372.get 4 = (.p (some (n1, 0))) ∧ T372.get 5 = (.i .i64 0) ∧ T372.get 6 = (.p (some (n60, 0))) ∧ T372.get 7 = (.sl (some (q24, 0)) 11 11 0) ∧ T372.get 9 = (.i .i64 7) ∧ T372.get 8 = (.i .i64 ((((36 + k) : Nat)) : Int)) ∧ T372.get 10 = (.i .i64 (((k : Nat)) : Int))) (fun m371 T372 H373 hI374 => ?_) 4 _ _ ⟨0, rfl, Nat.zero_le _, hO348, hb349, hlt_n1, hb350, hlt_n60, hb351, hlt_q24, hT338, hT339, hT340, hT341, hT342, hT343, rfl, hT345, rfl⟩
                obtain ⟨k, hm375, hp376, hO387, hb388, hlt_n1, hb389, hlt_n60, hb390, hlt_q24, hT377, hT378, hT379, hT380, hT381, hT382, hT383, hT384, hT385⟩ := hI374
                have hx_hO387 := hO387.next
                have hab := at_bound b (A := 36) (k := k) (n := 4) (by omega) (by omega)
                refine C_seq ?_
                refine C_seq ?_
                refine C_region ?_
                refine O_p (.i .i64 (((k : Nat)) : Int)) (r_mv hT385) ?_
                refine O_p (.sl (some (q24, 0)) 11 11 0) (r_mv hT382) ?_
                refine O_p (.i .i64 7) (r_mv hT383) ?_
                refine O_p (.p (some (q24, 7))) (by exact (r_isl' rfl rfl (by decide) (by decide) rfl)) ?_
                refine O_p (.i .i64 4) (r_ld rfl hb390 rfl) ?_
                refine O_p (.b (decide ((((k : Nat)) : Int) < 4))) (r_lss rfl rfl) ?_
                refine O_nil ?_
                refine C_cond (x := (decide ((((k : Nat)) : Int) < 4))) rfl (fun hc391 => ?_) (fun hc391 => ?_)
                ·
                  simp only [decide_eq_true_eq, decide_eq_false_iff_not, Bool.not_eq_true', Bool.not_eq_false', Bool.and_eq_true, Bool.or_eq_true, Bool.or_eq_false_iff, Bool.not_not] at hc391
                  refine C_skip ?_
                  refine C_seq ?_
                  refine C_block ?_
                  refine C_seq ?_
                  refine C_seq ?_
                  refine C_region ?_
                  refine O_p (.i .i64 7) (r_mv hT383) ?_
                  refine O_p (.p (some (n60, 7))) (r_iarr' hT381 rfl rfl rfl) ?_
                  refine O_p (.i .i64 (num ((b.drop 36).take k))) (r_ld rfl hb389 rfl) ?_
                  refine O_p (.b (decide (18014398509481984 < (num ((b.drop 36).take k))))) (r_gtr rfl rfl) ?_
                  refine O_nil ?_
                  refine C_cond (x := (decide (18014398509481984 < (num ((b.drop 36).take k))))) rfl (fun hc392 => ?_) (fun hc392 => ?_)
                  ·
                    simp only [decide_eq_true_eq, decide_eq_false_iff_not, Bool.not_eq_true', Bool.not_eq_false', Bool.and_eq_true, Bool.or_eq_true, Bool.or_eq_false_iff, Bool.not_not] at hc392
                    have hbd : num ((b.drop 36).take 4) < 256 ^ 4 := (at_bound b (A := 36) (k := 4) (n := 4) (by omega) (Nat.le_refl _)).2.1
                    exfalso; omega
                  ·
                    simp only [decide_eq_true_eq, decide_eq_false_iff_not, Bool.not_eq_true', Bool.not_eq_false', Bool.and_eq_true, Bool.or_eq_true, Bool.or_eq_false_iff, Bool.not_not] at hc392
                    have hyt := (b.getD ((36 + k)) 0).toNat_lt
                    refine C_skip ?_
                    refine C_seq ?_
                    refine C_draw fun b393 H394 hbase395 hA396 => ?_
                    have hnx397 : H394.next = H373.next + 13 := hA396.1
                    have hb398 := (hA396.2 _).trans hb388
                    have hb399 := (hA396.2 _).trans hb389
                    have hb400 := (hA396.2 _).trans hb390
                    have hF401 := hA396.fr (fun _ => False)
                    have hO402 := hO387.aside hA396
                    have hx_hO402 := hO402.next
                    have hlt_n1 : n1 < H394.next := by omega
                    have hlt_n60 : n60 < H394.next := by omega
                    have hlt_q24 : q24 < H394.next := by omega
                    refine D_l (v := (.i .i64 7)) rfl rfl rfl (r_mv hT383) ?_
                    refine D_l (v := (.i .i64 7)) rfl rfl rfl (r_mv hT383) ?_
                    refine D_l (v := (.p (some (n60, 7)))) rfl rfl rfl (r_iarr' hT381 rfl rfl rfl) ?_
                    refine D_l (v := (.sl ba b.length bc bg)) rfl rfl rfl (r_mv hT378) ?_
                    refine D_l (v := (.i .i64 ((((36 + k) : Nat)) : Int))) rfl rfl rfl (r_mv hT384) ?_
                    refine D_q rfl rfl rfl (by exact Bs.ix (bhb.old hok hO402) rfl (i := (36 + k)) rfl (by first | omega | (simp only [List.length_take, List.length_drop, List.length_append, List.length_cons, List.length_nil, beN_len] <;> omega))) fun v404 hv403 => ?_
                    refine D_r (v := (.i .i64 (num ((b.drop 36).take k)))) rfl rfl rfl (r_ld rfl hb399 rfl) ?_
                    refine D_l (v := (.i .i64 ((num ((b.drop 36).take k)) * 256))) rfl rfl rfl (by exact (r_muli rfl rfl (wrap_i64 (by omega) (by omega)))) ?_
                    refine D_r (v := (.i .u8 ((b.getD (36 + k) 0).toNat : Int))) rfl rfl rfl (hv403.load rfl) ?_
                    refine D_l (v := (.i .i64 ((b.getD (36 + k) 0).toNat : Int))) rfl rfl rfl (by exact (r_cint' rfl (wrap_i64 (by omega) (by omega)))) ?_
                    refine D_l (v := (.i .i64 (((num ((b.drop 36).take k)) * 256) + ((b.getD (36 + k) 0).toNat : Int)))) rfl rfl rfl (by exact (r_addi rfl rfl (wrap_i64 (by omega) (by omega)))) ?_
                    refine D_l (v := (.p (some (n60, 7)))) rfl rfl rfl (r_iarr' hT381 rfl rfl rfl) ?_
                    refine D_store (vs := [(.i .i64 (((num ((b.drop 36).take k)) * 256) + ((b.getD (36 + k) 0).toNat : Int)))]) (c' := [(.i .i64 (num ((b.drop 0).take 8))), (.i .i64 (num ((b.drop 8).take 8))), (.i .i64 (num ((b.drop 16).take 4))), (.i .i64 (num ((b.drop 20).take 4))), (.i .i64 (num ((b.drop 24).take 4))), (.i .i64 (num ((b.drop 28).take 4))), (.i .i64 (num ((b.drop 32).take 4))), (.i .i64 (((num ((b.drop 36).take k)) * 256) + ((b.getD (36 + k) 0).toNat : Int))), (.i .i64 0), (.i .i64 0), (.i .i64 0)]) rfl (by rfl) hb399 rfl (List.cons_ne_nil _ _) (Nat.le_of_ble_eq_true rfl) rfl fun H405 hW406 => ?_
                    have hb407 := (hW406.2.2 _ (by omega)).trans hb398
                    have hb408 := (hW406.2.2 _ (by omega)).trans hb400
                    have hO409 := hO402.wr hW406 (by omega) (by omega)
                    have hx_hO409 := hO409.next
                    have hnx_H405 : H405.next = H394.next := hW406.1
                    have hlt_n1 : n1 < H405.next := by omega
                    have hlt_n60 : n60 < H405.next := by omega
                    have hlt_q24 : q24 < H405.next := by omega
                    refine And.intro (And.intro (Or.inl rfl) (And.intro (Or.inl rfl) True.intro)) ?_
                    refine D_nil ?_
                    refine C_region ?_
                    refine O_p (.i .i64 ((((36 + k) : Nat)) : Int)) (r_mv hT384) ?_
                    refine O_p (.i .i64 (((((36 + k) : Nat)) : Int) + 1)) (by exact (r_addi rfl rfl (wrap_i64 (by omega) (by omega)))) ?_
                    refine O_p (.i .i64 (((((36 + k) : Nat)) : Int) + 1)) (r_mv rfl) ?_
                    refine O_nil ?_
                    refine C_region ?_
                    refine O_p (.i .i64 (((k : Nat)) : Int)) (r_mv hT385) ?_
                    refine O_p (.i .i64 ((((k : Nat)) : Int) + 1)) (by exact (r_addi rfl rfl (wrap_i64 (by omega) (by omega)))) ?_
                    refine O_p (.i .i64 ((((k : Nat)) : Int) + 1)) (r_mv rfl) ?_
                    refine O_nil ?_
                    have hst := at_step (b := b) (A := 36) (k := k) (by omega)
                    exact ⟨4 - (k + 1), by omega, k + 1, rfl, by omega, hO409, hb407, hlt_n1, (by rw [hst]; exact hW406.2.1), hlt_n60, hb408, hlt_q24, hT377, hT378, hT379, hT380, hT381, hT382, hT383, congrArg (AV.i .i64) (by omega), rfl⟩
                ·
                  simp only [decide_eq_true_eq, decide_eq_false_iff_not, Bool.not_eq_true', Bool.not_eq_false', Bool.and_eq_true, Bool.or_eq_true, Bool.or_eq_false_iff, Bool.not_not] at hc391
                  refine C_exit ?_
                  refine nx_exit ?_
                  refine nx_exit ?_
                  refine bk_hit ?_
                  refine C_region ?_
                  have hk : k = 4 := by omega
                  subst hk
                  refine O_p (.i .i64 7) (r_mv hT383) ?_
                  refine O_p (.i .i64 8) (r_bin rfl rfl rfl) ?_
                  refine O_p (.i .i64 8) (r_mv rfl) ?_
                  refine O_nil ?_
                  refine C_loop ?_
                  refine C_seq ?_
                  refine C_seq ?_
                  refine C_region ?_
                  refine O_p (.i .i64 8) (r_mv rfl) ?_
                  refine O_p (.sl (some (q24, 0)) 11 11 0) (r_mv hT382) ?_
                  refine O_p (.i .i64 11) (r_len rfl) ?_
                  refine O_p (.b true) (r_bin rfl rfl rfl) ?_
                  refine O_nil ?_
                  refine C_cond (x := true) rfl (fun _ => ?_) (fun h => by cases h)
                  refine C_skip ?_
                  refine C_seq ?_
                  refine C_block ?_
                  refine C_seq ?_
                  refine C_region ?_
                  refine O_p (.i .i64 0) (r_mv rfl) ?_
                  refine O_nil ?_
                  refine C_block ?_
                  have hz8 : num ((b.drop 40).take 0) = 0 := rfl
                  refine C_while (fun m410 T411 H412 => ∃ k : Nat, m410 = 4 - k ∧ k ≤ 4 ∧ Old H.next H H412 ∧ H412.get n1 = some (.cells [(.i .i64 0), (.i .i64 0), (.i .i64 0), (.i .i64 0), (.i .i64 0), (.i .i64 0), (.i .i64 0), (.i .i64 0), (.i .i64 0), (.i .i64 0), (.i .i64 0)] true) ∧ n1 < H412.next ∧ H412.get n60 = some (.cells [(.i .i64 (num ((b.drop 0).take 8))), (.i .i64 (num ((b.drop 8).take 8))), (.i .i64 (num ((b.drop 16).take 4))), (.i .i64 (num ((b.drop 20).take 4))), (.i .i64 (num ((b.drop 24).take 4))), (.i .i64 (num ((b.drop 28).take 4))), (.i .i64 (num ((b.drop 32).take 4))), (.i .i64 (num ((b.drop 36).take 4))), (.i .i64 (num ((b.drop 40).take k))), (.i .i64 0), (.i .i64 0)] true) ∧ n60 < H412.next ∧ H412.get q24 = some (.cells [(.i .i64 8), (.i .i64 8), (.i .i64 4), (.i .i64 4), (.i .i64 4), (.i .i64 4), (.i .i64 4), (.i .i64 4), (.i .i64 4), (.i .i64 2), (.i .i64 2)] true) ∧ q24 < H412.next ∧ T411.get 0 = (.sl ka key.length kc kg) ∧ T411.get 1 = (.sl ba b.length bc bg) ∧ T411.get 4 = (.p (some (n1, 0))) ∧ T411.get 5 = (.i .i64 0) ∧ T411.get 6 = (.p (some (n60, 0))) ∧ T411.get 7 = (.sl (some (q24, 0)) 11 11 0) ∧ T411.get 9 = (.i .i64 8) ∧ T411.get 8 = (.i .i64 ((((40 + k) : Nat)) : Int)) ∧ T411.get 10 = (.i .i64 (((k : Nat)) : Int))) (fun m410 T411 H412 hI413 => ?_) 4 _ _ ⟨0, rfl, Nat.zero_le _, hO387, hb388, hlt_n1, hb389, hlt_n60, hb390, hlt_q24, hT377, hT378, hT379, hT380, hT381, hT382, rfl, hT384, rfl⟩
                  obtain ⟨k, hm414, hp415, hO426, hb427, hlt_n1, hb428, hlt_n60, hb429, hlt_q24, hT416, hT417, hT418, hT419, hT420, hT421, hT422, hT423, hT424⟩ := hI413
                  have hx_hO426 := hO426.next
                  have hab := at_bound b (A := 40) (k := k) (n := 4) (by omega) (by omega)
                  refine C_seq ?_
                  refine C_seq ?_
                  refine C_region ?_
                  refine O_p (.i .i64 (((k : Nat)) : Int)) (r_mv hT424) ?_
                  refine O_p (.sl (some (q24, 0)) 11 11 0) (r_mv hT421) ?_
                  refine O_p (.i .i64 8) (r_mv hT422) ?_
                  refine O_p (.p (some (q24, 8))) (by exact (r_isl' rfl rfl (by decide) (by decide) rfl)) ?_
                  refine O_p (.i .i64 4) (r_ld rfl hb429 rfl) ?_
                  refine O_p (.b (decide ((((k : Nat)) : Int) < 4))) (r_lss rfl rfl) ?_
                  refine O_nil ?_
                  refine C_cond (x := (decide ((((k : Nat)) : Int) < 4))) rfl (fun hc430 => ?_) (fun hc430 => ?_)
                  ·
                    simp only [decide_eq_true_eq, decide_eq_false_iff_not, Bool.not_eq_true', Bool.not_eq_false', Bool.and_eq_true, Bool.or_eq_true, Bool.or_eq_false_iff, Bool.not_not] at hc430
                    refine C_skip ?_
                    refine C_seq ?_
                    refine C_block ?_
                    refine C_seq ?_
                    refine C_seq ?_
                    refine C_region ?_
                    refine O_p (.i .i64 8) (r_mv hT422) ?_
                    refine O_p (.p (some (n60, 8))) (r_iarr' hT420 rfl rfl rfl) ?_
                    refine O_p (.i .i64 (num ((b.drop 40).take k))) (r_ld rfl hb428 rfl) ?_
                    refine O_p (.b (decide (18014398509481984 < (num ((b.drop 40).take k))))) (r_gtr rfl rfl) ?_
                    refine O_nil ?_
                    refine C_cond (x := (decide (18014398509481984 < (num ((b.drop 40).take k))))) rfl (fun hc431 => ?_) (fun hc431 => ?_)
                    ·
                      simp only [decide_eq_true_eq, decide_eq_false_iff_not, Bool.not_eq_true', Bool.not_eq_false', Bool.and_eq_true, Bool.or_eq_true, Bool.or_eq_false_iff, Bool.not_not] at hc431
                      have hbd : num ((b.drop 40).take 4) < 256 ^ 4 := (at_bound b (A := 40) (k := 4) (n := 4) (by omega) (Nat.le_refl _)).2.1
                      exfalso; omega
                    ·
                      simp only [decide_eq_true_eq, decide_eq_false_iff_not, Bool.not_eq_true', Bool.not_eq_false', Bool.and_eq_true, Bool.or_eq_true, Bool.or_eq_false_iff, Bool.not_not] at hc431
                      have hyt := (b.getD ((40 + k)) 0).toNat_lt
                      refine C_skip ?_
                      refine C_seq ?_
                      refine C_draw fun b432 H433 hbase434 hA435 => ?_
                      have hnx436 : H433.next = H412.next + 13 := hA435.1
                      have hb437 := (hA435.2 _).trans hb427
                      have hb438 := (hA435.2 _).trans hb428
                      have hb439 := (hA435.2 _).trans hb429
                      have hF440 := hA435.fr (fun _ => False)
                      have hO441 := hO426.aside hA435
                      have hx_hO441 := hO441.next
                      have hlt_n1 : n1 < H433.next := by omega
                      have hlt_n60 : n60 < H433.next := by omega
                      have hlt_q24 : q24 < H433.next := by omega
                      refine D_l (v := (.i .i64 8)) rfl rfl rfl (r_mv hT422) ?_
                      refine D_l (v := (.i .i64 8)) rfl rfl rfl (r_mv hT422) ?_
                      refine D_l (v := (.p (some (n60, 8)))) rfl rfl rfl (r_iarr' hT420 rfl rfl rfl) ?_
                      refine D_l (v := (.sl ba b.length bc bg)) rfl rfl rfl (r_mv hT417) ?_
                      refine D_l (v := (.i .i64 ((((40 + k) : Nat)) : Int))) rfl rfl rfl (r_mv hT423) ?_
                      refine D_q rfl rfl rfl (by exact Bs.ix (bhb.old hok hO441) rfl (i := (40 + k)) rfl (by first | omega | (simp only [List.length_take, List.length_drop, List.length_append, List.length_cons, List.length_nil, beN_len] <;> omega))) fun v443 hv442 => ?_
                      refine D_r (v := (.i .i64 (num ((b.drop 40).take k)))) rfl rfl rfl (r_ld rfl hb438 rfl) ?_
                      refine D_l (v := (.i .i64 ((num ((b.drop 40).take k)) * 256))) rfl rfl rfl (by exact (r_muli rfl rfl (wrap_i64 (by omega) (by omega)))) ?_
                      refine D_r (v := (.i .u8 ((b.getD (40 + k) 0).toNat : Int))) rfl rfl rfl (hv442.load rfl) ?_
                      refine D_l (v := (.i .i64 ((b.getD (40 + k) 0).toNat : Int))) rfl rfl rfl (by exact (r_cint' rfl (wrap_i64 (by omega) (by omega)))) ?_
                      refine D_l (v := (.i .i64 (((num ((b.drop 40).take k)) * 256) + ((b.getD (40 + k) 0).toNat : Int)))) rfl rfl rfl (by exact (r_addi rfl rfl (wrap_i64 (by omega) (by omega)))) ?_
                      refine D_l (v := (.p (some (n60, 8)))) rfl rfl rfl (r_iarr' hT420 rfl rfl rfl) ?_
                      refine D_store (vs := [(.i .i64 (((num ((b.drop 40).take k)) * 256) + ((b.getD (40 + k) 0).toNat : Int)))]) (c' := [(.i .i64 (num ((b.drop 0).take 8))), (.i .i64 (num ((b.drop 8).take 8))), (.i .i64 (num ((b.drop 16).take 4))), (.i .i64 (num ((b.drop 20).take 4))), (.i .i64 (num ((b.drop 24).take 4))), (.i .i64 (num ((b.drop 28).take 4))), (.i .i64 (num ((b.drop 32).take 4))), (.i .i64 (num ((b.drop 36).take 4))), (.i .i64 (((num ((b.drop 40).take k)) * 256) + ((b.getD (40 + k) 0).toNat : Int))), (.i .i64 0), (.i .i64 0)]) rfl (by rfl) hb438 rfl (List.cons_ne_nil _ _) (Nat.le_of_ble_eq_true rfl) rfl fun H444 hW445 => ?_
                      have hb446 := (hW445.2.2 _ (by omega)).trans hb437
                      have hb447 := (hW445.2.2 _ (by omega)).trans hb439
                      have hO448 := hO441.wr hW445 (by omega) (by omega)
                      have hx_hO448 := hO448.next
                      have hnx_H444 : H444.next = H433.next := hW445.1
                      have hlt_n1 : n1 < H444.next := by omega
                      have hlt_n60 : n60 < H444.next := by omega
                      have hlt_q24 : q24 < H444.next := by omega
                      refine And.intro (And.intro (Or.inl rfl) (And.intro (Or.inl rfl) True.intro)) ?_
                      refine D_nil ?_
                      refine C_region ?_
                      refine O_p (.i .i64 ((((40 + k) : Nat)) : Int)) (r_mv hT423) ?_
                      refine O_p (.i .i64 (((((40 + k) : Nat)) : Int) + 1)) (by exact (r_addi rfl rfl (wrap_i64 (by omega) (by omega)))) ?_
                      refine O_p (.i .i64 (((((40 + k) : Nat)) : Int) + 1)) (r_mv rfl) ?_
                      refine O_nil ?_
                      refine C_region ?_
                      refine O_p (.i .i64 (((k : Nat)) : Int)) (r_mv hT424) ?_
                      refine O_p (.i .i64 ((((k : Nat)) : Int) + 1)) (by exact (r_addi rfl rfl (wrap_i64 (by omega) (by omega)))) ?_
                      refine O_p (.i .i64 ((((k : Nat)) : Int) + 1)) (r_mv rfl) ?_
                      refine O_nil ?_
                      have hst := at_step (b := b) (A := 40) (k := k) (by omega)
                      exact ⟨4 - (k + 1), by omega, k + 1, rfl, by omega, hO448, hb446, hlt_n1, (by rw [hst]; exact hW445.2.1), hlt_n60, hb447, hlt_q24, hT416, hT417, hT418, hT419, hT420, hT421, hT422, congrArg (AV.i .i64) (by omega), rfl⟩
                  ·
                    simp only [decide_eq_true_eq, decide_eq_false_iff_not, Bool.not_eq_true', Bool.not_eq_false', Bool.and_eq_true, Bool.or_eq_true, Bool.or_eq_false_iff, Bool.not_not] at hc430
                    refine C_exit ?_
                    refine nx_exit ?_
                    refine nx_exit ?_
                    refine bk_hit ?_
                    refine C_region ?_
                    have hk : k = 4 := by omega
                    subst hk
                    refine O_p (.i .i64 8) (r_mv hT422) ?_
                    refine O_p (.i .i64 9) (r_bin rfl rfl rfl) ?_
                    refine O_p (.i .i64 9) (r_mv rfl) ?_
                    refine O_nil ?_
                    refine C_loop ?_
                    refine C_seq ?_
                    refine C_seq ?_
                    refine C_region ?_
                    refine O_p (.i .i64 9) (r_mv rfl) ?_
                    refine O_p (.sl (some (q24, 0)) 11 11 0) (r_mv hT421) ?_
                    refine O_p (.i .i64 11) (r_len rfl) ?_
                    refine O_p (.b true) (r_bin rfl rfl rfl) ?_
                    refine O_nil ?_
                    refine C_cond (x := true) rfl (fun _ => ?_) (fun h => by cases h)
                    refine C_skip ?_
                    refine C_seq ?_
                    refine C_block ?_
                    refine C_seq ?_
                    refine C_region ?_
                    refine O_p (.i .i64 0) (r_mv rfl) ?_
                    refine O_nil ?_
                    refine C_block ?_
                    have hz9 : num ((b.drop 44).take 0) = 0 := rfl
                    refine C_while (fun m449 T450 H451 => ∃ k : Nat, m449 = 2 - k ∧ k ≤ 2 ∧ Old H.next H H451 ∧ H451.get n1 = some (.cells [(.i .i64 0), (.i .i64 0), (.i .i64 0), (.i .i64 0), (.i .i64 0), (.i .i64 0), (.i .i64 0), (.i .i64 0), (.i .i64 0), (.i .i64 0), (.i .i64 0)] true) ∧ n1 < H451.next ∧ H451.get n60 = some (.cells [(.i .i64 (num ((b.drop 0).take 8))), (.i .i64 (num ((b.drop 8).take 8))), (.i .i64 (num ((b.drop 16).take 4))), (.i .i64 (num ((b.drop 20).take 4))), (.i .i64 (num ((b.drop 24).take 4))), (.i .i64 (num ((b.drop 28).take 4))), (.i .i64 (num ((b.drop 32).take 4))), (.i .i64 (num ((b.drop 36).take 4))), (.i .i64 (num ((b.drop 40).take 4))), (.i .i64 (num ((b.drop 44).take k))), (.i .i64 0)] true) ∧ n60 < H451.next ∧ H451.get q24 = some (.cells [(.i .i64 8), (.i .i64 8), (.i .i64 4), (.i .i64 4), (.i .i64 4), (.i .i64 4), (.i .i64 4), (.i .i64 4), (.i .i64 4), (.i .i64 2), (.i .i64 2)] true) ∧ q24 < H451.next ∧ T450.get 0 = (.sl ka key.length kc kg) ∧ T450.get 1 = (.sl ba b.length bc bg) ∧ T450.get 4 = (.p (some (n1, 0))) ∧ T450.get 5 = (.i .i64 0) ∧ T450.get 6 = (.p (some (n60, 0))) ∧ T450.get 7 = (.sl (some (q24, 0)) 11 11 0) ∧ T450.get 9 = (.i .i64 9) ∧ T450.get 8 = (.i .i64 ((((44 + k) : Nat)) : Int)) ∧ T450.get 10 = (.i .i64 (((k : Nat)) : Int))) (fun m449 T450 H451 hI452 => ?_) 2 _ _ ⟨0, rfl, Nat.zero_le _, hO426, hb427, hlt_n1, hb428, hlt_n60, hb429, hlt_q24, hT416, hT417, hT418, hT419, hT420, hT421, rfl, hT423, rfl⟩
                    obtain ⟨k, hm453, hp454, hO465, hb466, hlt_n1, hb467, hlt_n60, hb468, hlt_q24, hT455, hT456, hT457, hT458, hT459, hT460, hT461, hT462, hT463⟩ := hI452
                    have hx_hO465 := hO465.next
                    have hab := at_bound b (A := 44) (k := k) (n := 2) (by omega) (by omega)
                    refine C_seq ?_
                    refine C_seq ?_
                    refine C_region ?_
                    refine O_p (.i .i64 (((k : Nat)) : Int)) (r_mv hT463) ?_
                    refine O_p (.sl (some (q24, 0)) 11 11 0) (r_mv hT460) ?_
                    refine O_p (.i .i64 9) (r_mv hT461) ?_
                    refine O_p (.p (some (q24, 9))) (by exact (r_isl' rfl rfl (by decide) (by decide) rfl)) ?_
                    refine O_p (.i .i64 2) (r_ld rfl hb468 rfl) ?_
                    refine O_p (.b (decide ((((k : Nat)) : Int) < 2))) (r_lss rfl rfl) ?_
                    refine O_nil ?_
                    refine C_cond (x := (decide ((((k : Nat)) : Int) < 2))) rfl (fun hc469 => ?_) (fun hc469 => ?_)
                    ·
                      simp only [decide_eq_true_eq, decide_eq_false_iff_not, Bool.not_eq_true', Bool.not_eq_false', Bool.and_eq_true, Bool.or_eq_true, Bool.or_eq_false_iff, Bool.not_not] at hc469
                      refine C_skip ?_
                      refine C_seq ?_
                      refine C_block ?_
                      refine C_seq ?_
                      refine C_seq ?_
                      refine C_region ?_
                      refine O_p (.i .i64 9) (r_mv hT461) ?_
                      refine O_p (.p (some (n60, 9))) (r_iarr' hT459 rfl rfl rfl) ?_
                      refine O_p (.i .i64 (num ((b.drop 44).take k))) (r_ld rfl hb467 rfl) ?_
                      refine O_p (.b (decide (18014398509481984 < (num ((b.drop 44).take k))))) (r_gtr rfl rfl) ?_
                      refine O_nil ?_
                      refine C_cond (x := (decide (18014398509481984 < (num ((b.drop 44).take k))))) rfl (fun hc470 => ?_) (fun hc470 => ?_)
                      ·
                        simp only [decide_eq_true_eq, decide_eq_false_iff_not, Bool.not_eq_true', Bool.not_eq_false', Bool.and_eq_true, Bool.or_eq_true, Bool.or_eq_false_iff, Bool.not_not] at hc470
                        have hbd : num ((b.drop 44).take 2) < 256 ^ 2 := (at_bound b (A := 44) (k := 2) (n := 2) (by omega) (Nat.le_refl _)).2.1
                        exfalso; omega
                      ·
                        simp only [decide_eq_true_eq, decide_eq_false_iff_not, Bool.not_eq_true', Bool.not_eq_false', Bool.and_eq_true, Bool.or_eq_true, Bool.or_eq_false_iff, Bool.not_not] at hc470
                        have hyt := (b.getD ((44 + k)) 0).toNat_lt
                        refine C_skip ?_
                        refine C_seq ?_
                        refine C_draw fun b471 H472 hbase473 hA474 => ?_
                        have hnx475 : H472.next = H451.next + 13 := hA474.1
                        have hb476 := (hA474.2 _).trans hb466
                        have hb477 := (hA474.2 _).trans hb467
                        have hb478 := (hA474.2 _).trans hb468
                        have hF479 := hA474.fr (fun _ => False)
                        have hO480 := hO465.aside hA474
                        have hx_hO480 := hO480.next
                        have hlt_n1 : n1 < H472.next := by omega
                        have hlt_n60 : n60 < H472.next := by omega
                        have hlt_q24 : q24 < H472.next := by omega
                        refine D_l (v := (.i .i64 9)) rfl rfl rfl (r_mv hT461) ?_
                        refine D_l (v := (.i .i64 9)) rfl rfl rfl (r_mv hT461) ?_
                        refine D_l (v := (.p (some (n60, 9)))) rfl rfl rfl (r_iarr' hT459 rfl rfl rfl) ?_
                        refine D_l (v := (.sl ba b.length bc bg)) rfl rfl rfl (r_mv hT456) ?_
                        refine D_l (v := (.i .i64 ((((44 + k) : Nat)) : Int))) rfl rfl rfl (r_mv hT462) ?_
                        refine D_q rfl rfl rfl (by exact Bs.ix (bhb.old hok hO480) rfl (i := (44 + k)) rfl (by first | omega | (simp only [List.length_take, List.length_drop, List.length_append, List.length_cons, List.length_nil, beN_len] <;> omega))) fun v482 hv481 => ?_
                        refine D_r (v := (.i .i64 (num ((b.drop 44).take k)))) rfl rfl rfl (r_ld rfl hb477 rfl) ?_
                        refine D_l (v := (.i .i64 ((num ((b.drop 44).take k)) * 256))) rfl rfl rfl (by exact (r_muli rfl rfl (wrap_i64 (by omega) (by omega)))) ?_
                        refine D_r (v := (.i .u8 ((b.getD (44 + k) 0).toNat : Int))) rfl rfl rfl (hv481.load rfl) ?_
                        refine D_l (v := (.i .i64 ((b.getD (44 + k) 0).toNat : Int))) rfl rfl rfl (by exact (r_cint' rfl (wrap_i64 (by omega) (by omega)))) ?_
                        refine D_l (v := (.i .i64 (((num ((b.drop 44).take k)) * 256) + ((b.getD (44 + k) 0).toNat : Int)))) rfl rfl rfl (by exact (r_addi rfl rfl (wrap_i64 (by omega) (by omega)))) ?_
                        refine D_l (v := (.p (some (n60, 9)))) rfl rfl rfl (r_iarr' hT459 rfl rfl rfl) ?_
                        refine D_store (vs := [(.i .i64 (((num ((b.drop 44).take k)) * 256) + ((b.getD (44 + k) 0).toNat : Int)))]) (c' := [(.i .i64 (num ((b.drop 0).take 8))), (.i .i64 (num ((b.drop 8).take 8))), (.i .i64 (num ((b.drop 16).take 4))), (.i .i64 (num ((b.drop 20).take 4))), (.i .i64 (num ((b.drop 24).take 4))), (.i .i64 (num ((b.drop 28).take 4))), (.i .i64 (num ((b.drop 32).take 4))), (.i .i64 (num ((b.drop 36).take 4))), (.i .i64 (num ((b.drop 40).take 4))), (.i .i64 (((num ((b.drop 44).take k)) * 256) + ((b.getD (44 + k) 0).toNat : Int))), (.i .i64 0)]) rfl (by rfl) hb477 rfl (List.cons_ne_nil _ _) (Nat.le_of_ble_eq_true rfl) rfl fun H483 hW484 => ?_
                        have hb485 := (hW484.2.2 _ (by omega)).trans hb476
                        have hb486 := (hW484.2.2 _ (by omega)).trans hb478
                        have hO487 := hO480.wr hW484 (by omega) (by omega)
                        have hx_hO487 := hO487.next
                        have hnx_H483 : H483.next = H472.next := hW484.1
                        have hlt_n1 : n1 < H483.next := by omega
                        have hlt_n60 : n60 < H483.next := by omega
                        have hlt_q24 : q24 < H483.next := by omega
                        refine And.intro (And.intro (Or.inl rfl) (And.intro (Or.inl rfl) True.intro)) ?_
                        refine D_nil ?_
                        refine C_region ?_
                        refine O_p (.i .i64 ((((44 + k) : Nat)) : Int)) (r_mv hT462) ?_
                        refine O_p (.i .i64 (((((44 + k) : Nat)) : Int) + 1)) (by exact (r_addi rfl rfl (wrap_i64 (by omega) (by omega)))) ?_
                        refine O_p (.i .i64 (((((44 + k) : Nat)) : Int) + 1)) (r_mv rfl) ?_
                        refine O_nil ?_
                        refine C_region ?_
                        refine O_p (.i .i64 (((k : Nat)) : Int)) (r_mv hT463) ?_
                        refine O_p (.i .i64 ((((k : Nat)) : Int) + 1)) (by exact (r_addi rfl rfl (wrap_i64 (by omega) (by omega)))) ?_
                        refine O_p (.i .i64 ((((k : Nat)) : Int) + 1)) (r_mv rfl) ?_
                        refine O_nil ?_
                        have hst := at_step (b := b) (A := 44) (k := k) (by omega)
                        exact ⟨2 - (k + 1), by omega, k + 1, rfl, by omega, hO487, hb485, hlt_n1, (by rw [hst]; exact hW484.2.1), hlt_n60, hb486, hlt_q24, hT455, hT456, hT457, hT458, hT459, hT460, hT461, congrArg (AV.i .i64) (by omega), rfl⟩
                    ·
                      simp only [decide_eq_true_eq, decide_eq_false_iff_not, Bool.not_eq_true', Bool.not_eq_false', Bool.and_eq_true, Bool.or_eq_true, Bool.or_eq_false_iff, Bool.not_not] at hc469
                      refine C_exit ?_
                      refine nx_exit ?_
                      refine nx_exit ?_
                      refine bk_hit ?_
                      refine C_region ?_
                      have hk : k = 2 := by omega
                      subst hk
                      refine O_p (.i .i64 9) (r_mv hT461) ?_
                      refine O_p (.i .i64 10) (r_bin rfl rfl rfl) ?_
                      refine O_p (.i .i64 10) (r_mv rfl) ?_
                      refine O_nil ?_
                      refine C_loop ?_
                      refine C_seq ?_
                      refine C_seq ?_
                      refine C_region ?_
                      refine O_p (.i .i64 10) (r_mv rfl) ?_
                      refine O_p (.sl (some (q24, 0)) 11 11 0) (r_mv hT460) ?_
                      refine O_p (.i .i64 11) (r_len rfl) ?_
                      refine O_p (.b true) (r_bin rfl rfl rfl) ?_
                      refine O_nil ?_
                      refine C_cond (x := true) rfl (fun _ => ?_) (fun h => by cases h)
                      refine C_skip ?_
                      refine C_seq ?_
                      refine C_block ?_
                      refine C_seq ?_
                      refine C_region ?_
                      refine O_p (.i .i64 0) (r_mv rfl) ?_
                      refine O_nil ?_
                      refine C_block ?_
                      have hz10 : num ((b.drop 46).take 0) = 0 := rfl
                      refine C_while (fun m488 T489 H490 => ∃ k : Nat, m488 = 2 - k ∧ k ≤ 2 ∧ Old H.next H H490 ∧ H490.get n1 = some (.cells [(.i .i64 0), (.i .i64 0), (.i .i64 0), (.i .i64 0), (.i .i64 0), (.i .i64 0), (.i .i64 0), (.i .i64 0), (.i .i64 0), (.i .i64 0), (.i .i64 0)] true) ∧ n1 < H490.next ∧ H490.get n60 = some (.cells [(.i .i64 (num ((b.drop 0).take 8))), (.i .i64 (num ((b.drop 8).take 8))), (.i .i64 (num ((b.drop 16).take 4))), (.i .i64 (num ((b.drop 20).take 4))), (.i .i64 (num ((b.drop 24).take 4))), (.i .i64 (num ((b.drop 28).take 4))), (.i .i64 (num ((b.drop 32).take 4))), (.i .i64 (num ((b.drop 36).take 4))), (.i .i64 (num ((b.drop 40).take 4))), (.i .i64 (num ((b.drop 44).take 2))), (.i .i64 (num ((b.drop 46).take k)))] true) ∧ n60 < H490.next ∧ H490.get q24 = some (.cells [(.i .i64 8), (.i .i64 8), (.i .i64 4), (.i .i64 4), (.i .i64 4), (.i .i64 4), (.i .i64 4), (.i .i64 4), (.i .i64 4), (.i .i64 2), (.i .i64 2)] true) ∧ q24 < H490.next ∧ T489.get 0 = (.sl ka key.length kc kg) ∧ T489.get 1 = (.sl ba b.length bc bg) ∧ T489.get 4 = (.p (some (n1, 0))) ∧ T489.get 5 = (.i .i64 0) ∧ T489.get 6 = (.p (some (n60, 0))) ∧ T489.get 7 = (.sl (some (q24, 0)) 11 11 0) ∧ T489.get 9 = (.i .i64 10) ∧ T489.get 8 = (.i .i64 ((((46 + k) : Nat)) : Int)) ∧ T489.get 10 = (.i .i64 (((k : Nat)) : Int))) (fun m488 T489 H490 hI491 => ?_) 2 _ _ ⟨0, rfl, Nat.zero_le _, hO465, hb466, hlt_n1, hb467, hlt_n60, hb468, hlt_q24, hT455, hT456, hT457, hT458, hT459, hT460, rfl, hT462, rfl⟩
                      obtain ⟨k, hm492, hp493, hO504, hb505, hlt_n1, hb506, hlt_n60, hb507, hlt_q24, hT494, hT495, hT496, hT497, hT498, hT499, hT500, hT501, hT502⟩ := hI491
                      have hx_hO504 := hO504.next
                      have hab := at_bound b (A := 46) (k := k) (n := 2) (by omega) (by omega)
                      refine C_seq ?_
                      refine C_seq ?_
                      refine C_region ?_
                      refine O_p (.i .i64 (((k : Nat)) : Int)) (r_mv hT502) ?_
                      refine O_p (.sl (some (q24, 0)) 11 11 0) (r_mv hT499) ?_
                      refine O_p (.i .i64 10) (r_mv hT500) ?_
                      refine O_p (.p (some (q24, 10))) (by exact (r_isl' rfl rfl (by decide) (by decide) rfl)) ?_
                      refine O_p (.i .i64 2) (r_ld rfl hb507 rfl) ?_
                      refine O_p (.b (decide ((((k : Nat)) : Int) < 2))) (r_lss rfl rfl) ?_
                      refine O_nil ?_
                      refine C_cond (x := (decide ((((k : Nat)) : Int) < 2))) rfl (fun hc508 => ?_) (fun hc508 => ?_)
                      ·
                        simp only [decide_eq_true_eq, decide_eq_false_iff_not, Bool.not_eq_true', Bool.not_eq_false', Bool.and_eq_true, Bool.or_eq_true, Bool.or_eq_false_iff, Bool.not_not] at hc508
                        refine C_skip ?_
                        refine C_seq ?_
                        refine C_block ?_
                        refine C_seq ?_
                        refine C_seq ?_
                        refine C_region ?_
                        refine O_p (.i .i64 10) (r_mv hT500) ?_
                        refine O_p (.p (some (n60, 10))) (r_iarr' hT498 rfl rfl rfl) ?_
                        refine O_p (.i .i64 (num ((b.drop 46).take k))) (r_ld rfl hb506 rfl) ?_
                        refine O_p (.b (decide (18014398509481984 < (num ((b.drop 46).take k))))) (r_gtr rfl rfl) ?_
                        refine O_nil ?_
                        refine C_cond (x := (decide (18014398509481984 < (num ((b.drop 46).take k))))) rfl (fun hc509 => ?_) (fun hc509 => ?_)
                        ·
                          simp only [decide_eq_true_eq, decide_eq_false_iff_not, Bool.not_eq_true', Bool.not_eq_false', Bool.and_eq_true, Bool.or_eq_true, Bool.or_eq_false_iff, Bool.not_not] at hc509
                          have hbd : num ((b.drop 46).take 2) < 256 ^ 2 := (at_bound b (A := 46) (k := 2) (n := 2) (by omega) (Nat.le_refl _)).2.1
                          exfalso; omega
                        ·
                          simp only [decide_eq_true_eq, decide_eq_false_iff_not, Bool.not_eq_true', Bool.not_eq_false', Bool.and_eq_true, Bool.or_eq_true, Bool.or_eq_false_iff, Bool.not_not] at hc509
                          have hyt := (b.getD ((46 + k)) 0).toNat_lt
                          refine C_skip ?_
                          refine C_seq ?_
                          refine C_draw fun b510 H511 hbase512 hA513 => ?_
                          have hnx514 : H511.next = H490.next + 13 := hA513.1
                          have hb515 := (hA513.2 _).trans hb505
                          have hb516 := (hA513.2 _).trans hb506
                          have hb517 := (hA513.2 _).trans hb507
                          have hF518 := hA513.fr (fun _ => False)
                          have hO519 := hO504.aside hA513
                          have hx_hO519 := hO519.next
                          have hlt_n1 : n1 < H511.next := by omega
                          have hlt_n60 : n60 < H511.next := by omega
                          have hlt_q24 : q24 < H511.next := by omega
                          refine D_l (v := (.i .i64 10)) rfl rfl rfl (r_mv hT500) ?_
                          refine D_l (v := (.i .i64 10)) rfl rfl rfl (r_mv hT500) ?_
                          refine D_l (v := (.p (some (n60, 10)))) rfl rfl rfl (r_iarr' hT498 rfl rfl rfl) ?_
                          refine D_l (v := (.sl ba b.length bc bg)) rfl rfl rfl (r_mv hT495) ?_
                          refine D_l (v := (.i .i64 ((((46 + k) : Nat)) : Int))) rfl rfl rfl (r_mv hT501) ?_
                          refine D_q rfl rfl rfl (by exact Bs.ix (bhb.old hok hO519) rfl (i := (46 + k)) rfl (by first | omega | (simp only [List.length_take, List.length_drop, List.length_append, List.length_cons, List.length_nil, beN_len] <;> omega))) fun v521 hv520 => ?_
                          refine D_r (v := (.i .i64 (num ((b.drop 46).take k)))) rfl rfl rfl (r_ld rfl hb516 rfl) ?_
                          refine D_l (v := (.i .i64 ((num ((b.drop 46).take k)) * 256))) rfl rfl rfl (by exact (r_muli rfl rfl (wrap_i64 (by omega) (by omega)))) ?_
                          refine D_r (v := (.i .u8 ((b.getD (46 + k) 0).toNat : Int))) rfl rfl rfl (hv520.load rfl) ?_
                          refine D_l (v := (.i .i64 ((b.getD (46 + k) 0).toNat : Int))) rfl rfl rfl (by exact (r_cint' rfl (wrap_i64 (by omega) (by omega)))) ?_
                          refine D_l (v := (.i .i64 (((num ((b.drop 46).take k)) * 256) + ((b.getD (46 + k) 0).toNat : Int)))) rfl rfl rfl (by exact (r_addi rfl rfl (wrap_i64 (by omega) (by omega)))) ?_
                          refine D_l (v := (.p (some (n60, 10)))) rfl rfl rfl (r_iarr' hT498 rfl rfl rfl) ?_
                          refine D_store (vs := [(.i .i64 (((num ((b.drop 46).take k)) * 256) + ((b.getD (46 + k) 0).toNat : Int)))]) (c' := [(.i .i64 (num ((b.drop 0).take 8))), (.i .i64 (num ((b.drop 8).take 8))), (.i .i64 (num ((b.drop 16).take 4))), (.i .i64 (num ((b.drop 20).take 4))), (.i .i64 (num ((b.drop 24).take 4))), (.i .i64 (num ((b.drop 28).take 4))), (.i .i64 (num ((b.drop 32).take 4))), (.i .i64 (num ((b.drop 36).take 4))), (.i .i64 (num ((b.drop 40).take 4))), (.i .i64 (num ((b.drop 44).take 2))), (.i .i64 (((num ((b.drop 46).take k)) * 256) + ((b.getD (46 + k) 0).toNat : Int)))]) rfl (by rfl) hb516 rfl (List.cons_ne_nil _ _) (Nat.le_of_ble_eq_true rfl) rfl fun H522 hW523 => ?_
                          have hb524 := (hW523.2.2 _ (by omega)).trans hb515
                          have hb525 := (hW523.2.2 _ (by omega)).trans hb517
                          have hO526 := hO519.wr hW523 (by omega) (by omega)
                          have hx_hO526 := hO526.next
                          have hnx_H522 : H522.next = H511.next := hW523.1
                          have hlt_n1 : n1 < H522.next := by omega
                          have hlt_n60 : n60 < H522.next := by omega
                          have hlt_q24 : q24 < H522.next := by omega
                          refine And.intro (And.intro (Or.inl rfl) (And.intro (Or.inl rfl) True.intro)) ?_
                          refine D_nil ?_
                          refine C_region ?_
                          refine O_p (.i .i64 ((((46 + k) : Nat)) : Int)) (r_mv hT501) ?_
                          refine O_p (.i .i64 (((((46 + k) : Nat)) : Int) + 1)) (by exact (r_addi rfl rfl (wrap_i64 (by omega) (by omega)))) ?_
                          refine O_p (.i .i64 (((((46 + k) : Nat)) : Int) + 1)) (r_mv rfl) ?_
                          refine O_nil ?_
                          refine C_region ?_
                          refine O_p (.i .i64 (((k : Nat)) : Int)) (r_mv hT502) ?_
                          refine O_p (.i .i64 ((((k : Nat)) : Int) + 1)) (by exact (r_addi rfl rfl (wrap_i64 (by omega) (by omega)))) ?_
                          refine O_p (.i .i64 ((((k : Nat)) : Int) + 1)) (r_mv rfl) ?_
                          refine O_nil ?_
                          have hst := at_step (b := b) (A := 46) (k := k) (by omega)
                          exact ⟨2 - (k + 1), by omega, k + 1, rfl, by omega, hO526, hb524, hlt_n1, (by rw [hst]; exact hW523.2.1), hlt_n60, hb525, hlt_q24, hT494, hT495, hT496, hT497, hT498, hT499, hT500, congrArg (AV.i .i64) (by omega), rfl⟩
                      ·
                        simp only [decide_eq_true_eq, decide_eq_false_iff_not, Bool.not_eq_true', Bool.not_eq_false', Bool.and_eq_true, Bool.or_eq_true, Bool.or_eq_false_iff, Bool.not_not] at hc508
                        refine C_exit ?_
                        refine nx_exit ?_
                        refine nx_exit ?_
                        refine bk_hit ?_
                        refine C_region ?_
                        have hk : k = 2 := by omega
                        subst hk
                        refine O_p (.i .i64 10) (r_mv hT500) ?_
                        refine O_p (.i .i64 11) (r_bin rfl rfl rfl) ?_
                        refine O_p (.i .i64 11) (r_mv rfl) ?_
                        refine O_nil ?_
                        refine C_loop ?_
                        refine C_seq ?_
                        refine C_seq ?_
                        refine C_region ?_
                        refine O_p (.i .i64 11) (r_mv rfl) ?_
                        refine O_p (.sl (some (q24, 0)) 11 11 0) (r_mv hT499) ?_
                        refine O_p (.i .i64 11) (r_len rfl) ?_
                        refine O_p (.b false) (r_bin rfl rfl rfl) ?_
                        refine O_nil ?_
                        refine C_cond (x := false) rfl (fun h => by cases h) (fun _ => ?_)
                        refine C_exit ?_
                        refine nx_exit ?_
                        refine nx_exit ?_
                        refine bk_hit ?_
                        refine C_seq ?_
                        refine C_seq ?_
                        refine C_region ?_
                        refine O_p (.p (some (n60, 0))) (r_iarr' hT498 rfl rfl rfl) ?_
                        refine O_p (.i .i64 (num ((b.drop 0).take 8))) (r_ld rfl hb506 rfl) ?_
                        refine O_p (.b (decide (281474976710656 < (num ((b.drop 0).take 8))))) (r_gtr rfl rfl) ?_
                        refine O_p (.b (decide (281474976710656 < (num ((b.drop 0).take 8))))) (r_mv rfl) ?_
                        refine O_gx (e := (!(decide (281474976710656 < (num ((b.drop 0).take 8)))))) (v := (.p (some (n60, 1)))) (wf rfl) (fun he => (r_iarr' hT498 rfl rfl rfl)) ?_
                        refine O_gx (e := (!(decide (281474976710656 < (num ((b.drop 0).take 8)))))) (v := (.i .i64 (num ((b.drop 8).take 8)))) (wf rfl) (fun he => (r_ld (cond_pos he) hb506 rfl)) ?_
                        refine O_gx (e := (!(decide (281474976710656 < (num ((b.drop 0).take 8)))))) (v := (.b (decide (281474976710656 < (num ((b.drop 8).take 8)))))) (wf rfl) (fun he => (r_gtr (cond_pos he) rfl)) ?_
                        refine O_p (.b ((decide (281474976710656 < (num ((b.drop 0).take 8)))) || (decide (281474976710656 < (num ((b.drop 8).take 8)))))) (r_pick_or rfl rfl rfl rfl) ?_
                        refine O_nil ?_
                        refine C_cond (x := ((decide (281474976710656 < (num ((b.drop 0).take 8)))) || (decide (281474976710656 < (num ((b.drop 8).take 8)))))) rfl (fun hc527 => ?_) (fun hc527 => ?_)
                        ·
                          simp only [decide_eq_true_eq, decide_eq_false_iff_not, Bool.not_eq_true', Bool.not_eq_false', Bool.and_eq_true, Bool.or_eq_true, Bool.or_eq_false_iff, Bool.not_not] at hc527
                          refine C_seq ?_
                          refine C_region ?_
                          refine O_p (.agg [(.i .i64 0), (.i .i64 0), (.i .i64 0), (.i .i64 0), (.i .i64 0), (.i .i64 0), (.i .i64 0), (.i .i64 0), (.i .i64 0), (.i .i64 0), (.i .i64 0)]) (r_build rfl) ?_
                          refine O_store (vs := [(.i .i64 0), (.i .i64 0), (.i .i64 0), (.i .i64 0), (.i .i64 0), (.i .i64 0), (.i .i64 0), (.i .i64 0), (.i .i64 0), (.i .i64 0), (.i .i64 0)]) (c' := [(.i .i64 0), (.i .i64 0), (.i .i64 0), (.i .i64 0), (.i .i64 0), (.i .i64 0), (.i .i64 0), (.i .i64 0), (.i .i64 0), (.i .i64 0), (.i .i64 0)]) hT496 (by rfl) hb505 rfl (List.cons_ne_nil _ _) (Nat.le_of_ble_eq_true rfl) rfl fun H528 hW529 => ?_
                          have hb530 := (hW529.2.2 _ (by omega)).trans hb506
                          have hb531 := (hW529.2.2 _ (by omega)).trans hb507
                          have hO532 := hO504.wr hW529 (by omega) (by omega)
                          have hx_hO532 := hO532.next
                          have hnx_H528 : H528.next = H490.next := hW529.1
                          have hlt_n1 : n1 < H528.next := by omega
                          have hlt_n60 : n60 < H528.next := by omega
                          have hlt_q24 : q24 < H528.next := by omega
                          refine O_p (.i .i64 3) (r_mv rfl) ?_
                          refine O_nil ?_
                          refine C_ret ?_
                          refine nx_ret ?_
                          have he := cErr_t hk16 hl60 hsg hcd (by rintro ⟨ha, hb⟩; omega)
                          have hb0 : ¬ cErr key b = 0 := by rw [he]; decide
                          exact ⟨.inr rfl, _, resL_cons (r_cellA hT496 hW529.2.1 rfl) (resL_one (r_tmp (v := (.i .i64 3)) rfl)), by simp only [cSt_bad hb0, he]; rfl, hO532⟩
                        ·
                          simp only [decide_eq_true_eq, decide_eq_false_iff_not, Bool.not_eq_true', Bool.not_eq_false', Bool.and_eq_true, Bool.or_eq_true, Bool.or_eq_false_iff, Bool.not_not] at hc527
                          refine C_skip ?_
                          refine C_seq ?_
                          refine C_region ?_
                          refine O_p (.agg [(.i .i64 (num ((b.drop 0).take 8))), (.i .i64 (num ((b.drop 8).take 8))), (.i .i64 (num ((b.drop 16).take 4))), (.i .i64 (num ((b.drop 20).take 4))), (.i .i64 (num ((b.drop 24).take 4))), (.i .i64 (num ((b.drop 28).take 4))), (.i .i64 (num ((b.drop 32).take 4))), (.i .i64 (num ((b.drop 36).take 4))), (.i .i64 (num ((b.drop 40).take 4))), (.i .i64 (num ((b.drop 44).take 2))), (.i .i64 (num ((b.drop 46).take 2)))]) (r_ldA hT498 hb506 rfl) ?_
                          refine O_store (vs := [(.i .i64 (num ((b.drop 0).take 8))), (.i .i64 (num ((b.drop 8).take 8))), (.i .i64 (num ((b.drop 16).take 4))), (.i .i64 (num ((b.drop 20).take 4))), (.i .i64 (num ((b.drop 24).take 4))), (.i .i64 (num ((b.drop 28).take 4))), (.i .i64 (num ((b.drop 32).take 4))), (.i .i64 (num ((b.drop 36).take 4))), (.i .i64 (num ((b.drop 40).take 4))), (.i .i64 (num ((b.drop 44).take 2))), (.i .i64 (num ((b.drop 46).take 2)))]) (c' := [(.i .i64 (num ((b.drop 0).take 8))), (.i .i64 (num ((b.drop 8).take 8))), (.i .i64 (num ((b.drop 16).take 4))), (.i .i64 (num ((b.drop 20).take 4))), (.i .i64 (num ((b.drop 24).take 4))), (.i .i64 (num ((b.drop 28).take 4))), (.i .i64 (num ((b.drop 32).take 4))), (.i .i64 (num ((b.drop 36).take 4))), (.i .i64 (num ((b.drop 40).take 4))), (.i .i64 (num ((b.drop 44).take 2))), (.i .i64 (num ((b.drop 46).take 2)))]) hT496 (by rfl) hb505 rfl (List.cons_ne_nil _ _) (Nat.le_of_ble_eq_true rfl) rfl fun H533 hW534 => ?_
                          have hb535 := (hW534.2.2 _ (by omega)).trans hb506
                          have hb536 := (hW534.2.2 _ (by omega)).trans hb507
                          have hO537 := hO504.wr hW534 (by omega) (by omega)
                          have hx_hO537 := hO537.next
                          have hnx_H533 : H533.next = H490.next := hW534.1
                          have hlt_n1 : n1 < H533.next := by omega
                          have hlt_n60 : n60 < H533.next := by omega
                          have hlt_q24 : q24 < H533.next := by omega
                          refine O_p (.i .i64 0) (r_mv rfl) ?_
                          refine O_nil ?_
                          refine C_ret ?_
                          have he := cErr_0 hk16 hl60 hsg hcd ⟨by omega, by omega⟩
                          exact ⟨.inr rfl, _, resL_cons (r_cellA hT496 hW534.2.1 rfl) (resL_one (r_tmp (v := (.i .i64 0)) rfl)), by simp only [cSt_ok he, he]; rfl, hO537⟩
theorem rdec_ev {H : AH} (hok : H.Ok) {ka : Option (Nat × Nat)} {kn kc kg : Nat} (khg : kg = 0 ∨ kg = 1) {key : List UInt8} (khb : Bs H (.sl ka kn kc kg) key) (khc : kn ≤ kc) (khm : kc ≤ 9223372036854775807) {ba : Option (Nat × Nat)} {bn bc bg : Nat} (bhg : bg = 0 ∨ bg = 1) {b : List UInt8} (bhb : Bs H (.sl ba bn bc bg) b) (bhc : bn ≤ bc) (bhm : bc ≤ 9223372036854775807) : Ev tabA spA (.fn (.func 15) [] []) [.sl ka kn kc kg, .sl ba bn bc bg] H (fun r H' => r = .tup [.agg [.i .i64 (cSt key b 0), .i .i64 (cSt key b 1), .i .i64 (cSt key b 2), .i .i64 (cSt key b 3), .i .i64 (cSt key b 4), .i .i64 (cSt key b 5), .i .i64 (cSt key b 6), .i .i64 (cSt key b 9), .i .i64 (cSt key b 10), .i .i64 (cSt key b 7), .i .i64 (cSt key b 8)], .i .i64 (cErr key b)] ∧ Kp H H') := by
  by_cases hk : key.length = 16
  · have hbl := bhb.length
    by_cases h1 : b.length < 60
    · exact rdec_short hok khg khb khc khm bhg bhb bhc bhm hk h1
    · by_cases h2 : 60 < b.length
      · exact rdec_long hok khg khb khc khm bhg bhb bhc bhm hk h2
      · by_cases h3 : b.drop 56 = [66, 79, 76, 49]
        · by_cases h4 : code key (b.take 48) = num ((b.drop 48).take 8)
          · exact rdec_ok hok khg khb khc khm bhg bhb bhc bhm hk (by omega) h3 h4
          · exact rdec_code hok khg khb khc khm bhg bhb bhc bhm hk (by omega) h3 h4
        · exact rdec_sign hok khg khb khc khm bhg bhb bhc bhm hk (by omega) h3
  · exact rdec_key hok khg khb khc khm bhg bhb bhc bhm hk
end Go.Proofs.Yteapgimihapefaa.E
