/- slices.Chunk, walked. It bears no condition. -/
import Derived.Test.YtadloppgokobeaaW
namespace Go.Proofs.Ytadloppgokobeaa.E
set_option linter.unusedVariables false
set_option linter.unusedSimpArgs false
theorem chunk_ev {H : AH} {da : Option (Nat × Nat)} {dc dg : Nat} {l : List UInt8} {R : HL} {k : Nat} (hk : 0 < k) (hH0 : Hs H R) : Ev tabA spA (.fn (.func 18) [] []) [.sl da l.length dc dg, .i .i64 k] H (fun r H' => ∃ b1 b2, r = .fn (.func 21) [] [.p (some (b1, 0)), .p (some (b2, 0))] ∧ Hs H' ([(b1, some (.cells [.sl da l.length dc dg] true))] ++ ([(b2, some (.cells [.i .i64 k] true))] ++ R))) := by
  refine Ev_C (F := x18) rfl ?_
  refine C_seq ?_
  refine C_region ?_
  refine O_box (z := [(.sl da l.length dc dg)]) rfl fun n1 H2 hN3 => ?_
  have hH4 := hH0.new hN3
  refine O_box (z := [(.i .i64 ((k : Nat) : Int))]) rfl fun n5 H6 hN7 => ?_
  have hH8 := hH4.new hN7
  refine O_p .nf (r_mv rfl) ?_
  refine O_nil ?_
  refine C_seq ?_
  refine C_seq ?_
  refine C_region ?_
  refine O_p (.i .i64 ((k : Nat) : Int)) (r_ld rfl hH8.get0 rfl) ?_
  refine O_p (.b (decide (((k : Nat) : Int) < 1))) (r_lss rfl rfl) ?_
  refine O_nil ?_
  refine C_cond (x := (decide (((k : Nat) : Int) < 1))) rfl (fun hc9 => ?_) (fun hc9 => ?_)
  ·
    try simp only [decide_eq_true_eq, decide_eq_false_iff_not, Bool.not_eq_true', Bool.not_eq_false', Bool.and_eq_true, Bool.or_eq_true, Bool.or_eq_false_iff, Bool.not_not, Bool.and_eq_false_iff] at hc9
    exfalso; omega
  ·
    try simp only [decide_eq_true_eq, decide_eq_false_iff_not, Bool.not_eq_true', Bool.not_eq_false', Bool.and_eq_true, Bool.or_eq_true, Bool.or_eq_false_iff, Bool.not_not, Bool.and_eq_false_iff] at hc9
    refine C_skip ?_
    refine C_seq ?_
    refine C_region ?_
    refine O_p (.fn (.func 21) [] [(.p (some (n1, 0))), (.p (some (n5, 0)))]) rfl ?_
    refine O_p (.fn (.func 21) [] [(.p (some (n1, 0))), (.p (some (n5, 0)))]) (r_mv rfl) ?_
    refine O_nil ?_
    refine C_ret ?_
    have hH10 := (hH8.top1)
    exact ⟨.inr rfl, _, resL_one (r_tmp (v := (.fn (.func 21) [] [(.p (some (n1, 0))), (.p (some (n5, 0)))])) rfl), n1, n5, rfl, hH10⟩
theorem chunk1_ev {H : AH} {b1 b2 k L : Nat} {B : HL} {da : Option (Nat × Nat)} {dc dg : Nat} {l : List UInt8} (hdg : dg = 0 ∨ dg = 1) (hdc : l.length ≤ dc) (hdm : dc ≤ 9223372036854775807) (hmb : ∀ H', Hs H' B → Bs H' (.sl da l.length dc dg) l) (hl : l.length ≤ 1073741824) (hk : 0 < k) (hk2 : k ≤ 1073741824) (I : Nat → AH → Prop) (hI0 : I 0 H) (hIH : ∀ i H1, I i H1 → ∃ R1, Hs H1 ([(b1, some (.cells [.sl da l.length dc dg] true))] ++ ([(b2, some (.cells [.i .i64 k] true))] ++ (B ++ R1))))
    (hIk : ∀ i H1 H2, H1.next ≤ H2.next → (∀ q, q < H1.next → H2.get q = H1.get q) → H2.Ok → I i H1 → I i H2)
    (hy : ∀ i H1 v, i < nPcs l.length k → I i H1 → (∃ (a : Option (Nat × Nat)) (n : Nat), n = (pieceD k l i).length ∧ v = .sl a n n 0 ∧ ∀ H', Hs H' B → Bs H' (.sl a n n 0) (pieceD k l i)) → Ev tabA spA (.fn (.yield L) [] []) [v] H1 (fun r H2 => r = .b true ∧ I (i + 1) H2)) :
    Ev tabA spA (.fn (.func 21) [] [.p (some (b1, 0)), .p (some (b2, 0))]) [.fn (.yield L) [] []] H (fun _ H' => I (nPcs l.length k) H') := by
  have hH0 : Hs H ([] ++ []) := by obtain ⟨R1, h⟩ := hIH 0 H hI0; exact ⟨by simp, fun p hp => by simp at hp, h.ok⟩
  refine Ev_C (F := x21) rfl ?_
  refine C_seq ?_
  refine C_region ?_
  refine O_p (.i .i64 0) (r_mv rfl) ?_
  refine O_nil ?_
  refine C_block ?_
  refine C_while (fun m1 T2 H3 => ∃ i : Nat, m1 = nPcs l.length k - i ∧ i ≤ nPcs l.length k ∧ I i H3 ∧ T2.get 0 = .fn (.yield L) [] [] ∧ T2.get 1 = .p (some (b1, 0)) ∧ T2.get 2 = .p (some (b2, 0)) ∧ T2.get 4 = .i .i64 ((i * k : Nat) : Int)) (fun m1 T2 H3 hI4 => ?_) (nPcs l.length k) _ _ ⟨0, rfl, Nat.zero_le _, hI0, rfl, rfl, rfl, by rw [Nat.zero_mul]; rfl⟩
  obtain ⟨i, hm, hi, hIi, hT0, hT1, hT2, hT4⟩ := hI4
  have hlt := nPcs_lt (n := l.length) (i := i) hk
  obtain ⟨R1, hHi⟩ := hIH i H3 hIi
  refine C_seq ?_
  refine C_seq ?_
  refine C_region ?_
  refine O_p (.i .i64 ((i * k : Nat) : Int)) (r_mv hT4) ?_
  refine O_p (.sl da l.length dc dg) (r_ld hT1 hHi.get0 rfl) ?_
  refine O_p (.i .i64 (((l.length : Nat)) : Int)) (r_len rfl) ?_
  refine O_p (.b (decide (((i * k : Nat) : Int) < (((l.length : Nat)) : Int)))) (r_lss rfl rfl) ?_
  refine O_nil ?_
  refine C_cond (x := (decide (((i * k : Nat) : Int) < (((l.length : Nat)) : Int)))) rfl (fun hc5 => ?_) (fun hc5 => ?_)
  ·
    try simp only [decide_eq_true_eq, decide_eq_false_iff_not, Bool.not_eq_true', Bool.not_eq_false', Bool.and_eq_true, Bool.or_eq_true, Bool.or_eq_false_iff, Bool.not_not, Bool.and_eq_false_iff] at hc5
    refine C_skip ?_
    refine C_seq ?_
    refine C_block ?_
    refine C_seq ?_
    refine C_draw fun b6 H7 hbase8 hA9 => ?_
    have hH10 := hHi.keep (by have := hA9.1; omega) (fun q _ => hA9.2 q) ((hHi.old).aside hA9).ok
    refine D_l (v := (.i .i64 ((i * k : Nat) : Int))) rfl rfl rfl (r_mv hT4) ?_
    refine D_r (v := (.i .i64 ((k : Nat) : Int))) rfl rfl rfl (r_ld hT2 hH10.get1 rfl) ?_
    refine D_r (v := (.sl da l.length dc dg)) rfl rfl rfl (r_ld hT1 hH10.get0 rfl) ?_
    refine D_q rfl rfl rfl (by exact Bs.slB hmb (by first | omega | (simp only [List.length_set, List.length_append, List.length_cons, List.length_nil, List.length_take, List.length_drop] <;> omega)) hdg rfl (i := (i * k)) (j := l.length) (m := dc) (by simp only [Option.map_some, Option.map_none]; first | exact sb_lo' (i := (i * k))   (by first | omega | (simp only [List.length_take, List.length_drop, List.length_append, List.length_cons, List.length_nil, beN_len] <;> omega)) | (rw [rfl]; exact sb_lo' (i := (i * k))   (by first | omega | (simp only [List.length_take, List.length_drop, List.length_append, List.length_cons, List.length_nil, beN_len] <;> omega)))) (by first | omega | (simp only [List.length_take, List.length_drop, List.length_append, List.length_cons, List.length_nil, beN_len] <;> omega)) (by first | omega | (simp only [List.length_take, List.length_drop, List.length_append, List.length_cons, List.length_nil, beN_len] <;> omega)) (by first | omega | (simp only [List.length_take, List.length_drop, List.length_append, List.length_cons, List.length_nil, beN_len] <;> omega))) fun v12 hv11 => ?_
    obtain ⟨a13, rfl, hb14⟩ := hv11
    rw [List.take_of_length_le (by simp only [List.length_drop]; omega)] at hb14
    refine D_l (v := (.i .i64 ((((l.length - (i * k)) : Nat)) : Int))) rfl rfl rfl (r_len rfl) ?_
    refine D_l (v := (.i .i64 ((((min k (l.length - (i * k))) : Nat)) : Int))) rfl rfl rfl (r_minn (a := k) (b := (l.length - (i * k))) rfl rfl) ?_
    refine D_l (v := (.i .i64 ((((min k (l.length - (i * k))) : Nat)) : Int))) rfl rfl rfl (r_mv rfl) ?_
    refine D_nil ?_
    refine C_seq ?_
    refine C_region ?_
    refine O_p (.fn (.yield L) [] []) (r_mv hT0) ?_
    refine O_p (.sl da l.length dc dg) (r_ld hT1 hH10.get0 rfl) ?_
    refine O_p (.i .i64 ((i * k : Nat) : Int)) (r_mv hT4) ?_
    refine O_p (.i .i64 ((i * k : Nat) : Int)) (r_mv hT4) ?_
    refine O_p (.i .i64 ((((min k (l.length - (i * k))) : Nat)) : Int)) (r_mv rfl) ?_
    refine O_p (.i .i64 (((i * k : Nat) : Int) + ((((min k (l.length - (i * k))) : Nat)) : Int))) (by exact (r_addi rfl rfl (wrap_i64 (by omega) (by omega)))) ?_
    refine O_p (.i .i64 ((i * k : Nat) : Int)) (r_mv hT4) ?_
    refine O_p (.i .i64 ((((min k (l.length - (i * k))) : Nat)) : Int)) (r_mv rfl) ?_
    refine O_p (.i .i64 (((i * k : Nat) : Int) + ((((min k (l.length - (i * k))) : Nat)) : Int))) (by exact (r_addi rfl rfl (wrap_i64 (by omega) (by omega)))) ?_
    refine O_q (by exact Bs.slB hmb (by first | omega | (simp only [List.length_set, List.length_append, List.length_cons, List.length_nil, List.length_take, List.length_drop] <;> omega)) hdg rfl (i := (i * k)) (j := ((i * k) + (min k (l.length - (i * k))))) (m := ((i * k) + (min k (l.length - (i * k))))) (by simp only [Option.map_some, Option.map_none]; first | exact sb_tri (i := (i * k)) (j := ((i * k) + (min k (l.length - (i * k))))) (m := ((i * k) + (min k (l.length - (i * k))))) (by first | omega | (simp only [List.length_take, List.length_drop, List.length_append, List.length_cons, List.length_nil, beN_len] <;> omega)) (by first | omega | (simp only [List.length_take, List.length_drop, List.length_append, List.length_cons, List.length_nil, beN_len] <;> omega)) (by first | omega | (simp only [List.length_take, List.length_drop, List.length_append, List.length_cons, List.length_nil, beN_len] <;> omega)) | (rw [rfl, rfl, rfl]; exact sb_tri (i := (i * k)) (j := ((i * k) + (min k (l.length - (i * k))))) (m := ((i * k) + (min k (l.length - (i * k))))) (by first | omega | (simp only [List.length_take, List.length_drop, List.length_append, List.length_cons, List.length_nil, beN_len] <;> omega)) (by first | omega | (simp only [List.length_take, List.length_drop, List.length_append, List.length_cons, List.length_nil, beN_len] <;> omega)) (by first | omega | (simp only [List.length_take, List.length_drop, List.length_append, List.length_cons, List.length_nil, beN_len] <;> omega)))) (by first | omega | (simp only [List.length_take, List.length_drop, List.length_append, List.length_cons, List.length_nil, beN_len] <;> omega)) (by first | omega | (simp only [List.length_take, List.length_drop, List.length_append, List.length_cons, List.length_nil, beN_len] <;> omega)) (by first | omega | (simp only [List.length_take, List.length_drop, List.length_append, List.length_cons, List.length_nil, beN_len] <;> omega))) fun v16 hv15 => ?_
    obtain ⟨a17, rfl, hb18⟩ := hv15
    refine O_callv (F := .fn (.yield L) [] []) (as' := [(.sl a17 (((i * k) + (min k (l.length - (i * k)))) - (i * k)) (((i * k) + (min k (l.length - (i * k)))) - (i * k)) 0)]) rfl rfl ?_
    have hI7 := hIk i _ H7 (by have := hA9.1; omega) (fun q _ => hA9.2 q) hH10.ok hIi
    refine Ev.mono (hy i H7 _ (by omega) hI7 ⟨_, (((i * k) + (min k (l.length - (i * k)))) - (i * k)), by rw [pieceD_len]; omega, rfl, fun H' hh => by have h := hb18 H' hh; rw [show i * k + min k (l.length - i * k) - i * k = min k (l.length - i * k) by omega] at h ⊢; rw [piece_take] at h; exact h⟩) fun v2 H2 hq2 => ?_
    obtain ⟨rfl, hI2⟩ := hq2
    obtain ⟨R2, hHj⟩ := hIH (i + 1) H2 hI2
    refine O_p (.b false) (r_un rfl rfl) ?_
    refine O_nil ?_
    refine C_cond (x := false) rfl (fun h => by cases h) (fun _ => ?_)
    refine C_skip ?_
    refine C_region ?_
    refine O_p (.i .i64 ((i * k : Nat) : Int)) (r_mv hT4) ?_
    refine O_p (.i .i64 ((k : Nat) : Int)) (r_ld hT2 hHj.get1 rfl) ?_
    refine O_p (.i .i64 (((i + 1) * k : Nat) : Int)) (by exact (by rw [show (((i + 1) * k : Nat) : Int) = ((i * k : Nat) : Int) + ((k : Nat) : Int) by rw [Nat.add_mul, Nat.one_mul, Int.natCast_add]]; exact r_addi rfl rfl (wrap_i64 (by omega) (by omega)))) ?_
    refine O_p (.i .i64 (((i + 1) * k : Nat) : Int)) (r_mv rfl) ?_
    refine O_nil ?_
    exact ⟨nPcs l.length k - (i + 1), by omega, i + 1, rfl, by omega, hI2, hT0, hT1, hT2, rfl⟩
  ·
    try simp only [decide_eq_true_eq, decide_eq_false_iff_not, Bool.not_eq_true', Bool.not_eq_false', Bool.and_eq_true, Bool.or_eq_true, Bool.or_eq_false_iff, Bool.not_not, Bool.and_eq_false_iff] at hc5
    refine C_exit ?_
    refine nx_exit ?_
    refine nx_exit ?_
    refine bk_hit ?_
    have hii : i = nPcs l.length k := by omega
    exact ⟨.inl rfl, [], rfl, by rw [← hii]; exact hIi⟩
end Go.Proofs.Ytadloppgokobeaa.E
