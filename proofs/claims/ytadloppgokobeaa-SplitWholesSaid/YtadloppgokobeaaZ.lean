/- Split of both sides. It bears no condition. -/
import Derived.Test.YtadloppgokobeaaY
namespace Go.Proofs.Ytadloppgokobeaa.E
set_option linter.unusedVariables false
set_option linter.unusedSimpArgs false
set_option maxHeartbeats 1000000 in
theorem split9_true {H : AH} {R : HL} {o p tsn ssn : Int} {k : Nat} {B : HL} {da : Option (Nat × Nat)} {dc dg : Nat} {l : List UInt8} (hdg : dg = 0 ∨ dg = 1) (hdc : l.length ≤ dc) (hdm : dc ≤ 9223372036854775807) (hmb : ∀ H', Hs H' B → Bs H' (.sl da l.length dc dg) l) (hl0 : 0 < l.length) (hl1 : l.length ≤ 16384) (hk0 : 0 < k) (hk1 : k ≤ 1172) (hH0 : Hs H (B ++ R)) : Ev tabA spA (.fn (.func 9) [] []) [.agg [.i .u16 o, .b true, .i .u32 p, .sl da l.length dc dg], .i .u32 tsn, .i .u16 ssn, .i .i64 k] H (fun r H' => ∃ D v, r = .tup [v, .i .i64 0] ∧ Cks true (D ++ B) v (splitS true o p tsn ssn k l) ∧ Hs H' (D ++ (B ++ R))) := by
  refine Ev_C (F := x9) rfl ?_
  refine C_seq ?_
  refine C_region ?_
  refine O_box (z := [(.i .u16 o), (.b true), (.i .u32 p), (.sl da l.length dc dg)]) rfl fun n1 H2 hN3 => ?_
  have hH4 := hH0.new hN3
  refine O_p (.sl none 0 0 0) (r_mv rfl) ?_
  refine O_p (.i .i64 0) (r_mv rfl) ?_
  refine O_nil ?_
  refine C_seq ?_
  refine C_seq ?_
  refine C_region ?_
  refine O_p (.p (some (n1, 3))) (r_fadd' rfl rfl) ?_
  refine O_p (.sl da l.length dc dg) (r_ld rfl hH4.get0 rfl) ?_
  refine O_p (.i .i64 (((l.length : Nat)) : Int)) (r_len rfl) ?_
  refine O_p (.b (decide ((((l.length : Nat)) : Int) = 0))) (r_eql rfl rfl) ?_
  refine O_p (.b (decide ((((l.length : Nat)) : Int) = 0))) (r_mv rfl) ?_
  refine O_gx (e := (!(decide ((((l.length : Nat)) : Int) = 0)))) (v := (.i .i64 ((k : Nat) : Int))) (wf rfl) (fun he => (r_mv rfl)) ?_
  refine O_gx (e := (!(decide ((((l.length : Nat)) : Int) = 0)))) (v := (.b (decide (((k : Nat) : Int) < 1)))) (wf rfl) (fun he => (r_lss (cond_pos he) rfl)) ?_
  refine O_p (.b ((decide ((((l.length : Nat)) : Int) = 0)) || (decide (((k : Nat) : Int) < 1)))) (r_pick_or rfl rfl rfl rfl) ?_
  refine O_p (.b ((decide ((((l.length : Nat)) : Int) = 0)) || (decide (((k : Nat) : Int) < 1)))) (r_mv rfl) ?_
  refine O_gx (e := (!((decide ((((l.length : Nat)) : Int) = 0)) || (decide (((k : Nat) : Int) < 1))))) (v := (.i .i64 ((k : Nat) : Int))) (wf rfl) (fun he => (r_mv rfl)) ?_
  refine O_gx (e := (!((decide ((((l.length : Nat)) : Int) = 0)) || (decide (((k : Nat) : Int) < 1))))) (v := (.b (decide (1172 < ((k : Nat) : Int))))) (wf rfl) (fun he => (r_gtr (cond_pos he) rfl)) ?_
  refine O_p (.b (((decide ((((l.length : Nat)) : Int) = 0)) || (decide (((k : Nat) : Int) < 1))) || (decide (1172 < ((k : Nat) : Int))))) (r_pick_or rfl rfl rfl rfl) ?_
  refine O_nil ?_
  refine C_cond (x := (((decide ((((l.length : Nat)) : Int) = 0)) || (decide (((k : Nat) : Int) < 1))) || (decide (1172 < ((k : Nat) : Int))))) rfl (fun hc5 => ?_) (fun hc5 => ?_)
  ·
    try simp only [decide_eq_true_eq, decide_eq_false_iff_not, Bool.not_eq_true', Bool.not_eq_false', Bool.and_eq_true, Bool.or_eq_true, Bool.or_eq_false_iff, Bool.not_not, Bool.and_eq_false_iff] at hc5
    exfalso; omega
  ·
    try simp only [decide_eq_true_eq, decide_eq_false_iff_not, Bool.not_eq_true', Bool.not_eq_false', Bool.and_eq_true, Bool.or_eq_true, Bool.or_eq_false_iff, Bool.not_not, Bool.and_eq_false_iff] at hc5
    refine C_skip ?_
    refine C_seq ?_
    refine C_seq ?_
    refine C_region ?_
    refine O_p (.p (some (n1, 3))) (r_fadd' rfl rfl) ?_
    refine O_p (.sl da l.length dc dg) (r_ld rfl hH4.get0 rfl) ?_
    refine O_p (.i .i64 (((l.length : Nat)) : Int)) (r_len rfl) ?_
    refine O_p (.b (decide (16384 < (((l.length : Nat)) : Int)))) (r_gtr rfl rfl) ?_
    refine O_nil ?_
    refine C_cond (x := (decide (16384 < (((l.length : Nat)) : Int)))) rfl (fun hc6 => ?_) (fun hc6 => ?_)
    ·
      try simp only [decide_eq_true_eq, decide_eq_false_iff_not, Bool.not_eq_true', Bool.not_eq_false', Bool.and_eq_true, Bool.or_eq_true, Bool.or_eq_false_iff, Bool.not_not, Bool.and_eq_false_iff] at hc6
      exfalso; omega
    ·
      try simp only [decide_eq_true_eq, decide_eq_false_iff_not, Bool.not_eq_true', Bool.not_eq_false', Bool.and_eq_true, Bool.or_eq_true, Bool.or_eq_false_iff, Bool.not_not, Bool.and_eq_false_iff] at hc6
      refine C_skip ?_
      refine C_seq ?_
      refine C_seq ?_
      refine C_region ?_
      refine O_p (.p (some (n1, 1))) (r_fadd' rfl rfl) ?_
      refine O_p (.b true) (r_ld rfl hH4.get0 rfl) ?_
      refine O_nil ?_
      refine C_cond (x := true) rfl (fun _ => ?_) (fun h => by cases h)
      refine C_region ?_
      refine O_p (.i .u16 0) (r_mv rfl) ?_
      refine O_nil ?_
      refine C_seq ?_
      refine C_region ?_
      refine O_p (.sl none 0 0 0) (r_mv rfl) ?_
      refine O_nil ?_
      refine C_seq ?_
      refine C_region ?_
      refine O_p (.p (some (n1, 3))) (r_fadd' rfl rfl) ?_
      refine O_p (.sl da l.length dc dg) (r_ld rfl hH4.get0 rfl) ?_
      refine O_p (.sl da l.length dc dg) (r_mv rfl) ?_
      refine O_nil ?_
      refine C_seq ?_
      refine C_block ?_
      have hH7 := ((hH4.top1).top1)
      have hH8 := (Hs.addnil hH7 : Hs _ (qseg (.sl none 0 0 0) [] ++ _))
      refine C_while (fun m9 T10 H11 => ∃ ov : AV, ∃ co : List AV, ∃ rows : List (List AV), ∃ ra : Option (Nat × Nat), ∃ rc : Nat, ∃ i : Nat, m9 = (nPcs l.length k) - i ∧ i ≤ (nPcs l.length k) ∧ Sq 12 ov co rows.flatten ∧ CksR true B rows (splitP true o p tsn ssn k l i) ∧ (∀ H', Hs H' B → Bs H' (.sl ra (l.length - i * k) rc dg) (l.drop (i * k))) ∧ l.length - i * k ≤ rc ∧ rc ≤ 9223372036854775807 ∧ Hs H11 ((qseg ov co) ++ ([(n1, some (.cells ([(.i .u16 o), (.b true), (.i .u32 p), (.sl da l.length dc dg)]) true))] ++ (B ++ (R)))) ∧ T10.get 1 = (.i .u32 tsn) ∧ T10.get 2 = (.i .u16 0) ∧ T10.get 3 = (.i .i64 ((k : Nat) : Int)) ∧ T10.get 4 = (.p (some (n1, 0))) ∧ T10.get 10 = ov ∧ T10.get 11 = (.sl ra (l.length - i * k) rc dg)) (fun m9 T10 H11 hI12 => ?_) (nPcs l.length k) _ _ ⟨(.sl none 0 0 0), [], [], da, dc, 0, rfl, Nat.zero_le _, Sq.nil, CksR.nil, by rw [Nat.zero_mul]; exact hmb, by omega, hdm, hH8, rfl, rfl, rfl, rfl, rfl, (by rw [Nat.zero_mul]; rfl)⟩
      obtain ⟨ov, co, rows, ra, rc, i, hm13, hp14, hp15, hp16, hp17, hp18, hp19, hH26, hT20, hT21, hT22, hT23, hT24, hT25⟩ := hI12
      have hrb := hp17
      refine C_seq ?_
      refine C_seq ?_
      refine C_region ?_
      refine O_p (.sl ra (l.length - i * k) rc dg) (r_mv hT25) ?_
      refine O_p (.i .i64 ((((l.length - i * k) : Nat)) : Int)) (r_len rfl) ?_
      refine O_p (.b (decide (0 < ((((l.length - i * k) : Nat)) : Int)))) (r_gtr rfl rfl) ?_
      refine O_nil ?_
      refine C_cond (x := (decide (0 < ((((l.length - i * k) : Nat)) : Int)))) rfl (fun hc27 => ?_) (fun hc27 => ?_)
      ·
        try simp only [decide_eq_true_eq, decide_eq_false_iff_not, Bool.not_eq_true', Bool.not_eq_false', Bool.and_eq_true, Bool.or_eq_true, Bool.or_eq_false_iff, Bool.not_not, Bool.and_eq_false_iff] at hc27
        have hlt := nPcs_lt (n := l.length) (i := i) hk0
        have hin : i < (nPcs l.length k) := by omega
        have hla := last_iff hk0 hin
        have hjb : i ≤ 16384 := by have := Nat.le_mul_of_pos_right i hk0; omega
        refine C_skip ?_
        refine C_block ?_
        refine C_seq ?_
        refine C_region ?_
        refine O_p (.i .i64 ((k : Nat) : Int)) (r_mv hT22) ?_
        refine O_p (.sl ra (l.length - i * k) rc dg) (r_mv hT25) ?_
        refine O_p (.i .i64 ((((l.length - i * k) : Nat)) : Int)) (r_len rfl) ?_
        refine O_p (.i .i64 ((((min k (l.length - i * k)) : Nat)) : Int)) (r_minn (a := k) (b := (l.length - i * k)) rfl rfl) ?_
        refine O_p (.i .i64 ((((min k (l.length - i * k)) : Nat)) : Int)) (r_mv rfl) ?_
        refine O_nil ?_
        refine C_seq ?_
        refine C_draw fun b28 H29 hbase30 hA31 => ?_
        have hH32 : Hs H29 (asideL b28 [14] ++ _) := hH26.aside hA31 [14] hbase30 rfl (by decide)
        have hH33 : Hs H29 ([(b28 + 14, none)] ++ _) := hH32
        refine D_l (v := (.i .u32 tsn)) rfl rfl rfl (r_mv hT20) ?_
        refine D_l (v := ov) rfl rfl rfl (r_mv hT24) ?_
        refine D_l (v := (.i .i64 (((i : Nat)) : Int))) rfl rfl rfl (by exact (by exact r_lenOf rfl (hp15.lenOf (by rw [flat_len hp16.lens, hp16.1, splitP_len]) (by decide)) hp15.isSl)) ?_
        refine D_l (v := (.i .u32 ((i : Nat) : Int))) rfl rfl rfl (by exact (r_cint' rfl (by rw [wrap_u32]; omega))) ?_
        refine D_l (v := (.i .u32 ((tsn + ((i : Nat) : Int)) % 4294967296))) rfl rfl rfl (by exact (by rw [← show IntKind.u32.wrap (tsn + ((i : Nat) : Int)) = (tsn + ((i : Nat) : Int)) % 4294967296 from by rw [wrap_u32]]; exact r_bin rfl rfl rfl)) ?_
        refine D_l (v := (.p (some (n1, 0)))) rfl rfl rfl (r_fadd' hT23 rfl) ?_
        refine D_l (v := (.i .u16 0)) rfl rfl rfl (r_mv hT21) ?_
        refine D_l (v := (.p (some (n1, 2)))) rfl rfl rfl (r_fadd' hT23 rfl) ?_
        refine D_l (v := (.sl ra (l.length - i * k) rc dg)) rfl rfl rfl (r_mv hT25) ?_
        refine D_l (v := (.i .i64 ((((min k (l.length - i * k)) : Nat)) : Int))) rfl rfl rfl (r_mv rfl) ?_
        refine D_q rfl rfl rfl (by exact Bs.slB hrb (by first | omega | (simp only [List.length_set, List.length_append, List.length_cons, List.length_nil, List.length_take, List.length_drop] <;> omega)) hdg rfl (i := 0) (j := (min k (l.length - i * k))) (m := rc) (by simp only [Option.map_some, Option.map_none]; first | exact sb_hi'  (i := (min k (l.length - i * k)))  (by first | omega | (simp only [List.length_take, List.length_drop, List.length_append, List.length_cons, List.length_nil, beN_len] <;> omega)) | (rw [rfl]; exact sb_hi'  (i := (min k (l.length - i * k)))  (by first | omega | (simp only [List.length_take, List.length_drop, List.length_append, List.length_cons, List.length_nil, beN_len] <;> omega)))) (by first | omega | (simp only [List.length_take, List.length_drop, List.length_append, List.length_cons, List.length_nil, beN_len] <;> omega)) (by first | omega | (simp only [List.length_take, List.length_drop, List.length_append, List.length_cons, List.length_nil, beN_len] <;> omega)) (by first | omega | (simp only [List.length_take, List.length_drop, List.length_append, List.length_cons, List.length_nil, beN_len] <;> omega))) fun v35 hv34 => ?_
        obtain ⟨a36, rfl, hb37⟩ := hv34
        simp only [Nat.sub_zero, List.drop_zero] at hb37 ⊢
        refine D_r (v := (.i .u16 o)) rfl rfl rfl (r_ld rfl hH33.get2 rfl) ?_
        refine D_r (v := (.i .u32 p)) rfl rfl rfl (r_ld rfl hH33.get2 rfl) ?_
        refine D_l (v := (.agg [(.i .u8 0), (.i .u8 0), (.i .u32 ((tsn + ((i : Nat) : Int)) % 4294967296)), (.i .u32 0), (.i .u16 o), (.i .u16 0), (.i .u32 p), (.sl none 0 0 0), (.sl none 0 0 0), (.sl none 0 0 0), (.sl none 0 0 0), (.sl a36 (min k (l.length - i * k)) rc dg)])) rfl rfl rfl (r_build rfl) ?_
        refine D_m (f := fun n => ((.p (some (n, 0))), .cells [(.i .u8 0), (.i .u8 0), (.i .u32 0), (.i .u32 0), (.i .u16 0), (.i .u16 0), (.i .u32 0), (.sl none 0 0 0), (.sl none 0 0 0), (.sl none 0 0 0), (.sl none 0 0 0), (.sl none 0 0 0)] true)) rfl rfl fun H39 hW40 => ?_
        have hH42 := hH33.wr0 hW40
        generalize hn41 : b28 + 14 = n38 at hW40 hH42 ⊢
        refine And.intro (And.intro (Or.inr (look_run rfl rfl (r_ld rfl hH42.get2 rfl))) (And.intro (Or.inr (look_run rfl rfl (r_ld rfl hH42.get2 rfl))) True.intro)) ?_
        refine D_store (vs := [(.i .u8 0), (.i .u8 0), (.i .u32 ((tsn + ((i : Nat) : Int)) % 4294967296)), (.i .u32 0), (.i .u16 o), (.i .u16 0), (.i .u32 p), (.sl none 0 0 0), (.sl none 0 0 0), (.sl none 0 0 0), (.sl none 0 0 0), (.sl a36 (min k (l.length - i * k)) rc dg)]) (c' := [(.i .u8 0), (.i .u8 0), (.i .u32 ((tsn + ((i : Nat) : Int)) % 4294967296)), (.i .u32 0), (.i .u16 o), (.i .u16 0), (.i .u32 p), (.sl none 0 0 0), (.sl none 0 0 0), (.sl none 0 0 0), (.sl none 0 0 0), (.sl a36 (min k (l.length - i * k)) rc dg)]) rfl (by rfl) hH42.get0 rfl (List.cons_ne_nil _ _) (Nat.le_of_ble_eq_true rfl) rfl fun H43 hW44 => ?_
        have hH45 := hH42.wr0 hW44
        refine And.intro (And.intro (Or.inl rfl) (And.intro (Or.inl rfl) True.intro)) ?_
        refine D_nil ?_
        refine C_seq ?_
        refine C_seq ?_
        refine C_region ?_
        refine O_p ov (r_mv hT24) ?_
        refine O_p (.i .i64 (((i : Nat)) : Int)) (by exact (by exact r_lenOf rfl (hp15.lenOf (by rw [flat_len hp16.lens, hp16.1, splitP_len]) (by decide)) hp15.isSl)) ?_
        refine O_p (.b (decide ((((i : Nat)) : Int) = 0))) (r_eql rfl rfl) ?_
        refine O_nil ?_
        refine C_cond (x := (decide ((((i : Nat)) : Int) = 0))) rfl (fun hc46 => ?_) (fun hc46 => ?_)
        ·
          try simp only [decide_eq_true_eq, decide_eq_false_iff_not, Bool.not_eq_true', Bool.not_eq_false', Bool.and_eq_true, Bool.or_eq_true, Bool.or_eq_false_iff, Bool.not_not, Bool.and_eq_false_iff] at hc46
          refine C_region ?_
          refine O_p (.p (some (n38, 1))) (r_fadd' rfl rfl) ?_
          refine O_p (.i .u8 0) (r_ld rfl hH45.get0 rfl) ?_
          refine O_p (.i .u8 2) (r_bin rfl rfl rfl) ?_
          refine O_p (.p (some (n38, 1))) (r_fadd' rfl rfl) ?_
          refine O_store (vs := [(.i .u8 2)]) (c' := [(.i .u8 0), (.i .u8 2), (.i .u32 ((tsn + ((i : Nat) : Int)) % 4294967296)), (.i .u32 0), (.i .u16 o), (.i .u16 0), (.i .u32 p), (.sl none 0 0 0), (.sl none 0 0 0), (.sl none 0 0 0), (.sl none 0 0 0), (.sl a36 (min k (l.length - i * k)) rc dg)]) rfl (by rfl) hH45.get0 rfl (List.cons_ne_nil _ _) (Nat.le_of_ble_eq_true rfl) rfl fun H47 hW48 => ?_
          have hH49 := hH45.wr0 hW48
          refine O_nil ?_
          refine C_seq ?_
          refine C_seq ?_
          refine C_region ?_
          refine O_p (.i .i64 ((((min k (l.length - i * k)) : Nat)) : Int)) (r_mv rfl) ?_
          refine O_p (.sl ra (l.length - i * k) rc dg) (r_mv hT25) ?_
          refine O_p (.i .i64 ((((l.length - i * k) : Nat)) : Int)) (r_len rfl) ?_
          refine O_p (.b (decide (((((min k (l.length - i * k)) : Nat)) : Int) = ((((l.length - i * k) : Nat)) : Int)))) (r_eql rfl rfl) ?_
          refine O_nil ?_
          refine C_cond (x := (decide (((((min k (l.length - i * k)) : Nat)) : Int) = ((((l.length - i * k) : Nat)) : Int)))) rfl (fun hc50 => ?_) (fun hc50 => ?_)
          ·
            try simp only [decide_eq_true_eq, decide_eq_false_iff_not, Bool.not_eq_true', Bool.not_eq_false', Bool.and_eq_true, Bool.or_eq_true, Bool.or_eq_false_iff, Bool.not_not, Bool.and_eq_false_iff] at hc50
            refine C_region ?_
            refine O_p (.p (some (n38, 1))) (r_fadd' rfl rfl) ?_
            refine O_p (.i .u8 2) (r_ld rfl hH49.get0 rfl) ?_
            refine O_p (.i .u8 3) (r_bin rfl rfl rfl) ?_
            refine O_p (.p (some (n38, 1))) (r_fadd' rfl rfl) ?_
            refine O_store (vs := [(.i .u8 3)]) (c' := [(.i .u8 0), (.i .u8 3), (.i .u32 ((tsn + ((i : Nat) : Int)) % 4294967296)), (.i .u32 0), (.i .u16 o), (.i .u16 0), (.i .u32 p), (.sl none 0 0 0), (.sl none 0 0 0), (.sl none 0 0 0), (.sl none 0 0 0), (.sl a36 (min k (l.length - i * k)) rc dg)]) rfl (by rfl) hH49.get0 rfl (List.cons_ne_nil _ _) (Nat.le_of_ble_eq_true rfl) rfl fun H51 hW52 => ?_
            have hH53 := hH49.wr0 hW52
            refine O_nil ?_
            refine C_seq ?_
            refine C_seq ?_
            refine C_region ?_
            refine O_p (.p (some (n1, 1))) (r_fadd' hT23 rfl) ?_
            refine O_p (.b true) (r_ld rfl hH53.get2 rfl) ?_
            refine O_nil ?_
            refine C_cond (x := true) rfl (fun _ => ?_) (fun h => by cases h)
            refine C_region ?_
            refine O_p (.p (some (n38, 1))) (r_fadd' rfl rfl) ?_
            refine O_p (.i .u8 3) (r_ld rfl hH53.get0 rfl) ?_
            refine O_p (.i .u8 7) (r_bin rfl rfl rfl) ?_
            refine O_p (.p (some (n38, 1))) (r_fadd' rfl rfl) ?_
            refine O_store (vs := [(.i .u8 7)]) (c' := [(.i .u8 0), (.i .u8 7), (.i .u32 ((tsn + ((i : Nat) : Int)) % 4294967296)), (.i .u32 0), (.i .u16 o), (.i .u16 0), (.i .u32 p), (.sl none 0 0 0), (.sl none 0 0 0), (.sl none 0 0 0), (.sl none 0 0 0), (.sl a36 (min k (l.length - i * k)) rc dg)]) rfl (by rfl) hH53.get0 rfl (List.cons_ne_nil _ _) (Nat.le_of_ble_eq_true rfl) rfl fun H54 hW55 => ?_
            have hH56 := hH53.wr0 hW55
            refine O_nil ?_
            refine C_seq ?_
            refine C_region ?_
            refine O_p ov (r_mv hT24) ?_
            refine O_p (.agg [(.i .u8 0), (.i .u8 7), (.i .u32 ((tsn + ((i : Nat) : Int)) % 4294967296)), (.i .u32 0), (.i .u16 o), (.i .u16 0), (.i .u32 p), (.sl none 0 0 0), (.sl none 0 0 0), (.sl none 0 0 0), (.sl none 0 0 0), (.sl a36 (min k (l.length - i * k)) rc dg)]) (r_ldA rfl hH56.get0 rfl) ?_
            refine O_bslice (c := [(.i .u8 0), (.i .u8 7), (.i .u32 ((tsn + ((i : Nat) : Int)) % 4294967296)), (.i .u32 0), (.i .u16 o), (.i .u16 0), (.i .u32 p), (.sl none 0 0 0), (.sl none 0 0 0), (.sl none 0 0 0), (.sl none 0 0 0), (.sl a36 (min k (l.length - i * k)) rc dg)]) rfl fun n57 H58 hN59 => ?_
            have hH60 := hH56.new hN59
            refine O_qh (by exact r_appq (n := i) (k := 1) (new := [(.i .u8 0), (.i .u8 7), (.i .u32 ((tsn + ((i : Nat) : Int)) % 4294967296)), (.i .u32 0), (.i .u16 o), (.i .u16 0), (.i .u32 p), (.sl none 0 0 0), (.sl none 0 0 0), (.sl none 0 0 0), (.sl none 0 0 0), (.sl a36 (min k (l.length - i * k)) rc dg)]) hH60.top2 hp15 rfl rfl rfl (src_blk hH60.get0 (by rfl)) rfl (by decide) (by decide) (by rw [flat_len hp16.lens, hp16.1, splitP_len]) (by first | omega | (simp only [List.length_take, List.length_drop, List.length_append, List.length_cons, List.length_nil, beN_len] <;> omega))) fun o61 H62 hA64 => ?_
            obtain ⟨c63, hA64, hH65⟩ := hA64
            refine O_p o61 (r_mv rfl) ?_
            refine O_nil ?_
            refine C_region ?_
            refine O_p (.sl ra (l.length - i * k) rc dg) (r_mv hT25) ?_
            refine O_p (.i .i64 ((((min k (l.length - i * k)) : Nat)) : Int)) (r_mv rfl) ?_
            refine O_q (by exact Bs.slB hrb (by first | omega | (simp only [List.length_set, List.length_append, List.length_cons, List.length_nil, List.length_take, List.length_drop] <;> omega)) hdg rfl (i := (min k (l.length - i * k))) (j := (l.length - i * k)) (m := rc) (by simp only [Option.map_some, Option.map_none]; first | exact sb_lo' (i := (min k (l.length - i * k)))   (by first | omega | (simp only [List.length_take, List.length_drop, List.length_append, List.length_cons, List.length_nil, beN_len] <;> omega)) | (rw [rfl]; exact sb_lo' (i := (min k (l.length - i * k)))   (by first | omega | (simp only [List.length_take, List.length_drop, List.length_append, List.length_cons, List.length_nil, beN_len] <;> omega)))) (by first | omega | (simp only [List.length_take, List.length_drop, List.length_append, List.length_cons, List.length_nil, beN_len] <;> omega)) (by first | omega | (simp only [List.length_take, List.length_drop, List.length_append, List.length_cons, List.length_nil, beN_len] <;> omega)) (by first | omega | (simp only [List.length_take, List.length_drop, List.length_append, List.length_cons, List.length_nil, beN_len] <;> omega))) fun v67 hv66 => ?_
            obtain ⟨a68, rfl, hb69⟩ := hv66
            rw [List.take_of_length_le (by simp only [List.length_drop]; omega)] at hb69
            refine O_p (.sl a68 ((l.length - i * k) - (min k (l.length - i * k))) (rc - (min k (l.length - i * k))) dg) (r_mv rfl) ?_
            refine O_nil ?_
            have hH70 := ((hH65.sub1).sub1)
            have hH71 := (((hH70.top2).top2).top2)
            have hfl : pieceF (nPcs l.length k) i true = 7 := by unfold pieceF; rw [if_pos (by omega), if_pos (by omega)]; rfl
            have hpc : CkRow true B [(.i .u8 0), (.i .u8 7), (.i .u32 ((tsn + ((i : Nat) : Int)) % 4294967296)), (.i .u32 0), (.i .u16 o), (.i .u16 0), (.i .u32 p), (.sl none 0 0 0), (.sl none 0 0 0), (.sl none 0 0 0), (.sl none 0 0 0), (.sl a36 (min k (l.length - i * k)) rc dg)] (pieceC true o p tsn ssn k l i) := ⟨0, _, _, _, _, _, _, _, by unfold pieceC; rw [hfl, pieceD_len]; rfl, hdg, by show (pieceD k l i).length ≤ _; rw [pieceD_len]; omega, by omega, pieceC_ok (by omega), fun _ => ⟨rfl, rfl, rfl, rfl, rfl⟩, fun H' hh => by have h := hb37 H' hh; rw [piece_take] at h; show Bs H' (.sl _ (pieceD k l i).length _ _) _; rw [pieceD_len]; exact h⟩
            have hln : l.length - (i + 1) * k = l.length - i * k - min k (l.length - i * k) := by rw [Nat.add_mul, Nat.one_mul]; omega
            exact ⟨(nPcs l.length k) - (i + 1), by omega, o61, c63, (rows ++ [[(.i .u8 0), (.i .u8 7), (.i .u32 ((tsn + ((i : Nat) : Int)) % 4294967296)), (.i .u32 0), (.i .u16 o), (.i .u16 0), (.i .u32 p), (.sl none 0 0 0), (.sl none 0 0 0), (.sl none 0 0 0), (.sl none 0 0 0), (.sl a36 (min k (l.length - i * k)) rc dg)]]), a68, (rc - (min k (l.length - i * k))), (i + 1), rfl, by omega, by rw [← flat_snoc]; exact hA64, by rw [splitP_succ]; exact hp16.snoc hpc, by rw [hln, ← drop_piece]; exact hb69, by omega, by omega, hH71, hT20, hT21, hT22, hT23, rfl, (by rw [hln]; rfl)⟩
          ·
            try simp only [decide_eq_true_eq, decide_eq_false_iff_not, Bool.not_eq_true', Bool.not_eq_false', Bool.and_eq_true, Bool.or_eq_true, Bool.or_eq_false_iff, Bool.not_not, Bool.and_eq_false_iff] at hc50
            refine C_skip ?_
            refine C_seq ?_
            refine C_seq ?_
            refine C_region ?_
            refine O_p (.p (some (n1, 1))) (r_fadd' hT23 rfl) ?_
            refine O_p (.b true) (r_ld rfl hH49.get2 rfl) ?_
            refine O_nil ?_
            refine C_cond (x := true) rfl (fun _ => ?_) (fun h => by cases h)
            refine C_region ?_
            refine O_p (.p (some (n38, 1))) (r_fadd' rfl rfl) ?_
            refine O_p (.i .u8 2) (r_ld rfl hH49.get0 rfl) ?_
            refine O_p (.i .u8 6) (r_bin rfl rfl rfl) ?_
            refine O_p (.p (some (n38, 1))) (r_fadd' rfl rfl) ?_
            refine O_store (vs := [(.i .u8 6)]) (c' := [(.i .u8 0), (.i .u8 6), (.i .u32 ((tsn + ((i : Nat) : Int)) % 4294967296)), (.i .u32 0), (.i .u16 o), (.i .u16 0), (.i .u32 p), (.sl none 0 0 0), (.sl none 0 0 0), (.sl none 0 0 0), (.sl none 0 0 0), (.sl a36 (min k (l.length - i * k)) rc dg)]) rfl (by rfl) hH49.get0 rfl (List.cons_ne_nil _ _) (Nat.le_of_ble_eq_true rfl) rfl fun H72 hW73 => ?_
            have hH74 := hH49.wr0 hW73
            refine O_nil ?_
            refine C_seq ?_
            refine C_region ?_
            refine O_p ov (r_mv hT24) ?_
            refine O_p (.agg [(.i .u8 0), (.i .u8 6), (.i .u32 ((tsn + ((i : Nat) : Int)) % 4294967296)), (.i .u32 0), (.i .u16 o), (.i .u16 0), (.i .u32 p), (.sl none 0 0 0), (.sl none 0 0 0), (.sl none 0 0 0), (.sl none 0 0 0), (.sl a36 (min k (l.length - i * k)) rc dg)]) (r_ldA rfl hH74.get0 rfl) ?_
            refine O_bslice (c := [(.i .u8 0), (.i .u8 6), (.i .u32 ((tsn + ((i : Nat) : Int)) % 4294967296)), (.i .u32 0), (.i .u16 o), (.i .u16 0), (.i .u32 p), (.sl none 0 0 0), (.sl none 0 0 0), (.sl none 0 0 0), (.sl none 0 0 0), (.sl a36 (min k (l.length - i * k)) rc dg)]) rfl fun n75 H76 hN77 => ?_
            have hH78 := hH74.new hN77
            refine O_qh (by exact r_appq (n := i) (k := 1) (new := [(.i .u8 0), (.i .u8 6), (.i .u32 ((tsn + ((i : Nat) : Int)) % 4294967296)), (.i .u32 0), (.i .u16 o), (.i .u16 0), (.i .u32 p), (.sl none 0 0 0), (.sl none 0 0 0), (.sl none 0 0 0), (.sl none 0 0 0), (.sl a36 (min k (l.length - i * k)) rc dg)]) hH78.top2 hp15 rfl rfl rfl (src_blk hH78.get0 (by rfl)) rfl (by decide) (by decide) (by rw [flat_len hp16.lens, hp16.1, splitP_len]) (by first | omega | (simp only [List.length_take, List.length_drop, List.length_append, List.length_cons, List.length_nil, beN_len] <;> omega))) fun o79 H80 hA82 => ?_
            obtain ⟨c81, hA82, hH83⟩ := hA82
            refine O_p o79 (r_mv rfl) ?_
            refine O_nil ?_
            refine C_region ?_
            refine O_p (.sl ra (l.length - i * k) rc dg) (r_mv hT25) ?_
            refine O_p (.i .i64 ((((min k (l.length - i * k)) : Nat)) : Int)) (r_mv rfl) ?_
            refine O_q (by exact Bs.slB hrb (by first | omega | (simp only [List.length_set, List.length_append, List.length_cons, List.length_nil, List.length_take, List.length_drop] <;> omega)) hdg rfl (i := (min k (l.length - i * k))) (j := (l.length - i * k)) (m := rc) (by simp only [Option.map_some, Option.map_none]; first | exact sb_lo' (i := (min k (l.length - i * k)))   (by first | omega | (simp only [List.length_take, List.length_drop, List.length_append, List.length_cons, List.length_nil, beN_len] <;> omega)) | (rw [rfl]; exact sb_lo' (i := (min k (l.length - i * k)))   (by first | omega | (simp only [List.length_take, List.length_drop, List.length_append, List.length_cons, List.length_nil, beN_len] <;> omega)))) (by first | omega | (simp only [List.length_take, List.length_drop, List.length_append, List.length_cons, List.length_nil, beN_len] <;> omega)) (by first | omega | (simp only [List.length_take, List.length_drop, List.length_append, List.length_cons, List.length_nil, beN_len] <;> omega)) (by first | omega | (simp only [List.length_take, List.length_drop, List.length_append, List.length_cons, List.length_nil, beN_len] <;> omega))) fun v85 hv84 => ?_
            obtain ⟨a86, rfl, hb87⟩ := hv84
            rw [List.take_of_length_le (by simp only [List.length_drop]; omega)] at hb87
            refine O_p (.sl a86 ((l.length - i * k) - (min k (l.length - i * k))) (rc - (min k (l.length - i * k))) dg) (r_mv rfl) ?_
            refine O_nil ?_
            have hH88 := ((hH83.sub1).sub1)
            have hH89 := (((hH88.top2).top2).top2)
            have hfl : pieceF (nPcs l.length k) i true = 6 := by unfold pieceF; rw [if_pos (by omega), if_neg (by omega)]; rfl
            have hpc : CkRow true B [(.i .u8 0), (.i .u8 6), (.i .u32 ((tsn + ((i : Nat) : Int)) % 4294967296)), (.i .u32 0), (.i .u16 o), (.i .u16 0), (.i .u32 p), (.sl none 0 0 0), (.sl none 0 0 0), (.sl none 0 0 0), (.sl none 0 0 0), (.sl a36 (min k (l.length - i * k)) rc dg)] (pieceC true o p tsn ssn k l i) := ⟨0, _, _, _, _, _, _, _, by unfold pieceC; rw [hfl, pieceD_len]; rfl, hdg, by show (pieceD k l i).length ≤ _; rw [pieceD_len]; omega, by omega, pieceC_ok (by omega), fun _ => ⟨rfl, rfl, rfl, rfl, rfl⟩, fun H' hh => by have h := hb37 H' hh; rw [piece_take] at h; show Bs H' (.sl _ (pieceD k l i).length _ _) _; rw [pieceD_len]; exact h⟩
            have hln : l.length - (i + 1) * k = l.length - i * k - min k (l.length - i * k) := by rw [Nat.add_mul, Nat.one_mul]; omega
            exact ⟨(nPcs l.length k) - (i + 1), by omega, o79, c81, (rows ++ [[(.i .u8 0), (.i .u8 6), (.i .u32 ((tsn + ((i : Nat) : Int)) % 4294967296)), (.i .u32 0), (.i .u16 o), (.i .u16 0), (.i .u32 p), (.sl none 0 0 0), (.sl none 0 0 0), (.sl none 0 0 0), (.sl none 0 0 0), (.sl a36 (min k (l.length - i * k)) rc dg)]]), a86, (rc - (min k (l.length - i * k))), (i + 1), rfl, by omega, by rw [← flat_snoc]; exact hA82, by rw [splitP_succ]; exact hp16.snoc hpc, by rw [hln, ← drop_piece]; exact hb87, by omega, by omega, hH89, hT20, hT21, hT22, hT23, rfl, (by rw [hln]; rfl)⟩
        ·
          try simp only [decide_eq_true_eq, decide_eq_false_iff_not, Bool.not_eq_true', Bool.not_eq_false', Bool.and_eq_true, Bool.or_eq_true, Bool.or_eq_false_iff, Bool.not_not, Bool.and_eq_false_iff] at hc46
          refine C_skip ?_
          refine C_seq ?_
          refine C_seq ?_
          refine C_region ?_
          refine O_p (.i .i64 ((((min k (l.length - i * k)) : Nat)) : Int)) (r_mv rfl) ?_
          refine O_p (.sl ra (l.length - i * k) rc dg) (r_mv hT25) ?_
          refine O_p (.i .i64 ((((l.length - i * k) : Nat)) : Int)) (r_len rfl) ?_
          refine O_p (.b (decide (((((min k (l.length - i * k)) : Nat)) : Int) = ((((l.length - i * k) : Nat)) : Int)))) (r_eql rfl rfl) ?_
          refine O_nil ?_
          refine C_cond (x := (decide (((((min k (l.length - i * k)) : Nat)) : Int) = ((((l.length - i * k) : Nat)) : Int)))) rfl (fun hc90 => ?_) (fun hc90 => ?_)
          ·
            try simp only [decide_eq_true_eq, decide_eq_false_iff_not, Bool.not_eq_true', Bool.not_eq_false', Bool.and_eq_true, Bool.or_eq_true, Bool.or_eq_false_iff, Bool.not_not, Bool.and_eq_false_iff] at hc90
            refine C_region ?_
            refine O_p (.p (some (n38, 1))) (r_fadd' rfl rfl) ?_
            refine O_p (.i .u8 0) (r_ld rfl hH45.get0 rfl) ?_
            refine O_p (.i .u8 1) (r_bin rfl rfl rfl) ?_
            refine O_p (.p (some (n38, 1))) (r_fadd' rfl rfl) ?_
            refine O_store (vs := [(.i .u8 1)]) (c' := [(.i .u8 0), (.i .u8 1), (.i .u32 ((tsn + ((i : Nat) : Int)) % 4294967296)), (.i .u32 0), (.i .u16 o), (.i .u16 0), (.i .u32 p), (.sl none 0 0 0), (.sl none 0 0 0), (.sl none 0 0 0), (.sl none 0 0 0), (.sl a36 (min k (l.length - i * k)) rc dg)]) rfl (by rfl) hH45.get0 rfl (List.cons_ne_nil _ _) (Nat.le_of_ble_eq_true rfl) rfl fun H91 hW92 => ?_
            have hH93 := hH45.wr0 hW92
            refine O_nil ?_
            refine C_seq ?_
            refine C_seq ?_
            refine C_region ?_
            refine O_p (.p (some (n1, 1))) (r_fadd' hT23 rfl) ?_
            refine O_p (.b true) (r_ld rfl hH93.get2 rfl) ?_
            refine O_nil ?_
            refine C_cond (x := true) rfl (fun _ => ?_) (fun h => by cases h)
            refine C_region ?_
            refine O_p (.p (some (n38, 1))) (r_fadd' rfl rfl) ?_
            refine O_p (.i .u8 1) (r_ld rfl hH93.get0 rfl) ?_
            refine O_p (.i .u8 5) (r_bin rfl rfl rfl) ?_
            refine O_p (.p (some (n38, 1))) (r_fadd' rfl rfl) ?_
            refine O_store (vs := [(.i .u8 5)]) (c' := [(.i .u8 0), (.i .u8 5), (.i .u32 ((tsn + ((i : Nat) : Int)) % 4294967296)), (.i .u32 0), (.i .u16 o), (.i .u16 0), (.i .u32 p), (.sl none 0 0 0), (.sl none 0 0 0), (.sl none 0 0 0), (.sl none 0 0 0), (.sl a36 (min k (l.length - i * k)) rc dg)]) rfl (by rfl) hH93.get0 rfl (List.cons_ne_nil _ _) (Nat.le_of_ble_eq_true rfl) rfl fun H94 hW95 => ?_
            have hH96 := hH93.wr0 hW95
            refine O_nil ?_
            refine C_seq ?_
            refine C_region ?_
            refine O_p ov (r_mv hT24) ?_
            refine O_p (.agg [(.i .u8 0), (.i .u8 5), (.i .u32 ((tsn + ((i : Nat) : Int)) % 4294967296)), (.i .u32 0), (.i .u16 o), (.i .u16 0), (.i .u32 p), (.sl none 0 0 0), (.sl none 0 0 0), (.sl none 0 0 0), (.sl none 0 0 0), (.sl a36 (min k (l.length - i * k)) rc dg)]) (r_ldA rfl hH96.get0 rfl) ?_
            refine O_bslice (c := [(.i .u8 0), (.i .u8 5), (.i .u32 ((tsn + ((i : Nat) : Int)) % 4294967296)), (.i .u32 0), (.i .u16 o), (.i .u16 0), (.i .u32 p), (.sl none 0 0 0), (.sl none 0 0 0), (.sl none 0 0 0), (.sl none 0 0 0), (.sl a36 (min k (l.length - i * k)) rc dg)]) rfl fun n97 H98 hN99 => ?_
            have hH100 := hH96.new hN99
            refine O_qh (by exact r_appq (n := i) (k := 1) (new := [(.i .u8 0), (.i .u8 5), (.i .u32 ((tsn + ((i : Nat) : Int)) % 4294967296)), (.i .u32 0), (.i .u16 o), (.i .u16 0), (.i .u32 p), (.sl none 0 0 0), (.sl none 0 0 0), (.sl none 0 0 0), (.sl none 0 0 0), (.sl a36 (min k (l.length - i * k)) rc dg)]) hH100.top2 hp15 rfl rfl rfl (src_blk hH100.get0 (by rfl)) rfl (by decide) (by decide) (by rw [flat_len hp16.lens, hp16.1, splitP_len]) (by first | omega | (simp only [List.length_take, List.length_drop, List.length_append, List.length_cons, List.length_nil, beN_len] <;> omega))) fun o101 H102 hA104 => ?_
            obtain ⟨c103, hA104, hH105⟩ := hA104
            refine O_p o101 (r_mv rfl) ?_
            refine O_nil ?_
            refine C_region ?_
            refine O_p (.sl ra (l.length - i * k) rc dg) (r_mv hT25) ?_
            refine O_p (.i .i64 ((((min k (l.length - i * k)) : Nat)) : Int)) (r_mv rfl) ?_
            refine O_q (by exact Bs.slB hrb (by first | omega | (simp only [List.length_set, List.length_append, List.length_cons, List.length_nil, List.length_take, List.length_drop] <;> omega)) hdg rfl (i := (min k (l.length - i * k))) (j := (l.length - i * k)) (m := rc) (by simp only [Option.map_some, Option.map_none]; first | exact sb_lo' (i := (min k (l.length - i * k)))   (by first | omega | (simp only [List.length_take, List.length_drop, List.length_append, List.length_cons, List.length_nil, beN_len] <;> omega)) | (rw [rfl]; exact sb_lo' (i := (min k (l.length - i * k)))   (by first | omega | (simp only [List.length_take, List.length_drop, List.length_append, List.length_cons, List.length_nil, beN_len] <;> omega)))) (by first | omega | (simp only [List.length_take, List.length_drop, List.length_append, List.length_cons, List.length_nil, beN_len] <;> omega)) (by first | omega | (simp only [List.length_take, List.length_drop, List.length_append, List.length_cons, List.length_nil, beN_len] <;> omega)) (by first | omega | (simp only [List.length_take, List.length_drop, List.length_append, List.length_cons, List.length_nil, beN_len] <;> omega))) fun v107 hv106 => ?_
            obtain ⟨a108, rfl, hb109⟩ := hv106
            rw [List.take_of_length_le (by simp only [List.length_drop]; omega)] at hb109
            refine O_p (.sl a108 ((l.length - i * k) - (min k (l.length - i * k))) (rc - (min k (l.length - i * k))) dg) (r_mv rfl) ?_
            refine O_nil ?_
            have hH110 := ((hH105.sub1).sub1)
            have hH111 := (((hH110.top2).top2).top2)
            have hfl : pieceF (nPcs l.length k) i true = 5 := by unfold pieceF; rw [if_neg (by omega), if_pos (by omega)]; rfl
            have hpc : CkRow true B [(.i .u8 0), (.i .u8 5), (.i .u32 ((tsn + ((i : Nat) : Int)) % 4294967296)), (.i .u32 0), (.i .u16 o), (.i .u16 0), (.i .u32 p), (.sl none 0 0 0), (.sl none 0 0 0), (.sl none 0 0 0), (.sl none 0 0 0), (.sl a36 (min k (l.length - i * k)) rc dg)] (pieceC true o p tsn ssn k l i) := ⟨0, _, _, _, _, _, _, _, by unfold pieceC; rw [hfl, pieceD_len]; rfl, hdg, by show (pieceD k l i).length ≤ _; rw [pieceD_len]; omega, by omega, pieceC_ok (by omega), fun _ => ⟨rfl, rfl, rfl, rfl, rfl⟩, fun H' hh => by have h := hb37 H' hh; rw [piece_take] at h; show Bs H' (.sl _ (pieceD k l i).length _ _) _; rw [pieceD_len]; exact h⟩
            have hln : l.length - (i + 1) * k = l.length - i * k - min k (l.length - i * k) := by rw [Nat.add_mul, Nat.one_mul]; omega
            exact ⟨(nPcs l.length k) - (i + 1), by omega, o101, c103, (rows ++ [[(.i .u8 0), (.i .u8 5), (.i .u32 ((tsn + ((i : Nat) : Int)) % 4294967296)), (.i .u32 0), (.i .u16 o), (.i .u16 0), (.i .u32 p), (.sl none 0 0 0), (.sl none 0 0 0), (.sl none 0 0 0), (.sl none 0 0 0), (.sl a36 (min k (l.length - i * k)) rc dg)]]), a108, (rc - (min k (l.length - i * k))), (i + 1), rfl, by omega, by rw [← flat_snoc]; exact hA104, by rw [splitP_succ]; exact hp16.snoc hpc, by rw [hln, ← drop_piece]; exact hb109, by omega, by omega, hH111, hT20, hT21, hT22, hT23, rfl, (by rw [hln]; rfl)⟩
          ·
            try simp only [decide_eq_true_eq, decide_eq_false_iff_not, Bool.not_eq_true', Bool.not_eq_false', Bool.and_eq_true, Bool.or_eq_true, Bool.or_eq_false_iff, Bool.not_not, Bool.and_eq_false_iff] at hc90
            refine C_skip ?_
            refine C_seq ?_
            refine C_seq ?_
            refine C_region ?_
            refine O_p (.p (some (n1, 1))) (r_fadd' hT23 rfl) ?_
            refine O_p (.b true) (r_ld rfl hH45.get2 rfl) ?_
            refine O_nil ?_
            refine C_cond (x := true) rfl (fun _ => ?_) (fun h => by cases h)
            refine C_region ?_
            refine O_p (.p (some (n38, 1))) (r_fadd' rfl rfl) ?_
            refine O_p (.i .u8 0) (r_ld rfl hH45.get0 rfl) ?_
            refine O_p (.i .u8 4) (r_bin rfl rfl rfl) ?_
            refine O_p (.p (some (n38, 1))) (r_fadd' rfl rfl) ?_
            refine O_store (vs := [(.i .u8 4)]) (c' := [(.i .u8 0), (.i .u8 4), (.i .u32 ((tsn + ((i : Nat) : Int)) % 4294967296)), (.i .u32 0), (.i .u16 o), (.i .u16 0), (.i .u32 p), (.sl none 0 0 0), (.sl none 0 0 0), (.sl none 0 0 0), (.sl none 0 0 0), (.sl a36 (min k (l.length - i * k)) rc dg)]) rfl (by rfl) hH45.get0 rfl (List.cons_ne_nil _ _) (Nat.le_of_ble_eq_true rfl) rfl fun H112 hW113 => ?_
            have hH114 := hH45.wr0 hW113
            refine O_nil ?_
            refine C_seq ?_
            refine C_region ?_
            refine O_p ov (r_mv hT24) ?_
            refine O_p (.agg [(.i .u8 0), (.i .u8 4), (.i .u32 ((tsn + ((i : Nat) : Int)) % 4294967296)), (.i .u32 0), (.i .u16 o), (.i .u16 0), (.i .u32 p), (.sl none 0 0 0), (.sl none 0 0 0), (.sl none 0 0 0), (.sl none 0 0 0), (.sl a36 (min k (l.length - i * k)) rc dg)]) (r_ldA rfl hH114.get0 rfl) ?_
            refine O_bslice (c := [(.i .u8 0), (.i .u8 4), (.i .u32 ((tsn + ((i : Nat) : Int)) % 4294967296)), (.i .u32 0), (.i .u16 o), (.i .u16 0), (.i .u32 p), (.sl none 0 0 0), (.sl none 0 0 0), (.sl none 0 0 0), (.sl none 0 0 0), (.sl a36 (min k (l.length - i * k)) rc dg)]) rfl fun n115 H116 hN117 => ?_
            have hH118 := hH114.new hN117
            refine O_qh (by exact r_appq (n := i) (k := 1) (new := [(.i .u8 0), (.i .u8 4), (.i .u32 ((tsn + ((i : Nat) : Int)) % 4294967296)), (.i .u32 0), (.i .u16 o), (.i .u16 0), (.i .u32 p), (.sl none 0 0 0), (.sl none 0 0 0), (.sl none 0 0 0), (.sl none 0 0 0), (.sl a36 (min k (l.length - i * k)) rc dg)]) hH118.top2 hp15 rfl rfl rfl (src_blk hH118.get0 (by rfl)) rfl (by decide) (by decide) (by rw [flat_len hp16.lens, hp16.1, splitP_len]) (by first | omega | (simp only [List.length_take, List.length_drop, List.length_append, List.length_cons, List.length_nil, beN_len] <;> omega))) fun o119 H120 hA122 => ?_
            obtain ⟨c121, hA122, hH123⟩ := hA122
            refine O_p o119 (r_mv rfl) ?_
            refine O_nil ?_
            refine C_region ?_
            refine O_p (.sl ra (l.length - i * k) rc dg) (r_mv hT25) ?_
            refine O_p (.i .i64 ((((min k (l.length - i * k)) : Nat)) : Int)) (r_mv rfl) ?_
            refine O_q (by exact Bs.slB hrb (by first | omega | (simp only [List.length_set, List.length_append, List.length_cons, List.length_nil, List.length_take, List.length_drop] <;> omega)) hdg rfl (i := (min k (l.length - i * k))) (j := (l.length - i * k)) (m := rc) (by simp only [Option.map_some, Option.map_none]; first | exact sb_lo' (i := (min k (l.length - i * k)))   (by first | omega | (simp only [List.length_take, List.length_drop, List.length_append, List.length_cons, List.length_nil, beN_len] <;> omega)) | (rw [rfl]; exact sb_lo' (i := (min k (l.length - i * k)))   (by first | omega | (simp only [List.length_take, List.length_drop, List.length_append, List.length_cons, List.length_nil, beN_len] <;> omega)))) (by first | omega | (simp only [List.length_take, List.length_drop, List.length_append, List.length_cons, List.length_nil, beN_len] <;> omega)) (by first | omega | (simp only [List.length_take, List.length_drop, List.length_append, List.length_cons, List.length_nil, beN_len] <;> omega)) (by first | omega | (simp only [List.length_take, List.length_drop, List.length_append, List.length_cons, List.length_nil, beN_len] <;> omega))) fun v125 hv124 => ?_
            obtain ⟨a126, rfl, hb127⟩ := hv124
            rw [List.take_of_length_le (by simp only [List.length_drop]; omega)] at hb127
            refine O_p (.sl a126 ((l.length - i * k) - (min k (l.length - i * k))) (rc - (min k (l.length - i * k))) dg) (r_mv rfl) ?_
            refine O_nil ?_
            have hH128 := ((hH123.sub1).sub1)
            have hH129 := (((hH128.top2).top2).top2)
            have hfl : pieceF (nPcs l.length k) i true = 4 := by unfold pieceF; rw [if_neg (by omega), if_neg (by omega)]; rfl
            have hpc : CkRow true B [(.i .u8 0), (.i .u8 4), (.i .u32 ((tsn + ((i : Nat) : Int)) % 4294967296)), (.i .u32 0), (.i .u16 o), (.i .u16 0), (.i .u32 p), (.sl none 0 0 0), (.sl none 0 0 0), (.sl none 0 0 0), (.sl none 0 0 0), (.sl a36 (min k (l.length - i * k)) rc dg)] (pieceC true o p tsn ssn k l i) := ⟨0, _, _, _, _, _, _, _, by unfold pieceC; rw [hfl, pieceD_len]; rfl, hdg, by show (pieceD k l i).length ≤ _; rw [pieceD_len]; omega, by omega, pieceC_ok (by omega), fun _ => ⟨rfl, rfl, rfl, rfl, rfl⟩, fun H' hh => by have h := hb37 H' hh; rw [piece_take] at h; show Bs H' (.sl _ (pieceD k l i).length _ _) _; rw [pieceD_len]; exact h⟩
            have hln : l.length - (i + 1) * k = l.length - i * k - min k (l.length - i * k) := by rw [Nat.add_mul, Nat.one_mul]; omega
            exact ⟨(nPcs l.length k) - (i + 1), by omega, o119, c121, (rows ++ [[(.i .u8 0), (.i .u8 4), (.i .u32 ((tsn + ((i : Nat) : Int)) % 4294967296)), (.i .u32 0), (.i .u16 o), (.i .u16 0), (.i .u32 p), (.sl none 0 0 0), (.sl none 0 0 0), (.sl none 0 0 0), (.sl none 0 0 0), (.sl a36 (min k (l.length - i * k)) rc dg)]]), a126, (rc - (min k (l.length - i * k))), (i + 1), rfl, by omega, by rw [← flat_snoc]; exact hA122, by rw [splitP_succ]; exact hp16.snoc hpc, by rw [hln, ← drop_piece]; exact hb127, by omega, by omega, hH129, hT20, hT21, hT22, hT23, rfl, (by rw [hln]; rfl)⟩
      ·
        try simp only [decide_eq_true_eq, decide_eq_false_iff_not, Bool.not_eq_true', Bool.not_eq_false', Bool.and_eq_true, Bool.or_eq_true, Bool.or_eq_false_iff, Bool.not_not, Bool.and_eq_false_iff] at hc27
        have hlt := nPcs_lt (n := l.length) (i := i) hk0
        have hin : i = (nPcs l.length k) := by omega
        refine C_exit ?_
        refine nx_exit ?_
        refine nx_exit ?_
        refine bk_hit ?_
        refine C_seq ?_
        refine C_region ?_
        refine O_p ov (r_mv hT24) ?_
        refine O_p ov (r_mv rfl) ?_
        refine O_p (.i .i64 0) (r_mv rfl) ?_
        refine O_nil ?_
        refine C_ret ?_
        have hH130 := (hH26.sub1)
        have hH131 := ((hH130.top1).top1)
        have hcs : CksR true B rows (splitS true o p tsn ssn k l) := by have h := hp16; rw [hin] at h; exact h
        exact ⟨.inr rfl, _, resL_cons (r_tmp (v := ov) rfl) (resL_one (r_tmp (v := .i .i64 0) rfl)), _, ov, rfl, Cks.sq hp15 hcs, hH131⟩
set_option maxHeartbeats 1000000 in
theorem split9_false {H : AH} {R : HL} {o p tsn ssn : Int} {k : Nat} {B : HL} {da : Option (Nat × Nat)} {dc dg : Nat} {l : List UInt8} (hdg : dg = 0 ∨ dg = 1) (hdc : l.length ≤ dc) (hdm : dc ≤ 9223372036854775807) (hmb : ∀ H', Hs H' B → Bs H' (.sl da l.length dc dg) l) (hl0 : 0 < l.length) (hl1 : l.length ≤ 16384) (hk0 : 0 < k) (hk1 : k ≤ 1172) (hH0 : Hs H (B ++ R)) : Ev tabA spA (.fn (.func 9) [] []) [.agg [.i .u16 o, .b false, .i .u32 p, .sl da l.length dc dg], .i .u32 tsn, .i .u16 ssn, .i .i64 k] H (fun r H' => ∃ D v, r = .tup [v, .i .i64 0] ∧ Cks true (D ++ B) v (splitS false o p tsn ssn k l) ∧ Hs H' (D ++ (B ++ R))) := by
  refine Ev_C (F := x9) rfl ?_
  refine C_seq ?_
  refine C_region ?_
  refine O_box (z := [(.i .u16 o), (.b false), (.i .u32 p), (.sl da l.length dc dg)]) rfl fun n1 H2 hN3 => ?_
  have hH4 := hH0.new hN3
  refine O_p (.sl none 0 0 0) (r_mv rfl) ?_
  refine O_p (.i .i64 0) (r_mv rfl) ?_
  refine O_nil ?_
  refine C_seq ?_
  refine C_seq ?_
  refine C_region ?_
  refine O_p (.p (some (n1, 3))) (r_fadd' rfl rfl) ?_
  refine O_p (.sl da l.length dc dg) (r_ld rfl hH4.get0 rfl) ?_
  refine O_p (.i .i64 (((l.length : Nat)) : Int)) (r_len rfl) ?_
  refine O_p (.b (decide ((((l.length : Nat)) : Int) = 0))) (r_eql rfl rfl) ?_
  refine O_p (.b (decide ((((l.length : Nat)) : Int) = 0))) (r_mv rfl) ?_
  refine O_gx (e := (!(decide ((((l.length : Nat)) : Int) = 0)))) (v := (.i .i64 ((k : Nat) : Int))) (wf rfl) (fun he => (r_mv rfl)) ?_
  refine O_gx (e := (!(decide ((((l.length : Nat)) : Int) = 0)))) (v := (.b (decide (((k : Nat) : Int) < 1)))) (wf rfl) (fun he => (r_lss (cond_pos he) rfl)) ?_
  refine O_p (.b ((decide ((((l.length : Nat)) : Int) = 0)) || (decide (((k : Nat) : Int) < 1)))) (r_pick_or rfl rfl rfl rfl) ?_
  refine O_p (.b ((decide ((((l.length : Nat)) : Int) = 0)) || (decide (((k : Nat) : Int) < 1)))) (r_mv rfl) ?_
  refine O_gx (e := (!((decide ((((l.length : Nat)) : Int) = 0)) || (decide (((k : Nat) : Int) < 1))))) (v := (.i .i64 ((k : Nat) : Int))) (wf rfl) (fun he => (r_mv rfl)) ?_
  refine O_gx (e := (!((decide ((((l.length : Nat)) : Int) = 0)) || (decide (((k : Nat) : Int) < 1))))) (v := (.b (decide (1172 < ((k : Nat) : Int))))) (wf rfl) (fun he => (r_gtr (cond_pos he) rfl)) ?_
  refine O_p (.b (((decide ((((l.length : Nat)) : Int) = 0)) || (decide (((k : Nat) : Int) < 1))) || (decide (1172 < ((k : Nat) : Int))))) (r_pick_or rfl rfl rfl rfl) ?_
  refine O_nil ?_
  refine C_cond (x := (((decide ((((l.length : Nat)) : Int) = 0)) || (decide (((k : Nat) : Int) < 1))) || (decide (1172 < ((k : Nat) : Int))))) rfl (fun hc5 => ?_) (fun hc5 => ?_)
  ·
    try simp only [decide_eq_true_eq, decide_eq_false_iff_not, Bool.not_eq_true', Bool.not_eq_false', Bool.and_eq_true, Bool.or_eq_true, Bool.or_eq_false_iff, Bool.not_not, Bool.and_eq_false_iff] at hc5
    exfalso; omega
  ·
    try simp only [decide_eq_true_eq, decide_eq_false_iff_not, Bool.not_eq_true', Bool.not_eq_false', Bool.and_eq_true, Bool.or_eq_true, Bool.or_eq_false_iff, Bool.not_not, Bool.and_eq_false_iff] at hc5
    refine C_skip ?_
    refine C_seq ?_
    refine C_seq ?_
    refine C_region ?_
    refine O_p (.p (some (n1, 3))) (r_fadd' rfl rfl) ?_
    refine O_p (.sl da l.length dc dg) (r_ld rfl hH4.get0 rfl) ?_
    refine O_p (.i .i64 (((l.length : Nat)) : Int)) (r_len rfl) ?_
    refine O_p (.b (decide (16384 < (((l.length : Nat)) : Int)))) (r_gtr rfl rfl) ?_
    refine O_nil ?_
    refine C_cond (x := (decide (16384 < (((l.length : Nat)) : Int)))) rfl (fun hc6 => ?_) (fun hc6 => ?_)
    ·
      try simp only [decide_eq_true_eq, decide_eq_false_iff_not, Bool.not_eq_true', Bool.not_eq_false', Bool.and_eq_true, Bool.or_eq_true, Bool.or_eq_false_iff, Bool.not_not, Bool.and_eq_false_iff] at hc6
      exfalso; omega
    ·
      try simp only [decide_eq_true_eq, decide_eq_false_iff_not, Bool.not_eq_true', Bool.not_eq_false', Bool.and_eq_true, Bool.or_eq_true, Bool.or_eq_false_iff, Bool.not_not, Bool.and_eq_false_iff] at hc6
      refine C_skip ?_
      refine C_seq ?_
      refine C_seq ?_
      refine C_region ?_
      refine O_p (.p (some (n1, 1))) (r_fadd' rfl rfl) ?_
      refine O_p (.b false) (r_ld rfl hH4.get0 rfl) ?_
      refine O_nil ?_
      refine C_cond (x := false) rfl (fun h => by cases h) (fun _ => ?_)
      refine C_skip ?_
      refine C_seq ?_
      refine C_region ?_
      refine O_p (.sl none 0 0 0) (r_mv rfl) ?_
      refine O_nil ?_
      refine C_seq ?_
      refine C_region ?_
      refine O_p (.p (some (n1, 3))) (r_fadd' rfl rfl) ?_
      refine O_p (.sl da l.length dc dg) (r_ld rfl hH4.get0 rfl) ?_
      refine O_p (.sl da l.length dc dg) (r_mv rfl) ?_
      refine O_nil ?_
      refine C_seq ?_
      refine C_block ?_
      have hH7 := ((hH4.top1).top1)
      have hH8 := (Hs.addnil hH7 : Hs _ (qseg (.sl none 0 0 0) [] ++ _))
      refine C_while (fun m9 T10 H11 => ∃ ov : AV, ∃ co : List AV, ∃ rows : List (List AV), ∃ ra : Option (Nat × Nat), ∃ rc : Nat, ∃ i : Nat, m9 = (nPcs l.length k) - i ∧ i ≤ (nPcs l.length k) ∧ Sq 12 ov co rows.flatten ∧ CksR true B rows (splitP false o p tsn ssn k l i) ∧ (∀ H', Hs H' B → Bs H' (.sl ra (l.length - i * k) rc dg) (l.drop (i * k))) ∧ l.length - i * k ≤ rc ∧ rc ≤ 9223372036854775807 ∧ Hs H11 ((qseg ov co) ++ ([(n1, some (.cells ([(.i .u16 o), (.b false), (.i .u32 p), (.sl da l.length dc dg)]) true))] ++ (B ++ (R)))) ∧ T10.get 1 = (.i .u32 tsn) ∧ T10.get 2 = (.i .u16 ssn) ∧ T10.get 3 = (.i .i64 ((k : Nat) : Int)) ∧ T10.get 4 = (.p (some (n1, 0))) ∧ T10.get 10 = ov ∧ T10.get 11 = (.sl ra (l.length - i * k) rc dg)) (fun m9 T10 H11 hI12 => ?_) (nPcs l.length k) _ _ ⟨(.sl none 0 0 0), [], [], da, dc, 0, rfl, Nat.zero_le _, Sq.nil, CksR.nil, by rw [Nat.zero_mul]; exact hmb, by omega, hdm, hH8, rfl, rfl, rfl, rfl, rfl, (by rw [Nat.zero_mul]; rfl)⟩
      obtain ⟨ov, co, rows, ra, rc, i, hm13, hp14, hp15, hp16, hp17, hp18, hp19, hH26, hT20, hT21, hT22, hT23, hT24, hT25⟩ := hI12
      have hrb := hp17
      refine C_seq ?_
      refine C_seq ?_
      refine C_region ?_
      refine O_p (.sl ra (l.length - i * k) rc dg) (r_mv hT25) ?_
      refine O_p (.i .i64 ((((l.length - i * k) : Nat)) : Int)) (r_len rfl) ?_
      refine O_p (.b (decide (0 < ((((l.length - i * k) : Nat)) : Int)))) (r_gtr rfl rfl) ?_
      refine O_nil ?_
      refine C_cond (x := (decide (0 < ((((l.length - i * k) : Nat)) : Int)))) rfl (fun hc27 => ?_) (fun hc27 => ?_)
      ·
        try simp only [decide_eq_true_eq, decide_eq_false_iff_not, Bool.not_eq_true', Bool.not_eq_false', Bool.and_eq_true, Bool.or_eq_true, Bool.or_eq_false_iff, Bool.not_not, Bool.and_eq_false_iff] at hc27
        have hlt := nPcs_lt (n := l.length) (i := i) hk0
        have hin : i < (nPcs l.length k) := by omega
        have hla := last_iff hk0 hin
        have hjb : i ≤ 16384 := by have := Nat.le_mul_of_pos_right i hk0; omega
        refine C_skip ?_
        refine C_block ?_
        refine C_seq ?_
        refine C_region ?_
        refine O_p (.i .i64 ((k : Nat) : Int)) (r_mv hT22) ?_
        refine O_p (.sl ra (l.length - i * k) rc dg) (r_mv hT25) ?_
        refine O_p (.i .i64 ((((l.length - i * k) : Nat)) : Int)) (r_len rfl) ?_
        refine O_p (.i .i64 ((((min k (l.length - i * k)) : Nat)) : Int)) (r_minn (a := k) (b := (l.length - i * k)) rfl rfl) ?_
        refine O_p (.i .i64 ((((min k (l.length - i * k)) : Nat)) : Int)) (r_mv rfl) ?_
        refine O_nil ?_
        refine C_seq ?_
        refine C_draw fun b28 H29 hbase30 hA31 => ?_
        have hH32 : Hs H29 (asideL b28 [14] ++ _) := hH26.aside hA31 [14] hbase30 rfl (by decide)
        have hH33 : Hs H29 ([(b28 + 14, none)] ++ _) := hH32
        refine D_l (v := (.i .u32 tsn)) rfl rfl rfl (r_mv hT20) ?_
        refine D_l (v := ov) rfl rfl rfl (r_mv hT24) ?_
        refine D_l (v := (.i .i64 (((i : Nat)) : Int))) rfl rfl rfl (by exact (by exact r_lenOf rfl (hp15.lenOf (by rw [flat_len hp16.lens, hp16.1, splitP_len]) (by decide)) hp15.isSl)) ?_
        refine D_l (v := (.i .u32 ((i : Nat) : Int))) rfl rfl rfl (by exact (r_cint' rfl (by rw [wrap_u32]; omega))) ?_
        refine D_l (v := (.i .u32 ((tsn + ((i : Nat) : Int)) % 4294967296))) rfl rfl rfl (by exact (by rw [← show IntKind.u32.wrap (tsn + ((i : Nat) : Int)) = (tsn + ((i : Nat) : Int)) % 4294967296 from by rw [wrap_u32]]; exact r_bin rfl rfl rfl)) ?_
        refine D_l (v := (.p (some (n1, 0)))) rfl rfl rfl (r_fadd' hT23 rfl) ?_
        refine D_l (v := (.i .u16 ssn)) rfl rfl rfl (r_mv hT21) ?_
        refine D_l (v := (.p (some (n1, 2)))) rfl rfl rfl (r_fadd' hT23 rfl) ?_
        refine D_l (v := (.sl ra (l.length - i * k) rc dg)) rfl rfl rfl (r_mv hT25) ?_
        refine D_l (v := (.i .i64 ((((min k (l.length - i * k)) : Nat)) : Int))) rfl rfl rfl (r_mv rfl) ?_
        refine D_q rfl rfl rfl (by exact Bs.slB hrb (by first | omega | (simp only [List.length_set, List.length_append, List.length_cons, List.length_nil, List.length_take, List.length_drop] <;> omega)) hdg rfl (i := 0) (j := (min k (l.length - i * k))) (m := rc) (by simp only [Option.map_some, Option.map_none]; first | exact sb_hi'  (i := (min k (l.length - i * k)))  (by first | omega | (simp only [List.length_take, List.length_drop, List.length_append, List.length_cons, List.length_nil, beN_len] <;> omega)) | (rw [rfl]; exact sb_hi'  (i := (min k (l.length - i * k)))  (by first | omega | (simp only [List.length_take, List.length_drop, List.length_append, List.length_cons, List.length_nil, beN_len] <;> omega)))) (by first | omega | (simp only [List.length_take, List.length_drop, List.length_append, List.length_cons, List.length_nil, beN_len] <;> omega)) (by first | omega | (simp only [List.length_take, List.length_drop, List.length_append, List.length_cons, List.length_nil, beN_len] <;> omega)) (by first | omega | (simp only [List.length_take, List.length_drop, List.length_append, List.length_cons, List.length_nil, beN_len] <;> omega))) fun v35 hv34 => ?_
        obtain ⟨a36, rfl, hb37⟩ := hv34
        simp only [Nat.sub_zero, List.drop_zero] at hb37 ⊢
        refine D_r (v := (.i .u16 o)) rfl rfl rfl (r_ld rfl hH33.get2 rfl) ?_
        refine D_r (v := (.i .u32 p)) rfl rfl rfl (r_ld rfl hH33.get2 rfl) ?_
        refine D_l (v := (.agg [(.i .u8 0), (.i .u8 0), (.i .u32 ((tsn + ((i : Nat) : Int)) % 4294967296)), (.i .u32 0), (.i .u16 o), (.i .u16 ssn), (.i .u32 p), (.sl none 0 0 0), (.sl none 0 0 0), (.sl none 0 0 0), (.sl none 0 0 0), (.sl a36 (min k (l.length - i * k)) rc dg)])) rfl rfl rfl (r_build rfl) ?_
        refine D_m (f := fun n => ((.p (some (n, 0))), .cells [(.i .u8 0), (.i .u8 0), (.i .u32 0), (.i .u32 0), (.i .u16 0), (.i .u16 0), (.i .u32 0), (.sl none 0 0 0), (.sl none 0 0 0), (.sl none 0 0 0), (.sl none 0 0 0), (.sl none 0 0 0)] true)) rfl rfl fun H39 hW40 => ?_
        have hH42 := hH33.wr0 hW40
        generalize hn41 : b28 + 14 = n38 at hW40 hH42 ⊢
        refine And.intro (And.intro (Or.inr (look_run rfl rfl (r_ld rfl hH42.get2 rfl))) (And.intro (Or.inr (look_run rfl rfl (r_ld rfl hH42.get2 rfl))) True.intro)) ?_
        refine D_store (vs := [(.i .u8 0), (.i .u8 0), (.i .u32 ((tsn + ((i : Nat) : Int)) % 4294967296)), (.i .u32 0), (.i .u16 o), (.i .u16 ssn), (.i .u32 p), (.sl none 0 0 0), (.sl none 0 0 0), (.sl none 0 0 0), (.sl none 0 0 0), (.sl a36 (min k (l.length - i * k)) rc dg)]) (c' := [(.i .u8 0), (.i .u8 0), (.i .u32 ((tsn + ((i : Nat) : Int)) % 4294967296)), (.i .u32 0), (.i .u16 o), (.i .u16 ssn), (.i .u32 p), (.sl none 0 0 0), (.sl none 0 0 0), (.sl none 0 0 0), (.sl none 0 0 0), (.sl a36 (min k (l.length - i * k)) rc dg)]) rfl (by rfl) hH42.get0 rfl (List.cons_ne_nil _ _) (Nat.le_of_ble_eq_true rfl) rfl fun H43 hW44 => ?_
        have hH45 := hH42.wr0 hW44
        refine And.intro (And.intro (Or.inl rfl) (And.intro (Or.inl rfl) True.intro)) ?_
        refine D_nil ?_
        refine C_seq ?_
        refine C_seq ?_
        refine C_region ?_
        refine O_p ov (r_mv hT24) ?_
        refine O_p (.i .i64 (((i : Nat)) : Int)) (by exact (by exact r_lenOf rfl (hp15.lenOf (by rw [flat_len hp16.lens, hp16.1, splitP_len]) (by decide)) hp15.isSl)) ?_
        refine O_p (.b (decide ((((i : Nat)) : Int) = 0))) (r_eql rfl rfl) ?_
        refine O_nil ?_
        refine C_cond (x := (decide ((((i : Nat)) : Int) = 0))) rfl (fun hc46 => ?_) (fun hc46 => ?_)
        ·
          try simp only [decide_eq_true_eq, decide_eq_false_iff_not, Bool.not_eq_true', Bool.not_eq_false', Bool.and_eq_true, Bool.or_eq_true, Bool.or_eq_false_iff, Bool.not_not, Bool.and_eq_false_iff] at hc46
          refine C_region ?_
          refine O_p (.p (some (n38, 1))) (r_fadd' rfl rfl) ?_
          refine O_p (.i .u8 0) (r_ld rfl hH45.get0 rfl) ?_
          refine O_p (.i .u8 2) (r_bin rfl rfl rfl) ?_
          refine O_p (.p (some (n38, 1))) (r_fadd' rfl rfl) ?_
          refine O_store (vs := [(.i .u8 2)]) (c' := [(.i .u8 0), (.i .u8 2), (.i .u32 ((tsn + ((i : Nat) : Int)) % 4294967296)), (.i .u32 0), (.i .u16 o), (.i .u16 ssn), (.i .u32 p), (.sl none 0 0 0), (.sl none 0 0 0), (.sl none 0 0 0), (.sl none 0 0 0), (.sl a36 (min k (l.length - i * k)) rc dg)]) rfl (by rfl) hH45.get0 rfl (List.cons_ne_nil _ _) (Nat.le_of_ble_eq_true rfl) rfl fun H47 hW48 => ?_
          have hH49 := hH45.wr0 hW48
          refine O_nil ?_
          refine C_seq ?_
          refine C_seq ?_
          refine C_region ?_
          refine O_p (.i .i64 ((((min k (l.length - i * k)) : Nat)) : Int)) (r_mv rfl) ?_
          refine O_p (.sl ra (l.length - i * k) rc dg) (r_mv hT25) ?_
          refine O_p (.i .i64 ((((l.length - i * k) : Nat)) : Int)) (r_len rfl) ?_
          refine O_p (.b (decide (((((min k (l.length - i * k)) : Nat)) : Int) = ((((l.length - i * k) : Nat)) : Int)))) (r_eql rfl rfl) ?_
          refine O_nil ?_
          refine C_cond (x := (decide (((((min k (l.length - i * k)) : Nat)) : Int) = ((((l.length - i * k) : Nat)) : Int)))) rfl (fun hc50 => ?_) (fun hc50 => ?_)
          ·
            try simp only [decide_eq_true_eq, decide_eq_false_iff_not, Bool.not_eq_true', Bool.not_eq_false', Bool.and_eq_true, Bool.or_eq_true, Bool.or_eq_false_iff, Bool.not_not, Bool.and_eq_false_iff] at hc50
            refine C_region ?_
            refine O_p (.p (some (n38, 1))) (r_fadd' rfl rfl) ?_
            refine O_p (.i .u8 2) (r_ld rfl hH49.get0 rfl) ?_
            refine O_p (.i .u8 3) (r_bin rfl rfl rfl) ?_
            refine O_p (.p (some (n38, 1))) (r_fadd' rfl rfl) ?_
            refine O_store (vs := [(.i .u8 3)]) (c' := [(.i .u8 0), (.i .u8 3), (.i .u32 ((tsn + ((i : Nat) : Int)) % 4294967296)), (.i .u32 0), (.i .u16 o), (.i .u16 ssn), (.i .u32 p), (.sl none 0 0 0), (.sl none 0 0 0), (.sl none 0 0 0), (.sl none 0 0 0), (.sl a36 (min k (l.length - i * k)) rc dg)]) rfl (by rfl) hH49.get0 rfl (List.cons_ne_nil _ _) (Nat.le_of_ble_eq_true rfl) rfl fun H51 hW52 => ?_
            have hH53 := hH49.wr0 hW52
            refine O_nil ?_
            refine C_seq ?_
            refine C_seq ?_
            refine C_region ?_
            refine O_p (.p (some (n1, 1))) (r_fadd' hT23 rfl) ?_
            refine O_p (.b false) (r_ld rfl hH53.get2 rfl) ?_
            refine O_nil ?_
            refine C_cond (x := false) rfl (fun h => by cases h) (fun _ => ?_)
            refine C_skip ?_
            refine C_seq ?_
            refine C_region ?_
            refine O_p ov (r_mv hT24) ?_
            refine O_p (.agg [(.i .u8 0), (.i .u8 3), (.i .u32 ((tsn + ((i : Nat) : Int)) % 4294967296)), (.i .u32 0), (.i .u16 o), (.i .u16 ssn), (.i .u32 p), (.sl none 0 0 0), (.sl none 0 0 0), (.sl none 0 0 0), (.sl none 0 0 0), (.sl a36 (min k (l.length - i * k)) rc dg)]) (r_ldA rfl hH53.get0 rfl) ?_
            refine O_bslice (c := [(.i .u8 0), (.i .u8 3), (.i .u32 ((tsn + ((i : Nat) : Int)) % 4294967296)), (.i .u32 0), (.i .u16 o), (.i .u16 ssn), (.i .u32 p), (.sl none 0 0 0), (.sl none 0 0 0), (.sl none 0 0 0), (.sl none 0 0 0), (.sl a36 (min k (l.length - i * k)) rc dg)]) rfl fun n54 H55 hN56 => ?_
            have hH57 := hH53.new hN56
            refine O_qh (by exact r_appq (n := i) (k := 1) (new := [(.i .u8 0), (.i .u8 3), (.i .u32 ((tsn + ((i : Nat) : Int)) % 4294967296)), (.i .u32 0), (.i .u16 o), (.i .u16 ssn), (.i .u32 p), (.sl none 0 0 0), (.sl none 0 0 0), (.sl none 0 0 0), (.sl none 0 0 0), (.sl a36 (min k (l.length - i * k)) rc dg)]) hH57.top2 hp15 rfl rfl rfl (src_blk hH57.get0 (by rfl)) rfl (by decide) (by decide) (by rw [flat_len hp16.lens, hp16.1, splitP_len]) (by first | omega | (simp only [List.length_take, List.length_drop, List.length_append, List.length_cons, List.length_nil, beN_len] <;> omega))) fun o58 H59 hA61 => ?_
            obtain ⟨c60, hA61, hH62⟩ := hA61
            refine O_p o58 (r_mv rfl) ?_
            refine O_nil ?_
            refine C_region ?_
            refine O_p (.sl ra (l.length - i * k) rc dg) (r_mv hT25) ?_
            refine O_p (.i .i64 ((((min k (l.length - i * k)) : Nat)) : Int)) (r_mv rfl) ?_
            refine O_q (by exact Bs.slB hrb (by first | omega | (simp only [List.length_set, List.length_append, List.length_cons, List.length_nil, List.length_take, List.length_drop] <;> omega)) hdg rfl (i := (min k (l.length - i * k))) (j := (l.length - i * k)) (m := rc) (by simp only [Option.map_some, Option.map_none]; first | exact sb_lo' (i := (min k (l.length - i * k)))   (by first | omega | (simp only [List.length_take, List.length_drop, List.length_append, List.length_cons, List.length_nil, beN_len] <;> omega)) | (rw [rfl]; exact sb_lo' (i := (min k (l.length - i * k)))   (by first | omega | (simp only [List.length_take, List.length_drop, List.length_append, List.length_cons, List.length_nil, beN_len] <;> omega)))) (by first | omega | (simp only [List.length_take, List.length_drop, List.length_append, List.length_cons, List.length_nil, beN_len] <;> omega)) (by first | omega | (simp only [List.length_take, List.length_drop, List.length_append, List.length_cons, List.length_nil, beN_len] <;> omega)) (by first | omega | (simp only [List.length_take, List.length_drop, List.length_append, List.length_cons, List.length_nil, beN_len] <;> omega))) fun v64 hv63 => ?_
            obtain ⟨a65, rfl, hb66⟩ := hv63
            rw [List.take_of_length_le (by simp only [List.length_drop]; omega)] at hb66
            refine O_p (.sl a65 ((l.length - i * k) - (min k (l.length - i * k))) (rc - (min k (l.length - i * k))) dg) (r_mv rfl) ?_
            refine O_nil ?_
            have hH67 := ((hH62.sub1).sub1)
            have hH68 := (((hH67.top2).top2).top2)
            have hfl : pieceF (nPcs l.length k) i false = 3 := by unfold pieceF; rw [if_pos (by omega), if_pos (by omega)]; rfl
            have hpc : CkRow true B [(.i .u8 0), (.i .u8 3), (.i .u32 ((tsn + ((i : Nat) : Int)) % 4294967296)), (.i .u32 0), (.i .u16 o), (.i .u16 ssn), (.i .u32 p), (.sl none 0 0 0), (.sl none 0 0 0), (.sl none 0 0 0), (.sl none 0 0 0), (.sl a36 (min k (l.length - i * k)) rc dg)] (pieceC false o p tsn ssn k l i) := ⟨0, _, _, _, _, _, _, _, by unfold pieceC; rw [hfl, pieceD_len]; rfl, hdg, by show (pieceD k l i).length ≤ _; rw [pieceD_len]; omega, by omega, pieceC_ok (by omega), fun _ => ⟨rfl, rfl, rfl, rfl, rfl⟩, fun H' hh => by have h := hb37 H' hh; rw [piece_take] at h; show Bs H' (.sl _ (pieceD k l i).length _ _) _; rw [pieceD_len]; exact h⟩
            have hln : l.length - (i + 1) * k = l.length - i * k - min k (l.length - i * k) := by rw [Nat.add_mul, Nat.one_mul]; omega
            exact ⟨(nPcs l.length k) - (i + 1), by omega, o58, c60, (rows ++ [[(.i .u8 0), (.i .u8 3), (.i .u32 ((tsn + ((i : Nat) : Int)) % 4294967296)), (.i .u32 0), (.i .u16 o), (.i .u16 ssn), (.i .u32 p), (.sl none 0 0 0), (.sl none 0 0 0), (.sl none 0 0 0), (.sl none 0 0 0), (.sl a36 (min k (l.length - i * k)) rc dg)]]), a65, (rc - (min k (l.length - i * k))), (i + 1), rfl, by omega, by rw [← flat_snoc]; exact hA61, by rw [splitP_succ]; exact hp16.snoc hpc, by rw [hln, ← drop_piece]; exact hb66, by omega, by omega, hH68, hT20, hT21, hT22, hT23, rfl, (by rw [hln]; rfl)⟩
          ·
            try simp only [decide_eq_true_eq, decide_eq_false_iff_not, Bool.not_eq_true', Bool.not_eq_false', Bool.and_eq_true, Bool.or_eq_true, Bool.or_eq_false_iff, Bool.not_not, Bool.and_eq_false_iff] at hc50
            refine C_skip ?_
            refine C_seq ?_
            refine C_seq ?_
            refine C_region ?_
            refine O_p (.p (some (n1, 1))) (r_fadd' hT23 rfl) ?_
            refine O_p (.b false) (r_ld rfl hH49.get2 rfl) ?_
            refine O_nil ?_
            refine C_cond (x := false) rfl (fun h => by cases h) (fun _ => ?_)
            refine C_skip ?_
            refine C_seq ?_
            refine C_region ?_
            refine O_p ov (r_mv hT24) ?_
            refine O_p (.agg [(.i .u8 0), (.i .u8 2), (.i .u32 ((tsn + ((i : Nat) : Int)) % 4294967296)), (.i .u32 0), (.i .u16 o), (.i .u16 ssn), (.i .u32 p), (.sl none 0 0 0), (.sl none 0 0 0), (.sl none 0 0 0), (.sl none 0 0 0), (.sl a36 (min k (l.length - i * k)) rc dg)]) (r_ldA rfl hH49.get0 rfl) ?_
            refine O_bslice (c := [(.i .u8 0), (.i .u8 2), (.i .u32 ((tsn + ((i : Nat) : Int)) % 4294967296)), (.i .u32 0), (.i .u16 o), (.i .u16 ssn), (.i .u32 p), (.sl none 0 0 0), (.sl none 0 0 0), (.sl none 0 0 0), (.sl none 0 0 0), (.sl a36 (min k (l.length - i * k)) rc dg)]) rfl fun n69 H70 hN71 => ?_
            have hH72 := hH49.new hN71
            refine O_qh (by exact r_appq (n := i) (k := 1) (new := [(.i .u8 0), (.i .u8 2), (.i .u32 ((tsn + ((i : Nat) : Int)) % 4294967296)), (.i .u32 0), (.i .u16 o), (.i .u16 ssn), (.i .u32 p), (.sl none 0 0 0), (.sl none 0 0 0), (.sl none 0 0 0), (.sl none 0 0 0), (.sl a36 (min k (l.length - i * k)) rc dg)]) hH72.top2 hp15 rfl rfl rfl (src_blk hH72.get0 (by rfl)) rfl (by decide) (by decide) (by rw [flat_len hp16.lens, hp16.1, splitP_len]) (by first | omega | (simp only [List.length_take, List.length_drop, List.length_append, List.length_cons, List.length_nil, beN_len] <;> omega))) fun o73 H74 hA76 => ?_
            obtain ⟨c75, hA76, hH77⟩ := hA76
            refine O_p o73 (r_mv rfl) ?_
            refine O_nil ?_
            refine C_region ?_
            refine O_p (.sl ra (l.length - i * k) rc dg) (r_mv hT25) ?_
            refine O_p (.i .i64 ((((min k (l.length - i * k)) : Nat)) : Int)) (r_mv rfl) ?_
            refine O_q (by exact Bs.slB hrb (by first | omega | (simp only [List.length_set, List.length_append, List.length_cons, List.length_nil, List.length_take, List.length_drop] <;> omega)) hdg rfl (i := (min k (l.length - i * k))) (j := (l.length - i * k)) (m := rc) (by simp only [Option.map_some, Option.map_none]; first | exact sb_lo' (i := (min k (l.length - i * k)))   (by first | omega | (simp only [List.length_take, List.length_drop, List.length_append, List.length_cons, List.length_nil, beN_len] <;> omega)) | (rw [rfl]; exact sb_lo' (i := (min k (l.length - i * k)))   (by first | omega | (simp only [List.length_take, List.length_drop, List.length_append, List.length_cons, List.length_nil, beN_len] <;> omega)))) (by first | omega | (simp only [List.length_take, List.length_drop, List.length_append, List.length_cons, List.length_nil, beN_len] <;> omega)) (by first | omega | (simp only [List.length_take, List.length_drop, List.length_append, List.length_cons, List.length_nil, beN_len] <;> omega)) (by first | omega | (simp only [List.length_take, List.length_drop, List.length_append, List.length_cons, List.length_nil, beN_len] <;> omega))) fun v79 hv78 => ?_
            obtain ⟨a80, rfl, hb81⟩ := hv78
            rw [List.take_of_length_le (by simp only [List.length_drop]; omega)] at hb81
            refine O_p (.sl a80 ((l.length - i * k) - (min k (l.length - i * k))) (rc - (min k (l.length - i * k))) dg) (r_mv rfl) ?_
            refine O_nil ?_
            have hH82 := ((hH77.sub1).sub1)
            have hH83 := (((hH82.top2).top2).top2)
            have hfl : pieceF (nPcs l.length k) i false = 2 := by unfold pieceF; rw [if_pos (by omega), if_neg (by omega)]; rfl
            have hpc : CkRow true B [(.i .u8 0), (.i .u8 2), (.i .u32 ((tsn + ((i : Nat) : Int)) % 4294967296)), (.i .u32 0), (.i .u16 o), (.i .u16 ssn), (.i .u32 p), (.sl none 0 0 0), (.sl none 0 0 0), (.sl none 0 0 0), (.sl none 0 0 0), (.sl a36 (min k (l.length - i * k)) rc dg)] (pieceC false o p tsn ssn k l i) := ⟨0, _, _, _, _, _, _, _, by unfold pieceC; rw [hfl, pieceD_len]; rfl, hdg, by show (pieceD k l i).length ≤ _; rw [pieceD_len]; omega, by omega, pieceC_ok (by omega), fun _ => ⟨rfl, rfl, rfl, rfl, rfl⟩, fun H' hh => by have h := hb37 H' hh; rw [piece_take] at h; show Bs H' (.sl _ (pieceD k l i).length _ _) _; rw [pieceD_len]; exact h⟩
            have hln : l.length - (i + 1) * k = l.length - i * k - min k (l.length - i * k) := by rw [Nat.add_mul, Nat.one_mul]; omega
            exact ⟨(nPcs l.length k) - (i + 1), by omega, o73, c75, (rows ++ [[(.i .u8 0), (.i .u8 2), (.i .u32 ((tsn + ((i : Nat) : Int)) % 4294967296)), (.i .u32 0), (.i .u16 o), (.i .u16 ssn), (.i .u32 p), (.sl none 0 0 0), (.sl none 0 0 0), (.sl none 0 0 0), (.sl none 0 0 0), (.sl a36 (min k (l.length - i * k)) rc dg)]]), a80, (rc - (min k (l.length - i * k))), (i + 1), rfl, by omega, by rw [← flat_snoc]; exact hA76, by rw [splitP_succ]; exact hp16.snoc hpc, by rw [hln, ← drop_piece]; exact hb81, by omega, by omega, hH83, hT20, hT21, hT22, hT23, rfl, (by rw [hln]; rfl)⟩
        ·
          try simp only [decide_eq_true_eq, decide_eq_false_iff_not, Bool.not_eq_true', Bool.not_eq_false', Bool.and_eq_true, Bool.or_eq_true, Bool.or_eq_false_iff, Bool.not_not, Bool.and_eq_false_iff] at hc46
          refine C_skip ?_
          refine C_seq ?_
          refine C_seq ?_
          refine C_region ?_
          refine O_p (.i .i64 ((((min k (l.length - i * k)) : Nat)) : Int)) (r_mv rfl) ?_
          refine O_p (.sl ra (l.length - i * k) rc dg) (r_mv hT25) ?_
          refine O_p (.i .i64 ((((l.length - i * k) : Nat)) : Int)) (r_len rfl) ?_
          refine O_p (.b (decide (((((min k (l.length - i * k)) : Nat)) : Int) = ((((l.length - i * k) : Nat)) : Int)))) (r_eql rfl rfl) ?_
          refine O_nil ?_
          refine C_cond (x := (decide (((((min k (l.length - i * k)) : Nat)) : Int) = ((((l.length - i * k) : Nat)) : Int)))) rfl (fun hc84 => ?_) (fun hc84 => ?_)
          ·
            try simp only [decide_eq_true_eq, decide_eq_false_iff_not, Bool.not_eq_true', Bool.not_eq_false', Bool.and_eq_true, Bool.or_eq_true, Bool.or_eq_false_iff, Bool.not_not, Bool.and_eq_false_iff] at hc84
            refine C_region ?_
            refine O_p (.p (some (n38, 1))) (r_fadd' rfl rfl) ?_
            refine O_p (.i .u8 0) (r_ld rfl hH45.get0 rfl) ?_
            refine O_p (.i .u8 1) (r_bin rfl rfl rfl) ?_
            refine O_p (.p (some (n38, 1))) (r_fadd' rfl rfl) ?_
            refine O_store (vs := [(.i .u8 1)]) (c' := [(.i .u8 0), (.i .u8 1), (.i .u32 ((tsn + ((i : Nat) : Int)) % 4294967296)), (.i .u32 0), (.i .u16 o), (.i .u16 ssn), (.i .u32 p), (.sl none 0 0 0), (.sl none 0 0 0), (.sl none 0 0 0), (.sl none 0 0 0), (.sl a36 (min k (l.length - i * k)) rc dg)]) rfl (by rfl) hH45.get0 rfl (List.cons_ne_nil _ _) (Nat.le_of_ble_eq_true rfl) rfl fun H85 hW86 => ?_
            have hH87 := hH45.wr0 hW86
            refine O_nil ?_
            refine C_seq ?_
            refine C_seq ?_
            refine C_region ?_
            refine O_p (.p (some (n1, 1))) (r_fadd' hT23 rfl) ?_
            refine O_p (.b false) (r_ld rfl hH87.get2 rfl) ?_
            refine O_nil ?_
            refine C_cond (x := false) rfl (fun h => by cases h) (fun _ => ?_)
            refine C_skip ?_
            refine C_seq ?_
            refine C_region ?_
            refine O_p ov (r_mv hT24) ?_
            refine O_p (.agg [(.i .u8 0), (.i .u8 1), (.i .u32 ((tsn + ((i : Nat) : Int)) % 4294967296)), (.i .u32 0), (.i .u16 o), (.i .u16 ssn), (.i .u32 p), (.sl none 0 0 0), (.sl none 0 0 0), (.sl none 0 0 0), (.sl none 0 0 0), (.sl a36 (min k (l.length - i * k)) rc dg)]) (r_ldA rfl hH87.get0 rfl) ?_
            refine O_bslice (c := [(.i .u8 0), (.i .u8 1), (.i .u32 ((tsn + ((i : Nat) : Int)) % 4294967296)), (.i .u32 0), (.i .u16 o), (.i .u16 ssn), (.i .u32 p), (.sl none 0 0 0), (.sl none 0 0 0), (.sl none 0 0 0), (.sl none 0 0 0), (.sl a36 (min k (l.length - i * k)) rc dg)]) rfl fun n88 H89 hN90 => ?_
            have hH91 := hH87.new hN90
            refine O_qh (by exact r_appq (n := i) (k := 1) (new := [(.i .u8 0), (.i .u8 1), (.i .u32 ((tsn + ((i : Nat) : Int)) % 4294967296)), (.i .u32 0), (.i .u16 o), (.i .u16 ssn), (.i .u32 p), (.sl none 0 0 0), (.sl none 0 0 0), (.sl none 0 0 0), (.sl none 0 0 0), (.sl a36 (min k (l.length - i * k)) rc dg)]) hH91.top2 hp15 rfl rfl rfl (src_blk hH91.get0 (by rfl)) rfl (by decide) (by decide) (by rw [flat_len hp16.lens, hp16.1, splitP_len]) (by first | omega | (simp only [List.length_take, List.length_drop, List.length_append, List.length_cons, List.length_nil, beN_len] <;> omega))) fun o92 H93 hA95 => ?_
            obtain ⟨c94, hA95, hH96⟩ := hA95
            refine O_p o92 (r_mv rfl) ?_
            refine O_nil ?_
            refine C_region ?_
            refine O_p (.sl ra (l.length - i * k) rc dg) (r_mv hT25) ?_
            refine O_p (.i .i64 ((((min k (l.length - i * k)) : Nat)) : Int)) (r_mv rfl) ?_
            refine O_q (by exact Bs.slB hrb (by first | omega | (simp only [List.length_set, List.length_append, List.length_cons, List.length_nil, List.length_take, List.length_drop] <;> omega)) hdg rfl (i := (min k (l.length - i * k))) (j := (l.length - i * k)) (m := rc) (by simp only [Option.map_some, Option.map_none]; first | exact sb_lo' (i := (min k (l.length - i * k)))   (by first | omega | (simp only [List.length_take, List.length_drop, List.length_append, List.length_cons, List.length_nil, beN_len] <;> omega)) | (rw [rfl]; exact sb_lo' (i := (min k (l.length - i * k)))   (by first | omega | (simp only [List.length_take, List.length_drop, List.length_append, List.length_cons, List.length_nil, beN_len] <;> omega)))) (by first | omega | (simp only [List.length_take, List.length_drop, List.length_append, List.length_cons, List.length_nil, beN_len] <;> omega)) (by first | omega | (simp only [List.length_take, List.length_drop, List.length_append, List.length_cons, List.length_nil, beN_len] <;> omega)) (by first | omega | (simp only [List.length_take, List.length_drop, List.length_append, List.length_cons, List.length_nil, beN_len] <;> omega))) fun v98 hv97 => ?_
            obtain ⟨a99, rfl, hb100⟩ := hv97
            rw [List.take_of_length_le (by simp only [List.length_drop]; omega)] at hb100
            refine O_p (.sl a99 ((l.length - i * k) - (min k (l.length - i * k))) (rc - (min k (l.length - i * k))) dg) (r_mv rfl) ?_
            refine O_nil ?_
            have hH101 := ((hH96.sub1).sub1)
            have hH102 := (((hH101.top2).top2).top2)
            have hfl : pieceF (nPcs l.length k) i false = 1 := by unfold pieceF; rw [if_neg (by omega), if_pos (by omega)]; rfl
            have hpc : CkRow true B [(.i .u8 0), (.i .u8 1), (.i .u32 ((tsn + ((i : Nat) : Int)) % 4294967296)), (.i .u32 0), (.i .u16 o), (.i .u16 ssn), (.i .u32 p), (.sl none 0 0 0), (.sl none 0 0 0), (.sl none 0 0 0), (.sl none 0 0 0), (.sl a36 (min k (l.length - i * k)) rc dg)] (pieceC false o p tsn ssn k l i) := ⟨0, _, _, _, _, _, _, _, by unfold pieceC; rw [hfl, pieceD_len]; rfl, hdg, by show (pieceD k l i).length ≤ _; rw [pieceD_len]; omega, by omega, pieceC_ok (by omega), fun _ => ⟨rfl, rfl, rfl, rfl, rfl⟩, fun H' hh => by have h := hb37 H' hh; rw [piece_take] at h; show Bs H' (.sl _ (pieceD k l i).length _ _) _; rw [pieceD_len]; exact h⟩
            have hln : l.length - (i + 1) * k = l.length - i * k - min k (l.length - i * k) := by rw [Nat.add_mul, Nat.one_mul]; omega
            exact ⟨(nPcs l.length k) - (i + 1), by omega, o92, c94, (rows ++ [[(.i .u8 0), (.i .u8 1), (.i .u32 ((tsn + ((i : Nat) : Int)) % 4294967296)), (.i .u32 0), (.i .u16 o), (.i .u16 ssn), (.i .u32 p), (.sl none 0 0 0), (.sl none 0 0 0), (.sl none 0 0 0), (.sl none 0 0 0), (.sl a36 (min k (l.length - i * k)) rc dg)]]), a99, (rc - (min k (l.length - i * k))), (i + 1), rfl, by omega, by rw [← flat_snoc]; exact hA95, by rw [splitP_succ]; exact hp16.snoc hpc, by rw [hln, ← drop_piece]; exact hb100, by omega, by omega, hH102, hT20, hT21, hT22, hT23, rfl, (by rw [hln]; rfl)⟩
          ·
            try simp only [decide_eq_true_eq, decide_eq_false_iff_not, Bool.not_eq_true', Bool.not_eq_false', Bool.and_eq_true, Bool.or_eq_true, Bool.or_eq_false_iff, Bool.not_not, Bool.and_eq_false_iff] at hc84
            refine C_skip ?_
            refine C_seq ?_
            refine C_seq ?_
            refine C_region ?_
            refine O_p (.p (some (n1, 1))) (r_fadd' hT23 rfl) ?_
            refine O_p (.b false) (r_ld rfl hH45.get2 rfl) ?_
            refine O_nil ?_
            refine C_cond (x := false) rfl (fun h => by cases h) (fun _ => ?_)
            refine C_skip ?_
            refine C_seq ?_
            refine C_region ?_
            refine O_p ov (r_mv hT24) ?_
            refine O_p (.agg [(.i .u8 0), (.i .u8 0), (.i .u32 ((tsn + ((i : Nat) : Int)) % 4294967296)), (.i .u32 0), (.i .u16 o), (.i .u16 ssn), (.i .u32 p), (.sl none 0 0 0), (.sl none 0 0 0), (.sl none 0 0 0), (.sl none 0 0 0), (.sl a36 (min k (l.length - i * k)) rc dg)]) (r_ldA rfl hH45.get0 rfl) ?_
            refine O_bslice (c := [(.i .u8 0), (.i .u8 0), (.i .u32 ((tsn + ((i : Nat) : Int)) % 4294967296)), (.i .u32 0), (.i .u16 o), (.i .u16 ssn), (.i .u32 p), (.sl none 0 0 0), (.sl none 0 0 0), (.sl none 0 0 0), (.sl none 0 0 0), (.sl a36 (min k (l.length - i * k)) rc dg)]) rfl fun n103 H104 hN105 => ?_
            have hH106 := hH45.new hN105
            refine O_qh (by exact r_appq (n := i) (k := 1) (new := [(.i .u8 0), (.i .u8 0), (.i .u32 ((tsn + ((i : Nat) : Int)) % 4294967296)), (.i .u32 0), (.i .u16 o), (.i .u16 ssn), (.i .u32 p), (.sl none 0 0 0), (.sl none 0 0 0), (.sl none 0 0 0), (.sl none 0 0 0), (.sl a36 (min k (l.length - i * k)) rc dg)]) hH106.top2 hp15 rfl rfl rfl (src_blk hH106.get0 (by rfl)) rfl (by decide) (by decide) (by rw [flat_len hp16.lens, hp16.1, splitP_len]) (by first | omega | (simp only [List.length_take, List.length_drop, List.length_append, List.length_cons, List.length_nil, beN_len] <;> omega))) fun o107 H108 hA110 => ?_
            obtain ⟨c109, hA110, hH111⟩ := hA110
            refine O_p o107 (r_mv rfl) ?_
            refine O_nil ?_
            refine C_region ?_
            refine O_p (.sl ra (l.length - i * k) rc dg) (r_mv hT25) ?_
            refine O_p (.i .i64 ((((min k (l.length - i * k)) : Nat)) : Int)) (r_mv rfl) ?_
            refine O_q (by exact Bs.slB hrb (by first | omega | (simp only [List.length_set, List.length_append, List.length_cons, List.length_nil, List.length_take, List.length_drop] <;> omega)) hdg rfl (i := (min k (l.length - i * k))) (j := (l.length - i * k)) (m := rc) (by simp only [Option.map_some, Option.map_none]; first | exact sb_lo' (i := (min k (l.length - i * k)))   (by first | omega | (simp only [List.length_take, List.length_drop, List.length_append, List.length_cons, List.length_nil, beN_len] <;> omega)) | (rw [rfl]; exact sb_lo' (i := (min k (l.length - i * k)))   (by first | omega | (simp only [List.length_take, List.length_drop, List.length_append, List.length_cons, List.length_nil, beN_len] <;> omega)))) (by first | omega | (simp only [List.length_take, List.length_drop, List.length_append, List.length_cons, List.length_nil, beN_len] <;> omega)) (by first | omega | (simp only [List.length_take, List.length_drop, List.length_append, List.length_cons, List.length_nil, beN_len] <;> omega)) (by first | omega | (simp only [List.length_take, List.length_drop, List.length_append, List.length_cons, List.length_nil, beN_len] <;> omega))) fun v113 hv112 => ?_
            obtain ⟨a114, rfl, hb115⟩ := hv112
            rw [List.take_of_length_le (by simp only [List.length_drop]; omega)] at hb115
            refine O_p (.sl a114 ((l.length - i * k) - (min k (l.length - i * k))) (rc - (min k (l.length - i * k))) dg) (r_mv rfl) ?_
            refine O_nil ?_
            have hH116 := ((hH111.sub1).sub1)
            have hH117 := (((hH116.top2).top2).top2)
            have hfl : pieceF (nPcs l.length k) i false = 0 := by unfold pieceF; rw [if_neg (by omega), if_neg (by omega)]; rfl
            have hpc : CkRow true B [(.i .u8 0), (.i .u8 0), (.i .u32 ((tsn + ((i : Nat) : Int)) % 4294967296)), (.i .u32 0), (.i .u16 o), (.i .u16 ssn), (.i .u32 p), (.sl none 0 0 0), (.sl none 0 0 0), (.sl none 0 0 0), (.sl none 0 0 0), (.sl a36 (min k (l.length - i * k)) rc dg)] (pieceC false o p tsn ssn k l i) := ⟨0, _, _, _, _, _, _, _, by unfold pieceC; rw [hfl, pieceD_len]; rfl, hdg, by show (pieceD k l i).length ≤ _; rw [pieceD_len]; omega, by omega, pieceC_ok (by omega), fun _ => ⟨rfl, rfl, rfl, rfl, rfl⟩, fun H' hh => by have h := hb37 H' hh; rw [piece_take] at h; show Bs H' (.sl _ (pieceD k l i).length _ _) _; rw [pieceD_len]; exact h⟩
            have hln : l.length - (i + 1) * k = l.length - i * k - min k (l.length - i * k) := by rw [Nat.add_mul, Nat.one_mul]; omega
            exact ⟨(nPcs l.length k) - (i + 1), by omega, o107, c109, (rows ++ [[(.i .u8 0), (.i .u8 0), (.i .u32 ((tsn + ((i : Nat) : Int)) % 4294967296)), (.i .u32 0), (.i .u16 o), (.i .u16 ssn), (.i .u32 p), (.sl none 0 0 0), (.sl none 0 0 0), (.sl none 0 0 0), (.sl none 0 0 0), (.sl a36 (min k (l.length - i * k)) rc dg)]]), a114, (rc - (min k (l.length - i * k))), (i + 1), rfl, by omega, by rw [← flat_snoc]; exact hA110, by rw [splitP_succ]; exact hp16.snoc hpc, by rw [hln, ← drop_piece]; exact hb115, by omega, by omega, hH117, hT20, hT21, hT22, hT23, rfl, (by rw [hln]; rfl)⟩
      ·
        try simp only [decide_eq_true_eq, decide_eq_false_iff_not, Bool.not_eq_true', Bool.not_eq_false', Bool.and_eq_true, Bool.or_eq_true, Bool.or_eq_false_iff, Bool.not_not, Bool.and_eq_false_iff] at hc27
        have hlt := nPcs_lt (n := l.length) (i := i) hk0
        have hin : i = (nPcs l.length k) := by omega
        refine C_exit ?_
        refine nx_exit ?_
        refine nx_exit ?_
        refine bk_hit ?_
        refine C_seq ?_
        refine C_region ?_
        refine O_p ov (r_mv hT24) ?_
        refine O_p ov (r_mv rfl) ?_
        refine O_p (.i .i64 0) (r_mv rfl) ?_
        refine O_nil ?_
        refine C_ret ?_
        have hH118 := (hH26.sub1)
        have hH119 := ((hH118.top1).top1)
        have hcs : CksR true B rows (splitS false o p tsn ssn k l) := by have h := hp16; rw [hin] at h; exact h
        exact ⟨.inr rfl, _, resL_cons (r_tmp (v := ov) rfl) (resL_one (r_tmp (v := .i .i64 0) rfl)), _, ov, rfl, Cks.sq hp15 hcs, hH119⟩
theorem split8_arg {H : AH} {R : HL} {o p tsn ssn most : Int} {fr : Bool} {B : HL} {da : Option (Nat × Nat)} {dc dg : Nat} {l : List UInt8} (hdg : dg = 0 ∨ dg = 1) (hdc : l.length ≤ dc) (hdm : dc ≤ 9223372036854775807) (hmb : ∀ H', Hs H' B → Bs H' (.sl da l.length dc dg) l) (hbad : l.length = 0 ∨ most < 1 ∨ most > 1172) (hH0 : Hs H (B ++ R)) : Ev tabA spA (.fn (.func 8) [] []) [.agg [.i .u16 o, .b fr, .i .u32 p, .sl da l.length dc dg], .i .u32 tsn, .i .u16 ssn, .i .i64 most] H (fun r H' => r = .tup [.sl none 0 0 0, .i .i64 1] ∧ Hs H' (B ++ R)) := by
  refine Ev_C (F := x8) rfl ?_
  refine C_seq ?_
  refine C_region ?_
  refine O_box (z := [(.i .u16 o), (.b fr), (.i .u32 p), (.sl da l.length dc dg)]) rfl fun n1 H2 hN3 => ?_
  have hH4 := hH0.new hN3
  refine O_box (z := [(.i .u32 tsn)]) rfl fun n5 H6 hN7 => ?_
  have hH8 := hH4.new hN7
  refine O_p (.sl none 0 0 0) (r_mv rfl) ?_
  refine O_p (.i .i64 0) (r_mv rfl) ?_
  refine O_nil ?_
  refine C_seq ?_
  refine C_block ?_
  refine C_seq ?_
  refine C_region ?_
  refine O_p (.p (some (n1, 3))) (r_fadd' rfl rfl) ?_
  refine O_p (.sl da l.length dc dg) (r_ld rfl hH8.get1 rfl) ?_
  refine O_p (.i .i64 (((l.length : Nat)) : Int)) (r_len rfl) ?_
  refine O_p (.b (decide ((((l.length : Nat)) : Int) = 0))) (r_eql rfl rfl) ?_
  refine O_p (.b (decide ((((l.length : Nat)) : Int) = 0))) (r_mv rfl) ?_
  refine O_gx (e := (!(decide ((((l.length : Nat)) : Int) = 0)))) (v := (.i .i64 most)) (wf rfl) (fun he => (r_mv rfl)) ?_
  refine O_gx (e := (!(decide ((((l.length : Nat)) : Int) = 0)))) (v := (.b (decide (most < 1)))) (wf rfl) (fun he => (r_lss (cond_pos he) rfl)) ?_
  refine O_p (.b ((decide ((((l.length : Nat)) : Int) = 0)) || (decide (most < 1)))) (r_pick_or rfl rfl rfl rfl) ?_
  refine O_p (.b ((decide ((((l.length : Nat)) : Int) = 0)) || (decide (most < 1)))) (r_mv rfl) ?_
  refine O_gx (e := (!((decide ((((l.length : Nat)) : Int) = 0)) || (decide (most < 1))))) (v := (.i .i64 most)) (wf rfl) (fun he => (r_mv rfl)) ?_
  refine O_gx (e := (!((decide ((((l.length : Nat)) : Int) = 0)) || (decide (most < 1))))) (v := (.b (decide (1172 < most)))) (wf rfl) (fun he => (r_gtr (cond_pos he) rfl)) ?_
  refine O_p (.b (((decide ((((l.length : Nat)) : Int) = 0)) || (decide (most < 1))) || (decide (1172 < most)))) (r_pick_or rfl rfl rfl rfl) ?_
  refine O_p (.b (((decide ((((l.length : Nat)) : Int) = 0)) || (decide (most < 1))) || (decide (1172 < most)))) (r_mv rfl) ?_
  refine O_nil ?_
  refine C_cond (x := (((decide ((((l.length : Nat)) : Int) = 0)) || (decide (most < 1))) || (decide (1172 < most)))) rfl (fun hc9 => ?_) (fun hc9 => ?_)
  ·
    try simp only [decide_eq_true_eq, decide_eq_false_iff_not, Bool.not_eq_true', Bool.not_eq_false', Bool.and_eq_true, Bool.or_eq_true, Bool.or_eq_false_iff, Bool.not_not, Bool.and_eq_false_iff] at hc9
    refine C_seq ?_
    refine C_region ?_
    refine O_p (.sl none 0 0 0) (r_mv rfl) ?_
    refine O_p (.i .i64 1) (r_mv rfl) ?_
    refine O_nil ?_
    refine C_ret ?_
    refine bk_ret ?_
    refine nx_ret ?_
    have hH10 := ((hH8.sub0).sub0)
    exact ⟨.inr rfl, _, resL_cons (r_tmp (v := .sl none 0 0 0) rfl) (resL_one (r_tmp (v := .i .i64 1) rfl)), rfl, hH10⟩
  ·
    try simp only [decide_eq_true_eq, decide_eq_false_iff_not, Bool.not_eq_true', Bool.not_eq_false', Bool.and_eq_true, Bool.or_eq_true, Bool.or_eq_false_iff, Bool.not_not, Bool.and_eq_false_iff] at hc9
    exfalso; omega
theorem split8_large {H : AH} {R : HL} {o p tsn ssn most : Int} {fr : Bool} {B : HL} {da : Option (Nat × Nat)} {dc dg : Nat} {l : List UInt8} (hdg : dg = 0 ∨ dg = 1) (hdc : l.length ≤ dc) (hdm : dc ≤ 9223372036854775807) (hmb : ∀ H', Hs H' B → Bs H' (.sl da l.length dc dg) l) (hgood : ¬ (l.length = 0 ∨ most < 1 ∨ most > 1172)) (hbig : l.length > 16384) (hH0 : Hs H (B ++ R)) : Ev tabA spA (.fn (.func 8) [] []) [.agg [.i .u16 o, .b fr, .i .u32 p, .sl da l.length dc dg], .i .u32 tsn, .i .u16 ssn, .i .i64 most] H (fun r H' => r = .tup [.sl none 0 0 0, .i .i64 10] ∧ Hs H' (B ++ R)) := by
  refine Ev_C (F := x8) rfl ?_
  refine C_seq ?_
  refine C_region ?_
  refine O_box (z := [(.i .u16 o), (.b fr), (.i .u32 p), (.sl da l.length dc dg)]) rfl fun n1 H2 hN3 => ?_
  have hH4 := hH0.new hN3
  refine O_box (z := [(.i .u32 tsn)]) rfl fun n5 H6 hN7 => ?_
  have hH8 := hH4.new hN7
  refine O_p (.sl none 0 0 0) (r_mv rfl) ?_
  refine O_p (.i .i64 0) (r_mv rfl) ?_
  refine O_nil ?_
  refine C_seq ?_
  refine C_block ?_
  refine C_seq ?_
  refine C_region ?_
  refine O_p (.p (some (n1, 3))) (r_fadd' rfl rfl) ?_
  refine O_p (.sl da l.length dc dg) (r_ld rfl hH8.get1 rfl) ?_
  refine O_p (.i .i64 (((l.length : Nat)) : Int)) (r_len rfl) ?_
  refine O_p (.b (decide ((((l.length : Nat)) : Int) = 0))) (r_eql rfl rfl) ?_
  refine O_p (.b (decide ((((l.length : Nat)) : Int) = 0))) (r_mv rfl) ?_
  refine O_gx (e := (!(decide ((((l.length : Nat)) : Int) = 0)))) (v := (.i .i64 most)) (wf rfl) (fun he => (r_mv rfl)) ?_
  refine O_gx (e := (!(decide ((((l.length : Nat)) : Int) = 0)))) (v := (.b (decide (most < 1)))) (wf rfl) (fun he => (r_lss (cond_pos he) rfl)) ?_
  refine O_p (.b ((decide ((((l.length : Nat)) : Int) = 0)) || (decide (most < 1)))) (r_pick_or rfl rfl rfl rfl) ?_
  refine O_p (.b ((decide ((((l.length : Nat)) : Int) = 0)) || (decide (most < 1)))) (r_mv rfl) ?_
  refine O_gx (e := (!((decide ((((l.length : Nat)) : Int) = 0)) || (decide (most < 1))))) (v := (.i .i64 most)) (wf rfl) (fun he => (r_mv rfl)) ?_
  refine O_gx (e := (!((decide ((((l.length : Nat)) : Int) = 0)) || (decide (most < 1))))) (v := (.b (decide (1172 < most)))) (wf rfl) (fun he => (r_gtr (cond_pos he) rfl)) ?_
  refine O_p (.b (((decide ((((l.length : Nat)) : Int) = 0)) || (decide (most < 1))) || (decide (1172 < most)))) (r_pick_or rfl rfl rfl rfl) ?_
  refine O_p (.b (((decide ((((l.length : Nat)) : Int) = 0)) || (decide (most < 1))) || (decide (1172 < most)))) (r_mv rfl) ?_
  refine O_nil ?_
  refine C_cond (x := (((decide ((((l.length : Nat)) : Int) = 0)) || (decide (most < 1))) || (decide (1172 < most)))) rfl (fun hc9 => ?_) (fun hc9 => ?_)
  ·
    try simp only [decide_eq_true_eq, decide_eq_false_iff_not, Bool.not_eq_true', Bool.not_eq_false', Bool.and_eq_true, Bool.or_eq_true, Bool.or_eq_false_iff, Bool.not_not, Bool.and_eq_false_iff] at hc9
    exfalso; omega
  ·
    try simp only [decide_eq_true_eq, decide_eq_false_iff_not, Bool.not_eq_true', Bool.not_eq_false', Bool.and_eq_true, Bool.or_eq_true, Bool.or_eq_false_iff, Bool.not_not, Bool.and_eq_false_iff] at hc9
    refine C_seq ?_
    refine C_region ?_
    refine O_p (.p (some (n1, 3))) (r_fadd' rfl rfl) ?_
    refine O_p (.sl da l.length dc dg) (r_ld rfl hH8.get1 rfl) ?_
    refine O_p (.i .i64 (((l.length : Nat)) : Int)) (r_len rfl) ?_
    refine O_p (.b (decide (16384 < (((l.length : Nat)) : Int)))) (r_gtr rfl rfl) ?_
    refine O_p (.b (decide (16384 < (((l.length : Nat)) : Int)))) (r_mv rfl) ?_
    refine O_nil ?_
    refine C_cond (x := (decide (16384 < (((l.length : Nat)) : Int)))) rfl (fun hc10 => ?_) (fun hc10 => ?_)
    ·
      try simp only [decide_eq_true_eq, decide_eq_false_iff_not, Bool.not_eq_true', Bool.not_eq_false', Bool.and_eq_true, Bool.or_eq_true, Bool.or_eq_false_iff, Bool.not_not, Bool.and_eq_false_iff] at hc10
      refine C_seq ?_
      refine C_region ?_
      refine O_p (.sl none 0 0 0) (r_mv rfl) ?_
      refine O_p (.i .i64 10) (r_mv rfl) ?_
      refine O_nil ?_
      refine C_ret ?_
      refine bk_ret ?_
      refine nx_ret ?_
      have hH11 := ((hH8.sub0).sub0)
      exact ⟨.inr rfl, _, resL_cons (r_tmp (v := .sl none 0 0 0) rfl) (resL_one (r_tmp (v := .i .i64 10) rfl)), rfl, hH11⟩
    ·
      try simp only [decide_eq_true_eq, decide_eq_false_iff_not, Bool.not_eq_true', Bool.not_eq_false', Bool.and_eq_true, Bool.or_eq_true, Bool.or_eq_false_iff, Bool.not_not, Bool.and_eq_false_iff] at hc10
      exfalso; omega
theorem split8_ev {H : AH} {R : HL} (fr : Bool) (o p tsn ssn most : Int) {B : HL} {da : Option (Nat × Nat)} {dc dg : Nat} {l : List UInt8} (hdg : dg = 0 ∨ dg = 1) (hdc : l.length ≤ dc) (hdm : dc ≤ 9223372036854775807) (hmb : ∀ H', Hs H' B → Bs H' (.sl da l.length dc dg) l) (hH0 : Hs H (B ++ R)) : Ev tabA spA (.fn (.func 8) [] []) [.agg [.i .u16 o, .b fr, .i .u32 p, .sl da l.length dc dg], .i .u32 tsn, .i .u16 ssn, .i .i64 most] H (fun r H' => ∃ D v, r = .tup [v, .i .i64 (splitE l.length most)] ∧ Cks true (D ++ B) v (splitL fr o p tsn ssn most l) ∧ Hs H' (D ++ (B ++ R))) := by
  by_cases hb : l.length = 0 ∨ most < 1 ∨ most > 1172
  · have he : splitE l.length most = 1 := by unfold splitE; rw [if_pos hb]
    refine Ev.mono (split8_arg hdg hdc hdm hmb hb hH0) fun r H2 hq => ?_
    obtain ⟨rfl, hh⟩ := hq
    exact ⟨[], _, by rw [he], by unfold splitL; rw [he]; exact ⟨[], fun _ _ => .none (.inl rfl), CksR.nil⟩, hh⟩
  · by_cases hL : l.length > 16384
    · have he : splitE l.length most = 10 := by unfold splitE; rw [if_neg hb, if_pos hL]
      refine Ev.mono (split8_large hdg hdc hdm hmb hb hL hH0) fun r H2 hq => ?_
      obtain ⟨rfl, hh⟩ := hq
      exact ⟨[], _, by rw [he], by unfold splitL; rw [he]; exact ⟨[], fun _ _ => .none (.inl rfl), CksR.nil⟩, hh⟩
    · have he : splitE l.length most = 0 := by unfold splitE; rw [if_neg hb, if_neg hL]
      have hs : splitL fr o p tsn ssn most l = splitS fr o p tsn ssn most.toNat l := by unfold splitL; rw [if_pos he]
      rw [hs, he]
      obtain ⟨k, rfl⟩ : ∃ k : Nat, most = k := ⟨most.toNat, by omega⟩
      rw [Int.toNat_natCast]
      cases fr
      · exact split8_false hdg hdc hdm hmb (by omega) (by omega) (by omega) (by omega) hH0
      · exact split8_true hdg hdc hdm hmb (by omega) (by omega) (by omega) (by omega) hH0

theorem split9_arg {H : AH} {R : HL} {o p tsn ssn most : Int} {fr : Bool} {B : HL} {da : Option (Nat × Nat)} {dc dg : Nat} {l : List UInt8} (hdg : dg = 0 ∨ dg = 1) (hdc : l.length ≤ dc) (hdm : dc ≤ 9223372036854775807) (hmb : ∀ H', Hs H' B → Bs H' (.sl da l.length dc dg) l) (hbad : l.length = 0 ∨ most < 1 ∨ most > 1172) (hH0 : Hs H (B ++ R)) : Ev tabA spA (.fn (.func 9) [] []) [.agg [.i .u16 o, .b fr, .i .u32 p, .sl da l.length dc dg], .i .u32 tsn, .i .u16 ssn, .i .i64 most] H (fun r H' => r = .tup [.sl none 0 0 0, .i .i64 1] ∧ Hs H' (B ++ R)) := by
  refine Ev_C (F := x9) rfl ?_
  refine C_seq ?_
  refine C_region ?_
  refine O_box (z := [(.i .u16 o), (.b fr), (.i .u32 p), (.sl da l.length dc dg)]) rfl fun n1 H2 hN3 => ?_
  have hH4 := hH0.new hN3
  refine O_p (.sl none 0 0 0) (r_mv rfl) ?_
  refine O_p (.i .i64 0) (r_mv rfl) ?_
  refine O_nil ?_
  refine C_seq ?_
  refine C_seq ?_
  refine C_region ?_
  refine O_p (.p (some (n1, 3))) (r_fadd' rfl rfl) ?_
  refine O_p (.sl da l.length dc dg) (r_ld rfl hH4.get0 rfl) ?_
  refine O_p (.i .i64 (((l.length : Nat)) : Int)) (r_len rfl) ?_
  refine O_p (.b (decide ((((l.length : Nat)) : Int) = 0))) (r_eql rfl rfl) ?_
  refine O_p (.b (decide ((((l.length : Nat)) : Int) = 0))) (r_mv rfl) ?_
  refine O_gx (e := (!(decide ((((l.length : Nat)) : Int) = 0)))) (v := (.i .i64 most)) (wf rfl) (fun he => (r_mv rfl)) ?_
  refine O_gx (e := (!(decide ((((l.length : Nat)) : Int) = 0)))) (v := (.b (decide (most < 1)))) (wf rfl) (fun he => (r_lss (cond_pos he) rfl)) ?_
  refine O_p (.b ((decide ((((l.length : Nat)) : Int) = 0)) || (decide (most < 1)))) (r_pick_or rfl rfl rfl rfl) ?_
  refine O_p (.b ((decide ((((l.length : Nat)) : Int) = 0)) || (decide (most < 1)))) (r_mv rfl) ?_
  refine O_gx (e := (!((decide ((((l.length : Nat)) : Int) = 0)) || (decide (most < 1))))) (v := (.i .i64 most)) (wf rfl) (fun he => (r_mv rfl)) ?_
  refine O_gx (e := (!((decide ((((l.length : Nat)) : Int) = 0)) || (decide (most < 1))))) (v := (.b (decide (1172 < most)))) (wf rfl) (fun he => (r_gtr (cond_pos he) rfl)) ?_
  refine O_p (.b (((decide ((((l.length : Nat)) : Int) = 0)) || (decide (most < 1))) || (decide (1172 < most)))) (r_pick_or rfl rfl rfl rfl) ?_
  refine O_nil ?_
  refine C_cond (x := (((decide ((((l.length : Nat)) : Int) = 0)) || (decide (most < 1))) || (decide (1172 < most)))) rfl (fun hc5 => ?_) (fun hc5 => ?_)
  ·
    try simp only [decide_eq_true_eq, decide_eq_false_iff_not, Bool.not_eq_true', Bool.not_eq_false', Bool.and_eq_true, Bool.or_eq_true, Bool.or_eq_false_iff, Bool.not_not, Bool.and_eq_false_iff] at hc5
    refine C_seq ?_
    refine C_region ?_
    refine O_p (.sl none 0 0 0) (r_mv rfl) ?_
    refine O_p (.i .i64 1) (r_mv rfl) ?_
    refine O_nil ?_
    refine C_ret ?_
    refine nx_ret ?_
    have hH6 := (hH4.sub0)
    exact ⟨.inr rfl, _, resL_cons (r_tmp (v := .sl none 0 0 0) rfl) (resL_one (r_tmp (v := .i .i64 1) rfl)), rfl, hH6⟩
  ·
    try simp only [decide_eq_true_eq, decide_eq_false_iff_not, Bool.not_eq_true', Bool.not_eq_false', Bool.and_eq_true, Bool.or_eq_true, Bool.or_eq_false_iff, Bool.not_not, Bool.and_eq_false_iff] at hc5
    exfalso; omega
theorem split9_large {H : AH} {R : HL} {o p tsn ssn most : Int} {fr : Bool} {B : HL} {da : Option (Nat × Nat)} {dc dg : Nat} {l : List UInt8} (hdg : dg = 0 ∨ dg = 1) (hdc : l.length ≤ dc) (hdm : dc ≤ 9223372036854775807) (hmb : ∀ H', Hs H' B → Bs H' (.sl da l.length dc dg) l) (hgood : ¬ (l.length = 0 ∨ most < 1 ∨ most > 1172)) (hbig : l.length > 16384) (hH0 : Hs H (B ++ R)) : Ev tabA spA (.fn (.func 9) [] []) [.agg [.i .u16 o, .b fr, .i .u32 p, .sl da l.length dc dg], .i .u32 tsn, .i .u16 ssn, .i .i64 most] H (fun r H' => r = .tup [.sl none 0 0 0, .i .i64 10] ∧ Hs H' (B ++ R)) := by
  refine Ev_C (F := x9) rfl ?_
  refine C_seq ?_
  refine C_region ?_
  refine O_box (z := [(.i .u16 o), (.b fr), (.i .u32 p), (.sl da l.length dc dg)]) rfl fun n1 H2 hN3 => ?_
  have hH4 := hH0.new hN3
  refine O_p (.sl none 0 0 0) (r_mv rfl) ?_
  refine O_p (.i .i64 0) (r_mv rfl) ?_
  refine O_nil ?_
  refine C_seq ?_
  refine C_seq ?_
  refine C_region ?_
  refine O_p (.p (some (n1, 3))) (r_fadd' rfl rfl) ?_
  refine O_p (.sl da l.length dc dg) (r_ld rfl hH4.get0 rfl) ?_
  refine O_p (.i .i64 (((l.length : Nat)) : Int)) (r_len rfl) ?_
  refine O_p (.b (decide ((((l.length : Nat)) : Int) = 0))) (r_eql rfl rfl) ?_
  refine O_p (.b (decide ((((l.length : Nat)) : Int) = 0))) (r_mv rfl) ?_
  refine O_gx (e := (!(decide ((((l.length : Nat)) : Int) = 0)))) (v := (.i .i64 most)) (wf rfl) (fun he => (r_mv rfl)) ?_
  refine O_gx (e := (!(decide ((((l.length : Nat)) : Int) = 0)))) (v := (.b (decide (most < 1)))) (wf rfl) (fun he => (r_lss (cond_pos he) rfl)) ?_
  refine O_p (.b ((decide ((((l.length : Nat)) : Int) = 0)) || (decide (most < 1)))) (r_pick_or rfl rfl rfl rfl) ?_
  refine O_p (.b ((decide ((((l.length : Nat)) : Int) = 0)) || (decide (most < 1)))) (r_mv rfl) ?_
  refine O_gx (e := (!((decide ((((l.length : Nat)) : Int) = 0)) || (decide (most < 1))))) (v := (.i .i64 most)) (wf rfl) (fun he => (r_mv rfl)) ?_
  refine O_gx (e := (!((decide ((((l.length : Nat)) : Int) = 0)) || (decide (most < 1))))) (v := (.b (decide (1172 < most)))) (wf rfl) (fun he => (r_gtr (cond_pos he) rfl)) ?_
  refine O_p (.b (((decide ((((l.length : Nat)) : Int) = 0)) || (decide (most < 1))) || (decide (1172 < most)))) (r_pick_or rfl rfl rfl rfl) ?_
  refine O_nil ?_
  refine C_cond (x := (((decide ((((l.length : Nat)) : Int) = 0)) || (decide (most < 1))) || (decide (1172 < most)))) rfl (fun hc5 => ?_) (fun hc5 => ?_)
  ·
    try simp only [decide_eq_true_eq, decide_eq_false_iff_not, Bool.not_eq_true', Bool.not_eq_false', Bool.and_eq_true, Bool.or_eq_true, Bool.or_eq_false_iff, Bool.not_not, Bool.and_eq_false_iff] at hc5
    exfalso; omega
  ·
    try simp only [decide_eq_true_eq, decide_eq_false_iff_not, Bool.not_eq_true', Bool.not_eq_false', Bool.and_eq_true, Bool.or_eq_true, Bool.or_eq_false_iff, Bool.not_not, Bool.and_eq_false_iff] at hc5
    refine C_skip ?_
    refine C_seq ?_
    refine C_seq ?_
    refine C_region ?_
    refine O_p (.p (some (n1, 3))) (r_fadd' rfl rfl) ?_
    refine O_p (.sl da l.length dc dg) (r_ld rfl hH4.get0 rfl) ?_
    refine O_p (.i .i64 (((l.length : Nat)) : Int)) (r_len rfl) ?_
    refine O_p (.b (decide (16384 < (((l.length : Nat)) : Int)))) (r_gtr rfl rfl) ?_
    refine O_nil ?_
    refine C_cond (x := (decide (16384 < (((l.length : Nat)) : Int)))) rfl (fun hc6 => ?_) (fun hc6 => ?_)
    ·
      try simp only [decide_eq_true_eq, decide_eq_false_iff_not, Bool.not_eq_true', Bool.not_eq_false', Bool.and_eq_true, Bool.or_eq_true, Bool.or_eq_false_iff, Bool.not_not, Bool.and_eq_false_iff] at hc6
      refine C_seq ?_
      refine C_region ?_
      refine O_p (.sl none 0 0 0) (r_mv rfl) ?_
      refine O_p (.i .i64 10) (r_mv rfl) ?_
      refine O_nil ?_
      refine C_ret ?_
      refine nx_ret ?_
      have hH7 := (hH4.sub0)
      exact ⟨.inr rfl, _, resL_cons (r_tmp (v := .sl none 0 0 0) rfl) (resL_one (r_tmp (v := .i .i64 10) rfl)), rfl, hH7⟩
    ·
      try simp only [decide_eq_true_eq, decide_eq_false_iff_not, Bool.not_eq_true', Bool.not_eq_false', Bool.and_eq_true, Bool.or_eq_true, Bool.or_eq_false_iff, Bool.not_not, Bool.and_eq_false_iff] at hc6
      exfalso; omega
theorem split9_ev {H : AH} {R : HL} (fr : Bool) (o p tsn ssn most : Int) {B : HL} {da : Option (Nat × Nat)} {dc dg : Nat} {l : List UInt8} (hdg : dg = 0 ∨ dg = 1) (hdc : l.length ≤ dc) (hdm : dc ≤ 9223372036854775807) (hmb : ∀ H', Hs H' B → Bs H' (.sl da l.length dc dg) l) (hH0 : Hs H (B ++ R)) : Ev tabA spA (.fn (.func 9) [] []) [.agg [.i .u16 o, .b fr, .i .u32 p, .sl da l.length dc dg], .i .u32 tsn, .i .u16 ssn, .i .i64 most] H (fun r H' => ∃ D v, r = .tup [v, .i .i64 (splitE l.length most)] ∧ Cks true (D ++ B) v (splitL fr o p tsn ssn most l) ∧ Hs H' (D ++ (B ++ R))) := by
  by_cases hb : l.length = 0 ∨ most < 1 ∨ most > 1172
  · have he : splitE l.length most = 1 := by unfold splitE; rw [if_pos hb]
    refine Ev.mono (split9_arg hdg hdc hdm hmb hb hH0) fun r H2 hq => ?_
    obtain ⟨rfl, hh⟩ := hq
    exact ⟨[], _, by rw [he], by unfold splitL; rw [he]; exact ⟨[], fun _ _ => .none (.inl rfl), CksR.nil⟩, hh⟩
  · by_cases hL : l.length > 16384
    · have he : splitE l.length most = 10 := by unfold splitE; rw [if_neg hb, if_pos hL]
      refine Ev.mono (split9_large hdg hdc hdm hmb hb hL hH0) fun r H2 hq => ?_
      obtain ⟨rfl, hh⟩ := hq
      exact ⟨[], _, by rw [he], by unfold splitL; rw [he]; exact ⟨[], fun _ _ => .none (.inl rfl), CksR.nil⟩, hh⟩
    · have he : splitE l.length most = 0 := by unfold splitE; rw [if_neg hb, if_neg hL]
      have hs : splitL fr o p tsn ssn most l = splitS fr o p tsn ssn most.toNat l := by unfold splitL; rw [if_pos he]
      rw [hs, he]
      obtain ⟨k, rfl⟩ : ∃ k : Nat, most = k := ⟨most.toNat, by omega⟩
      rw [Int.toNat_natCast]
      cases fr
      · exact split9_false hdg hdc hdm hmb (by omega) (by omega) (by omega) (by omega) hH0
      · exact split9_true hdg hdc hdm hmb (by omega) (by omega) (by omega) (by omega) hH0

end Go.Proofs.Ytadloppgokobeaa.E
