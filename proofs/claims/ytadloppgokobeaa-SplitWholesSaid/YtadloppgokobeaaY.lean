/- Split, walked. It bears no condition. -/
import Derived.Test.YtadloppgokobeaaV
namespace Go.Proofs.Ytadloppgokobeaa.E
set_option linter.unusedVariables false
set_option linter.unusedSimpArgs false
set_option maxHeartbeats 1000000 in
theorem split8_true {H : AH} {R : HL} {o p tsn ssn : Int} {k : Nat} {B : HL} {da : Option (Nat × Nat)} {dc dg : Nat} {l : List UInt8} (hdg : dg = 0 ∨ dg = 1) (hdc : l.length ≤ dc) (hdm : dc ≤ 9223372036854775807) (hmb : ∀ H', Hs H' B → Bs H' (.sl da l.length dc dg) l) (hl0 : 0 < l.length) (hl1 : l.length ≤ 16384) (hk0 : 0 < k) (hk1 : k ≤ 1172) (hH0 : Hs H (B ++ R)) : Ev tabA spA (.fn (.func 8) [] []) [.agg [.i .u16 o, .b true, .i .u32 p, .sl da l.length dc dg], .i .u32 tsn, .i .u16 ssn, .i .i64 k] H (fun r H' => ∃ D v, r = .tup [v, .i .i64 0] ∧ Cks true (D ++ B) v (splitS true o p tsn ssn k l) ∧ Hs H' (D ++ (B ++ R))) := by
  refine Ev_C (F := x8) rfl ?_
  refine C_seq ?_
  refine C_region ?_
  refine O_box (z := [(.i .u16 o), (.b true), (.i .u32 p), (.sl da l.length dc dg)]) rfl fun n1 H2 hN3 => ?_
  have hH4 := hH0.new hN3
  refine O_box (z := [(.i .u32 tsn)]) rfl fun n5 H6 hN7 => ?_
  have hH8 := hH4.new hN7
  refine O_p (.sl none 0 0 0) (r_mv rfl) ?_
  refine O_p (.i .i64 0) (r_mv rfl) ?_
  refine O_nil ?_
  refine C_seq ?_
  refine C_block ?_
  refine C_seq ?_
  refine C_region ?_
  refine O_p (.p (some (n1, 3))) (r_fadd' rfl rfl) ?_
  refine O_p (.sl da l.length dc dg) (r_ld rfl hH8.get1 rfl) ?_
  refine O_p (.i .i64 (((l.length : Nat)) : Int)) (r_len rfl) ?_
  refine O_p (.b (decide ((((l.length : Nat)) : Int) = 0))) (r_eql rfl rfl) ?_
  refine O_p (.b (decide ((((l.length : Nat)) : Int) = 0))) (r_mv rfl) ?_
  refine O_gx (e := (!(decide ((((l.length : Nat)) : Int) = 0)))) (v := (.i .i64 ((k : Nat) : Int))) (wf rfl) (fun he => (r_mv rfl)) ?_
  refine O_gx (e := (!(decide ((((l.length : Nat)) : Int) = 0)))) (v := (.b (decide (((k : Nat) : Int) < 1)))) (wf rfl) (fun he => (r_lss (cond_pos he) rfl)) ?_
  refine O_p (.b ((decide ((((l.length : Nat)) : Int) = 0)) || (decide (((k : Nat) : Int) < 1)))) (r_pick_or rfl rfl rfl rfl) ?_
  refine O_p (.b ((decide ((((l.length : Nat)) : Int) = 0)) || (decide (((k : Nat) : Int) < 1)))) (r_mv rfl) ?_
  refine O_gx (e := (!((decide ((((l.length : Nat)) : Int) = 0)) || (decide (((k : Nat) : Int) < 1))))) (v := (.i .i64 ((k : Nat) : Int))) (wf rfl) (fun he => (r_mv rfl)) ?_
  refine O_gx (e := (!((decide ((((l.length : Nat)) : Int) = 0)) || (decide (((k : Nat) : Int) < 1))))) (v := (.b (decide (1172 < ((k : Nat) : Int))))) (wf rfl) (fun he => (r_gtr (cond_pos he) rfl)) ?_
  refine O_p (.b (((decide ((((l.length : Nat)) : Int) = 0)) || (decide (((k : Nat) : Int) < 1))) || (decide (1172 < ((k : Nat) : Int))))) (r_pick_or rfl rfl rfl rfl) ?_
  refine O_p (.b (((decide ((((l.length : Nat)) : Int) = 0)) || (decide (((k : Nat) : Int) < 1))) || (decide (1172 < ((k : Nat) : Int))))) (r_mv rfl) ?_
  refine O_nil ?_
  refine C_cond (x := (((decide ((((l.length : Nat)) : Int) = 0)) || (decide (((k : Nat) : Int) < 1))) || (decide (1172 < ((k : Nat) : Int))))) rfl (fun hc9 => ?_) (fun hc9 => ?_)
  ·
    try simp only [decide_eq_true_eq, decide_eq_false_iff_not, Bool.not_eq_true', Bool.not_eq_false', Bool.and_eq_true, Bool.or_eq_true, Bool.or_eq_false_iff, Bool.not_not, Bool.and_eq_false_iff] at hc9
    exfalso; omega
  ·
    try simp only [decide_eq_true_eq, decide_eq_false_iff_not, Bool.not_eq_true', Bool.not_eq_false', Bool.and_eq_true, Bool.or_eq_true, Bool.or_eq_false_iff, Bool.not_not, Bool.and_eq_false_iff] at hc9
    refine C_seq ?_
    refine C_region ?_
    refine O_p (.p (some (n1, 3))) (r_fadd' rfl rfl) ?_
    refine O_p (.sl da l.length dc dg) (r_ld rfl hH8.get1 rfl) ?_
    refine O_p (.i .i64 (((l.length : Nat)) : Int)) (r_len rfl) ?_
    refine O_p (.b (decide (16384 < (((l.length : Nat)) : Int)))) (r_gtr rfl rfl) ?_
    refine O_p (.b (decide (16384 < (((l.length : Nat)) : Int)))) (r_mv rfl) ?_
    refine O_nil ?_
    refine C_cond (x := (decide (16384 < (((l.length : Nat)) : Int)))) rfl (fun hc10 => ?_) (fun hc10 => ?_)
    ·
      try simp only [decide_eq_true_eq, decide_eq_false_iff_not, Bool.not_eq_true', Bool.not_eq_false', Bool.and_eq_true, Bool.or_eq_true, Bool.or_eq_false_iff, Bool.not_not, Bool.and_eq_false_iff] at hc10
      exfalso; omega
    ·
      try simp only [decide_eq_true_eq, decide_eq_false_iff_not, Bool.not_eq_true', Bool.not_eq_false', Bool.and_eq_true, Bool.or_eq_true, Bool.or_eq_false_iff, Bool.not_not, Bool.and_eq_false_iff] at hc10
      refine C_skip ?_
      refine C_seq ?_
      refine C_region ?_
      refine O_p (.p (some (n1, 0))) (r_fadd' rfl rfl) ?_
      refine O_p (.i .u16 o) (r_ld rfl hH8.get1 rfl) ?_
      refine O_p (.i .u16 ssn) (r_mv rfl) ?_
      refine O_p (.p (some (n1, 2))) (r_fadd' rfl rfl) ?_
      refine O_p (.i .u32 p) (r_ld rfl hH8.get1 rfl) ?_
      refine O_p (.agg [(.i .u8 0), (.i .u8 0), (.i .u32 0), (.i .u32 0), (.i .u16 o), (.i .u16 ssn), (.i .u32 p), (.sl none 0 0 0), (.sl none 0 0 0), (.sl none 0 0 0), (.sl none 0 0 0), (.sl none 0 0 0)]) (r_build rfl) ?_
      refine O_alloc fun n11 H12 hN13 => ?_
      have hH14 := hH8.new hN13
      refine O_store (vs := [(.i .u8 0), (.i .u8 0), (.i .u32 0), (.i .u32 0), (.i .u16 o), (.i .u16 ssn), (.i .u32 p), (.sl none 0 0 0), (.sl none 0 0 0), (.sl none 0 0 0), (.sl none 0 0 0), (.sl none 0 0 0)]) (c' := [(.i .u8 0), (.i .u8 0), (.i .u32 0), (.i .u32 0), (.i .u16 o), (.i .u16 ssn), (.i .u32 p), (.sl none 0 0 0), (.sl none 0 0 0), (.sl none 0 0 0), (.sl none 0 0 0), (.sl none 0 0 0)]) rfl (by rfl) hH14.get0 rfl (List.cons_ne_nil _ _) (Nat.le_of_ble_eq_true rfl) rfl fun H15 hW16 => ?_
      have hH17 := hH14.wr0 hW16
      refine O_nil ?_
      refine C_seq ?_
      refine C_seq ?_
      refine C_region ?_
      refine O_p (.p (some (n1, 1))) (r_fadd' rfl rfl) ?_
      refine O_p (.b true) (r_ld rfl hH17.get2 rfl) ?_
      refine O_nil ?_
      refine C_cond (x := true) rfl (fun _ => ?_) (fun h => by cases h)
      refine C_region ?_
      refine O_p (.p (some (n11, 1))) (r_fadd' rfl rfl) ?_
      refine O_store (vs := [(.i .u8 4)]) (c' := [(.i .u8 0), (.i .u8 4), (.i .u32 0), (.i .u32 0), (.i .u16 o), (.i .u16 ssn), (.i .u32 p), (.sl none 0 0 0), (.sl none 0 0 0), (.sl none 0 0 0), (.sl none 0 0 0), (.sl none 0 0 0)]) rfl (by rfl) hH17.get0 rfl (List.cons_ne_nil _ _) (Nat.le_of_ble_eq_true rfl) rfl fun H18 hW19 => ?_
      have hH20 := hH17.wr0 hW19
      refine O_p (.p (some (n11, 5))) (r_fadd' rfl rfl) ?_
      refine O_store (vs := [(.i .u16 0)]) (c' := [(.i .u8 0), (.i .u8 4), (.i .u32 0), (.i .u32 0), (.i .u16 o), (.i .u16 0), (.i .u32 p), (.sl none 0 0 0), (.sl none 0 0 0), (.sl none 0 0 0), (.sl none 0 0 0), (.sl none 0 0 0)]) rfl (by rfl) hH20.get0 rfl (List.cons_ne_nil _ _) (Nat.le_of_ble_eq_true rfl) rfl fun H21 hW22 => ?_
      have hH23 := hH20.wr0 hW22
      refine O_nil ?_
      refine C_seq ?_
      refine C_region ?_
      refine O_alloc fun n24 H25 hN26 => ?_
      have hH27 := hH23.new hN26
      refine O_nil ?_
      refine C_seq ?_
      refine C_seq ?_
      refine C_region ?_
      refine O_p (.p (some (n1, 3))) (r_fadd' rfl rfl) ?_
      refine O_p (.sl da l.length dc dg) (r_ld rfl hH27.get3 rfl) ?_
      refine O_p (.i .i64 ((k : Nat) : Int)) (r_mv rfl) ?_
      refine O_call (Ev.mono (chunk_ev (by omega) hH27) fun v28 H29 hq30 => ?_)
      obtain ⟨b31, b32, rfl, hH33⟩ := hq30
      refine O_nil ?_
      refine C_block ?_
      refine C_rangeFn (g := 21) (first := []) (cap := [.p (some (b31, 0)), .p (some (b32, 0))]) rfl fun Tx L HLL hTx hNL0 => ?_
      obtain ⟨LB, hLB, hNL⟩ := hNL0.loop
      have hH34 := hH33.new hNL
      have hH35 := (((((((hH34.top5).top5).top5).top3).top7).top6).top6)
      have hH36 := (hH35.sub7)
      refine Ev.mono (chunk1_ev hdg hdc hdm hmb (by omega) (by omega) (by omega) (fun j HH => ∃ (ov : AV) (co : List AV) (rows : List (List AV)) (DD : HL) (xa xd : AV), Sq 12 ov co rows.flatten ∧ CksR true DD rows (baseL 4 0 o p tsn k l j) ∧ Hs HH ([(b31, some (.cells ([(.sl da l.length dc dg)]) true))] ++ ([(b32, some (.cells ([(.i .i64 ((k : Nat) : Int))]) true))] ++ (B ++ ([(L, some LB)] ++ ([(n24, some (.cells ([ov]) true))] ++ ([(n11, some (.cells ([(.i .u8 0), (.i .u8 4), xa, (.i .u32 0), (.i .u16 o), (.i .u16 0), (.i .u32 p), (.sl none 0 0 0), (.sl none 0 0 0), (.sl none 0 0 0), (.sl none 0 0 0), xd]) true))] ++ ([(n5, some (.cells ([(.i .u32 tsn)]) true))] ++ ((qseg ov co) ++ (DD ++ (R))))))))))) ?_ ?_ ?_ ?_) fun v2 HE hE => ?_
      · exact ⟨.sl none 0 0 0, [], [], [], _, _, Sq.nil, CksR.nil, hH36⟩
      · rintro j H1 ⟨ov, co, rows, DD, xa, xd, hsq, hcr, hh⟩
        exact ⟨_, hh⟩
      · rintro j H1 H2 hn hk2 hok ⟨ov, co, rows, DD, xa, xd, hsq, hcr, hh⟩
        exact ⟨ov, co, rows, DD, xa, xd, hsq, hcr, hh.keep hn hk2 hok⟩
      ·
        rintro j HH v hj ⟨ov, co, rows, DD, xa, xd, hsq, hcr, hHb⟩ ⟨ba, bn, hbn, rfl, hpb⟩
        subst hbn
        have hpl := pieceD_len (k := k) (l := l) (i := j)
        have hjk := (nPcs_lt (n := l.length) (i := j) (by omega : 0 < k)).1 hj
        have hjb : j ≤ 16384 := by have := Nat.le_mul_of_pos_right j (by omega : 0 < k); omega
        refine Ev_yield ((hHb.get3).trans (congrArg some hLB)) rfl ?_
        refine C.te ?_ (hTx.cons 45 _)
        refine C_region ?_
        refine O_p (.sl ba (pieceD k l j).length (pieceD k l j).length 0) (r_mv rfl) ?_
        refine O_nil ?_
        refine ⟨rfl, _, _, _, _, _, (hHb.get3).trans (congrArg some hLB), fun H2 hWb => ?_⟩
        have hH37 := hHb.wr3 hWb
        refine C_block ?_
        refine C_seq ?_
        refine C_draw fun b38 H39 hbase40 hA41 => ?_
        have hH42 := hH37.keep (by have := hA41.1; omega) (fun q _ => hA41.2 q) ((hH37.old).aside hA41).ok
        refine D_l (v := (.sl ba (pieceD k l j).length (pieceD k l j).length 0)) rfl rfl rfl (r_mv rfl) ?_
        refine D_r (v := (.i .u32 tsn)) rfl rfl rfl (r_ld rfl hH42.get6 rfl) ?_
        refine D_r (v := ov) rfl rfl rfl (r_ld rfl hH42.get4 rfl) ?_
        refine D_l (v := (.i .i64 (((j : Nat)) : Int))) rfl rfl rfl (by exact (by exact r_lenOf rfl (hsq.lenOf (by rw [flat_len hcr.lens, hcr.1, baseL_len]) (by decide)) hsq.isSl)) ?_
        refine D_l (v := (.i .u32 ((j : Nat) : Int))) rfl rfl rfl (by exact (r_cint' rfl (by rw [wrap_u32]; omega))) ?_
        refine D_l (v := (.i .u32 ((tsn + ((j : Nat) : Int)) % 4294967296))) rfl rfl rfl (by exact (by rw [← show IntKind.u32.wrap (tsn + ((j : Nat) : Int)) = (tsn + ((j : Nat) : Int)) % 4294967296 from by rw [wrap_u32]]; exact r_bin rfl rfl rfl)) ?_
        refine D_l (v := (.p (some (n11, 2)))) rfl rfl rfl (r_fadd' rfl rfl) ?_
        refine D_call (Ev.mono (clone_ev (tab := tabA) (sp := spA) rfl hH42.ok (.inl rfl) (hpb _ hH42.top2.fst) (by first | omega | (simp only [List.length_take, List.length_drop, List.length_append, List.length_cons, List.length_nil, beN_len] <;> omega)) (by first | omega | (simp only [List.length_take, List.length_drop, List.length_append, List.length_cons, List.length_nil, beN_len] <;> omega)) (by first | omega | (simp only [List.length_take, List.length_drop, List.length_append, List.length_cons, List.length_nil, beN_len] <;> omega))) fun v43 H44 hq45 => ?_)
        obtain ⟨hM46, hK47⟩ := hq45
        obtain ⟨qa48, qg49, rfl, hqg50, _⟩ := hM46.own.bs
        have hH53 := Hs.ofMine hH42 hM46 hK47
        have hSq52 := Sq.ofMine hH42 hM46 hK47
        refine And.intro (And.intro (Or.inr (look_run rfl rfl (r_ld rfl hH53.get5 rfl))) (And.intro (Or.inr (look_run rfl rfl (r_ld rfl hH53.get7 rfl))) True.intro)) ?_
        refine D_store (vs := [(.i .u32 ((tsn + ((j : Nat) : Int)) % 4294967296))]) (c' := [(.i .u8 0), (.i .u8 4), (.i .u32 ((tsn + ((j : Nat) : Int)) % 4294967296)), (.i .u32 0), (.i .u16 o), (.i .u16 0), (.i .u32 p), (.sl none 0 0 0), (.sl none 0 0 0), (.sl none 0 0 0), (.sl none 0 0 0), xd]) rfl (by rfl) hH53.get6 rfl (List.cons_ne_nil _ _) (Nat.le_of_ble_eq_true rfl) rfl fun H54 hW55 => ?_
        have hH56 := hH53.wr6 hW55
        refine And.intro (And.intro (Or.inl rfl) (And.intro (Or.inl rfl) True.intro)) ?_
        refine D_l (v := (.p (some (n11, 11)))) rfl rfl rfl (r_fadd' rfl rfl) ?_
        refine D_store (vs := [(.sl qa48 ((pieceD k l j)).length ((pieceD k l j)).length qg49)]) (c' := [(.i .u8 0), (.i .u8 4), (.i .u32 ((tsn + ((j : Nat) : Int)) % 4294967296)), (.i .u32 0), (.i .u16 o), (.i .u16 0), (.i .u32 p), (.sl none 0 0 0), (.sl none 0 0 0), (.sl none 0 0 0), (.sl none 0 0 0), (.sl qa48 ((pieceD k l j)).length ((pieceD k l j)).length qg49)]) rfl (by rfl) hH56.get6 rfl (List.cons_ne_nil _ _) (Nat.le_of_ble_eq_true rfl) rfl fun H57 hW58 => ?_
        have hH59 := hH56.wr6 hW58
        refine And.intro True.intro ?_
        refine D_nil ?_
        refine C_region ?_
        refine O_p ov (r_ld rfl hH59.get5 rfl) ?_
        refine O_p (.agg [(.i .u8 0), (.i .u8 4), (.i .u32 ((tsn + ((j : Nat) : Int)) % 4294967296)), (.i .u32 0), (.i .u16 o), (.i .u16 0), (.i .u32 p), (.sl none 0 0 0), (.sl none 0 0 0), (.sl none 0 0 0), (.sl none 0 0 0), (.sl qa48 ((pieceD k l j)).length ((pieceD k l j)).length qg49)]) (r_ldA rfl hH59.get6 rfl) ?_
        refine O_bslice (c := [(.i .u8 0), (.i .u8 4), (.i .u32 ((tsn + ((j : Nat) : Int)) % 4294967296)), (.i .u32 0), (.i .u16 o), (.i .u16 0), (.i .u32 p), (.sl none 0 0 0), (.sl none 0 0 0), (.sl none 0 0 0), (.sl none 0 0 0), (.sl qa48 ((pieceD k l j)).length ((pieceD k l j)).length qg49)]) rfl fun n60 H61 hN62 => ?_
        have hH63 := hH59.new hN62
        refine O_qh (by exact r_appq (n := j) (k := 1) (new := [(.i .u8 0), (.i .u8 4), (.i .u32 ((tsn + ((j : Nat) : Int)) % 4294967296)), (.i .u32 0), (.i .u16 o), (.i .u16 0), (.i .u32 p), (.sl none 0 0 0), (.sl none 0 0 0), (.sl none 0 0 0), (.sl none 0 0 0), (.sl qa48 ((pieceD k l j)).length ((pieceD k l j)).length qg49)]) hH63.top9 hsq rfl rfl rfl (src_blk hH63.get0 (by rfl)) rfl (by decide) (by decide) (by rw [flat_len hcr.lens, hcr.1, baseL_len]) (by first | omega | (simp only [List.length_take, List.length_drop, List.length_append, List.length_cons, List.length_nil, beN_len] <;> omega))) fun o64 H65 hA67 => ?_
        obtain ⟨c66, hA67, hH68⟩ := hA67
        obtain ⟨qa69, ql70, qc71, qg72, rfl⟩ := hA67.isSl
        refine O_store (vs := [(.sl qa69 ql70 qc71 qg72)]) (c' := [(.sl qa69 ql70 qc71 qg72)]) rfl (by rfl) hH68.get7 rfl (List.cons_ne_nil _ _) (Nat.le_of_ble_eq_true rfl) rfl fun H73 hW74 => ?_
        have hH75 := hH68.wr7 hW74
        refine O_nil ?_
        refine ⟨_, _, _, _, _, (hH75.get6), fun H4 hWr => ?_⟩
        have hH76 := Hs.cong6 (B := [(L, some LB)]) (hH75.wr6 hWr) (by rw [hLB]; rfl)
        have hH77 := (hH76.sub1)
        have hH78 := ((hH77.top1).top9)
        have hH79 := Hs.unassoc hH78
        have hH80 := ((((((((hH79.top1).top8).top8).top8).top8).top8).top8).top8)
        exact ⟨rfl, (.sl qa69 ql70 qc71 qg72), c66, rows ++ [[(.i .u8 0), (.i .u8 4), (.i .u32 ((tsn + ((j : Nat) : Int)) % 4294967296)), (.i .u32 0), (.i .u16 o), (.i .u16 0), (.i .u32 p), (.sl none 0 0 0), (.sl none 0 0 0), (.sl none 0 0 0), (.sl none 0 0 0), (.sl qa48 ((pieceD k l j)).length ((pieceD k l j)).length qg49)]], (DD ++ (qseg (.sl qa48 ((pieceD k l j)).length ((pieceD k l j)).length qg49) (bcells (pieceD k l j)))), _, _, by have h := hA67; rw [flat_snoc] at h; exact h, by rw [baseL_succ]; exact (hcr.mono fun _ hh => hh.fst).snoc ⟨0, _, _, _, _, _, _, _, rfl, hqg50, Nat.le_refl _, by omega, baseC_ok (by omega) (by omega), fun _ => ⟨rfl, rfl, rfl, rfl, rfl⟩, fun H' hh => Sq.bs (R := []) hSq52 (by rw [List.append_nil]; exact hh.sub)⟩, hH80⟩
      obtain ⟨ov, co, rows, DD, xa, xd, hsq, hcr, hHE⟩ := hE
      refine ⟨.ready, none, _, _, _, _, (hHE.get3).trans (congrArg some hLB), by decide, fun HD hD => ?_⟩
      have hH81 := hHE.drp3 hD
      have hH82 := ((hH81.sub0).sub0)
      have hq0 : 0 < (nPcs l.length k) := nPcs_pos (by omega) (by omega)
      have hjk := (nPcs_lt (n := l.length) (i := (nPcs l.length k) - 1) (by omega : 0 < k)).1 (by omega)
      have hjb : (nPcs l.length k) ≤ 16385 := by have := Nat.le_mul_of_pos_right ((nPcs l.length k) - 1) (by omega : 0 < k); omega
      obtain ⟨rA, hrA, hrowA⟩ := hcr.2 0 _ (baseL_at hq0)
      obtain ⟨bA, blA, duA, skA, paA, aA, capA, gA, rfl, _⟩ := id hrowA
      refine C_seq ?_
      refine C_region ?_
      refine O_p ov (r_ld rfl hH82.get1 rfl) ?_
      refine O_q (by exact Sq.cell hsq hcr.lens hH82.top4 rfl (i := 0) rfl (r := [(.i .u8 (baseC 4 0 o p tsn k l 0).k), (.i .u8 4), (.i .u32 (baseC 4 0 o p tsn k l 0).a), (.i .u32 bA), (.i .u16 (baseC 4 0 o p tsn k l 0).o), (.i .u16 (baseC 4 0 o p tsn k l 0).i), (.i .u32 (baseC 4 0 o p tsn k l 0).p), blA, duA, skA, paA, (.sl aA (baseC 4 0 o p tsn k l 0).d.length capA gA)]) hrA (by decide)) fun v84 hv83 => ?_
      obtain ⟨rb85, ro86, rfl, hrg87, hrt88, hrb89, hput90, hqs91⟩ := hv83
      refine O_p (.p (some (rb85, (ro86 + 1)))) (r_fadd' rfl rfl) ?_
      refine O_p (.i .u8 4) (r_ldR (q := 1) rfl ⟨_, _, hrg87, hrt88⟩ rfl) ?_
      refine O_p (.i .u8 (4 + 2)) (r_bin rfl rfl rfl) ?_
      refine O_q (by exact Sq.cell hsq hcr.lens hH82.top4 rfl (i := 0) rfl (r := [(.i .u8 (baseC 4 0 o p tsn k l 0).k), (.i .u8 4), (.i .u32 (baseC 4 0 o p tsn k l 0).a), (.i .u32 bA), (.i .u16 (baseC 4 0 o p tsn k l 0).o), (.i .u16 (baseC 4 0 o p tsn k l 0).i), (.i .u32 (baseC 4 0 o p tsn k l 0).p), blA, duA, skA, paA, (.sl aA (baseC 4 0 o p tsn k l 0).d.length capA gA)]) hrA (by decide)) fun v93 hv92 => ?_
      obtain ⟨rb94, ro95, rfl, hrg96, hrt97, hrb98, hput99, hqs100⟩ := hv92
      refine O_p (.p (some (rb94, (ro95 + 1)))) (r_fadd' rfl rfl) ?_
      refine O_store (vs := [(.i .u8 (4 + 2))]) (c' := (putAt co (ro95 + 1) [(.i .u8 (4 + 2))])) rfl (by rfl) hrg96 rfl (List.cons_ne_nil _ _) (by have := hrb98; show _ + 1 ≤ _; omega) rfl fun H101 hW102 => ?_
      have hH104 := Hs.cong4 (Hs.wr4 (Hs.cong4 hH82 (hqs100 _)) hW102) (hqs100 _).symm
      have hSq103 := hput99 1 [(.i .u8 (4 + 2))] [(.i .u8 (baseC 4 0 o p tsn k l 0).k), (.i .u8 (4 + 2)), (.i .u32 (baseC 4 0 o p tsn k l 0).a), (.i .u32 bA), (.i .u16 (baseC 4 0 o p tsn k l 0).o), (.i .u16 (baseC 4 0 o p tsn k l 0).i), (.i .u32 (baseC 4 0 o p tsn k l 0).p), blA, duA, skA, paA, (.sl aA (baseC 4 0 o p tsn k l 0).d.length capA gA)] (by decide) rfl
      have hcr1 : CksR true DD (rows.set 0 [(.i .u8 (baseC 4 0 o p tsn k l 0).k), (.i .u8 (4 + 2)), (.i .u32 (baseC 4 0 o p tsn k l 0).a), (.i .u32 bA), (.i .u16 (baseC 4 0 o p tsn k l 0).o), (.i .u16 (baseC 4 0 o p tsn k l 0).i), (.i .u32 (baseC 4 0 o p tsn k l 0).p), blA, duA, skA, paA, (.sl aA (baseC 4 0 o p tsn k l 0).d.length capA gA)]) _ := hcr.set (k := 0) (hrowA.flag (f := 4 + 2) (by omega))
      refine O_nil ?_
      refine C_seq ?_
      by_cases hq1 : (nPcs l.length k) = 1
      ·
        refine C_region ?_
        refine O_p ov (r_ld rfl hH104.get1 rfl) ?_
        refine O_p ov (r_ld rfl hH104.get1 rfl) ?_
        refine O_p (.i .i64 ((((nPcs l.length k) : Nat)) : Int)) (by exact (by exact r_lenOf rfl (hSq103.lenOf (by rw [flat_len hcr1.lens, hcr1.1, List.length_set, baseL_len]) (by decide)) hSq103.isSl)) ?_
        refine O_p (.i .i64 (((((nPcs l.length k) - 1) : Nat)) : Int)) (by exact (r_subn (a := (nPcs l.length k)) (b := 1) rfl rfl (by omega) (by omega))) ?_
        refine O_q (by exact Sq.cell hSq103 hcr1.lens hH104.top4 rfl (i := ((nPcs l.length k) - 1)) rfl (r := [(.i .u8 (baseC 4 0 o p tsn k l 0).k), (.i .u8 (4 + 2)), (.i .u32 (baseC 4 0 o p tsn k l 0).a), (.i .u32 bA), (.i .u16 (baseC 4 0 o p tsn k l 0).o), (.i .u16 (baseC 4 0 o p tsn k l 0).i), (.i .u32 (baseC 4 0 o p tsn k l 0).p), blA, duA, skA, paA, (.sl aA (baseC 4 0 o p tsn k l 0).d.length capA gA)]) (by rw [show (nPcs l.length k) - 1 = 0 by omega]; exact List.getElem?_set_self (by rw [hcr.1, baseL_len]; omega)) (by decide)) fun v106 hv105 => ?_
        obtain ⟨rb107, ro108, rfl, hrg109, hrt110, hrb111, hput112, hqs113⟩ := hv105
        refine O_p (.p (some (rb107, (ro108 + 1)))) (r_fadd' rfl rfl) ?_
        refine O_p (.i .u8 (4 + 2)) (r_ldR (q := 1) rfl ⟨_, _, hrg109, hrt110⟩ rfl) ?_
        refine O_p (.i .u8 (4 + 3)) (r_bin rfl rfl rfl) ?_
        refine O_q (by exact Sq.cell hSq103 hcr1.lens hH104.top4 rfl (i := ((nPcs l.length k) - 1)) rfl (r := [(.i .u8 (baseC 4 0 o p tsn k l 0).k), (.i .u8 (4 + 2)), (.i .u32 (baseC 4 0 o p tsn k l 0).a), (.i .u32 bA), (.i .u16 (baseC 4 0 o p tsn k l 0).o), (.i .u16 (baseC 4 0 o p tsn k l 0).i), (.i .u32 (baseC 4 0 o p tsn k l 0).p), blA, duA, skA, paA, (.sl aA (baseC 4 0 o p tsn k l 0).d.length capA gA)]) (by rw [show (nPcs l.length k) - 1 = 0 by omega]; exact List.getElem?_set_self (by rw [hcr.1, baseL_len]; omega)) (by decide)) fun v115 hv114 => ?_
        obtain ⟨rb116, ro117, rfl, hrg118, hrt119, hrb120, hput121, hqs122⟩ := hv114
        refine O_p (.p (some (rb116, (ro117 + 1)))) (r_fadd' rfl rfl) ?_
        refine O_store (vs := [(.i .u8 (4 + 3))]) (c' := (putAt (putAt co (ro95 + 1) [(.i .u8 (4 + 2))]) (ro117 + 1) [(.i .u8 (4 + 3))])) rfl (by rfl) hrg118 rfl (List.cons_ne_nil _ _) (by have := hrb120; show _ + 1 ≤ _; omega) rfl fun H123 hW124 => ?_
        have hH126 := Hs.cong4 (Hs.wr4 (Hs.cong4 hH104 (hqs122 _)) hW124) (hqs122 _).symm
        have hSq125 := hput121 1 [(.i .u8 (4 + 3))] [(.i .u8 (baseC 4 0 o p tsn k l 0).k), (.i .u8 (4 + 3)), (.i .u32 (baseC 4 0 o p tsn k l 0).a), (.i .u32 bA), (.i .u16 (baseC 4 0 o p tsn k l 0).o), (.i .u16 (baseC 4 0 o p tsn k l 0).i), (.i .u32 (baseC 4 0 o p tsn k l 0).p), blA, duA, skA, paA, (.sl aA (baseC 4 0 o p tsn k l 0).d.length capA gA)] (by decide) rfl
        have hcr2 : CksR true DD ((rows.set 0 [(.i .u8 (baseC 4 0 o p tsn k l 0).k), (.i .u8 (4 + 2)), (.i .u32 (baseC 4 0 o p tsn k l 0).a), (.i .u32 bA), (.i .u16 (baseC 4 0 o p tsn k l 0).o), (.i .u16 (baseC 4 0 o p tsn k l 0).i), (.i .u32 (baseC 4 0 o p tsn k l 0).p), blA, duA, skA, paA, (.sl aA (baseC 4 0 o p tsn k l 0).d.length capA gA)]).set ((nPcs l.length k) - 1) [(.i .u8 (baseC 4 0 o p tsn k l 0).k), (.i .u8 (4 + 3)), (.i .u32 (baseC 4 0 o p tsn k l 0).a), (.i .u32 bA), (.i .u16 (baseC 4 0 o p tsn k l 0).o), (.i .u16 (baseC 4 0 o p tsn k l 0).i), (.i .u32 (baseC 4 0 o p tsn k l 0).p), blA, duA, skA, paA, (.sl aA (baseC 4 0 o p tsn k l 0).d.length capA gA)]) _ := hcr1.set (k := (nPcs l.length k) - 1) ((hrowA.flag (f := 4 + 2) (by omega)).flag (f := 4 + 3) (by omega))
        refine O_nil ?_
        refine C_seq ?_
        refine C_region ?_
        refine O_p ov (r_ld rfl hH126.get1 rfl) ?_
        refine O_p ov (r_mv rfl) ?_
        refine O_p (.i .i64 0) (r_mv rfl) ?_
        refine O_nil ?_
        refine C_ret ?_
        have hH127 := ((hH126.top5).top5)
        have hH128 := (((hH127.sub3).sub3).sub3)
        have hH129 := (((hH128.top2).top2).top2)
        have hH130 := Hs.unassoc hH129
        have hsp := split_patch (fr := true) (o := o) (p := p) (tsn := tsn) (ssn := ssn) (l := l) (k := k) rfl hq0 (f0 := 4) (i0 := 0) rfl rfl
        rw [if_pos hq1] at hsp
        have h10 : (nPcs l.length k) - 1 = 0 := by omega
        have hcs : CksR true DD ((rows.set 0 [(.i .u8 (baseC 4 0 o p tsn k l 0).k), (.i .u8 (4 + 2)), (.i .u32 (baseC 4 0 o p tsn k l 0).a), (.i .u32 bA), (.i .u16 (baseC 4 0 o p tsn k l 0).o), (.i .u16 (baseC 4 0 o p tsn k l 0).i), (.i .u32 (baseC 4 0 o p tsn k l 0).p), blA, duA, skA, paA, (.sl aA (baseC 4 0 o p tsn k l 0).d.length capA gA)]).set 0 [(.i .u8 (baseC 4 0 o p tsn k l 0).k), (.i .u8 (4 + 3)), (.i .u32 (baseC 4 0 o p tsn k l 0).a), (.i .u32 bA), (.i .u16 (baseC 4 0 o p tsn k l 0).o), (.i .u16 (baseC 4 0 o p tsn k l 0).i), (.i .u32 (baseC 4 0 o p tsn k l 0).p), blA, duA, skA, paA, (.sl aA (baseC 4 0 o p tsn k l 0).d.length capA gA)]) (splitS true o p tsn ssn k l) := by rw [← hsp]; rw [h10]; rw [h10] at hcr2; exact hcr2
        exact ⟨.inr rfl, _, resL_cons (r_tmp (v := ov) rfl) (resL_one (r_tmp (v := .i .i64 0) rfl)), _, ov, rfl, (Cks.sq hSq125 (by rw [h10]; exact hcs)).mono fun _ hh => hh.fst, hH130⟩
      ·
        refine C_region ?_
        refine O_p ov (r_ld rfl hH104.get1 rfl) ?_
        refine O_p ov (r_ld rfl hH104.get1 rfl) ?_
        refine O_p (.i .i64 ((((nPcs l.length k) : Nat)) : Int)) (by exact (by exact r_lenOf rfl (hSq103.lenOf (by rw [flat_len hcr1.lens, hcr1.1, List.length_set, baseL_len]) (by decide)) hSq103.isSl)) ?_
        refine O_p (.i .i64 (((((nPcs l.length k) - 1) : Nat)) : Int)) (by exact (r_subn (a := (nPcs l.length k)) (b := 1) rfl rfl (by omega) (by omega))) ?_
        obtain ⟨rB, hrB, hrowB⟩ := hcr.2 ((nPcs l.length k) - 1) _ (baseL_at (by omega))
        obtain ⟨bB, blB, duB, skB, paB, aB, capB, gB, rfl, _⟩ := id hrowB
        refine O_q (by exact Sq.cell hSq103 hcr1.lens hH104.top4 rfl (i := ((nPcs l.length k) - 1)) rfl (r := [(.i .u8 (baseC 4 0 o p tsn k l ((nPcs l.length k) - 1)).k), (.i .u8 4), (.i .u32 (baseC 4 0 o p tsn k l ((nPcs l.length k) - 1)).a), (.i .u32 bB), (.i .u16 (baseC 4 0 o p tsn k l ((nPcs l.length k) - 1)).o), (.i .u16 (baseC 4 0 o p tsn k l ((nPcs l.length k) - 1)).i), (.i .u32 (baseC 4 0 o p tsn k l ((nPcs l.length k) - 1)).p), blB, duB, skB, paB, (.sl aB (baseC 4 0 o p tsn k l ((nPcs l.length k) - 1)).d.length capB gB)]) ((List.getElem?_set_ne (by omega)).trans hrB) (by decide)) fun v132 hv131 => ?_
        obtain ⟨rb133, ro134, rfl, hrg135, hrt136, hrb137, hput138, hqs139⟩ := hv131
        refine O_p (.p (some (rb133, (ro134 + 1)))) (r_fadd' rfl rfl) ?_
        refine O_p (.i .u8 4) (r_ldR (q := 1) rfl ⟨_, _, hrg135, hrt136⟩ rfl) ?_
        refine O_p (.i .u8 (4 + 1)) (r_bin rfl rfl rfl) ?_
        refine O_q (by exact Sq.cell hSq103 hcr1.lens hH104.top4 rfl (i := ((nPcs l.length k) - 1)) rfl (r := [(.i .u8 (baseC 4 0 o p tsn k l ((nPcs l.length k) - 1)).k), (.i .u8 4), (.i .u32 (baseC 4 0 o p tsn k l ((nPcs l.length k) - 1)).a), (.i .u32 bB), (.i .u16 (baseC 4 0 o p tsn k l ((nPcs l.length k) - 1)).o), (.i .u16 (baseC 4 0 o p tsn k l ((nPcs l.length k) - 1)).i), (.i .u32 (baseC 4 0 o p tsn k l ((nPcs l.length k) - 1)).p), blB, duB, skB, paB, (.sl aB (baseC 4 0 o p tsn k l ((nPcs l.length k) - 1)).d.length capB gB)]) ((List.getElem?_set_ne (by omega)).trans hrB) (by decide)) fun v141 hv140 => ?_
        obtain ⟨rb142, ro143, rfl, hrg144, hrt145, hrb146, hput147, hqs148⟩ := hv140
        refine O_p (.p (some (rb142, (ro143 + 1)))) (r_fadd' rfl rfl) ?_
        refine O_store (vs := [(.i .u8 (4 + 1))]) (c' := (putAt (putAt co (ro95 + 1) [(.i .u8 (4 + 2))]) (ro143 + 1) [(.i .u8 (4 + 1))])) rfl (by rfl) hrg144 rfl (List.cons_ne_nil _ _) (by have := hrb146; show _ + 1 ≤ _; omega) rfl fun H149 hW150 => ?_
        have hH152 := Hs.cong4 (Hs.wr4 (Hs.cong4 hH104 (hqs148 _)) hW150) (hqs148 _).symm
        have hSq151 := hput147 1 [(.i .u8 (4 + 1))] [(.i .u8 (baseC 4 0 o p tsn k l ((nPcs l.length k) - 1)).k), (.i .u8 (4 + 1)), (.i .u32 (baseC 4 0 o p tsn k l ((nPcs l.length k) - 1)).a), (.i .u32 bB), (.i .u16 (baseC 4 0 o p tsn k l ((nPcs l.length k) - 1)).o), (.i .u16 (baseC 4 0 o p tsn k l ((nPcs l.length k) - 1)).i), (.i .u32 (baseC 4 0 o p tsn k l ((nPcs l.length k) - 1)).p), blB, duB, skB, paB, (.sl aB (baseC 4 0 o p tsn k l ((nPcs l.length k) - 1)).d.length capB gB)] (by decide) rfl
        have hcr2 : CksR true DD ((rows.set 0 [(.i .u8 (baseC 4 0 o p tsn k l 0).k), (.i .u8 (4 + 2)), (.i .u32 (baseC 4 0 o p tsn k l 0).a), (.i .u32 bA), (.i .u16 (baseC 4 0 o p tsn k l 0).o), (.i .u16 (baseC 4 0 o p tsn k l 0).i), (.i .u32 (baseC 4 0 o p tsn k l 0).p), blA, duA, skA, paA, (.sl aA (baseC 4 0 o p tsn k l 0).d.length capA gA)]).set ((nPcs l.length k) - 1) [(.i .u8 (baseC 4 0 o p tsn k l ((nPcs l.length k) - 1)).k), (.i .u8 (4 + 1)), (.i .u32 (baseC 4 0 o p tsn k l ((nPcs l.length k) - 1)).a), (.i .u32 bB), (.i .u16 (baseC 4 0 o p tsn k l ((nPcs l.length k) - 1)).o), (.i .u16 (baseC 4 0 o p tsn k l ((nPcs l.length k) - 1)).i), (.i .u32 (baseC 4 0 o p tsn k l ((nPcs l.length k) - 1)).p), blB, duB, skB, paB, (.sl aB (baseC 4 0 o p tsn k l ((nPcs l.length k) - 1)).d.length capB gB)]) _ := hcr1.set (k := (nPcs l.length k) - 1) (hrowB.flag (f := 4 + 1) (by omega))
        refine O_nil ?_
        refine C_seq ?_
        refine C_region ?_
        refine O_p ov (r_ld rfl hH152.get1 rfl) ?_
        refine O_p ov (r_mv rfl) ?_
        refine O_p (.i .i64 0) (r_mv rfl) ?_
        refine O_nil ?_
        refine C_ret ?_
        have hH153 := ((hH152.top5).top5)
        have hH154 := (((hH153.sub3).sub3).sub3)
        have hH155 := (((hH154.top2).top2).top2)
        have hH156 := Hs.unassoc hH155
        have hsp := split_patch (fr := true) (o := o) (p := p) (tsn := tsn) (ssn := ssn) (l := l) (k := k) rfl hq0 (f0 := 4) (i0 := 0) rfl rfl
        rw [if_neg hq1] at hsp
        have hcs : CksR true DD ((rows.set 0 [(.i .u8 (baseC 4 0 o p tsn k l 0).k), (.i .u8 (4 + 2)), (.i .u32 (baseC 4 0 o p tsn k l 0).a), (.i .u32 bA), (.i .u16 (baseC 4 0 o p tsn k l 0).o), (.i .u16 (baseC 4 0 o p tsn k l 0).i), (.i .u32 (baseC 4 0 o p tsn k l 0).p), blA, duA, skA, paA, (.sl aA (baseC 4 0 o p tsn k l 0).d.length capA gA)]).set ((nPcs l.length k) - 1) [(.i .u8 (baseC 4 0 o p tsn k l ((nPcs l.length k) - 1)).k), (.i .u8 (4 + 1)), (.i .u32 (baseC 4 0 o p tsn k l ((nPcs l.length k) - 1)).a), (.i .u32 bB), (.i .u16 (baseC 4 0 o p tsn k l ((nPcs l.length k) - 1)).o), (.i .u16 (baseC 4 0 o p tsn k l ((nPcs l.length k) - 1)).i), (.i .u32 (baseC 4 0 o p tsn k l ((nPcs l.length k) - 1)).p), blB, duB, skB, paB, (.sl aB (baseC 4 0 o p tsn k l ((nPcs l.length k) - 1)).d.length capB gB)]) (splitS true o p tsn ssn k l) := by rw [← hsp]; exact hcr2
        exact ⟨.inr rfl, _, resL_cons (r_tmp (v := ov) rfl) (resL_one (r_tmp (v := .i .i64 0) rfl)), _, ov, rfl, (Cks.sq hSq151 (hcs)).mono fun _ hh => hh.fst, hH156⟩
set_option maxHeartbeats 1000000 in
theorem split8_false {H : AH} {R : HL} {o p tsn ssn : Int} {k : Nat} {B : HL} {da : Option (Nat × Nat)} {dc dg : Nat} {l : List UInt8} (hdg : dg = 0 ∨ dg = 1) (hdc : l.length ≤ dc) (hdm : dc ≤ 9223372036854775807) (hmb : ∀ H', Hs H' B → Bs H' (.sl da l.length dc dg) l) (hl0 : 0 < l.length) (hl1 : l.length ≤ 16384) (hk0 : 0 < k) (hk1 : k ≤ 1172) (hH0 : Hs H (B ++ R)) : Ev tabA spA (.fn (.func 8) [] []) [.agg [.i .u16 o, .b false, .i .u32 p, .sl da l.length dc dg], .i .u32 tsn, .i .u16 ssn, .i .i64 k] H (fun r H' => ∃ D v, r = .tup [v, .i .i64 0] ∧ Cks true (D ++ B) v (splitS false o p tsn ssn k l) ∧ Hs H' (D ++ (B ++ R))) := by
  refine Ev_C (F := x8) rfl ?_
  refine C_seq ?_
  refine C_region ?_
  refine O_box (z := [(.i .u16 o), (.b false), (.i .u32 p), (.sl da l.length dc dg)]) rfl fun n1 H2 hN3 => ?_
  have hH4 := hH0.new hN3
  refine O_box (z := [(.i .u32 tsn)]) rfl fun n5 H6 hN7 => ?_
  have hH8 := hH4.new hN7
  refine O_p (.sl none 0 0 0) (r_mv rfl) ?_
  refine O_p (.i .i64 0) (r_mv rfl) ?_
  refine O_nil ?_
  refine C_seq ?_
  refine C_block ?_
  refine C_seq ?_
  refine C_region ?_
  refine O_p (.p (some (n1, 3))) (r_fadd' rfl rfl) ?_
  refine O_p (.sl da l.length dc dg) (r_ld rfl hH8.get1 rfl) ?_
  refine O_p (.i .i64 (((l.length : Nat)) : Int)) (r_len rfl) ?_
  refine O_p (.b (decide ((((l.length : Nat)) : Int) = 0))) (r_eql rfl rfl) ?_
  refine O_p (.b (decide ((((l.length : Nat)) : Int) = 0))) (r_mv rfl) ?_
  refine O_gx (e := (!(decide ((((l.length : Nat)) : Int) = 0)))) (v := (.i .i64 ((k : Nat) : Int))) (wf rfl) (fun he => (r_mv rfl)) ?_
  refine O_gx (e := (!(decide ((((l.length : Nat)) : Int) = 0)))) (v := (.b (decide (((k : Nat) : Int) < 1)))) (wf rfl) (fun he => (r_lss (cond_pos he) rfl)) ?_
  refine O_p (.b ((decide ((((l.length : Nat)) : Int) = 0)) || (decide (((k : Nat) : Int) < 1)))) (r_pick_or rfl rfl rfl rfl) ?_
  refine O_p (.b ((decide ((((l.length : Nat)) : Int) = 0)) || (decide (((k : Nat) : Int) < 1)))) (r_mv rfl) ?_
  refine O_gx (e := (!((decide ((((l.length : Nat)) : Int) = 0)) || (decide (((k : Nat) : Int) < 1))))) (v := (.i .i64 ((k : Nat) : Int))) (wf rfl) (fun he => (r_mv rfl)) ?_
  refine O_gx (e := (!((decide ((((l.length : Nat)) : Int) = 0)) || (decide (((k : Nat) : Int) < 1))))) (v := (.b (decide (1172 < ((k : Nat) : Int))))) (wf rfl) (fun he => (r_gtr (cond_pos he) rfl)) ?_
  refine O_p (.b (((decide ((((l.length : Nat)) : Int) = 0)) || (decide (((k : Nat) : Int) < 1))) || (decide (1172 < ((k : Nat) : Int))))) (r_pick_or rfl rfl rfl rfl) ?_
  refine O_p (.b (((decide ((((l.length : Nat)) : Int) = 0)) || (decide (((k : Nat) : Int) < 1))) || (decide (1172 < ((k : Nat) : Int))))) (r_mv rfl) ?_
  refine O_nil ?_
  refine C_cond (x := (((decide ((((l.length : Nat)) : Int) = 0)) || (decide (((k : Nat) : Int) < 1))) || (decide (1172 < ((k : Nat) : Int))))) rfl (fun hc9 => ?_) (fun hc9 => ?_)
  ·
    try simp only [decide_eq_true_eq, decide_eq_false_iff_not, Bool.not_eq_true', Bool.not_eq_false', Bool.and_eq_true, Bool.or_eq_true, Bool.or_eq_false_iff, Bool.not_not, Bool.and_eq_false_iff] at hc9
    exfalso; omega
  ·
    try simp only [decide_eq_true_eq, decide_eq_false_iff_not, Bool.not_eq_true', Bool.not_eq_false', Bool.and_eq_true, Bool.or_eq_true, Bool.or_eq_false_iff, Bool.not_not, Bool.and_eq_false_iff] at hc9
    refine C_seq ?_
    refine C_region ?_
    refine O_p (.p (some (n1, 3))) (r_fadd' rfl rfl) ?_
    refine O_p (.sl da l.length dc dg) (r_ld rfl hH8.get1 rfl) ?_
    refine O_p (.i .i64 (((l.length : Nat)) : Int)) (r_len rfl) ?_
    refine O_p (.b (decide (16384 < (((l.length : Nat)) : Int)))) (r_gtr rfl rfl) ?_
    refine O_p (.b (decide (16384 < (((l.length : Nat)) : Int)))) (r_mv rfl) ?_
    refine O_nil ?_
    refine C_cond (x := (decide (16384 < (((l.length : Nat)) : Int)))) rfl (fun hc10 => ?_) (fun hc10 => ?_)
    ·
      try simp only [decide_eq_true_eq, decide_eq_false_iff_not, Bool.not_eq_true', Bool.not_eq_false', Bool.and_eq_true, Bool.or_eq_true, Bool.or_eq_false_iff, Bool.not_not, Bool.and_eq_false_iff] at hc10
      exfalso; omega
    ·
      try simp only [decide_eq_true_eq, decide_eq_false_iff_not, Bool.not_eq_true', Bool.not_eq_false', Bool.and_eq_true, Bool.or_eq_true, Bool.or_eq_false_iff, Bool.not_not, Bool.and_eq_false_iff] at hc10
      refine C_skip ?_
      refine C_seq ?_
      refine C_region ?_
      refine O_p (.p (some (n1, 0))) (r_fadd' rfl rfl) ?_
      refine O_p (.i .u16 o) (r_ld rfl hH8.get1 rfl) ?_
      refine O_p (.i .u16 ssn) (r_mv rfl) ?_
      refine O_p (.p (some (n1, 2))) (r_fadd' rfl rfl) ?_
      refine O_p (.i .u32 p) (r_ld rfl hH8.get1 rfl) ?_
      refine O_p (.agg [(.i .u8 0), (.i .u8 0), (.i .u32 0), (.i .u32 0), (.i .u16 o), (.i .u16 ssn), (.i .u32 p), (.sl none 0 0 0), (.sl none 0 0 0), (.sl none 0 0 0), (.sl none 0 0 0), (.sl none 0 0 0)]) (r_build rfl) ?_
      refine O_alloc fun n11 H12 hN13 => ?_
      have hH14 := hH8.new hN13
      refine O_store (vs := [(.i .u8 0), (.i .u8 0), (.i .u32 0), (.i .u32 0), (.i .u16 o), (.i .u16 ssn), (.i .u32 p), (.sl none 0 0 0), (.sl none 0 0 0), (.sl none 0 0 0), (.sl none 0 0 0), (.sl none 0 0 0)]) (c' := [(.i .u8 0), (.i .u8 0), (.i .u32 0), (.i .u32 0), (.i .u16 o), (.i .u16 ssn), (.i .u32 p), (.sl none 0 0 0), (.sl none 0 0 0), (.sl none 0 0 0), (.sl none 0 0 0), (.sl none 0 0 0)]) rfl (by rfl) hH14.get0 rfl (List.cons_ne_nil _ _) (Nat.le_of_ble_eq_true rfl) rfl fun H15 hW16 => ?_
      have hH17 := hH14.wr0 hW16
      refine O_nil ?_
      refine C_seq ?_
      refine C_seq ?_
      refine C_region ?_
      refine O_p (.p (some (n1, 1))) (r_fadd' rfl rfl) ?_
      refine O_p (.b false) (r_ld rfl hH17.get2 rfl) ?_
      refine O_nil ?_
      refine C_cond (x := false) rfl (fun h => by cases h) (fun _ => ?_)
      refine C_skip ?_
      refine C_seq ?_
      refine C_region ?_
      refine O_alloc fun n18 H19 hN20 => ?_
      have hH21 := hH17.new hN20
      refine O_nil ?_
      refine C_seq ?_
      refine C_seq ?_
      refine C_region ?_
      refine O_p (.p (some (n1, 3))) (r_fadd' rfl rfl) ?_
      refine O_p (.sl da l.length dc dg) (r_ld rfl hH21.get3 rfl) ?_
      refine O_p (.i .i64 ((k : Nat) : Int)) (r_mv rfl) ?_
      refine O_call (Ev.mono (chunk_ev (by omega) hH21) fun v22 H23 hq24 => ?_)
      obtain ⟨b25, b26, rfl, hH27⟩ := hq24
      refine O_nil ?_
      refine C_block ?_
      refine C_rangeFn (g := 21) (first := []) (cap := [.p (some (b25, 0)), .p (some (b26, 0))]) rfl fun Tx L HLL hTx hNL0 => ?_
      obtain ⟨LB, hLB, hNL⟩ := hNL0.loop
      have hH28 := hH27.new hNL
      have hH29 := (((((((hH28.top5).top5).top5).top3).top7).top6).top6)
      have hH30 := (hH29.sub7)
      refine Ev.mono (chunk1_ev hdg hdc hdm hmb (by omega) (by omega) (by omega) (fun j HH => ∃ (ov : AV) (co : List AV) (rows : List (List AV)) (DD : HL) (xa xd : AV), Sq 12 ov co rows.flatten ∧ CksR true DD rows (baseL 0 ssn o p tsn k l j) ∧ Hs HH ([(b25, some (.cells ([(.sl da l.length dc dg)]) true))] ++ ([(b26, some (.cells ([(.i .i64 ((k : Nat) : Int))]) true))] ++ (B ++ ([(L, some LB)] ++ ([(n18, some (.cells ([ov]) true))] ++ ([(n11, some (.cells ([(.i .u8 0), (.i .u8 0), xa, (.i .u32 0), (.i .u16 o), (.i .u16 ssn), (.i .u32 p), (.sl none 0 0 0), (.sl none 0 0 0), (.sl none 0 0 0), (.sl none 0 0 0), xd]) true))] ++ ([(n5, some (.cells ([(.i .u32 tsn)]) true))] ++ ((qseg ov co) ++ (DD ++ (R))))))))))) ?_ ?_ ?_ ?_) fun v2 HE hE => ?_
      · exact ⟨.sl none 0 0 0, [], [], [], _, _, Sq.nil, CksR.nil, hH30⟩
      · rintro j H1 ⟨ov, co, rows, DD, xa, xd, hsq, hcr, hh⟩
        exact ⟨_, hh⟩
      · rintro j H1 H2 hn hk2 hok ⟨ov, co, rows, DD, xa, xd, hsq, hcr, hh⟩
        exact ⟨ov, co, rows, DD, xa, xd, hsq, hcr, hh.keep hn hk2 hok⟩
      ·
        rintro j HH v hj ⟨ov, co, rows, DD, xa, xd, hsq, hcr, hHb⟩ ⟨ba, bn, hbn, rfl, hpb⟩
        subst hbn
        have hpl := pieceD_len (k := k) (l := l) (i := j)
        have hjk := (nPcs_lt (n := l.length) (i := j) (by omega : 0 < k)).1 hj
        have hjb : j ≤ 16384 := by have := Nat.le_mul_of_pos_right j (by omega : 0 < k); omega
        refine Ev_yield ((hHb.get3).trans (congrArg some hLB)) rfl ?_
        refine C.te ?_ (hTx.cons 45 _)
        refine C_region ?_
        refine O_p (.sl ba (pieceD k l j).length (pieceD k l j).length 0) (r_mv rfl) ?_
        refine O_nil ?_
        refine ⟨rfl, _, _, _, _, _, (hHb.get3).trans (congrArg some hLB), fun H2 hWb => ?_⟩
        have hH31 := hHb.wr3 hWb
        refine C_block ?_
        refine C_seq ?_
        refine C_draw fun b32 H33 hbase34 hA35 => ?_
        have hH36 := hH31.keep (by have := hA35.1; omega) (fun q _ => hA35.2 q) ((hH31.old).aside hA35).ok
        refine D_l (v := (.sl ba (pieceD k l j).length (pieceD k l j).length 0)) rfl rfl rfl (r_mv rfl) ?_
        refine D_r (v := (.i .u32 tsn)) rfl rfl rfl (r_ld rfl hH36.get6 rfl) ?_
        refine D_r (v := ov) rfl rfl rfl (r_ld rfl hH36.get4 rfl) ?_
        refine D_l (v := (.i .i64 (((j : Nat)) : Int))) rfl rfl rfl (by exact (by exact r_lenOf rfl (hsq.lenOf (by rw [flat_len hcr.lens, hcr.1, baseL_len]) (by decide)) hsq.isSl)) ?_
        refine D_l (v := (.i .u32 ((j : Nat) : Int))) rfl rfl rfl (by exact (r_cint' rfl (by rw [wrap_u32]; omega))) ?_
        refine D_l (v := (.i .u32 ((tsn + ((j : Nat) : Int)) % 4294967296))) rfl rfl rfl (by exact (by rw [← show IntKind.u32.wrap (tsn + ((j : Nat) : Int)) = (tsn + ((j : Nat) : Int)) % 4294967296 from by rw [wrap_u32]]; exact r_bin rfl rfl rfl)) ?_
        refine D_l (v := (.p (some (n11, 2)))) rfl rfl rfl (r_fadd' rfl rfl) ?_
        refine D_call (Ev.mono (clone_ev (tab := tabA) (sp := spA) rfl hH36.ok (.inl rfl) (hpb _ hH36.top2.fst) (by first | omega | (simp only [List.length_take, List.length_drop, List.length_append, List.length_cons, List.length_nil, beN_len] <;> omega)) (by first | omega | (simp only [List.length_take, List.length_drop, List.length_append, List.length_cons, List.length_nil, beN_len] <;> omega)) (by first | omega | (simp only [List.length_take, List.length_drop, List.length_append, List.length_cons, List.length_nil, beN_len] <;> omega))) fun v37 H38 hq39 => ?_)
        obtain ⟨hM40, hK41⟩ := hq39
        obtain ⟨qa42, qg43, rfl, hqg44, _⟩ := hM40.own.bs
        have hH47 := Hs.ofMine hH36 hM40 hK41
        have hSq46 := Sq.ofMine hH36 hM40 hK41
        refine And.intro (And.intro (Or.inr (look_run rfl rfl (r_ld rfl hH47.get5 rfl))) (And.intro (Or.inr (look_run rfl rfl (r_ld rfl hH47.get7 rfl))) True.intro)) ?_
        refine D_store (vs := [(.i .u32 ((tsn + ((j : Nat) : Int)) % 4294967296))]) (c' := [(.i .u8 0), (.i .u8 0), (.i .u32 ((tsn + ((j : Nat) : Int)) % 4294967296)), (.i .u32 0), (.i .u16 o), (.i .u16 ssn), (.i .u32 p), (.sl none 0 0 0), (.sl none 0 0 0), (.sl none 0 0 0), (.sl none 0 0 0), xd]) rfl (by rfl) hH47.get6 rfl (List.cons_ne_nil _ _) (Nat.le_of_ble_eq_true rfl) rfl fun H48 hW49 => ?_
        have hH50 := hH47.wr6 hW49
        refine And.intro (And.intro (Or.inl rfl) (And.intro (Or.inl rfl) True.intro)) ?_
        refine D_l (v := (.p (some (n11, 11)))) rfl rfl rfl (r_fadd' rfl rfl) ?_
        refine D_store (vs := [(.sl qa42 ((pieceD k l j)).length ((pieceD k l j)).length qg43)]) (c' := [(.i .u8 0), (.i .u8 0), (.i .u32 ((tsn + ((j : Nat) : Int)) % 4294967296)), (.i .u32 0), (.i .u16 o), (.i .u16 ssn), (.i .u32 p), (.sl none 0 0 0), (.sl none 0 0 0), (.sl none 0 0 0), (.sl none 0 0 0), (.sl qa42 ((pieceD k l j)).length ((pieceD k l j)).length qg43)]) rfl (by rfl) hH50.get6 rfl (List.cons_ne_nil _ _) (Nat.le_of_ble_eq_true rfl) rfl fun H51 hW52 => ?_
        have hH53 := hH50.wr6 hW52
        refine And.intro True.intro ?_
        refine D_nil ?_
        refine C_region ?_
        refine O_p ov (r_ld rfl hH53.get5 rfl) ?_
        refine O_p (.agg [(.i .u8 0), (.i .u8 0), (.i .u32 ((tsn + ((j : Nat) : Int)) % 4294967296)), (.i .u32 0), (.i .u16 o), (.i .u16 ssn), (.i .u32 p), (.sl none 0 0 0), (.sl none 0 0 0), (.sl none 0 0 0), (.sl none 0 0 0), (.sl qa42 ((pieceD k l j)).length ((pieceD k l j)).length qg43)]) (r_ldA rfl hH53.get6 rfl) ?_
        refine O_bslice (c := [(.i .u8 0), (.i .u8 0), (.i .u32 ((tsn + ((j : Nat) : Int)) % 4294967296)), (.i .u32 0), (.i .u16 o), (.i .u16 ssn), (.i .u32 p), (.sl none 0 0 0), (.sl none 0 0 0), (.sl none 0 0 0), (.sl none 0 0 0), (.sl qa42 ((pieceD k l j)).length ((pieceD k l j)).length qg43)]) rfl fun n54 H55 hN56 => ?_
        have hH57 := hH53.new hN56
        refine O_qh (by exact r_appq (n := j) (k := 1) (new := [(.i .u8 0), (.i .u8 0), (.i .u32 ((tsn + ((j : Nat) : Int)) % 4294967296)), (.i .u32 0), (.i .u16 o), (.i .u16 ssn), (.i .u32 p), (.sl none 0 0 0), (.sl none 0 0 0), (.sl none 0 0 0), (.sl none 0 0 0), (.sl qa42 ((pieceD k l j)).length ((pieceD k l j)).length qg43)]) hH57.top9 hsq rfl rfl rfl (src_blk hH57.get0 (by rfl)) rfl (by decide) (by decide) (by rw [flat_len hcr.lens, hcr.1, baseL_len]) (by first | omega | (simp only [List.length_take, List.length_drop, List.length_append, List.length_cons, List.length_nil, beN_len] <;> omega))) fun o58 H59 hA61 => ?_
        obtain ⟨c60, hA61, hH62⟩ := hA61
        obtain ⟨qa63, ql64, qc65, qg66, rfl⟩ := hA61.isSl
        refine O_store (vs := [(.sl qa63 ql64 qc65 qg66)]) (c' := [(.sl qa63 ql64 qc65 qg66)]) rfl (by rfl) hH62.get7 rfl (List.cons_ne_nil _ _) (Nat.le_of_ble_eq_true rfl) rfl fun H67 hW68 => ?_
        have hH69 := hH62.wr7 hW68
        refine O_nil ?_
        refine ⟨_, _, _, _, _, (hH69.get6), fun H4 hWr => ?_⟩
        have hH70 := Hs.cong6 (B := [(L, some LB)]) (hH69.wr6 hWr) (by rw [hLB]; rfl)
        have hH71 := (hH70.sub1)
        have hH72 := ((hH71.top1).top9)
        have hH73 := Hs.unassoc hH72
        have hH74 := ((((((((hH73.top1).top8).top8).top8).top8).top8).top8).top8)
        exact ⟨rfl, (.sl qa63 ql64 qc65 qg66), c60, rows ++ [[(.i .u8 0), (.i .u8 0), (.i .u32 ((tsn + ((j : Nat) : Int)) % 4294967296)), (.i .u32 0), (.i .u16 o), (.i .u16 ssn), (.i .u32 p), (.sl none 0 0 0), (.sl none 0 0 0), (.sl none 0 0 0), (.sl none 0 0 0), (.sl qa42 ((pieceD k l j)).length ((pieceD k l j)).length qg43)]], (DD ++ (qseg (.sl qa42 ((pieceD k l j)).length ((pieceD k l j)).length qg43) (bcells (pieceD k l j)))), _, _, by have h := hA61; rw [flat_snoc] at h; exact h, by rw [baseL_succ]; exact (hcr.mono fun _ hh => hh.fst).snoc ⟨0, _, _, _, _, _, _, _, rfl, hqg44, Nat.le_refl _, by omega, baseC_ok (by omega) (by omega), fun _ => ⟨rfl, rfl, rfl, rfl, rfl⟩, fun H' hh => Sq.bs (R := []) hSq46 (by rw [List.append_nil]; exact hh.sub)⟩, hH74⟩
      obtain ⟨ov, co, rows, DD, xa, xd, hsq, hcr, hHE⟩ := hE
      refine ⟨.ready, none, _, _, _, _, (hHE.get3).trans (congrArg some hLB), by decide, fun HD hD => ?_⟩
      have hH75 := hHE.drp3 hD
      have hH76 := ((hH75.sub0).sub0)
      have hq0 : 0 < (nPcs l.length k) := nPcs_pos (by omega) (by omega)
      have hjk := (nPcs_lt (n := l.length) (i := (nPcs l.length k) - 1) (by omega : 0 < k)).1 (by omega)
      have hjb : (nPcs l.length k) ≤ 16385 := by have := Nat.le_mul_of_pos_right ((nPcs l.length k) - 1) (by omega : 0 < k); omega
      obtain ⟨rA, hrA, hrowA⟩ := hcr.2 0 _ (baseL_at hq0)
      obtain ⟨bA, blA, duA, skA, paA, aA, capA, gA, rfl, _⟩ := id hrowA
      refine C_seq ?_
      refine C_region ?_
      refine O_p ov (r_ld rfl hH76.get1 rfl) ?_
      refine O_q (by exact Sq.cell hsq hcr.lens hH76.top4 rfl (i := 0) rfl (r := [(.i .u8 (baseC 0 ssn o p tsn k l 0).k), (.i .u8 0), (.i .u32 (baseC 0 ssn o p tsn k l 0).a), (.i .u32 bA), (.i .u16 (baseC 0 ssn o p tsn k l 0).o), (.i .u16 (baseC 0 ssn o p tsn k l 0).i), (.i .u32 (baseC 0 ssn o p tsn k l 0).p), blA, duA, skA, paA, (.sl aA (baseC 0 ssn o p tsn k l 0).d.length capA gA)]) hrA (by decide)) fun v78 hv77 => ?_
      obtain ⟨rb79, ro80, rfl, hrg81, hrt82, hrb83, hput84, hqs85⟩ := hv77
      refine O_p (.p (some (rb79, (ro80 + 1)))) (r_fadd' rfl rfl) ?_
      refine O_p (.i .u8 0) (r_ldR (q := 1) rfl ⟨_, _, hrg81, hrt82⟩ rfl) ?_
      refine O_p (.i .u8 (0 + 2)) (r_bin rfl rfl rfl) ?_
      refine O_q (by exact Sq.cell hsq hcr.lens hH76.top4 rfl (i := 0) rfl (r := [(.i .u8 (baseC 0 ssn o p tsn k l 0).k), (.i .u8 0), (.i .u32 (baseC 0 ssn o p tsn k l 0).a), (.i .u32 bA), (.i .u16 (baseC 0 ssn o p tsn k l 0).o), (.i .u16 (baseC 0 ssn o p tsn k l 0).i), (.i .u32 (baseC 0 ssn o p tsn k l 0).p), blA, duA, skA, paA, (.sl aA (baseC 0 ssn o p tsn k l 0).d.length capA gA)]) hrA (by decide)) fun v87 hv86 => ?_
      obtain ⟨rb88, ro89, rfl, hrg90, hrt91, hrb92, hput93, hqs94⟩ := hv86
      refine O_p (.p (some (rb88, (ro89 + 1)))) (r_fadd' rfl rfl) ?_
      refine O_store (vs := [(.i .u8 (0 + 2))]) (c' := (putAt co (ro89 + 1) [(.i .u8 (0 + 2))])) rfl (by rfl) hrg90 rfl (List.cons_ne_nil _ _) (by have := hrb92; show _ + 1 ≤ _; omega) rfl fun H95 hW96 => ?_
      have hH98 := Hs.cong4 (Hs.wr4 (Hs.cong4 hH76 (hqs94 _)) hW96) (hqs94 _).symm
      have hSq97 := hput93 1 [(.i .u8 (0 + 2))] [(.i .u8 (baseC 0 ssn o p tsn k l 0).k), (.i .u8 (0 + 2)), (.i .u32 (baseC 0 ssn o p tsn k l 0).a), (.i .u32 bA), (.i .u16 (baseC 0 ssn o p tsn k l 0).o), (.i .u16 (baseC 0 ssn o p tsn k l 0).i), (.i .u32 (baseC 0 ssn o p tsn k l 0).p), blA, duA, skA, paA, (.sl aA (baseC 0 ssn o p tsn k l 0).d.length capA gA)] (by decide) rfl
      have hcr1 : CksR true DD (rows.set 0 [(.i .u8 (baseC 0 ssn o p tsn k l 0).k), (.i .u8 (0 + 2)), (.i .u32 (baseC 0 ssn o p tsn k l 0).a), (.i .u32 bA), (.i .u16 (baseC 0 ssn o p tsn k l 0).o), (.i .u16 (baseC 0 ssn o p tsn k l 0).i), (.i .u32 (baseC 0 ssn o p tsn k l 0).p), blA, duA, skA, paA, (.sl aA (baseC 0 ssn o p tsn k l 0).d.length capA gA)]) _ := hcr.set (k := 0) (hrowA.flag (f := 0 + 2) (by omega))
      refine O_nil ?_
      refine C_seq ?_
      by_cases hq1 : (nPcs l.length k) = 1
      ·
        refine C_region ?_
        refine O_p ov (r_ld rfl hH98.get1 rfl) ?_
        refine O_p ov (r_ld rfl hH98.get1 rfl) ?_
        refine O_p (.i .i64 ((((nPcs l.length k) : Nat)) : Int)) (by exact (by exact r_lenOf rfl (hSq97.lenOf (by rw [flat_len hcr1.lens, hcr1.1, List.length_set, baseL_len]) (by decide)) hSq97.isSl)) ?_
        refine O_p (.i .i64 (((((nPcs l.length k) - 1) : Nat)) : Int)) (by exact (r_subn (a := (nPcs l.length k)) (b := 1) rfl rfl (by omega) (by omega))) ?_
        refine O_q (by exact Sq.cell hSq97 hcr1.lens hH98.top4 rfl (i := ((nPcs l.length k) - 1)) rfl (r := [(.i .u8 (baseC 0 ssn o p tsn k l 0).k), (.i .u8 (0 + 2)), (.i .u32 (baseC 0 ssn o p tsn k l 0).a), (.i .u32 bA), (.i .u16 (baseC 0 ssn o p tsn k l 0).o), (.i .u16 (baseC 0 ssn o p tsn k l 0).i), (.i .u32 (baseC 0 ssn o p tsn k l 0).p), blA, duA, skA, paA, (.sl aA (baseC 0 ssn o p tsn k l 0).d.length capA gA)]) (by rw [show (nPcs l.length k) - 1 = 0 by omega]; exact List.getElem?_set_self (by rw [hcr.1, baseL_len]; omega)) (by decide)) fun v100 hv99 => ?_
        obtain ⟨rb101, ro102, rfl, hrg103, hrt104, hrb105, hput106, hqs107⟩ := hv99
        refine O_p (.p (some (rb101, (ro102 + 1)))) (r_fadd' rfl rfl) ?_
        refine O_p (.i .u8 (0 + 2)) (r_ldR (q := 1) rfl ⟨_, _, hrg103, hrt104⟩ rfl) ?_
        refine O_p (.i .u8 (0 + 3)) (r_bin rfl rfl rfl) ?_
        refine O_q (by exact Sq.cell hSq97 hcr1.lens hH98.top4 rfl (i := ((nPcs l.length k) - 1)) rfl (r := [(.i .u8 (baseC 0 ssn o p tsn k l 0).k), (.i .u8 (0 + 2)), (.i .u32 (baseC 0 ssn o p tsn k l 0).a), (.i .u32 bA), (.i .u16 (baseC 0 ssn o p tsn k l 0).o), (.i .u16 (baseC 0 ssn o p tsn k l 0).i), (.i .u32 (baseC 0 ssn o p tsn k l 0).p), blA, duA, skA, paA, (.sl aA (baseC 0 ssn o p tsn k l 0).d.length capA gA)]) (by rw [show (nPcs l.length k) - 1 = 0 by omega]; exact List.getElem?_set_self (by rw [hcr.1, baseL_len]; omega)) (by decide)) fun v109 hv108 => ?_
        obtain ⟨rb110, ro111, rfl, hrg112, hrt113, hrb114, hput115, hqs116⟩ := hv108
        refine O_p (.p (some (rb110, (ro111 + 1)))) (r_fadd' rfl rfl) ?_
        refine O_store (vs := [(.i .u8 (0 + 3))]) (c' := (putAt (putAt co (ro89 + 1) [(.i .u8 (0 + 2))]) (ro111 + 1) [(.i .u8 (0 + 3))])) rfl (by rfl) hrg112 rfl (List.cons_ne_nil _ _) (by have := hrb114; show _ + 1 ≤ _; omega) rfl fun H117 hW118 => ?_
        have hH120 := Hs.cong4 (Hs.wr4 (Hs.cong4 hH98 (hqs116 _)) hW118) (hqs116 _).symm
        have hSq119 := hput115 1 [(.i .u8 (0 + 3))] [(.i .u8 (baseC 0 ssn o p tsn k l 0).k), (.i .u8 (0 + 3)), (.i .u32 (baseC 0 ssn o p tsn k l 0).a), (.i .u32 bA), (.i .u16 (baseC 0 ssn o p tsn k l 0).o), (.i .u16 (baseC 0 ssn o p tsn k l 0).i), (.i .u32 (baseC 0 ssn o p tsn k l 0).p), blA, duA, skA, paA, (.sl aA (baseC 0 ssn o p tsn k l 0).d.length capA gA)] (by decide) rfl
        have hcr2 : CksR true DD ((rows.set 0 [(.i .u8 (baseC 0 ssn o p tsn k l 0).k), (.i .u8 (0 + 2)), (.i .u32 (baseC 0 ssn o p tsn k l 0).a), (.i .u32 bA), (.i .u16 (baseC 0 ssn o p tsn k l 0).o), (.i .u16 (baseC 0 ssn o p tsn k l 0).i), (.i .u32 (baseC 0 ssn o p tsn k l 0).p), blA, duA, skA, paA, (.sl aA (baseC 0 ssn o p tsn k l 0).d.length capA gA)]).set ((nPcs l.length k) - 1) [(.i .u8 (baseC 0 ssn o p tsn k l 0).k), (.i .u8 (0 + 3)), (.i .u32 (baseC 0 ssn o p tsn k l 0).a), (.i .u32 bA), (.i .u16 (baseC 0 ssn o p tsn k l 0).o), (.i .u16 (baseC 0 ssn o p tsn k l 0).i), (.i .u32 (baseC 0 ssn o p tsn k l 0).p), blA, duA, skA, paA, (.sl aA (baseC 0 ssn o p tsn k l 0).d.length capA gA)]) _ := hcr1.set (k := (nPcs l.length k) - 1) ((hrowA.flag (f := 0 + 2) (by omega)).flag (f := 0 + 3) (by omega))
        refine O_nil ?_
        refine C_seq ?_
        refine C_region ?_
        refine O_p ov (r_ld rfl hH120.get1 rfl) ?_
        refine O_p ov (r_mv rfl) ?_
        refine O_p (.i .i64 0) (r_mv rfl) ?_
        refine O_nil ?_
        refine C_ret ?_
        have hH121 := ((hH120.top5).top5)
        have hH122 := (((hH121.sub3).sub3).sub3)
        have hH123 := (((hH122.top2).top2).top2)
        have hH124 := Hs.unassoc hH123
        have hsp := split_patch (fr := false) (o := o) (p := p) (tsn := tsn) (ssn := ssn) (l := l) (k := k) rfl hq0 (f0 := 0) (i0 := ssn) rfl rfl
        rw [if_pos hq1] at hsp
        have h10 : (nPcs l.length k) - 1 = 0 := by omega
        have hcs : CksR true DD ((rows.set 0 [(.i .u8 (baseC 0 ssn o p tsn k l 0).k), (.i .u8 (0 + 2)), (.i .u32 (baseC 0 ssn o p tsn k l 0).a), (.i .u32 bA), (.i .u16 (baseC 0 ssn o p tsn k l 0).o), (.i .u16 (baseC 0 ssn o p tsn k l 0).i), (.i .u32 (baseC 0 ssn o p tsn k l 0).p), blA, duA, skA, paA, (.sl aA (baseC 0 ssn o p tsn k l 0).d.length capA gA)]).set 0 [(.i .u8 (baseC 0 ssn o p tsn k l 0).k), (.i .u8 (0 + 3)), (.i .u32 (baseC 0 ssn o p tsn k l 0).a), (.i .u32 bA), (.i .u16 (baseC 0 ssn o p tsn k l 0).o), (.i .u16 (baseC 0 ssn o p tsn k l 0).i), (.i .u32 (baseC 0 ssn o p tsn k l 0).p), blA, duA, skA, paA, (.sl aA (baseC 0 ssn o p tsn k l 0).d.length capA gA)]) (splitS false o p tsn ssn k l) := by rw [← hsp]; rw [h10]; rw [h10] at hcr2; exact hcr2
        exact ⟨.inr rfl, _, resL_cons (r_tmp (v := ov) rfl) (resL_one (r_tmp (v := .i .i64 0) rfl)), _, ov, rfl, (Cks.sq hSq119 (by rw [h10]; exact hcs)).mono fun _ hh => hh.fst, hH124⟩
      ·
        refine C_region ?_
        refine O_p ov (r_ld rfl hH98.get1 rfl) ?_
        refine O_p ov (r_ld rfl hH98.get1 rfl) ?_
        refine O_p (.i .i64 ((((nPcs l.length k) : Nat)) : Int)) (by exact (by exact r_lenOf rfl (hSq97.lenOf (by rw [flat_len hcr1.lens, hcr1.1, List.length_set, baseL_len]) (by decide)) hSq97.isSl)) ?_
        refine O_p (.i .i64 (((((nPcs l.length k) - 1) : Nat)) : Int)) (by exact (r_subn (a := (nPcs l.length k)) (b := 1) rfl rfl (by omega) (by omega))) ?_
        obtain ⟨rB, hrB, hrowB⟩ := hcr.2 ((nPcs l.length k) - 1) _ (baseL_at (by omega))
        obtain ⟨bB, blB, duB, skB, paB, aB, capB, gB, rfl, _⟩ := id hrowB
        refine O_q (by exact Sq.cell hSq97 hcr1.lens hH98.top4 rfl (i := ((nPcs l.length k) - 1)) rfl (r := [(.i .u8 (baseC 0 ssn o p tsn k l ((nPcs l.length k) - 1)).k), (.i .u8 0), (.i .u32 (baseC 0 ssn o p tsn k l ((nPcs l.length k) - 1)).a), (.i .u32 bB), (.i .u16 (baseC 0 ssn o p tsn k l ((nPcs l.length k) - 1)).o), (.i .u16 (baseC 0 ssn o p tsn k l ((nPcs l.length k) - 1)).i), (.i .u32 (baseC 0 ssn o p tsn k l ((nPcs l.length k) - 1)).p), blB, duB, skB, paB, (.sl aB (baseC 0 ssn o p tsn k l ((nPcs l.length k) - 1)).d.length capB gB)]) ((List.getElem?_set_ne (by omega)).trans hrB) (by decide)) fun v126 hv125 => ?_
        obtain ⟨rb127, ro128, rfl, hrg129, hrt130, hrb131, hput132, hqs133⟩ := hv125
        refine O_p (.p (some (rb127, (ro128 + 1)))) (r_fadd' rfl rfl) ?_
        refine O_p (.i .u8 0) (r_ldR (q := 1) rfl ⟨_, _, hrg129, hrt130⟩ rfl) ?_
        refine O_p (.i .u8 (0 + 1)) (r_bin rfl rfl rfl) ?_
        refine O_q (by exact Sq.cell hSq97 hcr1.lens hH98.top4 rfl (i := ((nPcs l.length k) - 1)) rfl (r := [(.i .u8 (baseC 0 ssn o p tsn k l ((nPcs l.length k) - 1)).k), (.i .u8 0), (.i .u32 (baseC 0 ssn o p tsn k l ((nPcs l.length k) - 1)).a), (.i .u32 bB), (.i .u16 (baseC 0 ssn o p tsn k l ((nPcs l.length k) - 1)).o), (.i .u16 (baseC 0 ssn o p tsn k l ((nPcs l.length k) - 1)).i), (.i .u32 (baseC 0 ssn o p tsn k l ((nPcs l.length k) - 1)).p), blB, duB, skB, paB, (.sl aB (baseC 0 ssn o p tsn k l ((nPcs l.length k) - 1)).d.length capB gB)]) ((List.getElem?_set_ne (by omega)).trans hrB) (by decide)) fun v135 hv134 => ?_
        obtain ⟨rb136, ro137, rfl, hrg138, hrt139, hrb140, hput141, hqs142⟩ := hv134
        refine O_p (.p (some (rb136, (ro137 + 1)))) (r_fadd' rfl rfl) ?_
        refine O_store (vs := [(.i .u8 (0 + 1))]) (c' := (putAt (putAt co (ro89 + 1) [(.i .u8 (0 + 2))]) (ro137 + 1) [(.i .u8 (0 + 1))])) rfl (by rfl) hrg138 rfl (List.cons_ne_nil _ _) (by have := hrb140; show _ + 1 ≤ _; omega) rfl fun H143 hW144 => ?_
        have hH146 := Hs.cong4 (Hs.wr4 (Hs.cong4 hH98 (hqs142 _)) hW144) (hqs142 _).symm
        have hSq145 := hput141 1 [(.i .u8 (0 + 1))] [(.i .u8 (baseC 0 ssn o p tsn k l ((nPcs l.length k) - 1)).k), (.i .u8 (0 + 1)), (.i .u32 (baseC 0 ssn o p tsn k l ((nPcs l.length k) - 1)).a), (.i .u32 bB), (.i .u16 (baseC 0 ssn o p tsn k l ((nPcs l.length k) - 1)).o), (.i .u16 (baseC 0 ssn o p tsn k l ((nPcs l.length k) - 1)).i), (.i .u32 (baseC 0 ssn o p tsn k l ((nPcs l.length k) - 1)).p), blB, duB, skB, paB, (.sl aB (baseC 0 ssn o p tsn k l ((nPcs l.length k) - 1)).d.length capB gB)] (by decide) rfl
        have hcr2 : CksR true DD ((rows.set 0 [(.i .u8 (baseC 0 ssn o p tsn k l 0).k), (.i .u8 (0 + 2)), (.i .u32 (baseC 0 ssn o p tsn k l 0).a), (.i .u32 bA), (.i .u16 (baseC 0 ssn o p tsn k l 0).o), (.i .u16 (baseC 0 ssn o p tsn k l 0).i), (.i .u32 (baseC 0 ssn o p tsn k l 0).p), blA, duA, skA, paA, (.sl aA (baseC 0 ssn o p tsn k l 0).d.length capA gA)]).set ((nPcs l.length k) - 1) [(.i .u8 (baseC 0 ssn o p tsn k l ((nPcs l.length k) - 1)).k), (.i .u8 (0 + 1)), (.i .u32 (baseC 0 ssn o p tsn k l ((nPcs l.length k) - 1)).a), (.i .u32 bB), (.i .u16 (baseC 0 ssn o p tsn k l ((nPcs l.length k) - 1)).o), (.i .u16 (baseC 0 ssn o p tsn k l ((nPcs l.length k) - 1)).i), (.i .u32 (baseC 0 ssn o p tsn k l ((nPcs l.length k) - 1)).p), blB, duB, skB, paB, (.sl aB (baseC 0 ssn o p tsn k l ((nPcs l.length k) - 1)).d.length capB gB)]) _ := hcr1.set (k := (nPcs l.length k) - 1) (hrowB.flag (f := 0 + 1) (by omega))
        refine O_nil ?_
        refine C_seq ?_
        refine C_region ?_
        refine O_p ov (r_ld rfl hH146.get1 rfl) ?_
        refine O_p ov (r_mv rfl) ?_
        refine O_p (.i .i64 0) (r_mv rfl) ?_
        refine O_nil ?_
        refine C_ret ?_
        have hH147 := ((hH146.top5).top5)
        have hH148 := (((hH147.sub3).sub3).sub3)
        have hH149 := (((hH148.top2).top2).top2)
        have hH150 := Hs.unassoc hH149
        have hsp := split_patch (fr := false) (o := o) (p := p) (tsn := tsn) (ssn := ssn) (l := l) (k := k) rfl hq0 (f0 := 0) (i0 := ssn) rfl rfl
        rw [if_neg hq1] at hsp
        have hcs : CksR true DD ((rows.set 0 [(.i .u8 (baseC 0 ssn o p tsn k l 0).k), (.i .u8 (0 + 2)), (.i .u32 (baseC 0 ssn o p tsn k l 0).a), (.i .u32 bA), (.i .u16 (baseC 0 ssn o p tsn k l 0).o), (.i .u16 (baseC 0 ssn o p tsn k l 0).i), (.i .u32 (baseC 0 ssn o p tsn k l 0).p), blA, duA, skA, paA, (.sl aA (baseC 0 ssn o p tsn k l 0).d.length capA gA)]).set ((nPcs l.length k) - 1) [(.i .u8 (baseC 0 ssn o p tsn k l ((nPcs l.length k) - 1)).k), (.i .u8 (0 + 1)), (.i .u32 (baseC 0 ssn o p tsn k l ((nPcs l.length k) - 1)).a), (.i .u32 bB), (.i .u16 (baseC 0 ssn o p tsn k l ((nPcs l.length k) - 1)).o), (.i .u16 (baseC 0 ssn o p tsn k l ((nPcs l.length k) - 1)).i), (.i .u32 (baseC 0 ssn o p tsn k l ((nPcs l.length k) - 1)).p), blB, duB, skB, paB, (.sl aB (baseC 0 ssn o p tsn k l ((nPcs l.length k) - 1)).d.length capB gB)]) (splitS false o p tsn ssn k l) := by rw [← hsp]; exact hcr2
        exact ⟨.inr rfl, _, resL_cons (r_tmp (v := ov) rfl) (resL_one (r_tmp (v := .i .i64 0) rfl)), _, ov, rfl, (Cks.sq hSq145 (hcs)).mono fun _ hh => hh.fst, hH150⟩
end Go.Proofs.Ytadloppgokobeaa.E
