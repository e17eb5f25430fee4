/- The forwarder, pulled. It bears no condition. -/
import Derived.Test.YthmiglahfkfcaaaH1
namespace Go.Proofs.Ythmiglahfkfcaaa.E
set_option linter.unusedVariables false
set_option linter.unusedSimpArgs false
set_option maxHeartbeats 1000000 in
theorem delete_ev {H : AH} {R : HL} {v : AV} {c r : List AV} {rows : List (List AV)} (hsq : Sq 6 v c (r :: rows).flatten) (hr6 : ∀ x ∈ r :: rows, x.length = 6) (hH0 : Hs H (qseg v c ++ R)) : Ev tabA spA (.fn (.func 29) [] []) [v, .i .i64 0, .i .i64 1] H (fun q H' => ∃ c', Sq 6 q c' rows.flatten ∧ Hs H' (qseg q c' ++ R)) := by
  refine Ev_C (F := x29) rfl ?_
  obtain ⟨b, o, cap, g, rfl, hg, hl, hnc, hc⟩ := hsq.open (n := rows.length + 1) (by rw [flat_len hr6, List.length_cons]) (by decide) (by omega)
  have hH1 : Hs H ([(b, some (.cells c true))] ++ R) := hH0
  refine C_seq ?_
  refine C_region ?_
  refine O_p (.sl none 0 0 0) (r_mv rfl) ?_
  refine O_nil ?_
  refine C_seq ?_
  refine C_region ?_
  refine O_p (.sl (some (b, o)) (rows.length + 1) cap g) (r_mv rfl) ?_
  refine O_p (.i .i64 0) (r_mv rfl) ?_
  refine O_p (.i .i64 1) (r_mv rfl) ?_
  refine O_p (.sl (some (b, o)) (rows.length + 1) cap g) (r_mv rfl) ?_
  refine O_p (.i .i64 ((((rows.length + 1) : Nat)) : Int)) (r_len rfl) ?_
  refine O_q (by exact sl_tri (i := 0) (j := 1) (m := rows.length + 1) rfl hg rfl rfl rfl (by omega) (by omega) hnc) fun v2 hv1 => ?_
  refine O_nil ?_
  refine C_seq ?_
  refine C_seq ?_
  refine C_region ?_
  refine O_p (.i .i64 0) (r_mv rfl) ?_
  refine O_p (.i .i64 1) (r_mv rfl) ?_
  refine O_p (.b false) (r_bin rfl rfl rfl) ?_
  refine O_nil ?_
  refine C_cond (x := false) rfl (fun h => by cases h) (fun _ => ?_)
  refine C_skip ?_
  refine C_seq ?_
  refine C_region ?_
  refine O_p (.sl (some (b, o)) (rows.length + 1) cap g) (r_mv rfl) ?_
  refine O_p (.i .i64 ((((rows.length + 1) : Nat)) : Int)) (r_len rfl) ?_
  refine O_p (.i .i64 ((((rows.length + 1) : Nat)) : Int)) (r_mv rfl) ?_
  refine O_nil ?_
  refine C_seq ?_
  refine C_draw fun b3 H4 hbase5 hA6 => ?_
  have hH7 := hH1.keep (by have := hA6.1; omega) (fun q _ => hA6.2 q) ((hH1.old).aside hA6).ok
  refine D_l (v := (.sl (some (b, o)) (rows.length + 1) cap g)) rfl rfl rfl (r_mv rfl) ?_
  refine D_l (v := (.i .i64 0)) rfl rfl rfl (r_mv rfl) ?_
  refine D_l (v := (.sl (some (b, o)) 0 cap g)) rfl rfl rfl (sl_zero rfl rfl hg) ?_
  refine D_l (v := (.sl (some (b, o)) (rows.length + 1) cap g)) rfl rfl rfl (r_mv rfl) ?_
  refine D_l (v := (.i .i64 1)) rfl rfl rfl (r_mv rfl) ?_
  refine D_l (v := (.sl (if cap = 1 ∧ g = 0 then some (b, o) else some (b, o + 1 * 6)) (rows.length + 1 - 1) (cap - 1) g)) rfl rfl rfl (by exact (sl_one rfl rfl hg (by omega))) ?_
  refine D_qh rfl rfl (by exact del_app hH7 hr6 hl hnc hc rfl rfl) fun o8 H9 hA10 => ?_
  obtain ⟨rfl, c2, hH11, hl2, hcl⟩ := hA10
  refine And.intro True.intro ?_
  refine D_l (v := (.sl (some (b, o)) (rows.length + 1 - 1) cap g)) rfl rfl rfl (r_mv rfl) ?_
  refine D_nil ?_
  refine C_seq ?_
  refine C_region ?_
  refine O_p (.sl (some (b, o)) (rows.length + 1 - 1) cap g) (r_mv rfl) ?_
  refine O_p (.sl (some (b, o)) (rows.length + 1 - 1) cap g) (r_mv rfl) ?_
  refine O_p (.i .i64 ((((rows.length + 1 - 1) : Nat)) : Int)) (r_len rfl) ?_
  refine O_p (.i .i64 ((((rows.length + 1) : Nat)) : Int)) (r_mv rfl) ?_
  refine O_p (.sl (some (b, o + (rows.length + 1 - 1) * 6)) 1 (cap - (rows.length + 1 - 1)) g) (by exact (sl_last rfl rfl rfl hg (by omega) hnc)) ?_
  have hle : (rows.length + 1) * 6 ≤ cap * 6 := Nat.mul_le_mul_right 6 hnc
  refine O_nh (by exact del_clr (zs := [(.b false), (.i .u8 0), (.i .u16 0), (.i .u32 0), (.i .u32 0), (.sl none 0 0 0)]) hH11 rfl (by rw [hcl]; show _ + 6 ≤ _; omega)) fun H12 hH13 => ?_
  refine O_nil ?_
  refine C_seq ?_
  refine C_region ?_
  refine O_p (.sl (some (b, o)) (rows.length + 1 - 1) cap g) (r_mv rfl) ?_
  refine O_p (.sl (some (b, o)) (rows.length + 1 - 1) cap g) (r_mv rfl) ?_
  refine O_nil ?_
  refine C_ret ?_
  have hl3 := take_out (vs := [(.b false), (.i .u8 0), (.i .u16 0), (.i .u32 0), (.i .u32 0), (.sl none 0 0 0)]) (q := o + (rows.length + 1 - 1) * 6) hl2 (by omega) (by rw [hcl]; show _ + 6 ≤ _; omega)
  exact ⟨.inr rfl, _, resL_one (r_tmp (v := (.sl (some (b, o)) (rows.length + 1 - 1) cap g)) rfl), _, .mk hg hl3 (by omega) (by rw [putAt_len, hcl]; exact hc), hH13⟩
set_option maxHeartbeats 1000000 in
theorem pull_ev {H : AH} {R : HL} {F Lb np i room : Nat} {rws : List (List AV)} {s t : Spk} {v : AV} {c : List AV} {lost : Int} {rows : List (List AV)} {m : Bool} {kind seq stamp src : Int} {dv : AV} (hk : i < np) (hrw : ∀ x ∈ rws, x.length = 67) (hi : i < rws.length) (hsq : Sq 6 v c ([(.b m), (.i .u8 kind), (.i .u16 seq), (.i .u32 stamp), (.i .u32 src), dv] :: rows).flatten) (hr6 : ∀ x ∈ [(.b m), (.i .u8 kind), (.i .u16 seq), (.i .u32 stamp), (.i .u32 src), dv] :: rows, x.length = 6) (hH0 : Hs H ([(F, some (.cells [.sl (some (Lb, 0)) np np 0, .i .i64 ((room : Nat) : Int)] true))] ++ ([(Lb, some (.cells (rws.set i (lrowS true s t v lost)).flatten true))] ++ (qseg v c ++ R)))) : Ev tabA spA (.fn (.func 12) [] []) [.p (some (F, 0)), .i .i64 i] H (fun r H' => ∃ v' c', r = .tup [.agg [(.b m), (.i .u8 kind), (.i .u16 seq), (.i .u32 stamp), (.i .u32 src), dv], .b true] ∧ Sq 6 v' c' rows.flatten ∧ Hs H' ([(F, some (.cells [.sl (some (Lb, 0)) np np 0, .i .i64 ((room : Nat) : Int)] true))] ++ ([(Lb, some (.cells (rws.set i (lrowS true s t v' lost)).flatten true))] ++ (qseg v' c' ++ R)))) := by
  refine Ev_C (F := x12) rfl ?_
  refine C_seq ?_
  refine C_region ?_
  refine O_alloc fun n1 H2 hN3 => ?_
  have hH4 := hH0.new hN3
  refine O_p (.b false) (r_mv rfl) ?_
  refine O_nil ?_
  refine C_seq ?_
  refine C_region ?_
  refine O_p (.p (some (F, 0))) (r_mv rfl) ?_
  refine O_p (.i .i64 ((i : Nat) : Int)) (r_mv rfl) ?_
  have hH5 := (hH4.top1)
  refine O_call (Ev.mono (at_ev (k := i) hk hH5) fun v6 H7 hq8 => ?_)
  obtain ⟨rfl, hH9⟩ := hq8
  refine O_p (.p (some (Lb, (i * 67 + 0)))) (r_mv rfl) ?_
  refine O_nil ?_
  refine C_seq ?_
  refine C_seq ?_
  refine C_region ?_
  refine O_p (.p (some (Lb, (i * 67 + 0)))) (r_mv rfl) ?_
  refine O_p (.b false) (r_nilq_s rfl) ?_
  refine O_p (.b false) (r_mv rfl) ?_
  refine O_gk rfl ?_
  refine O_p (.p (some (Lb, (i * 67 + 0)))) (r_mv rfl) ?_
  refine O_gk rfl ?_
  refine O_p (.p (some (Lb, (i * 67 + 0)))) (r_nilc rfl) ?_
  refine O_gk rfl ?_
  refine O_p (.p (some (Lb, (i * 67 + 65)))) (r_fadd' rfl rfl) ?_
  refine O_gk rfl ?_
  refine O_p v (by exact (r_ld rfl hH9.get2 ((foc_get hrw hi rfl (by decide)).trans rfl))) ?_
  refine O_gk rfl ?_
  refine O_p (.i .i64 (((([(.b m), (.i .u8 kind), (.i .u16 seq), (.i .u32 stamp), (.i .u32 src), dv] :: rows).length : Nat)) : Int)) (by exact (by exact r_lenOf rfl (hsq.lenOf (flat_len hr6) (by decide)) hsq.isSl)) ?_
  refine O_gk rfl ?_
  refine O_p (.b false) (by exact (by rw [r_eql rfl rfl, decide_eq_false (by show ¬ (((rows.length + 1 : Nat) : Int) = 0); omega)])) ?_
  refine O_p (.b false) (r_pick_f rfl rfl) ?_
  refine O_nil ?_
  refine C_cond (x := false) rfl (fun h => by cases h) (fun _ => ?_)
  refine C_skip ?_
  refine C_seq ?_
  refine C_region ?_
  refine O_p (.p (some (Lb, (i * 67 + 0)))) (r_mv rfl) ?_
  refine O_p (.p (some (Lb, (i * 67 + 0)))) (r_nilc rfl) ?_
  refine O_p (.p (some (Lb, (i * 67 + 65)))) (r_fadd' rfl rfl) ?_
  refine O_p v (by exact (r_ld rfl hH9.get2 ((foc_get hrw hi rfl (by decide)).trans rfl))) ?_
  refine O_q (by exact Sq.cell hsq hr6 hH9.top3 rfl (i := 0) rfl (r := [(.b m), (.i .u8 kind), (.i .u16 seq), (.i .u32 stamp), (.i .u32 src), dv]) rfl (by decide)) fun v11 hv10 => ?_
  obtain ⟨rb12, ro13, rfl, hrg14, hrt15, hrb16, hput17, hqs18⟩ := hv10
  refine O_p (.agg [(.b m), (.i .u8 kind), (.i .u16 seq), (.i .u32 stamp), (.i .u32 src), dv]) (r_ldRA (q := 0) rfl ⟨_, _, hrg14, hrt15⟩ rfl) ?_
  refine O_alloc fun n19 H20 hN21 => ?_
  have hH22 := hH9.new hN21
  refine O_store (vs := [(.b m), (.i .u8 kind), (.i .u16 seq), (.i .u32 stamp), (.i .u32 src), dv]) (c' := [(.b m), (.i .u8 kind), (.i .u16 seq), (.i .u32 stamp), (.i .u32 src), dv]) rfl (by rfl) hH22.get0 rfl (List.cons_ne_nil _ _) (Nat.le_of_ble_eq_true rfl) rfl fun H23 hW24 => ?_
  have hH25 := hH22.wr0 hW24
  refine O_nil ?_
  refine C_seq ?_
  refine C_region ?_
  refine O_p (.p (some (Lb, (i * 67 + 0)))) (r_mv rfl) ?_
  refine O_p (.p (some (Lb, (i * 67 + 0)))) (r_mv rfl) ?_
  refine O_p (.p (some (Lb, (i * 67 + 0)))) (r_nilc rfl) ?_
  refine O_p (.p (some (Lb, (i * 67 + 65)))) (r_fadd' rfl rfl) ?_
  refine O_p v (by exact (r_ld rfl hH25.get3 ((foc_get hrw hi rfl (by decide)).trans rfl))) ?_
  have hH26 := (hH25.top4)
  refine O_call (Ev.mono (delete_ev hsq hr6 hH26) fun v27 H28 hq29 => ?_)
  obtain ⟨c30, hSq31, hH32⟩ := hq29
  obtain ⟨qa33, ql34, qc35, qg36, rfl⟩ := hSq31.isSl
  refine O_p (.p (some (Lb, (i * 67 + 0)))) (r_nilc rfl) ?_
  refine O_p (.p (some (Lb, (i * 67 + 65)))) (r_fadd' rfl rfl) ?_
  refine O_store (vs := [(.sl qa33 ql34 qc35 qg36)]) (c' := ((rws).set i (lrow (.b true) (.b s.k) (.i .u32 s.src) (.i .u16 s.own) (.i .u16 s.new) (.b t.k) (.i .u32 t.src) (.i .u16 t.own) (.i .u16 t.new) (.sl qa33 ql34 qc35 qg36) (.i .i64 lost))).flatten) rfl (by rfl) hH32.get4 rfl (List.cons_ne_nil _ _) (foc_len (n := 1) hrw hi rfl (Nat.le_of_ble_eq_true rfl)) (foc_put hrw hi rfl (Nat.le_of_ble_eq_true rfl) rfl) fun H37 hW38 => ?_
  have hH39 := hH32.wr4 hW38
  refine O_nil ?_
  refine C_seq ?_
  refine C_region ?_
  refine O_p (.agg [(.b m), (.i .u8 kind), (.i .u16 seq), (.i .u32 stamp), (.i .u32 src), dv]) (r_ldA rfl hH39.get1 rfl) ?_
  refine O_store (vs := [(.b m), (.i .u8 kind), (.i .u16 seq), (.i .u32 stamp), (.i .u32 src), dv]) (c' := [(.b m), (.i .u8 kind), (.i .u16 seq), (.i .u32 stamp), (.i .u32 src), dv]) rfl (by rfl) hH39.get3 rfl (List.cons_ne_nil _ _) (Nat.le_of_ble_eq_true rfl) rfl fun H40 hW41 => ?_
  have hH42 := hH39.wr3 hW41
  refine O_p (.b true) (r_mv rfl) ?_
  refine O_nil ?_
  refine C_ret ?_
  have hcell := hH42.get3
  have hH43 := ((hH42.sub1).sub2)
  have hH44 := ((hH43.top2).top2)
  exact ⟨.inr rfl, _, resL_cons (r_cellA (l := [(.b m), (.i .u8 kind), (.i .u16 seq), (.i .u32 stamp), (.i .u32 src), dv]) rfl hcell rfl) (resL_one (r_tmp (v := .b true) rfl)), (.sl qa33 ql34 qc35 qg36), c30, rfl, hSq31, hH44⟩
set_option maxHeartbeats 1000000 in
theorem pull0_ev {H : AH} {R : HL} {F Lb np i room : Nat} {rws : List (List AV)} {s t : Spk} {v : AV} {c : List AV} {lost : Int} (hk : i < np) (hrw : ∀ x ∈ rws, x.length = 67) (hi : i < rws.length) (hsq : Sq 6 v c ([] : List (List AV)).flatten) (hH0 : Hs H ([(F, some (.cells [.sl (some (Lb, 0)) np np 0, .i .i64 ((room : Nat) : Int)] true))] ++ ([(Lb, some (.cells (rws.set i (lrowS true s t v lost)).flatten true))] ++ (qseg v c ++ R)))) : Ev tabA spA (.fn (.func 12) [] []) [.p (some (F, 0)), .i .i64 i] H (fun r H' => r = .tup [.agg [.b false, .i .u8 0, .i .u16 0, .i .u32 0, .i .u32 0, .sl none 0 0 0], .b false] ∧ Hs H' ([(F, some (.cells [.sl (some (Lb, 0)) np np 0, .i .i64 ((room : Nat) : Int)] true))] ++ ([(Lb, some (.cells (rws.set i (lrowS true s t v lost)).flatten true))] ++ (qseg v c ++ R)))) := by
  refine Ev_C (F := x12) rfl ?_
  refine C_seq ?_
  refine C_region ?_
  refine O_alloc fun n1 H2 hN3 => ?_
  have hH4 := hH0.new hN3
  refine O_p (.b false) (r_mv rfl) ?_
  refine O_nil ?_
  refine C_seq ?_
  refine C_region ?_
  refine O_p (.p (some (F, 0))) (r_mv rfl) ?_
  refine O_p (.i .i64 ((i : Nat) : Int)) (r_mv rfl) ?_
  have hH5 := (hH4.top1)
  refine O_call (Ev.mono (at_ev (k := i) hk hH5) fun v6 H7 hq8 => ?_)
  obtain ⟨rfl, hH9⟩ := hq8
  refine O_p (.p (some (Lb, (i * 67 + 0)))) (r_mv rfl) ?_
  refine O_nil ?_
  refine C_seq ?_
  refine C_seq ?_
  refine C_region ?_
  refine O_p (.p (some (Lb, (i * 67 + 0)))) (r_mv rfl) ?_
  refine O_p (.b false) (r_nilq_s rfl) ?_
  refine O_p (.b false) (r_mv rfl) ?_
  refine O_gk rfl ?_
  refine O_p (.p (some (Lb, (i * 67 + 0)))) (r_mv rfl) ?_
  refine O_gk rfl ?_
  refine O_p (.p (some (Lb, (i * 67 + 0)))) (r_nilc rfl) ?_
  refine O_gk rfl ?_
  refine O_p (.p (some (Lb, (i * 67 + 65)))) (r_fadd' rfl rfl) ?_
  refine O_gk rfl ?_
  refine O_p v (by exact (r_ld rfl hH9.get2 ((foc_get hrw hi rfl (by decide)).trans rfl))) ?_
  refine O_gk rfl ?_
  refine O_p (.i .i64 (((([] : List (List AV)).length : Nat)) : Int)) (by exact (by exact r_lenOf rfl (hsq.lenOf rfl (by decide)) hsq.isSl)) ?_
  refine O_gk rfl ?_
  refine O_p (.b true) (by exact (by rw [r_eql rfl rfl, decide_eq_true (by simp)])) ?_
  refine O_p (.b true) (r_pick_f rfl rfl) ?_
  refine O_nil ?_
  refine C_cond (x := true) rfl (fun _ => ?_) (fun h => by cases h)
  refine C_seq ?_
  refine C_region ?_
  refine O_p (.agg [(.b false), (.i .u8 0), (.i .u16 0), (.i .u32 0), (.i .u32 0), (.sl none 0 0 0)]) (r_build rfl) ?_
  refine O_store (vs := [(.b false), (.i .u8 0), (.i .u16 0), (.i .u32 0), (.i .u32 0), (.sl none 0 0 0)]) (c' := [(.b false), (.i .u8 0), (.i .u16 0), (.i .u32 0), (.i .u32 0), (.sl none 0 0 0)]) rfl (by rfl) hH9.get1 rfl (List.cons_ne_nil _ _) (Nat.le_of_ble_eq_true rfl) rfl fun H10 hW11 => ?_
  have hH12 := hH9.wr1 hW11
  refine O_p (.b false) (r_mv rfl) ?_
  refine O_nil ?_
  refine C_ret ?_
  refine nx_ret ?_
  have hcell := hH12.get1
  have hH13 := (hH12.sub1)
  have hH14 := (((hH13.top2).top2).top2)
  exact ⟨.inr rfl, _, resL_cons (r_cellA (l := [(.b false), (.i .u8 0), (.i .u16 0), (.i .u32 0), (.i .u32 0), (.sl none 0 0 0)]) rfl hcell rfl) (resL_one (r_tmp (v := .b false) rfl)), rfl, hH14⟩
end Go.Proofs.Ythmiglahfkfcaaa.E
