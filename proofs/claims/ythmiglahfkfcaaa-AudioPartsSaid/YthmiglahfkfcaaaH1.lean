/- The forwarder, made and asked. It bears no condition. -/
import Derived.Test.YthmiglahfkfcaaaG
namespace Go.Proofs.Ythmiglahfkfcaaa.E
set_option linter.unusedVariables false
set_option linter.unusedSimpArgs false
theorem at_ev {H : AH} {R : HL} {F Lb np k room : Nat} (hk : k < np) (hH0 : Hs H ([(F, some (.cells [.sl (some (Lb, 0)) np np 0, .i .i64 ((room : Nat) : Int)] true))] ++ R)) : Ev tabA spA (.fn (.func 25) [] []) [.p (some (F, 0)), .i .i64 k] H (fun r H' => r = .p (some (Lb, k * 67 + 0)) ∧ Hs H' ([(F, some (.cells [.sl (some (Lb, 0)) np np 0, .i .i64 ((room : Nat) : Int)] true))] ++ R)) := by
  refine Ev_C (F := x25) rfl ?_
  refine C_seq ?_
  refine C_region ?_
  refine O_p (.p none) (r_mv rfl) ?_
  refine O_nil ?_
  refine C_seq ?_
  refine C_seq ?_
  refine C_region ?_
  refine O_p (.p (some (F, 0))) (r_mv rfl) ?_
  refine O_p (.b false) (r_nilq_s rfl) ?_
  refine O_p (.b false) (r_mv rfl) ?_
  refine O_gk rfl ?_
  refine O_p (.i .i64 ((k : Nat) : Int)) (r_mv rfl) ?_
  refine O_gk rfl ?_
  refine O_p (.b false) (by exact (by rw [r_lss rfl rfl, decide_eq_false (by first | omega | assumption)])) ?_
  refine O_p (.b false) (r_pick_f rfl rfl) ?_
  refine O_p (.b false) (r_mv rfl) ?_
  refine O_gk rfl ?_
  refine O_p (.i .i64 ((k : Nat) : Int)) (r_mv rfl) ?_
  refine O_gk rfl ?_
  refine O_p (.p (some (F, 0))) (r_mv rfl) ?_
  refine O_gk rfl ?_
  refine O_p (.p (some (F, 0))) (r_nilc rfl) ?_
  refine O_gk rfl ?_
  refine O_p (.p (some (F, 0))) (r_fadd' rfl rfl) ?_
  refine O_gk rfl ?_
  refine O_p (.sl (some (Lb, 0)) np np 0) (r_ld rfl hH0.get0 rfl) ?_
  refine O_gk rfl ?_
  refine O_p (.i .i64 (((np : Nat)) : Int)) (r_len rfl) ?_
  refine O_gk rfl ?_
  refine O_p (.b false) (by exact (by rw [r_geq rfl rfl, decide_eq_false (by first | omega | assumption)])) ?_
  refine O_p (.b false) (r_pick_f rfl rfl) ?_
  refine O_nil ?_
  refine C_cond (x := false) rfl (fun h => by cases h) (fun _ => ?_)
  refine C_skip ?_
  refine C_seq ?_
  refine C_region ?_
  refine O_p (.p (some (F, 0))) (r_mv rfl) ?_
  refine O_p (.p (some (F, 0))) (r_nilc rfl) ?_
  refine O_p (.p (some (F, 0))) (r_fadd' rfl rfl) ?_
  refine O_p (.sl (some (Lb, 0)) np np 0) (r_ld rfl hH0.get0 rfl) ?_
  refine O_p (.i .i64 ((k : Nat) : Int)) (r_mv rfl) ?_
  refine O_p (.p (some (Lb, (k * 67 + 0)))) (by exact (r_islr (b := Lb) (k := k) rfl rfl (by omega))) ?_
  refine O_p (.p (some (Lb, (k * 67 + 0)))) (r_mv rfl) ?_
  refine O_nil ?_
  refine C_ret ?_
  exact ⟨.inr rfl, _, resL_one (r_tmp (v := (.p (some (Lb, (k * 67 + 0))))) rfl), rfl, hH0⟩
set_option maxHeartbeats 1000000 in
theorem waiting_ev {H : AH} {R : HL} {F Lb np i room : Nat} {rws : List (List AV)} {on : Bool} {s t : Spk} {v : AV} {lost : Int} {c : List AV} {rows : List (List AV)} (hk : i < np) (hrw : ∀ x ∈ rws, x.length = 67) (hi : i < rws.length) (hsq : Sq 6 v c rows.flatten) (hl6 : ∀ x ∈ rows, x.length = 6) (hH0 : Hs H ([(F, some (.cells [.sl (some (Lb, 0)) np np 0, .i .i64 ((room : Nat) : Int)] true))] ++ ([(Lb, some (.cells (rws.set i (lrow (.b on) (.b s.k) (.i .u32 s.src) (.i .u16 s.own) (.i .u16 s.new) (.b t.k) (.i .u32 t.src) (.i .u16 t.own) (.i .u16 t.new) v (.i .i64 lost))).flatten true))] ++ R))) : Ev tabA spA (.fn (.func 13) [] []) [.p (some (F, 0)), .i .i64 i] H (fun r H' => r = .i .i64 ((rows.length : Nat) : Int) ∧ Hs H' ([(F, some (.cells [.sl (some (Lb, 0)) np np 0, .i .i64 ((room : Nat) : Int)] true))] ++ ([(Lb, some (.cells (rws.set i (lrow (.b on) (.b s.k) (.i .u32 s.src) (.i .u16 s.own) (.i .u16 s.new) (.b t.k) (.i .u32 t.src) (.i .u16 t.own) (.i .u16 t.new) v (.i .i64 lost))).flatten true))] ++ R))) := by
  refine Ev_C (F := x13) rfl ?_
  refine C_seq ?_
  refine C_region ?_
  refine O_p (.i .i64 0) (r_mv rfl) ?_
  refine O_nil ?_
  refine C_seq ?_
  refine C_seq ?_
  refine C_region ?_
  refine O_p (.p (some (F, 0))) (r_mv rfl) ?_
  refine O_p (.i .i64 ((i : Nat) : Int)) (r_mv rfl) ?_
  refine O_call (Ev.mono (at_ev (k := i) hk hH0) fun v1 H2 hq3 => ?_)
  obtain ⟨rfl, hH4⟩ := hq3
  refine O_p (.p (some (Lb, (i * 67 + 0)))) (r_mv rfl) ?_
  refine O_nil ?_
  refine C_seq ?_
  refine C_region ?_
  refine O_p (.p (some (Lb, (i * 67 + 0)))) (r_mv rfl) ?_
  refine O_p (.b true) (r_nilq_s rfl) ?_
  refine O_nil ?_
  refine C_cond (x := true) rfl (fun _ => ?_) (fun h => by cases h)
  refine C_seq ?_
  refine C_region ?_
  refine O_p (.p (some (Lb, (i * 67 + 0)))) (r_mv rfl) ?_
  refine O_p (.p (some (Lb, (i * 67 + 0)))) (r_nilc rfl) ?_
  refine O_p (.p (some (Lb, (i * 67 + 65)))) (r_fadd' rfl rfl) ?_
  refine O_p v (by exact (r_ld rfl hH4.get1 ((foc_get hrw hi rfl (by decide)).trans rfl))) ?_
  refine O_p (.i .i64 (((rows.length : Nat)) : Int)) (by exact (by exact r_lenOf rfl (hsq.lenOf (flat_len hl6) (by decide)) hsq.isSl)) ?_
  refine O_p (.i .i64 (((rows.length : Nat)) : Int)) (r_mv rfl) ?_
  refine O_nil ?_
  refine C_ret ?_
  refine nx_ret ?_
  have hH5 := ((hH4.top1).top1)
  exact ⟨.inr rfl, _, resL_one (r_tmp (v := (.i .i64 (((rows.length : Nat)) : Int))) rfl), rfl, hH5⟩
set_option maxHeartbeats 1000000 in
theorem lost_ev {H : AH} {R : HL} {F Lb np i room : Nat} {rws : List (List AV)} {on : Bool} {s t : Spk} {v : AV} {lost : Int} (hk : i < np) (hrw : ∀ x ∈ rws, x.length = 67) (hi : i < rws.length)  (hH0 : Hs H ([(F, some (.cells [.sl (some (Lb, 0)) np np 0, .i .i64 ((room : Nat) : Int)] true))] ++ ([(Lb, some (.cells (rws.set i (lrow (.b on) (.b s.k) (.i .u32 s.src) (.i .u16 s.own) (.i .u16 s.new) (.b t.k) (.i .u32 t.src) (.i .u16 t.own) (.i .u16 t.new) v (.i .i64 lost))).flatten true))] ++ R))) : Ev tabA spA (.fn (.func 15) [] []) [.p (some (F, 0)), .i .i64 i] H (fun r H' => r = .i .i64 lost ∧ Hs H' ([(F, some (.cells [.sl (some (Lb, 0)) np np 0, .i .i64 ((room : Nat) : Int)] true))] ++ ([(Lb, some (.cells (rws.set i (lrow (.b on) (.b s.k) (.i .u32 s.src) (.i .u16 s.own) (.i .u16 s.new) (.b t.k) (.i .u32 t.src) (.i .u16 t.own) (.i .u16 t.new) v (.i .i64 lost))).flatten true))] ++ R))) := by
  refine Ev_C (F := x15) rfl ?_
  refine C_seq ?_
  refine C_region ?_
  refine O_p (.i .i64 0) (r_mv rfl) ?_
  refine O_nil ?_
  refine C_seq ?_
  refine C_seq ?_
  refine C_region ?_
  refine O_p (.p (some (F, 0))) (r_mv rfl) ?_
  refine O_p (.i .i64 ((i : Nat) : Int)) (r_mv rfl) ?_
  refine O_call (Ev.mono (at_ev (k := i) hk hH0) fun v1 H2 hq3 => ?_)
  obtain ⟨rfl, hH4⟩ := hq3
  refine O_p (.p (some (Lb, (i * 67 + 0)))) (r_mv rfl) ?_
  refine O_nil ?_
  refine C_seq ?_
  refine C_region ?_
  refine O_p (.p (some (Lb, (i * 67 + 0)))) (r_mv rfl) ?_
  refine O_p (.b true) (r_nilq_s rfl) ?_
  refine O_nil ?_
  refine C_cond (x := true) rfl (fun _ => ?_) (fun h => by cases h)
  refine C_seq ?_
  refine C_region ?_
  refine O_p (.p (some (Lb, (i * 67 + 0)))) (r_mv rfl) ?_
  refine O_p (.p (some (Lb, (i * 67 + 0)))) (r_nilc rfl) ?_
  refine O_p (.p (some (Lb, (i * 67 + 66)))) (r_fadd' rfl rfl) ?_
  refine O_p (.i .i64 lost) (by exact (r_ld rfl hH4.get1 ((foc_get hrw hi rfl (by decide)).trans rfl))) ?_
  refine O_p (.i .i64 lost) (r_mv rfl) ?_
  refine O_nil ?_
  refine C_ret ?_
  refine nx_ret ?_
  have hH5 := ((hH4.top1).top1)
  exact ⟨.inr rfl, _, resL_one (r_tmp (v := (.i .i64 lost)) rfl), rfl, hH5⟩
set_option maxHeartbeats 1000000 in
theorem listen_ev {H : AH} {R : HL} {F Lb np i room : Nat} {rws : List (List AV)} (hk : i < np) (hrw : ∀ x ∈ rws, x.length = 67) (hi : i < rws.length)  (hH0 : Hs H ([(F, some (.cells [.sl (some (Lb, 0)) np np 0, .i .i64 ((room : Nat) : Int)] true))] ++ ([(Lb, some (.cells (rws.set i (lrow (.b false) (.b false) (.i .u32 0) (.i .u16 0) (.i .u16 0) (.b false) (.i .u32 0) (.i .u16 0) (.i .u16 0) (.sl none 0 0 0) (.i .i64 0))).flatten true))] ++ R))) : Ev tabA spA (.fn (.func 10) [] []) [.p (some (F, 0)), .i .i64 i] H (fun r H' => r = .i .i64 0 ∧ Hs H' ([(F, some (.cells [.sl (some (Lb, 0)) np np 0, .i .i64 ((room : Nat) : Int)] true))] ++ ([(Lb, some (.cells (rws.set i (lrowS true spk0 spk0 (.sl none 0 0 0) 0)).flatten true))] ++ R))) := by
  refine Ev_C (F := x10) rfl ?_
  refine C_seq ?_
  refine C_region ?_
  refine O_p (.i .i64 0) (r_mv rfl) ?_
  refine O_nil ?_
  refine C_seq ?_
  refine C_region ?_
  refine O_p (.p (some (F, 0))) (r_mv rfl) ?_
  refine O_p (.i .i64 ((i : Nat) : Int)) (r_mv rfl) ?_
  refine O_call (Ev.mono (at_ev (k := i) hk hH0) fun v1 H2 hq3 => ?_)
  obtain ⟨rfl, hH4⟩ := hq3
  refine O_p (.p (some (Lb, (i * 67 + 0)))) (r_mv rfl) ?_
  refine O_nil ?_
  refine C_seq ?_
  refine C_block ?_
  refine C_seq ?_
  refine C_region ?_
  refine O_p (.p (some (Lb, (i * 67 + 0)))) (r_mv rfl) ?_
  refine O_p (.b false) (r_nilq_s rfl) ?_
  refine O_p (.b false) (r_mv rfl) ?_
  refine O_nil ?_
  refine C_cond (x := false) rfl (fun h => by cases h) (fun _ => ?_)
  refine C_seq ?_
  refine C_region ?_
  refine O_p (.p (some (Lb, (i * 67 + 0)))) (r_mv rfl) ?_
  refine O_p (.p (some (Lb, (i * 67 + 0)))) (r_nilc rfl) ?_
  refine O_p (.p (some (Lb, (i * 67 + 0)))) (r_fadd' rfl rfl) ?_
  refine O_p (.b false) (by exact (r_ld rfl hH4.get1 ((foc_get hrw hi rfl (by decide)).trans rfl))) ?_
  refine O_p (.b false) (r_mv rfl) ?_
  refine O_nil ?_
  refine C_cond (x := false) rfl (fun h => by cases h) (fun _ => ?_)
  refine C_skip ?_
  refine C_seq ?_
  refine C_region ?_
  refine O_p (.p (some (Lb, (i * 67 + 0)))) (r_mv rfl) ?_
  refine O_p (.agg [(.b true), (.b false), (.i .u32 0), (.i .u16 0), (.i .u16 0), (.b false), (.i .u32 0), (.i .u16 0), (.i .u16 0), (.b false), (.i .u32 0), (.i .u16 0), (.i .u16 0), (.b false), (.i .u32 0), (.i .u16 0), (.i .u16 0), (.b false), (.i .u32 0), (.i .u16 0), (.i .u16 0), (.b false), (.i .u32 0), (.i .u16 0), (.i .u16 0), (.b false), (.i .u32 0), (.i .u16 0), (.i .u16 0), (.b false), (.i .u32 0), (.i .u16 0), (.i .u16 0), (.b false), (.i .u32 0), (.i .u16 0), (.i .u16 0), (.b false), (.i .u32 0), (.i .u16 0), (.i .u16 0), (.b false), (.i .u32 0), (.i .u16 0), (.i .u16 0), (.b false), (.i .u32 0), (.i .u16 0), (.i .u16 0), (.b false), (.i .u32 0), (.i .u16 0), (.i .u16 0), (.b false), (.i .u32 0), (.i .u16 0), (.i .u16 0), (.b false), (.i .u32 0), (.i .u16 0), (.i .u16 0), (.b false), (.i .u32 0), (.i .u16 0), (.i .u16 0), (.sl none 0 0 0), (.i .i64 0)]) (r_build rfl) ?_
  refine O_p (.p (some (Lb, (i * 67 + 0)))) (r_nilc rfl) ?_
  refine O_store (vs := (lrow (.b true) (.b false) (.i .u32 0) (.i .u16 0) (.i .u16 0) (.b false) (.i .u32 0) (.i .u16 0) (.i .u16 0) (.sl none 0 0 0) (.i .i64 0))) (c' := ((rws).set i (lrow (.b true) (.b false) (.i .u32 0) (.i .u16 0) (.i .u16 0) (.b false) (.i .u32 0) (.i .u16 0) (.i .u16 0) (.sl none 0 0 0) (.i .i64 0))).flatten) rfl (by rfl) hH4.get1 rfl (List.cons_ne_nil _ _) (foc_len (n := 67) hrw hi rfl (Nat.le_of_ble_eq_true rfl)) (foc_put hrw hi rfl (Nat.le_of_ble_eq_true rfl) (putAt_all rfl)) fun H5 hW6 => ?_
  have hH7 := hH4.wr1 hW6
  refine O_nil ?_
  refine C_seq ?_
  refine C_region ?_
  refine O_p (.i .i64 0) (r_mv rfl) ?_
  refine O_nil ?_
  refine C_ret ?_
  have hH8 := ((hH7.top1).top1)
  exact ⟨.inr rfl, _, resL_one (r_tmp (v := (.i .i64 0)) rfl), rfl, hH8⟩
theorem right_ev {H : AH} {R : HL} {m : Bool} {kind seq stamp src : Int} {da : Option (Nat × Nat)} {dn dc dg : Nat} (hk : kind ≤ 127) (hd : dn ≤ 1188) (hH0 : Hs H R) : Ev tabA spA (.fn (.func 26) [] []) [.agg [.b m, .i .u8 kind, .i .u16 seq, .i .u32 stamp, .i .u32 src, .sl da dn dc dg]] H (fun r H' => r = .i .i64 0 ∧ Hs H' R) := by
  refine Ev_C (F := x26) rfl ?_
  refine C_seq ?_
  refine C_region ?_
  refine O_box (z := [(.b m), (.i .u8 kind), (.i .u16 seq), (.i .u32 stamp), (.i .u32 src), (.sl da dn dc dg)]) rfl fun n1 H2 hN3 => ?_
  have hH4 := hH0.new hN3
  refine O_p (.i .i64 0) (r_mv rfl) ?_
  refine O_nil ?_
  refine C_seq ?_
  refine C_block ?_
  refine C_seq ?_
  refine C_region ?_
  refine O_p (.p (some (n1, 1))) (r_fadd' rfl rfl) ?_
  refine O_p (.i .u8 kind) (r_ld rfl hH4.get0 rfl) ?_
  refine O_p (.b (decide (127 < kind))) (r_gtr rfl rfl) ?_
  refine O_p (.b (decide (127 < kind))) (r_mv rfl) ?_
  refine O_nil ?_
  refine C_cond (x := (decide (127 < kind))) rfl (fun hc5 => ?_) (fun hc5 => ?_)
  ·
    try simp only [decide_eq_true_eq, decide_eq_false_iff_not, Bool.not_eq_true', Bool.not_eq_false', Bool.and_eq_true, Bool.or_eq_true, Bool.or_eq_false_iff, Bool.not_not, Bool.and_eq_false_iff] at hc5
    exfalso; omega
  ·
    try simp only [decide_eq_true_eq, decide_eq_false_iff_not, Bool.not_eq_true', Bool.not_eq_false', Bool.and_eq_true, Bool.or_eq_true, Bool.or_eq_false_iff, Bool.not_not, Bool.and_eq_false_iff] at hc5
    refine C_seq ?_
    refine C_region ?_
    refine O_p (.p (some (n1, 5))) (r_fadd' rfl rfl) ?_
    refine O_p (.sl da dn dc dg) (r_ld rfl hH4.get0 rfl) ?_
    refine O_p (.i .i64 (((dn : Nat)) : Int)) (r_len rfl) ?_
    refine O_p (.b (decide (1188 < (((dn : Nat)) : Int)))) (r_gtr rfl rfl) ?_
    refine O_p (.b (decide (1188 < (((dn : Nat)) : Int)))) (r_mv rfl) ?_
    refine O_nil ?_
    refine C_cond (x := (decide (1188 < (((dn : Nat)) : Int)))) rfl (fun hc6 => ?_) (fun hc6 => ?_)
    ·
      try simp only [decide_eq_true_eq, decide_eq_false_iff_not, Bool.not_eq_true', Bool.not_eq_false', Bool.and_eq_true, Bool.or_eq_true, Bool.or_eq_false_iff, Bool.not_not, Bool.and_eq_false_iff] at hc6
      exfalso; omega
    ·
      try simp only [decide_eq_true_eq, decide_eq_false_iff_not, Bool.not_eq_true', Bool.not_eq_false', Bool.and_eq_true, Bool.or_eq_true, Bool.or_eq_false_iff, Bool.not_not, Bool.and_eq_false_iff] at hc6
      refine C_skip ?_
      refine C_seq ?_
      refine C_region ?_
      refine O_p (.i .i64 0) (r_mv rfl) ?_
      refine O_nil ?_
      refine C_ret ?_
      have hH7 := (hH4.sub0)
      exact ⟨.inr rfl, _, resL_one (r_tmp (v := .i .i64 0) rfl), rfl, hH7⟩
theorem clamp_in {H : AH} {R : HL} {n most : Int} (h1 : 1 ≤ n ∧ n ≤ most) (hH0 : Hs H R) : Ev tabA spA (.fn (.func 24) [] []) [.i .i64 n, .i .i64 most] H (fun r H' => r = .i .i64 n ∧ Hs H' R) := by
  refine Ev_C (F := x24) rfl ?_
  refine C_seq ?_
  refine C_region ?_
  refine O_p (.i .i64 0) (r_mv rfl) ?_
  refine O_nil ?_
  refine C_seq ?_
  refine C_seq ?_
  refine C_region ?_
  refine O_p (.i .i64 n) (r_mv rfl) ?_
  refine O_p (.b (decide (n < 1))) (r_lss rfl rfl) ?_
  refine O_p (.b (decide (n < 1))) (r_mv rfl) ?_
  refine O_gx (e := (!(decide (n < 1)))) (v := (.i .i64 n)) (wf rfl) (fun he => (r_mv rfl)) ?_
  refine O_gx (e := (!(decide (n < 1)))) (v := (.i .i64 most)) (wf rfl) (fun he => (r_mv rfl)) ?_
  refine O_gx (e := (!(decide (n < 1)))) (v := (.b (decide (most < n)))) (wf rfl) (fun he => (r_gtr (cond_pos he) (cond_pos he))) ?_
  refine O_p (.b ((decide (n < 1)) || (decide (most < n)))) (r_pick_or rfl rfl rfl rfl) ?_
  refine O_nil ?_
  refine C_cond (x := ((decide (n < 1)) || (decide (most < n)))) rfl (fun hc1 => ?_) (fun hc1 => ?_)
  ·
    try simp only [decide_eq_true_eq, decide_eq_false_iff_not, Bool.not_eq_true', Bool.not_eq_false', Bool.and_eq_true, Bool.or_eq_true, Bool.or_eq_false_iff, Bool.not_not, Bool.and_eq_false_iff] at hc1
    exfalso; omega
  ·
    try simp only [decide_eq_true_eq, decide_eq_false_iff_not, Bool.not_eq_true', Bool.not_eq_false', Bool.and_eq_true, Bool.or_eq_true, Bool.or_eq_false_iff, Bool.not_not, Bool.and_eq_false_iff] at hc1
    refine C_skip ?_
    refine C_seq ?_
    refine C_region ?_
    refine O_p (.i .i64 n) (r_mv rfl) ?_
    refine O_p (.i .i64 n) (r_mv rfl) ?_
    refine O_nil ?_
    refine C_ret ?_
    exact ⟨.inr rfl, _, resL_one (r_tmp (v := (.i .i64 n)) rfl), rfl, hH0⟩
theorem clamp_out {H : AH} {R : HL} {n most : Int} (h1 : ¬ (1 ≤ n ∧ n ≤ most)) (hH0 : Hs H R) : Ev tabA spA (.fn (.func 24) [] []) [.i .i64 n, .i .i64 most] H (fun r H' => r = .i .i64 most ∧ Hs H' R) := by
  refine Ev_C (F := x24) rfl ?_
  refine C_seq ?_
  refine C_region ?_
  refine O_p (.i .i64 0) (r_mv rfl) ?_
  refine O_nil ?_
  refine C_seq ?_
  refine C_seq ?_
  refine C_region ?_
  refine O_p (.i .i64 n) (r_mv rfl) ?_
  refine O_p (.b (decide (n < 1))) (r_lss rfl rfl) ?_
  refine O_p (.b (decide (n < 1))) (r_mv rfl) ?_
  refine O_gx (e := (!(decide (n < 1)))) (v := (.i .i64 n)) (wf rfl) (fun he => (r_mv rfl)) ?_
  refine O_gx (e := (!(decide (n < 1)))) (v := (.i .i64 most)) (wf rfl) (fun he => (r_mv rfl)) ?_
  refine O_gx (e := (!(decide (n < 1)))) (v := (.b (decide (most < n)))) (wf rfl) (fun he => (r_gtr (cond_pos he) (cond_pos he))) ?_
  refine O_p (.b ((decide (n < 1)) || (decide (most < n)))) (r_pick_or rfl rfl rfl rfl) ?_
  refine O_nil ?_
  refine C_cond (x := ((decide (n < 1)) || (decide (most < n)))) rfl (fun hc1 => ?_) (fun hc1 => ?_)
  ·
    try simp only [decide_eq_true_eq, decide_eq_false_iff_not, Bool.not_eq_true', Bool.not_eq_false', Bool.and_eq_true, Bool.or_eq_true, Bool.or_eq_false_iff, Bool.not_not, Bool.and_eq_false_iff] at hc1
    refine C_seq ?_
    refine C_region ?_
    refine O_p (.i .i64 most) (r_mv rfl) ?_
    refine O_p (.i .i64 most) (r_mv rfl) ?_
    refine O_nil ?_
    refine C_ret ?_
    refine nx_ret ?_
    exact ⟨.inr rfl, _, resL_one (r_tmp (v := (.i .i64 most)) rfl), rfl, hH0⟩
  ·
    try simp only [decide_eq_true_eq, decide_eq_false_iff_not, Bool.not_eq_true', Bool.not_eq_false', Bool.and_eq_true, Bool.or_eq_true, Bool.or_eq_false_iff, Bool.not_not, Bool.and_eq_false_iff] at hc1
    exfalso; omega
def clampR (n : Int) : Nat := if 1 ≤ n ∧ n ≤ 64 then n.toNat else 64
theorem clampR_le (n : Int) : 1 ≤ clampR n ∧ clampR n ≤ 64 := by unfold clampR; split <;> omega
theorem clamp_room {H : AH} {R : HL} {n : Int} (hH0 : Hs H R) : Ev tabA spA (.fn (.func 24) [] []) [.i .i64 n, .i .i64 64] H (fun r H' => r = .i .i64 ((clampR n : Nat) : Int) ∧ Hs H' R) := by
  by_cases h : 1 ≤ n ∧ n ≤ 64
  · have e : ((clampR n : Nat) : Int) = n := by unfold clampR; rw [if_pos h]; omega
    rw [e]; exact clamp_in h hH0
  · have e : ((clampR n : Nat) : Int) = 64 := by unfold clampR; rw [if_neg h]; rfl
    rw [e]; exact clamp_out h hH0

theorem new2_ev {H : AH} {R : HL} {room : Int} (hH0 : Hs H R) : Ev tabA spA (.fn (.func 9) [] []) [.i .i64 2, .i .i64 room] H (fun r H' => ∃ F Lb, r = .p (some (F, 0)) ∧ Hs H' ([(F, some (.cells [.sl (some (Lb, 0)) 2 2 0, .i .i64 ((clampR room : Nat) : Int)] true))] ++ ([(Lb, some (.cells (List.replicate 2 zrow).flatten true))] ++ R))) := by
  refine Ev_C (F := x9) rfl ?_
  refine C_seq ?_
  refine C_region ?_
  refine O_p (.p none) (r_mv rfl) ?_
  refine O_nil ?_
  refine C_seq ?_
  refine C_draw fun b1 H2 hbase3 hA4 => ?_
  have hH5 : Hs H2 (asideL b1 [2, 6] ++ _) := hH0.aside hA4 [2, 6] hbase3 rfl (by decide)
  have hH6 : Hs H2 ([(b1 + 2, none)] ++ ([(b1 + 6, none)] ++ _)) := hH5
  refine D_l (v := (.i .i64 2)) rfl rfl rfl (r_mv rfl) ?_
  refine D_l (v := (.i .i64 room)) rfl rfl rfl (r_mv rfl) ?_
  refine D_call (Ev.mono (clamp_in (n := 2) (most := 16) (by omega) hH6) fun v7 H8 hq9 => ?_)
  obtain ⟨rfl, hH10⟩ := hq9
  refine And.intro True.intro ?_
  refine D_call (Ev.mono (clamp_room (n := room) hH10) fun v11 H12 hq13 => ?_)
  obtain ⟨rfl, hH14⟩ := hq13
  refine And.intro True.intro ?_
  refine D_m (f := fun n => (.sl (some (n, 0)) 2 2 0, .cells (List.replicate 2 zrow).flatten true)) rfl rfl fun H16 hW17 => ?_
  have hH19 := hH14.wr0 hW17
  generalize hn18 : b1 + 2 = n15 at hW17 hH19 ⊢
  refine And.intro True.intro ?_
  refine D_l (v := (.agg [(.sl (some (n15, 0)) 2 2 0), (.i .i64 ((clampR room : Nat) : Int))])) rfl rfl rfl (r_build rfl) ?_
  refine D_m (f := fun n => ((.p (some (n, 0))), .cells [(.sl (some (n15, 0)) 2 2 0), (.i .i64 ((clampR room : Nat) : Int))] true)) rfl rfl fun H21 hW22 => ?_
  have hH24 := hH19.wr1 hW22
  generalize hn23 : b1 + 6 = n20 at hW22 hH24 ⊢
  refine And.intro True.intro ?_
  refine D_l (v := (.p (some (n20, 0)))) rfl rfl rfl (r_mv rfl) ?_
  refine D_nil ?_
  refine C_ret ?_
  have hH25 := (hH24.top1)
  exact ⟨.inr rfl, _, resL_one (r_tmp (v := (.p (some (n20, 0)))) rfl), n20, n15, rfl, hH25⟩
theorem new3_ev {H : AH} {R : HL} {room : Int} (hH0 : Hs H R) : Ev tabA spA (.fn (.func 9) [] []) [.i .i64 3, .i .i64 room] H (fun r H' => ∃ F Lb, r = .p (some (F, 0)) ∧ Hs H' ([(F, some (.cells [.sl (some (Lb, 0)) 3 3 0, .i .i64 ((clampR room : Nat) : Int)] true))] ++ ([(Lb, some (.cells (List.replicate 3 zrow).flatten true))] ++ R))) := by
  refine Ev_C (F := x9) rfl ?_
  refine C_seq ?_
  refine C_region ?_
  refine O_p (.p none) (r_mv rfl) ?_
  refine O_nil ?_
  refine C_seq ?_
  refine C_draw fun b1 H2 hbase3 hA4 => ?_
  have hH5 : Hs H2 (asideL b1 [2, 6] ++ _) := hH0.aside hA4 [2, 6] hbase3 rfl (by decide)
  have hH6 : Hs H2 ([(b1 + 2, none)] ++ ([(b1 + 6, none)] ++ _)) := hH5
  refine D_l (v := (.i .i64 3)) rfl rfl rfl (r_mv rfl) ?_
  refine D_l (v := (.i .i64 room)) rfl rfl rfl (r_mv rfl) ?_
  refine D_call (Ev.mono (clamp_in (n := 3) (most := 16) (by omega) hH6) fun v7 H8 hq9 => ?_)
  obtain ⟨rfl, hH10⟩ := hq9
  refine And.intro True.intro ?_
  refine D_call (Ev.mono (clamp_room (n := room) hH10) fun v11 H12 hq13 => ?_)
  obtain ⟨rfl, hH14⟩ := hq13
  refine And.intro True.intro ?_
  refine D_m (f := fun n => (.sl (some (n, 0)) 3 3 0, .cells (List.replicate 3 zrow).flatten true)) rfl rfl fun H16 hW17 => ?_
  have hH19 := hH14.wr0 hW17
  generalize hn18 : b1 + 2 = n15 at hW17 hH19 ⊢
  refine And.intro True.intro ?_
  refine D_l (v := (.agg [(.sl (some (n15, 0)) 3 3 0), (.i .i64 ((clampR room : Nat) : Int))])) rfl rfl rfl (r_build rfl) ?_
  refine D_m (f := fun n => ((.p (some (n, 0))), .cells [(.sl (some (n15, 0)) 3 3 0), (.i .i64 ((clampR room : Nat) : Int))] true)) rfl rfl fun H21 hW22 => ?_
  have hH24 := hH19.wr1 hW22
  generalize hn23 : b1 + 6 = n20 at hW22 hH24 ⊢
  refine And.intro True.intro ?_
  refine D_l (v := (.p (some (n20, 0)))) rfl rfl rfl (r_mv rfl) ?_
  refine D_nil ?_
  refine C_ret ?_
  have hH25 := (hH24.top1)
  exact ⟨.inr rfl, _, resL_one (r_tmp (v := (.p (some (n20, 0)))) rfl), n20, n15, rfl, hH25⟩
end Go.Proofs.Ythmiglahfkfcaaa.E
