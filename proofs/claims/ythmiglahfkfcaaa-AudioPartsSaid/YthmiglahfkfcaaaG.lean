/- The forwarder, walked. It bears no condition. -/
import Derived.Test.YthmiglahfkfcaaaF
namespace Go.Proofs.Ythmiglahfkfcaaa.E
set_option linter.unusedVariables false
set_option linter.unusedSimpArgs false
theorem less44_ev {H : AH} {R : HL} (a b : Int) (hH0 : Hs H R) : Ev tabA spA (.fn (.func 44) [] []) [.i .u16 a, .i .u16 b] H (fun r H' => r = .b (less16 a b) ∧ Hs H' R) := by
  refine Ev_C (F := x44) rfl ?_
  refine C_seq ?_
  refine C_region ?_
  refine O_p (.b false) (r_mv rfl) ?_
  refine O_nil ?_
  refine C_seq ?_
  refine C_region ?_
  refine O_p (.i .u16 b) (r_mv rfl) ?_
  refine O_p (.i .u16 a) (r_mv rfl) ?_
  refine O_p (.i .u16 (IntKind.u16.wrap (b - a))) (r_bin rfl rfl rfl) ?_
  refine O_p (.i .u16 (IntKind.u16.wrap (b - a))) (r_mv rfl) ?_
  refine O_nil ?_
  refine C_seq ?_
  refine C_region ?_
  refine O_p (.i .u16 (IntKind.u16.wrap (b - a))) (r_mv rfl) ?_
  refine O_p (.b (!decide ((IntKind.u16.wrap (b - a)) = 0))) (r_neq rfl rfl) ?_
  refine O_p (.b (!decide ((IntKind.u16.wrap (b - a)) = 0))) (r_mv rfl) ?_
  refine O_gx (e := (!decide ((IntKind.u16.wrap (b - a)) = 0))) (v := (.i .u16 (IntKind.u16.wrap (b - a)))) (wt rfl) (fun he => (r_mv rfl)) ?_
  refine O_gx (e := (!decide ((IntKind.u16.wrap (b - a)) = 0))) (v := (.i .u16 (IntKind.u16.wrap 0))) (wt rfl) (fun he => (r_cint rfl)) ?_
  refine O_gx (e := (!decide ((IntKind.u16.wrap (b - a)) = 0))) (v := (.i .u16 65535)) (wt rfl) (fun he => (r_un (v := .i .u16 65535) (cond_pos he) rfl)) ?_
  refine O_gx (e := (!decide ((IntKind.u16.wrap (b - a)) = 0))) (v := (.i .u16 32767)) (wt rfl) (fun he => (r_bin (v := .i .u16 32767) (cond_pos he) rfl rfl)) ?_
  refine O_gx (e := (!decide ((IntKind.u16.wrap (b - a)) = 0))) (v := (.b (decide ((IntKind.u16.wrap (b - a)) ≤ 32767)))) (wt rfl) (fun he => (r_leq (cond_pos he) (cond_pos he))) ?_
  refine O_p (.b ((!decide ((IntKind.u16.wrap (b - a)) = 0)) && (decide ((IntKind.u16.wrap (b - a)) ≤ 32767)))) (r_pick_and rfl rfl rfl rfl) ?_
  refine O_p (.b ((!decide ((IntKind.u16.wrap (b - a)) = 0)) && (decide ((IntKind.u16.wrap (b - a)) ≤ 32767)))) (r_mv rfl) ?_
  refine O_nil ?_
  refine C_ret ?_
  exact ⟨.inr rfl, _, resL_one (r_tmp (v := (.b ((!decide ((IntKind.u16.wrap (b - a)) = 0)) && (decide ((IntKind.u16.wrap (b - a)) ≤ 32767))))) rfl), rfl, hH0⟩
theorem less16_ev {H : AH} {R : HL} (a b : Int) (hH0 : Hs H R) : Ev tabA spA (.fn (.func 43) [] []) [.i .u16 a, .i .u16 b] H (fun r H' => r = .b (less16 a b) ∧ Hs H' R) := by
  refine Ev_C (F := x43) rfl ?_
  refine C_seq ?_
  refine C_region ?_
  refine O_p (.b false) (r_mv rfl) ?_
  refine O_nil ?_
  refine C_seq ?_
  refine C_region ?_
  refine O_p (.i .u16 a) (r_mv rfl) ?_
  refine O_p (.i .u16 b) (r_mv rfl) ?_
  refine O_call (Ev.mono (less44_ev a b hH0) fun v1 H2 hq3 => ?_)
  obtain ⟨rfl, hH4⟩ := hq3
  refine O_p (.b (less16 a b)) (r_mv rfl) ?_
  refine O_nil ?_
  refine C_ret ?_
  exact ⟨.inr rfl, _, resL_one (r_tmp (v := (.b (less16 a b))) rfl), rfl, hH4⟩
theorem next_ev {H : AH} {B R : HL} {b o : Nat} {s : Spk} {m : Bool} {kind seq stamp src : Int} {dv : AV} (hsp : ∀ H', Hs H' B → ∃ c mu, H'.get b = some (.cells c mu) ∧ takeAt c o 4 = some (spkC s)) (hH0 : Hs H (B ++ R)) : Ev tabA spA (.fn (.func 40) [] []) [.p (some (b, o + 0)), .agg [(.b m), (.i .u8 kind), (.i .u16 seq), (.i .u32 stamp), (.i .u32 src), dv]] H (fun r H' => r = .tup [.i .u16 (s.next seq src).1, .b (s.next seq src).2] ∧ Hs H' (B ++ R)) := by
  refine Ev_C (F := x40) rfl ?_
  refine C_seq ?_
  refine C_region ?_
  refine O_box (z := [(.b m), (.i .u8 kind), (.i .u16 seq), (.i .u32 stamp), (.i .u32 src), dv]) rfl fun n1 H2 hN3 => ?_
  have hH4 := hH0.new hN3
  refine O_p (.i .u16 0) (r_mv rfl) ?_
  refine O_p (.b false) (r_mv rfl) ?_
  refine O_nil ?_
  refine C_seq ?_
  refine C_block ?_
  refine C_seq ?_
  refine C_region ?_
  refine O_p (.p (some (b, (o + 0)))) (r_mv rfl) ?_
  refine O_p (.p (some (b, (o + 0)))) (r_nilc rfl) ?_
  refine O_p (.p (some (b, (o + 0)))) (r_fadd' rfl rfl) ?_
  refine O_p (.b s.k) (r_ldR (q := 0) rfl (hsp _ hH4.top1.fst) rfl) ?_
  refine O_p (.b (!s.k)) (r_not rfl) ?_
  refine O_p (.b (!s.k)) (r_mv rfl) ?_
  refine O_nil ?_
  refine C_cond (x := (!s.k)) rfl (fun hc5 => ?_) (fun hc5 => ?_)
  ·
    try simp only [decide_eq_true_eq, decide_eq_false_iff_not, Bool.not_eq_true', Bool.not_eq_false', Bool.and_eq_true, Bool.or_eq_true, Bool.or_eq_false_iff, Bool.not_not, Bool.and_eq_false_iff] at hc5
    refine C_seq ?_
    refine C_region ?_
    refine O_p (.i .u16 0) (r_mv rfl) ?_
    refine O_p (.b true) (r_mv rfl) ?_
    refine O_nil ?_
    refine C_ret ?_
    refine bk_ret ?_
    refine nx_ret ?_
    have hH6 := (hH4.sub0)
    exact ⟨.inr rfl, _, resL_cons (r_tmp (v := (.i .u16 0)) rfl) (resL_one (r_tmp (v := (.b true)) rfl)), (by unfold Spk.next; simp [hc5]; rfl), hH6⟩
  ·
    try simp only [decide_eq_true_eq, decide_eq_false_iff_not, Bool.not_eq_true', Bool.not_eq_false', Bool.and_eq_true, Bool.or_eq_true, Bool.or_eq_false_iff, Bool.not_not, Bool.and_eq_false_iff] at hc5
    refine C_seq ?_
    refine C_draw fun b7 H8 hbase9 hA10 => ?_
    have hH11 := hH4.keep (by have := hA10.1; omega) (fun q _ => hA10.2 q) ((hH4.old).aside hA10).ok
    refine D_l (v := (.p (some (b, (o + 0))))) rfl rfl rfl (r_mv rfl) ?_
    refine D_l (v := (.p (some (b, (o + 0))))) rfl rfl rfl (r_nilc rfl) ?_
    refine D_l (v := (.p (some (b, (o + 1))))) rfl rfl rfl (r_fadd' rfl rfl) ?_
    refine D_l (v := (.p (some (n1, 4)))) rfl rfl rfl (r_fadd' rfl rfl) ?_
    refine D_r (v := (.i .u32 s.src)) rfl rfl rfl (r_ldR (q := 1) rfl (hsp _ hH11.top1.fst) rfl) ?_
    refine D_r (v := (.i .u32 src)) rfl rfl rfl (r_ld rfl hH11.get0 rfl) ?_
    refine D_l (v := (.b (!decide (s.src = src)))) rfl rfl rfl (r_neq rfl rfl) ?_
    refine D_l (v := (.b (!decide (s.src = src)))) rfl rfl rfl (r_mv rfl) ?_
    refine D_nil ?_
    refine C_cond (x := (!decide (s.src = src))) rfl (fun hc12 => ?_) (fun hc12 => ?_)
    ·
      try simp only [decide_eq_true_eq, decide_eq_false_iff_not, Bool.not_eq_true', Bool.not_eq_false', Bool.and_eq_true, Bool.or_eq_true, Bool.or_eq_false_iff, Bool.not_not, Bool.and_eq_false_iff] at hc12
      refine C_seq ?_
      refine C_region ?_
      refine O_p (.p (some (b, (o + 0)))) (r_mv rfl) ?_
      refine O_p (.p (some (b, (o + 0)))) (r_nilc rfl) ?_
      refine O_p (.p (some (b, (o + 3)))) (r_fadd' rfl rfl) ?_
      refine O_p (.i .u16 s.new) (r_ldR (q := 3) rfl (hsp _ hH11.top1.fst) rfl) ?_
      refine O_p (.i .u16 (IntKind.u16.wrap (s.new + 1))) (r_bin rfl rfl rfl) ?_
      refine O_p (.i .u16 (IntKind.u16.wrap (s.new + 1))) (r_mv rfl) ?_
      refine O_p (.b true) (r_mv rfl) ?_
      refine O_nil ?_
      refine C_ret ?_
      refine bk_ret ?_
      refine nx_ret ?_
      have hH13 := (hH11.sub0)
      exact ⟨.inr rfl, _, resL_cons (r_tmp (v := (.i .u16 (IntKind.u16.wrap (s.new + 1)))) rfl) (resL_one (r_tmp (v := (.b true)) rfl)), (by unfold Spk.next; simp [hc5, hc12]; rfl), hH13⟩
    ·
      try simp only [decide_eq_true_eq, decide_eq_false_iff_not, Bool.not_eq_true', Bool.not_eq_false', Bool.and_eq_true, Bool.or_eq_true, Bool.or_eq_false_iff, Bool.not_not, Bool.and_eq_false_iff] at hc12
      refine C_skip ?_
      refine C_seq ?_
      refine C_draw fun b14 H15 hbase16 hA17 => ?_
      have hH18 := hH11.keep (by have := hA17.1; omega) (fun q _ => hA17.2 q) ((hH11.old).aside hA17).ok
      refine D_l (v := (.p (some (b, (o + 0))))) rfl rfl rfl (r_mv rfl) ?_
      refine D_l (v := (.p (some (b, (o + 0))))) rfl rfl rfl (r_nilc rfl) ?_
      refine D_l (v := (.p (some (b, (o + 3))))) rfl rfl rfl (r_fadd' rfl rfl) ?_
      refine D_l (v := (.p (some (n1, 2)))) rfl rfl rfl (r_fadd' rfl rfl) ?_
      refine D_l (v := (.p (some (b, (o + 0))))) rfl rfl rfl (r_mv rfl) ?_
      refine D_l (v := (.p (some (b, (o + 0))))) rfl rfl rfl (r_nilc rfl) ?_
      refine D_l (v := (.p (some (b, (o + 2))))) rfl rfl rfl (r_fadd' rfl rfl) ?_
      refine D_l (v := (.p (some (b, (o + 0))))) rfl rfl rfl (r_mv rfl) ?_
      refine D_l (v := (.p (some (b, (o + 0))))) rfl rfl rfl (r_nilc rfl) ?_
      refine D_l (v := (.p (some (b, (o + 2))))) rfl rfl rfl (r_fadd' rfl rfl) ?_
      refine D_l (v := (.p (some (n1, 2)))) rfl rfl rfl (r_fadd' rfl rfl) ?_
      refine D_r (v := (.i .u16 s.new)) rfl rfl rfl (r_ldR (q := 3) rfl (hsp _ hH18.top1.fst) rfl) ?_
      refine D_r (v := (.i .u16 seq)) rfl rfl rfl (r_ld rfl hH18.get0 rfl) ?_
      refine D_l (v := (.i .u16 (IntKind.u16.wrap (s.new + seq)))) rfl rfl rfl (r_bin rfl rfl rfl) ?_
      refine D_r (v := (.i .u16 s.own)) rfl rfl rfl (r_ldR (q := 2) rfl (hsp _ hH18.top1.fst) rfl) ?_
      refine D_l (v := (.i .u16 (IntKind.u16.wrap ((IntKind.u16.wrap (s.new + seq)) - s.own)))) rfl rfl rfl (r_bin rfl rfl rfl) ?_
      refine D_r (v := (.i .u16 s.own)) rfl rfl rfl (r_ldR (q := 2) rfl (hsp _ hH18.top1.fst) rfl) ?_
      refine D_r (v := (.i .u16 seq)) rfl rfl rfl (r_ld rfl hH18.get0 rfl) ?_
      refine D_call (Ev.mono (less16_ev s.own seq hH18) fun v19 H20 hq21 => ?_)
      obtain ⟨rfl, hH22⟩ := hq21
      refine And.intro (And.intro (Or.inl rfl) (And.intro (Or.inl rfl) (And.intro (Or.inr (look_run rfl rfl (r_ldR (q := 2) rfl (hsp _ hH22.top1.fst) rfl))) (And.intro (Or.inr (look_run rfl rfl (r_ld rfl hH22.get0 rfl))) (And.intro (Or.inr (look_run rfl rfl (r_ldR (q := 3) rfl (hsp _ hH22.top1.fst) rfl))) True.intro))))) ?_
      refine D_l (v := (.i .u16 (IntKind.u16.wrap ((IntKind.u16.wrap (s.new + seq)) - s.own)))) rfl rfl rfl (r_mv rfl) ?_
      refine D_l (v := (.b (less16 s.own seq))) rfl rfl rfl (r_mv rfl) ?_
      refine D_nil ?_
      refine C_ret ?_
      have hH23 := (hH22.sub0)
      exact ⟨.inr rfl, _, resL_cons (r_tmp (v := (.i .u16 (IntKind.u16.wrap ((IntKind.u16.wrap (s.new + seq)) - s.own)))) rfl) (resL_one (r_tmp (v := (.b (less16 s.own seq))) rfl)), (by unfold Spk.next; simp [hc5, hc12]; rfl), hH23⟩
set_option maxHeartbeats 1000000 in
theorem hand0_no {H : AH} {R : HL} {Lb i room : Nat} {rws rows : List (List AV)} {s t : Spk} {v : AV} {c : List AV} {lost q : Int} {m : Bool} {kind seq stamp src : Int} {dv : AV} (hrw : ∀ x ∈ rws, x.length = 67) (hi : i < rws.length) (hsq : Sq 6 v c rows.flatten) (hl6 : ∀ x ∈ rows, x.length = 6) (hroom64 : room ≤ 64) (hnx : s.next seq src = ((s.next seq src).1, false)) (hH0 : Hs H ([(Lb, some (.cells (rws.set i (lrowS true s t v lost)).flatten true))] ++ (qseg v c ++ R))) : Ev tabA spA (.fn (.func 28) [] []) [.p (some (Lb, i * 67 + 0)), .i .i64 0, .agg [(.b m), (.i .u8 kind), (.i .u16 seq), (.i .u32 stamp), (.i .u32 src), dv], .i .i64 room] H (fun r H' => r = .b false ∧ Hs H' ([(Lb, some (.cells (rws.set i (lrowS true s t v lost)).flatten true))] ++ (qseg v c ++ R))) := by
  refine Ev_C (F := x28) rfl ?_
  refine C_seq ?_
  refine C_region ?_
  refine O_box (z := [(.b m), (.i .u8 kind), (.i .u16 seq), (.i .u32 stamp), (.i .u32 src), dv]) rfl fun n1 H2 hN3 => ?_
  have hH4 := hH0.new hN3
  refine O_p (.b false) (r_mv rfl) ?_
  refine O_nil ?_
  refine C_seq ?_
  refine C_draw fun b5 H6 hbase7 hA8 => ?_
  have hH9 := hH4.keep (by have := hA8.1; omega) (fun q _ => hA8.2 q) ((hH4.old).aside hA8).ok
  refine D_l (v := (.p (some (Lb, (i * 67 + 0))))) rfl rfl rfl (r_mv rfl) ?_
  refine D_l (v := (.i .i64 0)) rfl rfl rfl (r_mv rfl) ?_
  refine D_l (v := (.p (some (Lb, (i * 67 + 0))))) rfl rfl rfl (r_nilc rfl) ?_
  refine D_l (v := (.p (some (Lb, (i * 67 + 1))))) rfl rfl rfl (r_fadd' rfl rfl) ?_
  refine D_l (v := (.p (some (Lb, (i * 67 + 1))))) rfl rfl rfl (r_iarr' rfl rfl rfl rfl) ?_
  refine D_r (v := (.agg [(.b m), (.i .u8 kind), (.i .u16 seq), (.i .u32 stamp), (.i .u32 src), dv])) rfl rfl rfl (r_ldA rfl hH9.get0 rfl) ?_
  have hH10 := (hH9.top1)
  refine D_call (Ev.mono (Ev.mono (next_ev (s := s) (b := Lb) (o := i * 67 + 1) (B := [(Lb, some (.cells (((rws).set i (lrow (.b true) (.b s.k) (.i .u32 s.src) (.i .u16 s.own) (.i .u16 s.new) (.b t.k) (.i .u32 t.src) (.i .u16 t.own) (.i .u16 t.new) v (.i .i64 lost))).flatten) true))]) (fun H' hh => ⟨_, _, Hs.get (R := []) (by rw [List.append_nil]; exact hh), (foc_take hrw hi rfl (by decide)).trans rfl⟩) hH10) fun r H' hq => (by rw [hnx] at hq; exact hq : r = .tup [.i .u16 (s.next seq src).1, .b false] ∧ _)) fun v11 H12 hq13 => ?_)
  obtain ⟨rfl, hH14⟩ := hq13
  refine And.intro (And.intro (Or.inl rfl) True.intro) ?_
  refine D_l (v := (.tup [(.i .u16 (s.next seq src).1), (.b false)])) rfl rfl rfl (r_mv rfl) ?_
  refine D_l (v := (.i .u16 (s.next seq src).1)) rfl rfl rfl (r_ext rfl rfl) ?_
  refine D_l (v := (.b false)) rfl rfl rfl (r_ext rfl rfl) ?_
  refine D_l (v := (.i .u16 (s.next seq src).1)) rfl rfl rfl (r_mv rfl) ?_
  refine D_l (v := (.b false)) rfl rfl rfl (r_mv rfl) ?_
  refine D_nil ?_
  refine C_seq ?_
  refine C_seq ?_
  refine C_region ?_
  refine O_p (.p (some (Lb, (i * 67 + 0)))) (r_mv rfl) ?_
  refine O_p (.p (some (Lb, (i * 67 + 0)))) (r_nilc rfl) ?_
  refine O_p (.p (some (Lb, (i * 67 + 0)))) (r_fadd' rfl rfl) ?_
  refine O_p (.b true) (by exact (r_ld rfl hH14.get0 ((foc_get hrw hi rfl (by decide)).trans rfl))) ?_
  refine O_p (.b false) (r_un rfl rfl) ?_
  refine O_p (.b false) (r_mv rfl) ?_
  refine O_gk rfl ?_
  refine O_p (.b false) (r_mv rfl) ?_
  refine O_gk rfl ?_
  refine O_p (.b true) (r_un rfl rfl) ?_
  refine O_p (.b true) (r_pick_f rfl rfl) ?_
  refine O_nil ?_
  refine C_cond (x := true) rfl (fun _ => ?_) (fun h => by cases h)
  refine C_seq ?_
  refine C_region ?_
  refine O_p (.b false) (r_mv rfl) ?_
  refine O_nil ?_
  refine C_ret ?_
  refine nx_ret ?_
  have hH15 := (hH14.sub1)
  have hH16 := ((hH15.top1).top1)
  exact ⟨.inr rfl, _, resL_one (r_tmp (v := .b false) rfl), rfl, hH16⟩
set_option maxHeartbeats 1000000 in
theorem hand0_room {H : AH} {R : HL} {Lb i room : Nat} {rws rows : List (List AV)} {s t : Spk} {v : AV} {c : List AV} {lost q : Int} {m : Bool} {kind seq stamp src : Int} {dv : AV} (hrw : ∀ x ∈ rws, x.length = 67) (hi : i < rws.length) (hsq : Sq 6 v c rows.flatten) (hl6 : ∀ x ∈ rows, x.length = 6) (hroom64 : room ≤ 64) (hnx : s.next seq src = (q, true)) (hroom : rows.length < room) (hH0 : Hs H ([(Lb, some (.cells (rws.set i (lrowS true s t v lost)).flatten true))] ++ (qseg v c ++ R))) : Ev tabA spA (.fn (.func 28) [] []) [.p (some (Lb, i * 67 + 0)), .i .i64 0, .agg [(.b m), (.i .u8 kind), (.i .u16 seq), (.i .u32 stamp), (.i .u32 src), dv], .i .i64 room] H (fun r H' => r = .b true ∧ ∃ v' c', Sq 6 v' c' (rows ++ [[.b m, .i .u8 kind, .i .u16 q, .i .u32 stamp, .i .u32 1, dv]]).flatten ∧ Hs H' ([(Lb, some (.cells (rws.set i (lrowS true ⟨true, src, seq, q⟩ t v' lost)).flatten true))] ++ (qseg v' c' ++ R))) := by
  refine Ev_C (F := x28) rfl ?_
  refine C_seq ?_
  refine C_region ?_
  refine O_box (z := [(.b m), (.i .u8 kind), (.i .u16 seq), (.i .u32 stamp), (.i .u32 src), dv]) rfl fun n1 H2 hN3 => ?_
  have hH4 := hH0.new hN3
  refine O_p (.b false) (r_mv rfl) ?_
  refine O_nil ?_
  refine C_seq ?_
  refine C_draw fun b5 H6 hbase7 hA8 => ?_
  have hH9 := hH4.keep (by have := hA8.1; omega) (fun q _ => hA8.2 q) ((hH4.old).aside hA8).ok
  refine D_l (v := (.p (some (Lb, (i * 67 + 0))))) rfl rfl rfl (r_mv rfl) ?_
  refine D_l (v := (.i .i64 0)) rfl rfl rfl (r_mv rfl) ?_
  refine D_l (v := (.p (some (Lb, (i * 67 + 0))))) rfl rfl rfl (r_nilc rfl) ?_
  refine D_l (v := (.p (some (Lb, (i * 67 + 1))))) rfl rfl rfl (r_fadd' rfl rfl) ?_
  refine D_l (v := (.p (some (Lb, (i * 67 + 1))))) rfl rfl rfl (r_iarr' rfl rfl rfl rfl) ?_
  refine D_r (v := (.agg [(.b m), (.i .u8 kind), (.i .u16 seq), (.i .u32 stamp), (.i .u32 src), dv])) rfl rfl rfl (r_ldA rfl hH9.get0 rfl) ?_
  have hH10 := (hH9.top1)
  refine D_call (Ev.mono (Ev.mono (next_ev (s := s) (b := Lb) (o := i * 67 + 1) (B := [(Lb, some (.cells (((rws).set i (lrow (.b true) (.b s.k) (.i .u32 s.src) (.i .u16 s.own) (.i .u16 s.new) (.b t.k) (.i .u32 t.src) (.i .u16 t.own) (.i .u16 t.new) v (.i .i64 lost))).flatten) true))]) (fun H' hh => ⟨_, _, Hs.get (R := []) (by rw [List.append_nil]; exact hh), (foc_take hrw hi rfl (by decide)).trans rfl⟩) hH10) fun r H' hq => (by rw [hnx] at hq; exact hq : r = .tup [.i .u16 q, .b true] ∧ _)) fun v11 H12 hq13 => ?_)
  obtain ⟨rfl, hH14⟩ := hq13
  refine And.intro (And.intro (Or.inl rfl) True.intro) ?_
  refine D_l (v := (.tup [(.i .u16 q), (.b true)])) rfl rfl rfl (r_mv rfl) ?_
  refine D_l (v := (.i .u16 q)) rfl rfl rfl (r_ext rfl rfl) ?_
  refine D_l (v := (.b true)) rfl rfl rfl (r_ext rfl rfl) ?_
  refine D_l (v := (.i .u16 q)) rfl rfl rfl (r_mv rfl) ?_
  refine D_l (v := (.b true)) rfl rfl rfl (r_mv rfl) ?_
  refine D_nil ?_
  refine C_seq ?_
  refine C_seq ?_
  refine C_region ?_
  refine O_p (.p (some (Lb, (i * 67 + 0)))) (r_mv rfl) ?_
  refine O_p (.p (some (Lb, (i * 67 + 0)))) (r_nilc rfl) ?_
  refine O_p (.p (some (Lb, (i * 67 + 0)))) (r_fadd' rfl rfl) ?_
  refine O_p (.b true) (by exact (r_ld rfl hH14.get0 ((foc_get hrw hi rfl (by decide)).trans rfl))) ?_
  refine O_p (.b false) (r_un rfl rfl) ?_
  refine O_p (.b false) (r_mv rfl) ?_
  refine O_gk rfl ?_
  refine O_p (.b true) (r_mv rfl) ?_
  refine O_gk rfl ?_
  refine O_p (.b false) (r_un rfl rfl) ?_
  refine O_p (.b false) (r_pick_f rfl rfl) ?_
  refine O_nil ?_
  refine C_cond (x := false) rfl (fun h => by cases h) (fun _ => ?_)
  refine C_skip ?_
  refine C_seq ?_
  refine C_draw fun b15 H16 hbase17 hA18 => ?_
  have hH19 := hH14.keep (by have := hA18.1; omega) (fun q _ => hA18.2 q) ((hH14.old).aside hA18).ok
  refine D_l (v := (.p (some (Lb, (i * 67 + 0))))) rfl rfl rfl (r_mv rfl) ?_
  refine D_l (v := (.i .i64 0)) rfl rfl rfl (r_mv rfl) ?_
  refine D_l (v := (.p (some (n1, 4)))) rfl rfl rfl (r_fadd' rfl rfl) ?_
  refine D_l (v := (.p (some (n1, 2)))) rfl rfl rfl (r_fadd' rfl rfl) ?_
  refine D_l (v := (.i .u16 q)) rfl rfl rfl (r_mv rfl) ?_
  refine D_l (v := (.p (some (Lb, (i * 67 + 0))))) rfl rfl rfl (r_nilc rfl) ?_
  refine D_l (v := (.p (some (Lb, (i * 67 + 1))))) rfl rfl rfl (r_fadd' rfl rfl) ?_
  refine D_r (v := (.i .u32 src)) rfl rfl rfl (r_ld rfl hH19.get1 rfl) ?_
  refine D_r (v := (.i .u16 seq)) rfl rfl rfl (r_ld rfl hH19.get1 rfl) ?_
  refine D_l (v := (.agg [(.b true), (.i .u32 src), (.i .u16 seq), (.i .u16 q)])) rfl rfl rfl (r_build rfl) ?_
  refine D_l (v := (.p (some (Lb, (i * 67 + 1))))) rfl rfl rfl (r_iarr' rfl rfl rfl rfl) ?_
  refine D_store (vs := [(.b true), (.i .u32 src), (.i .u16 seq), (.i .u16 q)]) (c' := ((rws).set i (lrow (.b true) (.b true) (.i .u32 src) (.i .u16 seq) (.i .u16 q) (.b t.k) (.i .u32 t.src) (.i .u16 t.own) (.i .u16 t.new) v (.i .i64 lost))).flatten) rfl (by rfl) hH19.get0 rfl (List.cons_ne_nil _ _) (foc_len (n := 4) hrw hi rfl (Nat.le_of_ble_eq_true rfl)) (foc_put hrw hi rfl (Nat.le_of_ble_eq_true rfl) rfl) fun H20 hW21 => ?_
  have hH22 := hH19.wr0 hW21
  refine And.intro (And.intro (Or.inl rfl) (And.intro (Or.inl rfl) True.intro)) ?_
  refine D_nil ?_
  refine C_seq ?_
  refine C_seq ?_
  refine C_region ?_
  refine O_p (.p (some (Lb, (i * 67 + 0)))) (r_mv rfl) ?_
  refine O_p (.p (some (Lb, (i * 67 + 0)))) (r_nilc rfl) ?_
  refine O_p (.p (some (Lb, (i * 67 + 65)))) (r_fadd' rfl rfl) ?_
  refine O_p v (by exact (r_ld rfl hH22.get0 ((foc_get hrw hi rfl (by decide)).trans rfl))) ?_
  refine O_p (.i .i64 (((rows.length : Nat)) : Int)) (by exact (by exact r_lenOf rfl (hsq.lenOf (flat_len hl6) (by decide)) hsq.isSl)) ?_
  refine O_p (.i .i64 ((room : Nat) : Int)) (r_mv rfl) ?_
  refine O_p (.b false) (by exact (by rw [r_geq rfl rfl, decide_eq_false (by first | omega | assumption)])) ?_
  refine O_nil ?_
  refine C_cond (x := false) rfl (fun h => by cases h) (fun _ => ?_)
  refine C_skip ?_
  refine C_seq ?_
  refine C_region ?_
  refine O_p (.i .u16 q) (r_mv rfl) ?_
  refine O_p (.i .i64 0) (r_mv rfl) ?_
  refine O_p (.i .u32 0) (by exact (r_cint' rfl (by rw [wrap_u32]; decide))) ?_
  refine O_p (.i .u32 1) (r_bin rfl rfl rfl) ?_
  refine O_p (.p (some (n1, 2))) (r_fadd' rfl rfl) ?_
  refine O_store (vs := [(.i .u16 q)]) (c' := [(.b m), (.i .u8 kind), (.i .u16 q), (.i .u32 stamp), (.i .u32 src), dv]) rfl (by rfl) hH22.get1 rfl (List.cons_ne_nil _ _) (Nat.le_of_ble_eq_true rfl) rfl fun H23 hW24 => ?_
  have hH25 := hH22.wr1 hW24
  refine O_p (.p (some (n1, 4))) (r_fadd' rfl rfl) ?_
  refine O_store (vs := [(.i .u32 1)]) (c' := [(.b m), (.i .u8 kind), (.i .u16 q), (.i .u32 stamp), (.i .u32 1), dv]) rfl (by rfl) hH25.get1 rfl (List.cons_ne_nil _ _) (Nat.le_of_ble_eq_true rfl) rfl fun H26 hW27 => ?_
  have hH28 := hH25.wr1 hW27
  refine O_nil ?_
  refine C_seq ?_
  refine C_draw fun b29 H30 hbase31 hA32 => ?_
  have hH33 : Hs H30 (asideL b29 [6] ++ _) := hH28.aside hA32 [6] hbase31 rfl (by decide)
  have hH34 : Hs H30 ([(b29 + 6, none)] ++ _) := hH33
  refine D_l (v := (.p (some (Lb, (i * 67 + 0))))) rfl rfl rfl (r_mv rfl) ?_
  refine D_l (v := (.p (some (Lb, (i * 67 + 0))))) rfl rfl rfl (r_mv rfl) ?_
  refine D_l (v := (.p (some (Lb, (i * 67 + 0))))) rfl rfl rfl (r_nilc rfl) ?_
  refine D_l (v := (.p (some (Lb, (i * 67 + 65))))) rfl rfl rfl (r_fadd' rfl rfl) ?_
  refine D_r (v := v) rfl rfl rfl (by exact (r_ld rfl hH34.get1 ((foc_get hrw hi rfl (by decide)).trans rfl))) ?_
  refine D_r (v := (.agg [(.b m), (.i .u8 kind), (.i .u16 q), (.i .u32 stamp), (.i .u32 1), dv])) rfl rfl rfl (r_ldA rfl hH34.get2 rfl) ?_
  refine D_m (f := fun n => ((.sl (some (n, 0)) 1 1 0), .cells [(.b m), (.i .u8 kind), (.i .u16 q), (.i .u32 stamp), (.i .u32 1), dv] true)) rfl rfl fun H36 hW37 => ?_
  have hH39 := hH34.wr0 hW37
  generalize hn38 : b29 + 6 = n35 at hW37 hH39 ⊢
  refine And.intro (And.intro (Or.inl rfl) (And.intro (Or.inr (look_run rfl rfl (r_ld rfl hH39.get1 ((foc_get hrw hi rfl (by decide)).trans rfl)))) True.intro)) ?_
  refine D_qh rfl rfl (by exact r_appq (n := rows.length) (k := 1) (new := [(.b m), (.i .u8 kind), (.i .u16 q), (.i .u32 stamp), (.i .u32 1), dv]) hH39.top3 hsq rfl rfl rfl (src_blk hH39.get0 (by rfl)) rfl (by decide) (by decide) (flat_len hl6) (by first | omega | (simp only [List.length_take, List.length_drop, List.length_append, List.length_cons, List.length_nil, beN_len] <;> omega))) fun o40 H41 hA43 => ?_
  obtain ⟨c42, hA43, hH44⟩ := hA43
  refine And.intro (And.intro (Or.inl rfl) True.intro) ?_
  obtain ⟨qa45, ql46, qc47, qg48, rfl⟩ := hA43.isSl
  refine D_l (v := (.p (some (Lb, (i * 67 + 0))))) rfl rfl rfl (r_nilc rfl) ?_
  refine D_l (v := (.p (some (Lb, (i * 67 + 65))))) rfl rfl rfl (r_fadd' rfl rfl) ?_
  refine D_store (vs := [(.sl qa45 ql46 qc47 qg48)]) (c' := ((rws).set i (lrow (.b true) (.b true) (.i .u32 src) (.i .u16 seq) (.i .u16 q) (.b t.k) (.i .u32 t.src) (.i .u16 t.own) (.i .u16 t.new) (.sl qa45 ql46 qc47 qg48) (.i .i64 lost))).flatten) rfl (by rfl) hH44.get2 rfl (List.cons_ne_nil _ _) (foc_len (n := 1) hrw hi rfl (Nat.le_of_ble_eq_true rfl)) (foc_put hrw hi rfl (Nat.le_of_ble_eq_true rfl) rfl) fun H49 hW50 => ?_
  have hH51 := hH44.wr2 hW50
  refine And.intro True.intro ?_
  refine D_nil ?_
  refine C_seq ?_
  refine C_region ?_
  refine O_p (.b true) (r_mv rfl) ?_
  refine O_nil ?_
  refine C_ret ?_
  have hH52 := ((hH51.sub1).sub2)
  have hH53 := (hH52.top1)
  exact ⟨.inr rfl, _, resL_one (r_tmp (v := .b true) rfl), rfl, (.sl qa45 ql46 qc47 qg48), c42, by have h := hA43; rw [flat_snoc] at h; exact h, hH53⟩
set_option maxHeartbeats 1000000 in
theorem hand0_full {H : AH} {R : HL} {Lb i room : Nat} {rws rows : List (List AV)} {s t : Spk} {v : AV} {c : List AV} {lost q : Int} {m : Bool} {kind seq stamp src : Int} {dv : AV} (hrw : ∀ x ∈ rws, x.length = 67) (hi : i < rws.length) (hsq : Sq 6 v c rows.flatten) (hl6 : ∀ x ∈ rows, x.length = 6) (hroom64 : room ≤ 64) (hnx : s.next seq src = (q, true)) (hroom : room ≤ rows.length) (hlost : 0 ≤ lost ∧ lost < 4611686018427387904) (hH0 : Hs H ([(Lb, some (.cells (rws.set i (lrowS true s t v lost)).flatten true))] ++ (qseg v c ++ R))) : Ev tabA spA (.fn (.func 28) [] []) [.p (some (Lb, i * 67 + 0)), .i .i64 0, .agg [(.b m), (.i .u8 kind), (.i .u16 seq), (.i .u32 stamp), (.i .u32 src), dv], .i .i64 room] H (fun r H' => r = .b false ∧ Hs H' ([(Lb, some (.cells (rws.set i (lrowS true ⟨true, src, seq, q⟩ t v (lost + 1))).flatten true))] ++ (qseg v c ++ R))) := by
  refine Ev_C (F := x28) rfl ?_
  refine C_seq ?_
  refine C_region ?_
  refine O_box (z := [(.b m), (.i .u8 kind), (.i .u16 seq), (.i .u32 stamp), (.i .u32 src), dv]) rfl fun n1 H2 hN3 => ?_
  have hH4 := hH0.new hN3
  refine O_p (.b false) (r_mv rfl) ?_
  refine O_nil ?_
  refine C_seq ?_
  refine C_draw fun b5 H6 hbase7 hA8 => ?_
  have hH9 := hH4.keep (by have := hA8.1; omega) (fun q _ => hA8.2 q) ((hH4.old).aside hA8).ok
  refine D_l (v := (.p (some (Lb, (i * 67 + 0))))) rfl rfl rfl (r_mv rfl) ?_
  refine D_l (v := (.i .i64 0)) rfl rfl rfl (r_mv rfl) ?_
  refine D_l (v := (.p (some (Lb, (i * 67 + 0))))) rfl rfl rfl (r_nilc rfl) ?_
  refine D_l (v := (.p (some (Lb, (i * 67 + 1))))) rfl rfl rfl (r_fadd' rfl rfl) ?_
  refine D_l (v := (.p (some (Lb, (i * 67 + 1))))) rfl rfl rfl (r_iarr' rfl rfl rfl rfl) ?_
  refine D_r (v := (.agg [(.b m), (.i .u8 kind), (.i .u16 seq), (.i .u32 stamp), (.i .u32 src), dv])) rfl rfl rfl (r_ldA rfl hH9.get0 rfl) ?_
  have hH10 := (hH9.top1)
  refine D_call (Ev.mono (Ev.mono (next_ev (s := s) (b := Lb) (o := i * 67 + 1) (B := [(Lb, some (.cells (((rws).set i (lrow (.b true) (.b s.k) (.i .u32 s.src) (.i .u16 s.own) (.i .u16 s.new) (.b t.k) (.i .u32 t.src) (.i .u16 t.own) (.i .u16 t.new) v (.i .i64 lost))).flatten) true))]) (fun H' hh => ⟨_, _, Hs.get (R := []) (by rw [List.append_nil]; exact hh), (foc_take hrw hi rfl (by decide)).trans rfl⟩) hH10) fun r H' hq => (by rw [hnx] at hq; exact hq : r = .tup [.i .u16 q, .b true] ∧ _)) fun v11 H12 hq13 => ?_)
  obtain ⟨rfl, hH14⟩ := hq13
  refine And.intro (And.intro (Or.inl rfl) True.intro) ?_
  refine D_l (v := (.tup [(.i .u16 q), (.b true)])) rfl rfl rfl (r_mv rfl) ?_
  refine D_l (v := (.i .u16 q)) rfl rfl rfl (r_ext rfl rfl) ?_
  refine D_l (v := (.b true)) rfl rfl rfl (r_ext rfl rfl) ?_
  refine D_l (v := (.i .u16 q)) rfl rfl rfl (r_mv rfl) ?_
  refine D_l (v := (.b true)) rfl rfl rfl (r_mv rfl) ?_
  refine D_nil ?_
  refine C_seq ?_
  refine C_seq ?_
  refine C_region ?_
  refine O_p (.p (some (Lb, (i * 67 + 0)))) (r_mv rfl) ?_
  refine O_p (.p (some (Lb, (i * 67 + 0)))) (r_nilc rfl) ?_
  refine O_p (.p (some (Lb, (i * 67 + 0)))) (r_fadd' rfl rfl) ?_
  refine O_p (.b true) (by exact (r_ld rfl hH14.get0 ((foc_get hrw hi rfl (by decide)).trans rfl))) ?_
  refine O_p (.b false) (r_un rfl rfl) ?_
  refine O_p (.b false) (r_mv rfl) ?_
  refine O_gk rfl ?_
  refine O_p (.b true) (r_mv rfl) ?_
  refine O_gk rfl ?_
  refine O_p (.b false) (r_un rfl rfl) ?_
  refine O_p (.b false) (r_pick_f rfl rfl) ?_
  refine O_nil ?_
  refine C_cond (x := false) rfl (fun h => by cases h) (fun _ => ?_)
  refine C_skip ?_
  refine C_seq ?_
  refine C_draw fun b15 H16 hbase17 hA18 => ?_
  have hH19 := hH14.keep (by have := hA18.1; omega) (fun q _ => hA18.2 q) ((hH14.old).aside hA18).ok
  refine D_l (v := (.p (some (Lb, (i * 67 + 0))))) rfl rfl rfl (r_mv rfl) ?_
  refine D_l (v := (.i .i64 0)) rfl rfl rfl (r_mv rfl) ?_
  refine D_l (v := (.p (some (n1, 4)))) rfl rfl rfl (r_fadd' rfl rfl) ?_
  refine D_l (v := (.p (some (n1, 2)))) rfl rfl rfl (r_fadd' rfl rfl) ?_
  refine D_l (v := (.i .u16 q)) rfl rfl rfl (r_mv rfl) ?_
  refine D_l (v := (.p (some (Lb, (i * 67 + 0))))) rfl rfl rfl (r_nilc rfl) ?_
  refine D_l (v := (.p (some (Lb, (i * 67 + 1))))) rfl rfl rfl (r_fadd' rfl rfl) ?_
  refine D_r (v := (.i .u32 src)) rfl rfl rfl (r_ld rfl hH19.get1 rfl) ?_
  refine D_r (v := (.i .u16 seq)) rfl rfl rfl (r_ld rfl hH19.get1 rfl) ?_
  refine D_l (v := (.agg [(.b true), (.i .u32 src), (.i .u16 seq), (.i .u16 q)])) rfl rfl rfl (r_build rfl) ?_
  refine D_l (v := (.p (some (Lb, (i * 67 + 1))))) rfl rfl rfl (r_iarr' rfl rfl rfl rfl) ?_
  refine D_store (vs := [(.b true), (.i .u32 src), (.i .u16 seq), (.i .u16 q)]) (c' := ((rws).set i (lrow (.b true) (.b true) (.i .u32 src) (.i .u16 seq) (.i .u16 q) (.b t.k) (.i .u32 t.src) (.i .u16 t.own) (.i .u16 t.new) v (.i .i64 lost))).flatten) rfl (by rfl) hH19.get0 rfl (List.cons_ne_nil _ _) (foc_len (n := 4) hrw hi rfl (Nat.le_of_ble_eq_true rfl)) (foc_put hrw hi rfl (Nat.le_of_ble_eq_true rfl) rfl) fun H20 hW21 => ?_
  have hH22 := hH19.wr0 hW21
  refine And.intro (And.intro (Or.inl rfl) (And.intro (Or.inl rfl) True.intro)) ?_
  refine D_nil ?_
  refine C_seq ?_
  refine C_seq ?_
  refine C_region ?_
  refine O_p (.p (some (Lb, (i * 67 + 0)))) (r_mv rfl) ?_
  refine O_p (.p (some (Lb, (i * 67 + 0)))) (r_nilc rfl) ?_
  refine O_p (.p (some (Lb, (i * 67 + 65)))) (r_fadd' rfl rfl) ?_
  refine O_p v (by exact (r_ld rfl hH22.get0 ((foc_get hrw hi rfl (by decide)).trans rfl))) ?_
  refine O_p (.i .i64 (((rows.length : Nat)) : Int)) (by exact (by exact r_lenOf rfl (hsq.lenOf (flat_len hl6) (by decide)) hsq.isSl)) ?_
  refine O_p (.i .i64 ((room : Nat) : Int)) (r_mv rfl) ?_
  refine O_p (.b true) (by exact (by rw [r_geq rfl rfl, decide_eq_true (by first | omega | assumption)])) ?_
  refine O_nil ?_
  refine C_cond (x := true) rfl (fun _ => ?_) (fun h => by cases h)
  refine C_seq ?_
  refine C_region ?_
  refine O_p (.p (some (Lb, (i * 67 + 0)))) (r_mv rfl) ?_
  refine O_p (.p (some (Lb, (i * 67 + 0)))) (r_nilc rfl) ?_
  refine O_p (.p (some (Lb, (i * 67 + 66)))) (r_fadd' rfl rfl) ?_
  refine O_p (.i .i64 lost) (by exact (r_ld rfl hH22.get0 ((foc_get hrw hi rfl (by decide)).trans rfl))) ?_
  refine O_p (.i .i64 (lost + 1)) (by exact (r_addi rfl rfl (wrap_i64 (by omega) (by omega)))) ?_
  refine O_p (.p (some (Lb, (i * 67 + 0)))) (r_nilc rfl) ?_
  refine O_p (.p (some (Lb, (i * 67 + 66)))) (r_fadd' rfl rfl) ?_
  refine O_store (vs := [(.i .i64 (lost + 1))]) (c' := ((rws).set i (lrow (.b true) (.b true) (.i .u32 src) (.i .u16 seq) (.i .u16 q) (.b t.k) (.i .u32 t.src) (.i .u16 t.own) (.i .u16 t.new) v (.i .i64 (lost + 1)))).flatten) rfl (by rfl) hH22.get0 rfl (List.cons_ne_nil _ _) (foc_len (n := 1) hrw hi rfl (Nat.le_of_ble_eq_true rfl)) (foc_put hrw hi rfl (Nat.le_of_ble_eq_true rfl) rfl) fun H23 hW24 => ?_
  have hH25 := hH22.wr0 hW24
  refine O_nil ?_
  refine C_seq ?_
  refine C_region ?_
  refine O_p (.b false) (r_mv rfl) ?_
  refine O_nil ?_
  refine C_ret ?_
  refine nx_ret ?_
  have hH26 := (hH25.sub1)
  have hH27 := ((hH26.top1).top1)
  exact ⟨.inr rfl, _, resL_one (r_tmp (v := .b false) rfl), rfl, hH27⟩
theorem hand0_ev {H : AH} {R D : HL} {Lb i room : Nat} {rws rows : List (List AV)} {s t : Spk} {v : AV} {c : List AV} {lost : Int} {w : List Pk} {p : Pk} {dv : AV} (hrw : ∀ x ∈ rws, x.length = 67) (hi : i < rws.length) (hsq : Sq 6 v c rows.flatten) (hpr : PksR D rows w) (hp : PkRow D [.b p.m, .i .u8 p.kind, .i .u16 p.seq, .i .u32 p.stamp, .i .u32 p.src, dv] p) (hroom64 : room ≤ 64) (hlost : 0 ≤ lost ∧ lost < 4611686018427387904) (hH0 : Hs H ([(Lb, some (.cells (rws.set i (lrowS true s t v lost)).flatten true))] ++ (qseg v c ++ R))) :
    Ev tabA spA (.fn (.func 28) [] []) [.p (some (Lb, i * 67 + 0)), .i .i64 0, .agg [.b p.m, .i .u8 p.kind, .i .u16 p.seq, .i .u32 p.stamp, .i .u32 p.src, dv], .i .i64 room] H (fun r H' => ∃ v' c' rows', r = .b (handW s room w lost 1 p).2.2.2 ∧ Sq 6 v' c' rows'.flatten ∧ PksR D rows' (handW s room w lost 1 p).2.1 ∧ Hs H' ([(Lb, some (.cells (rws.set i (lrowS true (handW s room w lost 1 p).1 t v' (handW s room w lost 1 p).2.2.1)).flatten true))] ++ (qseg v' c' ++ R))) := by
  by_cases h1 : (s.next p.seq p.src).2 = false
  · have hW : handW s room w lost 1 p = (s, w, lost, false) := by unfold handW; rw [if_pos h1]
    rw [hW]
    refine Ev.mono (hand0_no (q := 0) hrw hi hsq hpr.lens hroom64 (by rw [← h1]) hH0) fun r H2 hq => ?_
    obtain ⟨rfl, hh⟩ := hq
    exact ⟨v, c, rows, rfl, hsq, hpr, hh⟩
  · have hn : s.next p.seq p.src = ((s.next p.seq p.src).1, true) := by
      have : (s.next p.seq p.src).2 = true := by simpa using h1
      rw [← this]
    by_cases h2 : w.length < room
    · have hW : handW s room w lost 1 p = (⟨true, p.src, p.seq, (s.next p.seq p.src).1⟩, w ++ [{ p with seq := (s.next p.seq p.src).1, src := 1 }], lost, true) := by unfold handW; rw [if_neg h1, if_pos h2]
      rw [hW]
      refine Ev.mono (hand0_room hrw hi hsq hpr.lens hroom64 hn (by rw [hpr.1]; exact h2) hH0) fun r H2 hq => ?_
      obtain ⟨rfl, v', c', hs, hh⟩ := hq
      obtain ⟨a, cap, g, e, k1, k2, k3, k4⟩ := hp
      simp only [List.cons.injEq, and_true, true_and] at e
      subst e
      exact ⟨v', c', _, rfl, hs, hpr.snoc ⟨a, cap, g, rfl, k1, k2, k3, k4⟩, hh⟩
    · have hW : handW s room w lost 1 p = (⟨true, p.src, p.seq, (s.next p.seq p.src).1⟩, w, lost + 1, false) := by unfold handW; rw [if_neg h1, if_neg h2]
      rw [hW]
      refine Ev.mono (hand0_full hrw hi hsq hpr.lens hroom64 hn (by rw [hpr.1]; omega) hlost hH0) fun r H2 hq => ?_
      obtain ⟨rfl, hh⟩ := hq
      exact ⟨v, c, rows, rfl, hsq, hpr, hh⟩

set_option maxHeartbeats 1000000 in
theorem hand1_no {H : AH} {R : HL} {Lb i room : Nat} {rws rows : List (List AV)} {s t : Spk} {v : AV} {c : List AV} {lost q : Int} {m : Bool} {kind seq stamp src : Int} {dv : AV} (hrw : ∀ x ∈ rws, x.length = 67) (hi : i < rws.length) (hsq : Sq 6 v c rows.flatten) (hl6 : ∀ x ∈ rows, x.length = 6) (hroom64 : room ≤ 64) (hnx : t.next seq src = ((t.next seq src).1, false)) (hH0 : Hs H ([(Lb, some (.cells (rws.set i (lrowS true s t v lost)).flatten true))] ++ (qseg v c ++ R))) : Ev tabA spA (.fn (.func 28) [] []) [.p (some (Lb, i * 67 + 0)), .i .i64 1, .agg [(.b m), (.i .u8 kind), (.i .u16 seq), (.i .u32 stamp), (.i .u32 src), dv], .i .i64 room] H (fun r H' => r = .b false ∧ Hs H' ([(Lb, some (.cells (rws.set i (lrowS true s t v lost)).flatten true))] ++ (qseg v c ++ R))) := by
  refine Ev_C (F := x28) rfl ?_
  refine C_seq ?_
  refine C_region ?_
  refine O_box (z := [(.b m), (.i .u8 kind), (.i .u16 seq), (.i .u32 stamp), (.i .u32 src), dv]) rfl fun n1 H2 hN3 => ?_
  have hH4 := hH0.new hN3
  refine O_p (.b false) (r_mv rfl) ?_
  refine O_nil ?_
  refine C_seq ?_
  refine C_draw fun b5 H6 hbase7 hA8 => ?_
  have hH9 := hH4.keep (by have := hA8.1; omega) (fun q _ => hA8.2 q) ((hH4.old).aside hA8).ok
  refine D_l (v := (.p (some (Lb, (i * 67 + 0))))) rfl rfl rfl (r_mv rfl) ?_
  refine D_l (v := (.i .i64 1)) rfl rfl rfl (r_mv rfl) ?_
  refine D_l (v := (.p (some (Lb, (i * 67 + 0))))) rfl rfl rfl (r_nilc rfl) ?_
  refine D_l (v := (.p (some (Lb, (i * 67 + 1))))) rfl rfl rfl (r_fadd' rfl rfl) ?_
  refine D_l (v := (.p (some (Lb, (i * 67 + 5))))) rfl rfl rfl (r_iarr' rfl rfl rfl rfl) ?_
  refine D_r (v := (.agg [(.b m), (.i .u8 kind), (.i .u16 seq), (.i .u32 stamp), (.i .u32 src), dv])) rfl rfl rfl (r_ldA rfl hH9.get0 rfl) ?_
  have hH10 := (hH9.top1)
  refine D_call (Ev.mono (Ev.mono (next_ev (s := t) (b := Lb) (o := i * 67 + 5) (B := [(Lb, some (.cells (((rws).set i (lrow (.b true) (.b s.k) (.i .u32 s.src) (.i .u16 s.own) (.i .u16 s.new) (.b t.k) (.i .u32 t.src) (.i .u16 t.own) (.i .u16 t.new) v (.i .i64 lost))).flatten) true))]) (fun H' hh => ⟨_, _, Hs.get (R := []) (by rw [List.append_nil]; exact hh), (foc_take hrw hi rfl (by decide)).trans rfl⟩) hH10) fun r H' hq => (by rw [hnx] at hq; exact hq : r = .tup [.i .u16 (t.next seq src).1, .b false] ∧ _)) fun v11 H12 hq13 => ?_)
  obtain ⟨rfl, hH14⟩ := hq13
  refine And.intro (And.intro (Or.inl rfl) True.intro) ?_
  refine D_l (v := (.tup [(.i .u16 (t.next seq src).1), (.b false)])) rfl rfl rfl (r_mv rfl) ?_
  refine D_l (v := (.i .u16 (t.next seq src).1)) rfl rfl rfl (r_ext rfl rfl) ?_
  refine D_l (v := (.b false)) rfl rfl rfl (r_ext rfl rfl) ?_
  refine D_l (v := (.i .u16 (t.next seq src).1)) rfl rfl rfl (r_mv rfl) ?_
  refine D_l (v := (.b false)) rfl rfl rfl (r_mv rfl) ?_
  refine D_nil ?_
  refine C_seq ?_
  refine C_seq ?_
  refine C_region ?_
  refine O_p (.p (some (Lb, (i * 67 + 0)))) (r_mv rfl) ?_
  refine O_p (.p (some (Lb, (i * 67 + 0)))) (r_nilc rfl) ?_
  refine O_p (.p (some (Lb, (i * 67 + 0)))) (r_fadd' rfl rfl) ?_
  refine O_p (.b true) (by exact (r_ld rfl hH14.get0 ((foc_get hrw hi rfl (by decide)).trans rfl))) ?_
  refine O_p (.b false) (r_un rfl rfl) ?_
  refine O_p (.b false) (r_mv rfl) ?_
  refine O_gk rfl ?_
  refine O_p (.b false) (r_mv rfl) ?_
  refine O_gk rfl ?_
  refine O_p (.b true) (r_un rfl rfl) ?_
  refine O_p (.b true) (r_pick_f rfl rfl) ?_
  refine O_nil ?_
  refine C_cond (x := true) rfl (fun _ => ?_) (fun h => by cases h)
  refine C_seq ?_
  refine C_region ?_
  refine O_p (.b false) (r_mv rfl) ?_
  refine O_nil ?_
  refine C_ret ?_
  refine nx_ret ?_
  have hH15 := (hH14.sub1)
  have hH16 := ((hH15.top1).top1)
  exact ⟨.inr rfl, _, resL_one (r_tmp (v := .b false) rfl), rfl, hH16⟩
set_option maxHeartbeats 1000000 in
theorem hand1_room {H : AH} {R : HL} {Lb i room : Nat} {rws rows : List (List AV)} {s t : Spk} {v : AV} {c : List AV} {lost q : Int} {m : Bool} {kind seq stamp src : Int} {dv : AV} (hrw : ∀ x ∈ rws, x.length = 67) (hi : i < rws.length) (hsq : Sq 6 v c rows.flatten) (hl6 : ∀ x ∈ rows, x.length = 6) (hroom64 : room ≤ 64) (hnx : t.next seq src = (q, true)) (hroom : rows.length < room) (hH0 : Hs H ([(Lb, some (.cells (rws.set i (lrowS true s t v lost)).flatten true))] ++ (qseg v c ++ R))) : Ev tabA spA (.fn (.func 28) [] []) [.p (some (Lb, i * 67 + 0)), .i .i64 1, .agg [(.b m), (.i .u8 kind), (.i .u16 seq), (.i .u32 stamp), (.i .u32 src), dv], .i .i64 room] H (fun r H' => r = .b true ∧ ∃ v' c', Sq 6 v' c' (rows ++ [[.b m, .i .u8 kind, .i .u16 q, .i .u32 stamp, .i .u32 2, dv]]).flatten ∧ Hs H' ([(Lb, some (.cells (rws.set i (lrowS true s ⟨true, src, seq, q⟩ v' lost)).flatten true))] ++ (qseg v' c' ++ R))) := by
  refine Ev_C (F := x28) rfl ?_
  refine C_seq ?_
  refine C_region ?_
  refine O_box (z := [(.b m), (.i .u8 kind), (.i .u16 seq), (.i .u32 stamp), (.i .u32 src), dv]) rfl fun n1 H2 hN3 => ?_
  have hH4 := hH0.new hN3
  refine O_p (.b false) (r_mv rfl) ?_
  refine O_nil ?_
  refine C_seq ?_
  refine C_draw fun b5 H6 hbase7 hA8 => ?_
  have hH9 := hH4.keep (by have := hA8.1; omega) (fun q _ => hA8.2 q) ((hH4.old).aside hA8).ok
  refine D_l (v := (.p (some (Lb, (i * 67 + 0))))) rfl rfl rfl (r_mv rfl) ?_
  refine D_l (v := (.i .i64 1)) rfl rfl rfl (r_mv rfl) ?_
  refine D_l (v := (.p (some (Lb, (i * 67 + 0))))) rfl rfl rfl (r_nilc rfl) ?_
  refine D_l (v := (.p (some (Lb, (i * 67 + 1))))) rfl rfl rfl (r_fadd' rfl rfl) ?_
  refine D_l (v := (.p (some (Lb, (i * 67 + 5))))) rfl rfl rfl (r_iarr' rfl rfl rfl rfl) ?_
  refine D_r (v := (.agg [(.b m), (.i .u8 kind), (.i .u16 seq), (.i .u32 stamp), (.i .u32 src), dv])) rfl rfl rfl (r_ldA rfl hH9.get0 rfl) ?_
  have hH10 := (hH9.top1)
  refine D_call (Ev.mono (Ev.mono (next_ev (s := t) (b := Lb) (o := i * 67 + 5) (B := [(Lb, some (.cells (((rws).set i (lrow (.b true) (.b s.k) (.i .u32 s.src) (.i .u16 s.own) (.i .u16 s.new) (.b t.k) (.i .u32 t.src) (.i .u16 t.own) (.i .u16 t.new) v (.i .i64 lost))).flatten) true))]) (fun H' hh => ⟨_, _, Hs.get (R := []) (by rw [List.append_nil]; exact hh), (foc_take hrw hi rfl (by decide)).trans rfl⟩) hH10) fun r H' hq => (by rw [hnx] at hq; exact hq : r = .tup [.i .u16 q, .b true] ∧ _)) fun v11 H12 hq13 => ?_)
  obtain ⟨rfl, hH14⟩ := hq13
  refine And.intro (And.intro (Or.inl rfl) True.intro) ?_
  refine D_l (v := (.tup [(.i .u16 q), (.b true)])) rfl rfl rfl (r_mv rfl) ?_
  refine D_l (v := (.i .u16 q)) rfl rfl rfl (r_ext rfl rfl) ?_
  refine D_l (v := (.b true)) rfl rfl rfl (r_ext rfl rfl) ?_
  refine D_l (v := (.i .u16 q)) rfl rfl rfl (r_mv rfl) ?_
  refine D_l (v := (.b true)) rfl rfl rfl (r_mv rfl) ?_
  refine D_nil ?_
  refine C_seq ?_
  refine C_seq ?_
  refine C_region ?_
  refine O_p (.p (some (Lb, (i * 67 + 0)))) (r_mv rfl) ?_
  refine O_p (.p (some (Lb, (i * 67 + 0)))) (r_nilc rfl) ?_
  refine O_p (.p (some (Lb, (i * 67 + 0)))) (r_fadd' rfl rfl) ?_
  refine O_p (.b true) (by exact (r_ld rfl hH14.get0 ((foc_get hrw hi rfl (by decide)).trans rfl))) ?_
  refine O_p (.b false) (r_un rfl rfl) ?_
  refine O_p (.b false) (r_mv rfl) ?_
  refine O_gk rfl ?_
  refine O_p (.b true) (r_mv rfl) ?_
  refine O_gk rfl ?_
  refine O_p (.b false) (r_un rfl rfl) ?_
  refine O_p (.b false) (r_pick_f rfl rfl) ?_
  refine O_nil ?_
  refine C_cond (x := false) rfl (fun h => by cases h) (fun _ => ?_)
  refine C_skip ?_
  refine C_seq ?_
  refine C_draw fun b15 H16 hbase17 hA18 => ?_
  have hH19 := hH14.keep (by have := hA18.1; omega) (fun q _ => hA18.2 q) ((hH14.old).aside hA18).ok
  refine D_l (v := (.p (some (Lb, (i * 67 + 0))))) rfl rfl rfl (r_mv rfl) ?_
  refine D_l (v := (.i .i64 1)) rfl rfl rfl (r_mv rfl) ?_
  refine D_l (v := (.p (some (n1, 4)))) rfl rfl rfl (r_fadd' rfl rfl) ?_
  refine D_l (v := (.p (some (n1, 2)))) rfl rfl rfl (r_fadd' rfl rfl) ?_
  refine D_l (v := (.i .u16 q)) rfl rfl rfl (r_mv rfl) ?_
  refine D_l (v := (.p (some (Lb, (i * 67 + 0))))) rfl rfl rfl (r_nilc rfl) ?_
  refine D_l (v := (.p (some (Lb, (i * 67 + 1))))) rfl rfl rfl (r_fadd' rfl rfl) ?_
  refine D_r (v := (.i .u32 src)) rfl rfl rfl (r_ld rfl hH19.get1 rfl) ?_
  refine D_r (v := (.i .u16 seq)) rfl rfl rfl (r_ld rfl hH19.get1 rfl) ?_
  refine D_l (v := (.agg [(.b true), (.i .u32 src), (.i .u16 seq), (.i .u16 q)])) rfl rfl rfl (r_build rfl) ?_
  refine D_l (v := (.p (some (Lb, (i * 67 + 5))))) rfl rfl rfl (r_iarr' rfl rfl rfl rfl) ?_
  refine D_store (vs := [(.b true), (.i .u32 src), (.i .u16 seq), (.i .u16 q)]) (c' := ((rws).set i (lrow (.b true) (.b s.k) (.i .u32 s.src) (.i .u16 s.own) (.i .u16 s.new) (.b true) (.i .u32 src) (.i .u16 seq) (.i .u16 q) v (.i .i64 lost))).flatten) rfl (by rfl) hH19.get0 rfl (List.cons_ne_nil _ _) (foc_len (n := 4) hrw hi rfl (Nat.le_of_ble_eq_true rfl)) (foc_put hrw hi rfl (Nat.le_of_ble_eq_true rfl) rfl) fun H20 hW21 => ?_
  have hH22 := hH19.wr0 hW21
  refine And.intro (And.intro (Or.inl rfl) (And.intro (Or.inl rfl) True.intro)) ?_
  refine D_nil ?_
  refine C_seq ?_
  refine C_seq ?_
  refine C_region ?_
  refine O_p (.p (some (Lb, (i * 67 + 0)))) (r_mv rfl) ?_
  refine O_p (.p (some (Lb, (i * 67 + 0)))) (r_nilc rfl) ?_
  refine O_p (.p (some (Lb, (i * 67 + 65)))) (r_fadd' rfl rfl) ?_
  refine O_p v (by exact (r_ld rfl hH22.get0 ((foc_get hrw hi rfl (by decide)).trans rfl))) ?_
  refine O_p (.i .i64 (((rows.length : Nat)) : Int)) (by exact (by exact r_lenOf rfl (hsq.lenOf (flat_len hl6) (by decide)) hsq.isSl)) ?_
  refine O_p (.i .i64 ((room : Nat) : Int)) (r_mv rfl) ?_
  refine O_p (.b false) (by exact (by rw [r_geq rfl rfl, decide_eq_false (by first | omega | assumption)])) ?_
  refine O_nil ?_
  refine C_cond (x := false) rfl (fun h => by cases h) (fun _ => ?_)
  refine C_skip ?_
  refine C_seq ?_
  refine C_region ?_
  refine O_p (.i .u16 q) (r_mv rfl) ?_
  refine O_p (.i .i64 1) (r_mv rfl) ?_
  refine O_p (.i .u32 1) (by exact (r_cint' rfl (by rw [wrap_u32]; decide))) ?_
  refine O_p (.i .u32 2) (r_bin rfl rfl rfl) ?_
  refine O_p (.p (some (n1, 2))) (r_fadd' rfl rfl) ?_
  refine O_store (vs := [(.i .u16 q)]) (c' := [(.b m), (.i .u8 kind), (.i .u16 q), (.i .u32 stamp), (.i .u32 src), dv]) rfl (by rfl) hH22.get1 rfl (List.cons_ne_nil _ _) (Nat.le_of_ble_eq_true rfl) rfl fun H23 hW24 => ?_
  have hH25 := hH22.wr1 hW24
  refine O_p (.p (some (n1, 4))) (r_fadd' rfl rfl) ?_
  refine O_store (vs := [(.i .u32 2)]) (c' := [(.b m), (.i .u8 kind), (.i .u16 q), (.i .u32 stamp), (.i .u32 2), dv]) rfl (by rfl) hH25.get1 rfl (List.cons_ne_nil _ _) (Nat.le_of_ble_eq_true rfl) rfl fun H26 hW27 => ?_
  have hH28 := hH25.wr1 hW27
  refine O_nil ?_
  refine C_seq ?_
  refine C_draw fun b29 H30 hbase31 hA32 => ?_
  have hH33 : Hs H30 (asideL b29 [6] ++ _) := hH28.aside hA32 [6] hbase31 rfl (by decide)
  have hH34 : Hs H30 ([(b29 + 6, none)] ++ _) := hH33
  refine D_l (v := (.p (some (Lb, (i * 67 + 0))))) rfl rfl rfl (r_mv rfl) ?_
  refine D_l (v := (.p (some (Lb, (i * 67 + 0))))) rfl rfl rfl (r_mv rfl) ?_
  refine D_l (v := (.p (some (Lb, (i * 67 + 0))))) rfl rfl rfl (r_nilc rfl) ?_
  refine D_l (v := (.p (some (Lb, (i * 67 + 65))))) rfl rfl rfl (r_fadd' rfl rfl) ?_
  refine D_r (v := v) rfl rfl rfl (by exact (r_ld rfl hH34.get1 ((foc_get hrw hi rfl (by decide)).trans rfl))) ?_
  refine D_r (v := (.agg [(.b m), (.i .u8 kind), (.i .u16 q), (.i .u32 stamp), (.i .u32 2), dv])) rfl rfl rfl (r_ldA rfl hH34.get2 rfl) ?_
  refine D_m (f := fun n => ((.sl (some (n, 0)) 1 1 0), .cells [(.b m), (.i .u8 kind), (.i .u16 q), (.i .u32 stamp), (.i .u32 2), dv] true)) rfl rfl fun H36 hW37 => ?_
  have hH39 := hH34.wr0 hW37
  generalize hn38 : b29 + 6 = n35 at hW37 hH39 ⊢
  refine And.intro (And.intro (Or.inl rfl) (And.intro (Or.inr (look_run rfl rfl (r_ld rfl hH39.get1 ((foc_get hrw hi rfl (by decide)).trans rfl)))) True.intro)) ?_
  refine D_qh rfl rfl (by exact r_appq (n := rows.length) (k := 1) (new := [(.b m), (.i .u8 kind), (.i .u16 q), (.i .u32 stamp), (.i .u32 2), dv]) hH39.top3 hsq rfl rfl rfl (src_blk hH39.get0 (by rfl)) rfl (by decide) (by decide) (flat_len hl6) (by first | omega | (simp only [List.length_take, List.length_drop, List.length_append, List.length_cons, List.length_nil, beN_len] <;> omega))) fun o40 H41 hA43 => ?_
  obtain ⟨c42, hA43, hH44⟩ := hA43
  refine And.intro (And.intro (Or.inl rfl) True.intro) ?_
  obtain ⟨qa45, ql46, qc47, qg48, rfl⟩ := hA43.isSl
  refine D_l (v := (.p (some (Lb, (i * 67 + 0))))) rfl rfl rfl (r_nilc rfl) ?_
  refine D_l (v := (.p (some (Lb, (i * 67 + 65))))) rfl rfl rfl (r_fadd' rfl rfl) ?_
  refine D_store (vs := [(.sl qa45 ql46 qc47 qg48)]) (c' := ((rws).set i (lrow (.b true) (.b s.k) (.i .u32 s.src) (.i .u16 s.own) (.i .u16 s.new) (.b true) (.i .u32 src) (.i .u16 seq) (.i .u16 q) (.sl qa45 ql46 qc47 qg48) (.i .i64 lost))).flatten) rfl (by rfl) hH44.get2 rfl (List.cons_ne_nil _ _) (foc_len (n := 1) hrw hi rfl (Nat.le_of_ble_eq_true rfl)) (foc_put hrw hi rfl (Nat.le_of_ble_eq_true rfl) rfl) fun H49 hW50 => ?_
  have hH51 := hH44.wr2 hW50
  refine And.intro True.intro ?_
  refine D_nil ?_
  refine C_seq ?_
  refine C_region ?_
  refine O_p (.b true) (r_mv rfl) ?_
  refine O_nil ?_
  refine C_ret ?_
  have hH52 := ((hH51.sub1).sub2)
  have hH53 := (hH52.top1)
  exact ⟨.inr rfl, _, resL_one (r_tmp (v := .b true) rfl), rfl, (.sl qa45 ql46 qc47 qg48), c42, by have h := hA43; rw [flat_snoc] at h; exact h, hH53⟩
set_option maxHeartbeats 1000000 in
theorem hand1_full {H : AH} {R : HL} {Lb i room : Nat} {rws rows : List (List AV)} {s t : Spk} {v : AV} {c : List AV} {lost q : Int} {m : Bool} {kind seq stamp src : Int} {dv : AV} (hrw : ∀ x ∈ rws, x.length = 67) (hi : i < rws.length) (hsq : Sq 6 v c rows.flatten) (hl6 : ∀ x ∈ rows, x.length = 6) (hroom64 : room ≤ 64) (hnx : t.next seq src = (q, true)) (hroom : room ≤ rows.length) (hlost : 0 ≤ lost ∧ lost < 4611686018427387904) (hH0 : Hs H ([(Lb, some (.cells (rws.set i (lrowS true s t v lost)).flatten true))] ++ (qseg v c ++ R))) : Ev tabA spA (.fn (.func 28) [] []) [.p (some (Lb, i * 67 + 0)), .i .i64 1, .agg [(.b m), (.i .u8 kind), (.i .u16 seq), (.i .u32 stamp), (.i .u32 src), dv], .i .i64 room] H (fun r H' => r = .b false ∧ Hs H' ([(Lb, some (.cells (rws.set i (lrowS true s ⟨true, src, seq, q⟩ v (lost + 1))).flatten true))] ++ (qseg v c ++ R))) := by
  refine Ev_C (F := x28) rfl ?_
  refine C_seq ?_
  refine C_region ?_
  refine O_box (z := [(.b m), (.i .u8 kind), (.i .u16 seq), (.i .u32 stamp), (.i .u32 src), dv]) rfl fun n1 H2 hN3 => ?_
  have hH4 := hH0.new hN3
  refine O_p (.b false) (r_mv rfl) ?_
  refine O_nil ?_
  refine C_seq ?_
  refine C_draw fun b5 H6 hbase7 hA8 => ?_
  have hH9 := hH4.keep (by have := hA8.1; omega) (fun q _ => hA8.2 q) ((hH4.old).aside hA8).ok
  refine D_l (v := (.p (some (Lb, (i * 67 + 0))))) rfl rfl rfl (r_mv rfl) ?_
  refine D_l (v := (.i .i64 1)) rfl rfl rfl (r_mv rfl) ?_
  refine D_l (v := (.p (some (Lb, (i * 67 + 0))))) rfl rfl rfl (r_nilc rfl) ?_
  refine D_l (v := (.p (some (Lb, (i * 67 + 1))))) rfl rfl rfl (r_fadd' rfl rfl) ?_
  refine D_l (v := (.p (some (Lb, (i * 67 + 5))))) rfl rfl rfl (r_iarr' rfl rfl rfl rfl) ?_
  refine D_r (v := (.agg [(.b m), (.i .u8 kind), (.i .u16 seq), (.i .u32 stamp), (.i .u32 src), dv])) rfl rfl rfl (r_ldA rfl hH9.get0 rfl) ?_
  have hH10 := (hH9.top1)
  refine D_call (Ev.mono (Ev.mono (next_ev (s := t) (b := Lb) (o := i * 67 + 5) (B := [(Lb, some (.cells (((rws).set i (lrow (.b true) (.b s.k) (.i .u32 s.src) (.i .u16 s.own) (.i .u16 s.new) (.b t.k) (.i .u32 t.src) (.i .u16 t.own) (.i .u16 t.new) v (.i .i64 lost))).flatten) true))]) (fun H' hh => ⟨_, _, Hs.get (R := []) (by rw [List.append_nil]; exact hh), (foc_take hrw hi rfl (by decide)).trans rfl⟩) hH10) fun r H' hq => (by rw [hnx] at hq; exact hq : r = .tup [.i .u16 q, .b true] ∧ _)) fun v11 H12 hq13 => ?_)
  obtain ⟨rfl, hH14⟩ := hq13
  refine And.intro (And.intro (Or.inl rfl) True.intro) ?_
  refine D_l (v := (.tup [(.i .u16 q), (.b true)])) rfl rfl rfl (r_mv rfl) ?_
  refine D_l (v := (.i .u16 q)) rfl rfl rfl (r_ext rfl rfl) ?_
  refine D_l (v := (.b true)) rfl rfl rfl (r_ext rfl rfl) ?_
  refine D_l (v := (.i .u16 q)) rfl rfl rfl (r_mv rfl) ?_
  refine D_l (v := (.b true)) rfl rfl rfl (r_mv rfl) ?_
  refine D_nil ?_
  refine C_seq ?_
  refine C_seq ?_
  refine C_region ?_
  refine O_p (.p (some (Lb, (i * 67 + 0)))) (r_mv rfl) ?_
  refine O_p (.p (some (Lb, (i * 67 + 0)))) (r_nilc rfl) ?_
  refine O_p (.p (some (Lb, (i * 67 + 0)))) (r_fadd' rfl rfl) ?_
  refine O_p (.b true) (by exact (r_ld rfl hH14.get0 ((foc_get hrw hi rfl (by decide)).trans rfl))) ?_
  refine O_p (.b false) (r_un rfl rfl) ?_
  refine O_p (.b false) (r_mv rfl) ?_
  refine O_gk rfl ?_
  refine O_p (.b true) (r_mv rfl) ?_
  refine O_gk rfl ?_
  refine O_p (.b false) (r_un rfl rfl) ?_
  refine O_p (.b false) (r_pick_f rfl rfl) ?_
  refine O_nil ?_
  refine C_cond (x := false) rfl (fun h => by cases h) (fun _ => ?_)
  refine C_skip ?_
  refine C_seq ?_
  refine C_draw fun b15 H16 hbase17 hA18 => ?_
  have hH19 := hH14.keep (by have := hA18.1; omega) (fun q _ => hA18.2 q) ((hH14.old).aside hA18).ok
  refine D_l (v := (.p (some (Lb, (i * 67 + 0))))) rfl rfl rfl (r_mv rfl) ?_
  refine D_l (v := (.i .i64 1)) rfl rfl rfl (r_mv rfl) ?_
  refine D_l (v := (.p (some (n1, 4)))) rfl rfl rfl (r_fadd' rfl rfl) ?_
  refine D_l (v := (.p (some (n1, 2)))) rfl rfl rfl (r_fadd' rfl rfl) ?_
  refine D_l (v := (.i .u16 q)) rfl rfl rfl (r_mv rfl) ?_
  refine D_l (v := (.p (some (Lb, (i * 67 + 0))))) rfl rfl rfl (r_nilc rfl) ?_
  refine D_l (v := (.p (some (Lb, (i * 67 + 1))))) rfl rfl rfl (r_fadd' rfl rfl) ?_
  refine D_r (v := (.i .u32 src)) rfl rfl rfl (r_ld rfl hH19.get1 rfl) ?_
  refine D_r (v := (.i .u16 seq)) rfl rfl rfl (r_ld rfl hH19.get1 rfl) ?_
  refine D_l (v := (.agg [(.b true), (.i .u32 src), (.i .u16 seq), (.i .u16 q)])) rfl rfl rfl (r_build rfl) ?_
  refine D_l (v := (.p (some (Lb, (i * 67 + 5))))) rfl rfl rfl (r_iarr' rfl rfl rfl rfl) ?_
  refine D_store (vs := [(.b true), (.i .u32 src), (.i .u16 seq), (.i .u16 q)]) (c' := ((rws).set i (lrow (.b true) (.b s.k) (.i .u32 s.src) (.i .u16 s.own) (.i .u16 s.new) (.b true) (.i .u32 src) (.i .u16 seq) (.i .u16 q) v (.i .i64 lost))).flatten) rfl (by rfl) hH19.get0 rfl (List.cons_ne_nil _ _) (foc_len (n := 4) hrw hi rfl (Nat.le_of_ble_eq_true rfl)) (foc_put hrw hi rfl (Nat.le_of_ble_eq_true rfl) rfl) fun H20 hW21 => ?_
  have hH22 := hH19.wr0 hW21
  refine And.intro (And.intro (Or.inl rfl) (And.intro (Or.inl rfl) True.intro)) ?_
  refine D_nil ?_
  refine C_seq ?_
  refine C_seq ?_
  refine C_region ?_
  refine O_p (.p (some (Lb, (i * 67 + 0)))) (r_mv rfl) ?_
  refine O_p (.p (some (Lb, (i * 67 + 0)))) (r_nilc rfl) ?_
  refine O_p (.p (some (Lb, (i * 67 + 65)))) (r_fadd' rfl rfl) ?_
  refine O_p v (by exact (r_ld rfl hH22.get0 ((foc_get hrw hi rfl (by decide)).trans rfl))) ?_
  refine O_p (.i .i64 (((rows.length : Nat)) : Int)) (by exact (by exact r_lenOf rfl (hsq.lenOf (flat_len hl6) (by decide)) hsq.isSl)) ?_
  refine O_p (.i .i64 ((room : Nat) : Int)) (r_mv rfl) ?_
  refine O_p (.b true) (by exact (by rw [r_geq rfl rfl, decide_eq_true (by first | omega | assumption)])) ?_
  refine O_nil ?_
  refine C_cond (x := true) rfl (fun _ => ?_) (fun h => by cases h)
  refine C_seq ?_
  refine C_region ?_
  refine O_p (.p (some (Lb, (i * 67 + 0)))) (r_mv rfl) ?_
  refine O_p (.p (some (Lb, (i * 67 + 0)))) (r_nilc rfl) ?_
  refine O_p (.p (some (Lb, (i * 67 + 66)))) (r_fadd' rfl rfl) ?_
  refine O_p (.i .i64 lost) (by exact (r_ld rfl hH22.get0 ((foc_get hrw hi rfl (by decide)).trans rfl))) ?_
  refine O_p (.i .i64 (lost + 1)) (by exact (r_addi rfl rfl (wrap_i64 (by omega) (by omega)))) ?_
  refine O_p (.p (some (Lb, (i * 67 + 0)))) (r_nilc rfl) ?_
  refine O_p (.p (some (Lb, (i * 67 + 66)))) (r_fadd' rfl rfl) ?_
  refine O_store (vs := [(.i .i64 (lost + 1))]) (c' := ((rws).set i (lrow (.b true) (.b s.k) (.i .u32 s.src) (.i .u16 s.own) (.i .u16 s.new) (.b true) (.i .u32 src) (.i .u16 seq) (.i .u16 q) v (.i .i64 (lost + 1)))).flatten) rfl (by rfl) hH22.get0 rfl (List.cons_ne_nil _ _) (foc_len (n := 1) hrw hi rfl (Nat.le_of_ble_eq_true rfl)) (foc_put hrw hi rfl (Nat.le_of_ble_eq_true rfl) rfl) fun H23 hW24 => ?_
  have hH25 := hH22.wr0 hW24
  refine O_nil ?_
  refine C_seq ?_
  refine C_region ?_
  refine O_p (.b false) (r_mv rfl) ?_
  refine O_nil ?_
  refine C_ret ?_
  refine nx_ret ?_
  have hH26 := (hH25.sub1)
  have hH27 := ((hH26.top1).top1)
  exact ⟨.inr rfl, _, resL_one (r_tmp (v := .b false) rfl), rfl, hH27⟩
theorem hand1_ev {H : AH} {R D : HL} {Lb i room : Nat} {rws rows : List (List AV)} {s t : Spk} {v : AV} {c : List AV} {lost : Int} {w : List Pk} {p : Pk} {dv : AV} (hrw : ∀ x ∈ rws, x.length = 67) (hi : i < rws.length) (hsq : Sq 6 v c rows.flatten) (hpr : PksR D rows w) (hp : PkRow D [.b p.m, .i .u8 p.kind, .i .u16 p.seq, .i .u32 p.stamp, .i .u32 p.src, dv] p) (hroom64 : room ≤ 64) (hlost : 0 ≤ lost ∧ lost < 4611686018427387904) (hH0 : Hs H ([(Lb, some (.cells (rws.set i (lrowS true s t v lost)).flatten true))] ++ (qseg v c ++ R))) :
    Ev tabA spA (.fn (.func 28) [] []) [.p (some (Lb, i * 67 + 0)), .i .i64 1, .agg [.b p.m, .i .u8 p.kind, .i .u16 p.seq, .i .u32 p.stamp, .i .u32 p.src, dv], .i .i64 room] H (fun r H' => ∃ v' c' rows', r = .b (handW t room w lost 2 p).2.2.2 ∧ Sq 6 v' c' rows'.flatten ∧ PksR D rows' (handW t room w lost 2 p).2.1 ∧ Hs H' ([(Lb, some (.cells (rws.set i (lrowS true s (handW t room w lost 2 p).1 v' (handW t room w lost 2 p).2.2.1)).flatten true))] ++ (qseg v' c' ++ R))) := by
  by_cases h1 : (t.next p.seq p.src).2 = false
  · have hW : handW t room w lost 2 p = (t, w, lost, false) := by unfold handW; rw [if_pos h1]
    rw [hW]
    refine Ev.mono (hand1_no (q := 0) hrw hi hsq hpr.lens hroom64 (by rw [← h1]) hH0) fun r H2 hq => ?_
    obtain ⟨rfl, hh⟩ := hq
    exact ⟨v, c, rows, rfl, hsq, hpr, hh⟩
  · have hn : t.next p.seq p.src = ((t.next p.seq p.src).1, true) := by
      have : (t.next p.seq p.src).2 = true := by simpa using h1
      rw [← this]
    by_cases h2 : w.length < room
    · have hW : handW t room w lost 2 p = (⟨true, p.src, p.seq, (t.next p.seq p.src).1⟩, w ++ [{ p with seq := (t.next p.seq p.src).1, src := 2 }], lost, true) := by unfold handW; rw [if_neg h1, if_pos h2]
      rw [hW]
      refine Ev.mono (hand1_room hrw hi hsq hpr.lens hroom64 hn (by rw [hpr.1]; exact h2) hH0) fun r H2 hq => ?_
      obtain ⟨rfl, v', c', hs, hh⟩ := hq
      obtain ⟨a, cap, g, e, k1, k2, k3, k4⟩ := hp
      simp only [List.cons.injEq, and_true, true_and] at e
      subst e
      exact ⟨v', c', _, rfl, hs, hpr.snoc ⟨a, cap, g, rfl, k1, k2, k3, k4⟩, hh⟩
    · have hW : handW t room w lost 2 p = (⟨true, p.src, p.seq, (t.next p.seq p.src).1⟩, w, lost + 1, false) := by unfold handW; rw [if_neg h1, if_neg h2]
      rw [hW]
      refine Ev.mono (hand1_full hrw hi hsq hpr.lens hroom64 hn (by rw [hpr.1]; omega) hlost hH0) fun r H2 hq => ?_
      obtain ⟨rfl, hh⟩ := hq
      exact ⟨v, c, rows, rfl, hsq, hpr, hh⟩

theorem clone_ev {tab : Nat → Option XFun} {sp : Nat → List AV → AH → Option (AV × AH)} (h27 : tab 27 = some x27) {H : AH} (hok : H.Ok) {ba : Option (Nat × Nat)} {bn bc bg : Nat} (bhg : bg = 0 ∨ bg = 1) {lb : List UInt8} (bhb : Bs H (.sl ba bn bc bg) lb) (bhc : bn ≤ bc) (bhm : bc ≤ 9223372036854775807) (hfit : bn ≤ 1073741824) : Ev tab sp (.fn (.func 27) [] []) [.sl ba bn bc bg] H (fun r H' => Mine H.next 1 H' r (bcells (lb)) ∧ Kp H H') := by
  refine Ev_C (F := x27) h27 ?_
  have bhl := bhb.length
  subst bhl
  have hO0 := Old.refl hok
  refine C_seq ?_
  refine C_region ?_
  refine O_p (.sl none 0 0 0) (r_mv rfl) ?_
  refine O_nil ?_
  refine C_seq ?_
  refine C_seq ?_
  refine C_region ?_
  refine O_p (.sl ba lb.length bc bg) (r_mv rfl) ?_
  refine O_p (.b (if false = true then !ba.isNone else ba.isNone)) (r_nils rfl) ?_
  refine O_nil ?_
  refine C_cond (x := (if false = true then !ba.isNone else ba.isNone)) rfl (fun hc1 => ?_) (fun hc1 => ?_)
  ·
    have hcx := hc1
    refine C_seq ?_
    refine C_region ?_
    refine O_p (.sl none 0 0 0) (r_mv rfl) ?_
    refine O_nil ?_
    refine C_ret ?_
    refine nx_ret ?_
    have hnil : ba = none := by simpa using hcx
    subst hnil
    obtain rfl := bhb.nilof
    exact ⟨.inr rfl, _, resL_one (r_tmp (v := .sl none 0 0 0) rfl), Mine.nil _ _ _, hO0⟩
  ·
    have hcx := hc1
    refine C_skip ?_
    refine C_seq ?_
    refine C_region ?_
    refine O_bslice (c := []) rfl fun n2 H3 hN4 => ?_
    have hF5 := hN4.fr (fun _ => False)
    have hO6 := hO0.new hN4
    have hx_hO6 := hO6.next
    have hnm_n2 : n2 = H.next := hN4.1
    have hnx_H3 : H3.next = H.next + 1 := hN4.2.1
    have hlt_n2 : n2 < H3.next := by omega
    refine O_p (.sl ba lb.length bc bg) (r_mv rfl) ?_
    have hM7 : Mine H.next 1 H3 (.sl (some (n2, 0)) 0 0 0) [] := ⟨.mk (n := 0) hN4.2.2.1 (by omega) (.inl rfl) rfl, fun q hq => by rw [nameOf_sl] at hq; omega⟩
    refine O_qh (by exact r_app (n := 0) (k := lb.length) (new := (bcells lb)) hO6.ok hO6.next hM7 rfl rfl rfl ((bhb.old hok hO6).len) ((bhb.old hok hO6).src) ((bcells_len _).trans (Nat.mul_one _).symm) (by decide) (by decide) (by first | omega | (simp only [List.length_take, List.length_drop, List.length_append, List.length_cons, List.length_nil, beN_len] <;> omega))) fun o8 H9 hA10 => ?_
    have hx_H9 := hA10.2.1
    have hO11 := hA10.old hM7 hO6
    have hx_hO11 := hO11.next
    refine O_p o8 (r_mv rfl) ?_
    refine O_nil ?_
    refine C_ret ?_
    exact ⟨.inr rfl, _, resL_one (r_tmp (v := o8) rfl), by have h := hA10.1; simpa [resV] using h, hO11⟩
end Go.Proofs.Ythmiglahfkfcaaa.E
