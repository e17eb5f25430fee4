/- SendqTwice, for every input, without conditions. -/
import Derived.Test.YtipcacpaadgagaaQQ2
import Derived.Test.YtipcacpaadgagaaRows
import Derived.ProofKit
import Derived.OpenShut
namespace Go.Proofs.Ytipcacpaadgagaa.E
open Go.RowKit (Below)
set_option linter.unusedVariables false
set_option linter.unusedSimpArgs false
theorem ackz {bl : List (Int × Int)} {eb ec : List Ea} {n : Nat} (hec : ec = ackE bl eb n) (h : ∀ e ∈ eb, e.mi = 0 ∧ e.tm = 0 ∧ e.c.d.length = 3) : ∀ e ∈ ec, e.c.d.length ≤ 3 ∧ e.tm = 0 ∧ 0 ≤ e.mi ∧ e.mi ≤ 1000000 := by
  have hm := mkd_all (P := fun e => e.mi = 0 ∧ e.tm = 0 ∧ e.c.d.length = 3) (Q := fun e => e.mi = 0 ∧ e.tm = 0 ∧ e.c.d.length = 3) (bl := bl) (k := 0) (fun e he => he) (fun e he => he) (fun e he => ⟨rfl, he.2⟩) fun e he => h e (List.mem_of_mem_drop (i := n) he)
  rw [hec]
  intro e he
  unfold ackE at he
  rcases List.mem_append.1 he with h9 | h9
  · obtain ⟨z, hz, rfl⟩ := List.mem_map.1 h9
    obtain ⟨h1, h2, h3⟩ := hm z (List.mem_of_mem_take hz)
    obtain ⟨m1, m2, _, m4⟩ := msE_cases z
    rw [m1, m2]
    exact ⟨by omega, h2, by rcases m4 with m4 | m4 <;> rw [m4] <;> omega, by rcases m4 with m4 | m4 <;> rw [m4] <;> omega⟩
  · obtain ⟨h1, h2, h3⟩ := hm e (List.mem_of_mem_drop h9)
    exact ⟨by omega, h2, by omega, by omega⟩
set_option maxRecDepth 100000 in
set_option maxHeartbeats 400000 in
theorem run3 (H0 : AH) (hok0 : H0.Ok) (a0 n0 c0 w0 : Int) (w_a0 : (Lit.int .u32 a0).wf = true) (v : AV) (rows : List (List AV)) (bl : List (Int × Int)) (hvb : ∀ H', Hs H' (allL H0) → Rw 2 H' v rows) (hbr : BksR rows bl) : Ev tabA spA (.fn (.func 3) [] []) [.i .u32 a0, .i .i64 n0, .i .i64 c0, v, .i .i64 w0] H0 (fun v _ => v = .b true) := by
  have hH0 := allL_hs hok0
  refine Ev_C (F := x3) rfl ?_
  have ha0 : 0 ≤ a0 ∧ a0 < 4294967296 := by simp [Lit.wf, IntKind.wrap, IntKind.signed, IntKind.bits, IntKind.min, IntKind.max] at w_a0; omega
  refine C_seq ?_
  refine C_region ?_
  refine O_p (.b false) (r_mv rfl) ?_
  refine O_nil ?_
  refine C_seq ?_
  refine C_region ?_
  refine O_call (Ev_sp (v := (.b true)) rfl rfl ?_)
  refine O_p (.b true) (r_mv rfl) ?_
  refine O_nil ?_
  refine C_seq ?_
  refine C_seq ?_
  refine C_region ?_
  refine O_p v (r_mv rfl) ?_
  refine O_p (.i .i64 (((bl.length : Nat)) : Int)) (by exact (r_lenOf (v := v) (n := bl.length) rfl ((hvb _ hH0.top0.fst).lenOf (by rw [hbr.1, List.length_map])) (hvb _ hH0.top0.fst).isSl)) ?_
  refine O_p (.b (decide (20 < (((bl.length : Nat)) : Int)))) (r_gtr rfl rfl) ?_
  refine O_nil ?_
  refine C_cond (x := (decide (20 < (((bl.length : Nat)) : Int)))) rfl (fun hc1 => ?_) (fun hc1 => ?_)
  ·
    try simp only [decide_eq_true_eq, decide_eq_false_iff_not, Bool.not_eq_true', Bool.not_eq_false', Bool.and_eq_true, Bool.or_eq_true, Bool.or_eq_false_iff, Bool.not_not, Bool.and_eq_false_iff] at hc1
    refine C_seq ?_
    refine C_region ?_
    refine O_p (.b true) (r_mv rfl) ?_
    refine O_p (.b true) (r_mv rfl) ?_
    refine O_nil ?_
    refine C_ret ?_
    refine nx_ret ?_
    exact ⟨.inr rfl, _, resL_one (r_tmp (v := .b true) rfl), rfl⟩
  ·
    try simp only [decide_eq_true_eq, decide_eq_false_iff_not, Bool.not_eq_true', Bool.not_eq_false', Bool.and_eq_true, Bool.or_eq_true, Bool.or_eq_false_iff, Bool.not_not, Bool.and_eq_false_iff] at hc1
    refine C_skip ?_
    refine C_seq ?_
    refine C_region ?_
    refine O_p (.i .i64 n0) (r_mv rfl) ?_
    obtain ⟨q2, hq2, hlq2⟩ := and_nat n0 31 (by decide)
    refine O_p (.i .i64 (((q2 : Nat)) : Int)) (by exact (by rw [← hq2]; exact r_bin rfl rfl rfl)) ?_
    refine O_p (.i .i64 (((q2 : Nat)) : Int)) (r_mv rfl) ?_
    refine O_nil ?_
    refine C_seq ?_
    refine C_region ?_
    refine O_p (.i .u32 a0) (r_mv rfl) ?_
    refine O_call (Ev.mono (new_ev (a := a0) hH0) fun v3 H4 hq5 => ?_)
    obtain ⟨F6, rfl, hH7⟩ := hq5
    have hH8 : Hs _ (([(F6, some (.cells [.sl none 0 0 0, .i .u32 a0] true))] ++ []) ++ (([] : HL) ++ _)) := hH7
    have hQ0 := q_new0 (F := F6) a0
    refine O_p (.p (some (F6, 0))) (r_mv rfl) ?_
    refine O_nil ?_
    refine C_seq ?_
    refine C_seq ?_
    refine C_region ?_
    refine O_p (.i .i64 0) (r_mv rfl) ?_
    refine O_nil ?_
    refine C_block ?_
    have hH9 := (((hH8.top2).top2).top2)
    refine C_while (fun m10 T11 H12 => ∃ L : HL, ∃ D : HL, ∃ i : Nat, m10 = q2 - i ∧ i ≤ q2 ∧ Qr F6 (mkE a0 (List.replicate i 3)) (w32 (a0 + ((i : Nat) : Int))) D L ∧ Hs H12 (L ++ (D ++ ((allL H0) ++ ([])))) ∧ T11.get 0 = (.i .u32 a0) ∧ T11.get 2 = (.i .i64 c0) ∧ T11.get 3 = v ∧ T11.get 4 = (.i .i64 w0) ∧ T11.get 11 = (.b true) ∧ T11.get 12 = (.i .i64 (((q2 : Nat)) : Int)) ∧ T11.get 13 = (.p (some (F6, 0))) ∧ T11.get 14 = (.i .i64 (((i : Nat)) : Int))) (fun m10 T11 H12 hI13 => ?_) q2 _ _ ⟨([(F6, some (.cells [.sl none 0 0 0, .i .u32 a0] true))] ++ []), ([] : HL), 0, rfl, Nat.zero_le _, by rw [w32_id ha0]; exact hQ0, hH9, rfl, rfl, rfl, rfl, rfl, rfl, rfl, rfl⟩
    obtain ⟨L, D, i, hm14, hp15, hp16, hH25, hT17, hT18, hT19, hT20, hT21, hT22, hT23, hT24⟩ := hI13
    refine C_seq ?_
    refine C_seq ?_
    refine C_region ?_
    refine O_p (.i .i64 (((i : Nat)) : Int)) (r_mv hT24) ?_
    refine O_p (.i .i64 (((q2 : Nat)) : Int)) (r_mv hT22) ?_
    refine O_p (.b (decide ((((i : Nat)) : Int) < (((q2 : Nat)) : Int)))) (r_lss rfl rfl) ?_
    refine O_nil ?_
    refine C_cond (x := (decide ((((i : Nat)) : Int) < (((q2 : Nat)) : Int)))) rfl (fun hc26 => ?_) (fun hc26 => ?_)
    ·
      try simp only [decide_eq_true_eq, decide_eq_false_iff_not, Bool.not_eq_true', Bool.not_eq_false', Bool.and_eq_true, Bool.or_eq_true, Bool.or_eq_false_iff, Bool.not_not, Bool.and_eq_false_iff] at hc26
      refine C_skip ?_
      refine C_seq ?_
      refine C_block ?_
      refine C_seq ?_
      refine C_region ?_
      refine O_p (.p (some (F6, 0))) (r_mv hT23) ?_
      refine O_call (Ev.mono (piece_ev (n := 3) (by have := Nat.le_refl 3; omega) hH25) fun v27 H28 hq29 => ?_)
      obtain ⟨db30, rfl, hH31⟩ := hq29
      refine O_bslice (c := [(.i .u8 0), (.i .u8 3), (.i .u32 0), (.i .u32 0), (.i .u16 0), (.i .u16 0), (.i .u32 0), (.sl none 0 0 0), (.sl none 0 0 0), (.sl none 0 0 0), (.sl none 0 0 0), (.sl (some (db30, 0)) 3 3 0)]) rfl fun n32 H33 hN34 => ?_
      have hH35 := hH31.new hN34
      have hH36 := ((hH35.top1).top1)
      have hH37 := Hs.unassoc hH36
      have hH38 := ((hH37.top2).top2)
      refine O_call (Ev.mono (q_push1 (n := 3) hp16 ⟨by decide, by decide⟩ (by rw [mkE_len, List.length_replicate]; omega) (w32_r _) hH38) fun v39 H40 hq41 => ?_)
      obtain ⟨L42, D43, m44, rfl, hQ45, hH46⟩ := hq41
      have hH46s := hH46.sub1
      refine O_p (.b false) (r_bin rfl rfl rfl) ?_
      refine O_nil ?_
      refine C_cond (x := false) rfl (fun h => by cases h) (fun _ => ?_)
      refine C_skip ?_
      refine C_region ?_
      refine O_p (.i .i64 (((i : Nat)) : Int)) (r_mv hT24) ?_
      refine O_p (.i .i64 ((((i : Nat)) : Int) + 1)) (by exact (r_addi rfl rfl (wrap_i64 (by omega) (by omega)))) ?_
      refine O_p (.i .i64 ((((i : Nat)) : Int) + 1)) (r_mv rfl) ?_
      refine O_nil ?_
      have hH47 := (((hH46s.top2).top2).top2)
      exact ⟨q2 - (i + 1), by omega, L42, D43, (i + 1), rfl, by omega, by have h9 := hQ45; rw [w32_w, show w32 (w32 (a0 + ((i : Nat) : Int)) + 1) = w32 (a0 + ((i + 1 : Nat) : Int)) from w32_succ a0 i] at h9; rw [List.replicate_succ', mkE_snoc, List.length_replicate]; exact h9, hH47, hT17, hT18, hT19, hT20, hT21, hT22, hT23, rfl⟩
    ·
      try simp only [decide_eq_true_eq, decide_eq_false_iff_not, Bool.not_eq_true', Bool.not_eq_false', Bool.and_eq_true, Bool.or_eq_true, Bool.or_eq_false_iff, Bool.not_not, Bool.and_eq_false_iff] at hc26
      refine C_exit ?_
      refine nx_exit ?_
      refine nx_exit ?_
      refine bk_hit ?_
      refine C_seq ?_
      refine C_region ?_
      have hin : i = q2 := by omega
      have hQa := hp16
      rw [hin] at hQa
      obtain ⟨ea, hea⟩ : ∃ z, z = mkE a0 (List.replicate q2 3) := ⟨_, rfl⟩
      rw [← hea] at hQa
      have hst : ∀ e ∈ ea, e.st = 0 := by rw [hea]; exact mkE_all fun n hn b => by have h9 := List.eq_of_mem_replicate hn; subst h9; exact rfl
      have hsz : ∀ e ∈ ea, e.c.d.length = 3 := by rw [hea]; exact mkE_all fun n hn b => by have h9 := List.eq_of_mem_replicate hn; subst h9; exact rfl
      have hmi0 : ∀ e ∈ ea, e.mi = 0 ∧ e.tm = 0 ∧ e.sent = 0 := by rw [hea]; exact mkE_all fun n hn b => by have h9 := List.eq_of_mem_replicate hn; subst h9; exact ⟨rfl, rfl, rfl⟩
      have hel : ea.length = q2 := by rw [hea, mkE_len, List.length_replicate]
      have htt : tot ea = 3 * q2 := by rw [hea, tot_mkE, sum_rep]
      obtain ⟨m, hm1, hm2, hm3, hm4, hm5⟩ := take2_wait (now := 0) (room := 1048576) hst
      have hsplit : tot (ea.take m) + tot (ea.drop m) = tot ea := by rw [← tot_app, List.take_append_drop]
      have hmm : m = ea.length := by rcases Nat.lt_or_ge m ea.length with h9 | h9; have h8 := hm5 _ (List.getElem?_eq_getElem h9); have h7 := hsz _ (List.getElem_mem h9); omega; omega
      obtain ⟨eb, heb⟩ : ∃ z, z = (take2 0 ea 1048576).1 := ⟨_, rfl⟩
      have heb2 : eb = ea.map (Ea.fly 0) := by rw [heb, hm2, hmm, List.take_length, List.drop_length, List.append_nil]
      have hbl2 : eb.length = q2 := by rw [heb2, List.length_map, hel]
      have hb1 : ∀ e ∈ eb, (e.st = 1 ∧ e.mi = 0) ∧ e.tm = 0 ∧ e.c.d.length = 3 := by rw [heb2]; intro e he; obtain ⟨z, hz, rfl⟩ := List.mem_map.1 he; exact ⟨⟨rfl, rfl⟩, rfl, hsz z hz⟩
      have htb : tot eb = 3 * q2 := by rw [heb2, tot_fly, htt]
      refine O_p (.p (some (F6, 0))) (r_mv hT23) ?_
      have hH48 := ((hH25.top1).top1)
      have hH49 := ((hH48.top1).top1)
      refine O_call (Ev.mono (q_take (now := 0) (room := 1048576) hQa (by omega) (fun e he => by rw [hsz e he]; decide) (fun e he => by rw [(hmi0 e he).2.2]; exact ⟨by decide, by decide⟩) (by decide) hH49) fun v50 H51 hq52 => ?_)
      obtain ⟨L5, D5, ov, oc, rows5, rfl, hQ5, hSo, hC5, _, hH5⟩ := hq52
      rw [← heb] at hQ5
      refine O_nil ?_
      refine C_seq ?_
      refine C_region ?_
      refine O_p (.i .u32 a0) (r_mv hT17) ?_
      refine O_p (.i .u32 (IntKind.u32.wrap (a0 - 1))) (r_bin rfl rfl rfl) ?_
      refine O_p (.i .i64 c0) (r_mv hT18) ?_
      obtain ⟨q53, hq53, hlq53⟩ := and_nat c0 65535 (by decide)
      refine O_p (.i .i64 (((q53 : Nat)) : Int)) (by exact (by rw [← hq53]; exact r_bin rfl rfl rfl)) ?_
      refine O_p (.i .i64 (((q2 : Nat)) : Int)) (r_mv hT22) ?_
      refine O_p (.i .i64 ((((q2 : Nat)) : Int) + 1)) (by exact (r_addi rfl rfl (wrap_i64 (by omega) (by omega)))) ?_
      refine O_p (.i .i64 ((((q53 % (q2 + 1)) : Nat)) : Int)) (by exact (r_remn (a := q53) (b := (q2 + 1)) rfl rfl (by omega))) ?_
      have hrk : (q53 % (q2 + 1)) ≤ q2 := by have h9 := Nat.mod_lt q53 (show 0 < q2 + 1 by omega); omega
      refine O_p (.i .u32 (IntKind.u32.wrap ((((q53 % (q2 + 1)) : Nat)) : Int))) (r_cint rfl) ?_
      refine O_p (.i .u32 (IntKind.u32.wrap ((IntKind.u32.wrap (a0 - 1)) + (IntKind.u32.wrap ((((q53 % (q2 + 1)) : Nat)) : Int))))) (r_bin rfl rfl rfl) ?_
      refine O_p (.i .u32 (IntKind.u32.wrap ((IntKind.u32.wrap (a0 - 1)) + (IntKind.u32.wrap ((((q53 % (q2 + 1)) : Nat)) : Int))))) (r_mv rfl) ?_
      refine O_nil ?_
      refine C_seq ?_
      refine C_region ?_
      refine O_p (.p (some (F6, 0))) (r_mv hT23) ?_
      refine O_p (.i .u32 (IntKind.u32.wrap ((IntKind.u32.wrap (a0 - 1)) + (IntKind.u32.wrap ((((q53 % (q2 + 1)) : Nat)) : Int))))) (r_mv rfl) ?_
      refine O_p v (r_mv hT19) ?_
      refine O_p (.i .i64 w0) (r_mv hT20) ?_
      refine O_call (Ev.mono (bounded_ev hH5) fun v54 H55 hq56 => ?_)
      obtain ⟨nw57, rfl, hnw58, hH59⟩ := hq56
      have hH60 := ((hH59.top3).top2)
      have hca : w32 ((IntKind.u32.wrap ((IntKind.u32.wrap (a0 - 1)) + (IntKind.u32.wrap ((((q53 % (q2 + 1)) : Nat)) : Int)))) - floorA (w32 (a0 + ((q2 : Nat) : Int))) eb.length) = (((q53 % (q2 + 1)) : Nat) : Int) := cum_at (R := (q53 % (q2 + 1))) (n := (q53 % (q2 + 1))) (by rw [hbl2]; omega) (by omega)
      have hH61 := ((hH60.top1).top1)
      refine O_call (Ev.mono (q_ack (n := (q53 % (q2 + 1))) hQ5 hvb hbr (by omega) (by omega) (fun e he => by rw [(hb1 e he).2.2]; decide) hca (by rw [hbl2]; omega) (fun e he => by rw [(hb1 e (List.mem_of_mem_take he)).1.1]; decide) ⟨by omega, by omega⟩ (fun e he => by rw [(hb1 e he).2.1]; exact ⟨by decide, by decide⟩) (fun e he => by rw [(hb1 e he).1.2]; exact ⟨by decide, by decide⟩) hH61) fun v62 H63 hq64 => ?_)
      obtain ⟨L65, rfl, hQ66, hH67⟩ := hq64
      obtain ⟨ec, hec⟩ : ∃ z, z = ackE bl eb (q53 % (q2 + 1)) := ⟨_, rfl⟩
      rw [← hec] at hQ66
      have hcl : ec.length = q2 - (q53 % (q2 + 1)) := by rw [hec, ackE_len, hbl2]
      have hcz : ∀ e ∈ ec, e.c.d.length ≤ 3 ∧ e.tm = 0 ∧ 0 ≤ e.mi ∧ e.mi ≤ 1000000 := ackz hec (fun e he => ⟨(hb1 e he).1.2, (hb1 e he).2⟩)
      have hfix : Fix bl 0 ec := by rw [hec]; exact ack_fix
      obtain ⟨ha1, ha2, ha3⟩ := ack_again hfix
      have hsum : ackB bl eb (q53 % (q2 + 1)) + octs [1] ec = tot eb := by rw [hec]; exact ack_sum (fun e he => (hb1 e he).1)
      refine O_p (.tup [(.agg [(.i .i64 ((((ackB bl eb (q53 % (q2 + 1))) : Nat)) : Int)), (.i .i64 (drS (((nw57 : Nat)) : Int) (eb.take (q53 % (q2 + 1))) (-1))), (.b (ackL bl eb (q53 % (q2 + 1)))), (.b (decide ((0 : Int) < (((q53 % (q2 + 1)) : Nat) : Int))))]), (.b true)]) (r_mv rfl) ?_
      refine O_p (.agg [(.i .i64 ((((ackB bl eb (q53 % (q2 + 1))) : Nat)) : Int)), (.i .i64 (drS (((nw57 : Nat)) : Int) (eb.take (q53 % (q2 + 1))) (-1))), (.b (ackL bl eb (q53 % (q2 + 1)))), (.b (decide ((0 : Int) < (((q53 % (q2 + 1)) : Nat) : Int))))]) (r_ext rfl rfl) ?_
      refine O_p (.b true) (r_ext rfl rfl) ?_
      refine O_alloc fun n68 H69 hN70 => ?_
      have hH71 := hH67.new hN70
      refine O_store (vs := [(.i .i64 ((((ackB bl eb (q53 % (q2 + 1))) : Nat)) : Int)), (.i .i64 (drS (((nw57 : Nat)) : Int) (eb.take (q53 % (q2 + 1))) (-1))), (.b (ackL bl eb (q53 % (q2 + 1)))), (.b (decide ((0 : Int) < (((q53 % (q2 + 1)) : Nat) : Int))))]) (c' := [(.i .i64 ((((ackB bl eb (q53 % (q2 + 1))) : Nat)) : Int)), (.i .i64 (drS (((nw57 : Nat)) : Int) (eb.take (q53 % (q2 + 1))) (-1))), (.b (ackL bl eb (q53 % (q2 + 1)))), (.b (decide ((0 : Int) < (((q53 % (q2 + 1)) : Nat) : Int))))]) rfl (by rfl) hH71.get0 rfl (List.cons_ne_nil _ _) (Nat.le_of_ble_eq_true rfl) rfl fun H72 hW73 => ?_
      have hH74 := hH71.wr0 hW73
      refine O_p (.b true) (r_mv rfl) ?_
      refine O_nil ?_
      refine C_seq ?_
      refine C_region ?_
      refine O_p (.p (some (F6, 0))) (r_mv hT23) ?_
      have hH75 := (hH74.top1)
      refine O_call (Ev.mono (q_floor hQ66 hH75) fun v76 H77 hq78 => ?_)
      obtain ⟨rfl, hH79⟩ := hq78
      refine O_p (.i .u32 (floorA (w32 (a0 + ((q2 : Nat) : Int))) ec.length)) (r_mv rfl) ?_
      refine O_nil ?_
      refine C_seq ?_
      refine C_region ?_
      refine O_p (.p (some (F6, 0))) (r_mv hT23) ?_
      refine O_call (Ev.mono (q_len hQ66 hH79) fun v80 H81 hq82 => ?_)
      obtain ⟨rfl, hH83⟩ := hq82
      refine O_p (.i .i64 (((ec.length : Nat)) : Int)) (r_mv rfl) ?_
      refine O_nil ?_
      refine C_seq ?_
      refine C_region ?_
      refine O_p (.p (some (F6, 0))) (r_mv hT23) ?_
      refine O_call (Ev.mono (q_flying hQ66 (by omega) (fun e he => by have := (hcz e he).1; omega) hH83) fun v84 H85 hq86 => ?_)
      obtain ⟨rfl, hH87⟩ := hq86
      refine O_p (.i .i64 ((((octs [1] ec) : Nat)) : Int)) (r_mv rfl) ?_
      refine O_nil ?_
      refine C_seq ?_
      refine C_region ?_
      refine O_p (.p (some (F6, 0))) (r_mv hT23) ?_
      refine O_p (.i .u32 (IntKind.u32.wrap ((IntKind.u32.wrap (a0 - 1)) + (IntKind.u32.wrap ((((q53 % (q2 + 1)) : Nat)) : Int))))) (r_mv rfl) ?_
      refine O_p v (r_mv hT19) ?_
      refine O_p (.i .i64 w0) (r_mv hT20) ?_
      refine O_call (Ev.mono (bounded_ev hH87) fun v88 H89 hq90 => ?_)
      obtain ⟨nw91, rfl, hnw92, hH93⟩ := hq90
      have hH94 := ((hH93.top2).top1)
      have hca : w32 ((IntKind.u32.wrap ((IntKind.u32.wrap (a0 - 1)) + (IntKind.u32.wrap ((((q53 % (q2 + 1)) : Nat)) : Int)))) - floorA (w32 (a0 + ((q2 : Nat) : Int))) ec.length) = ((0 : Nat) : Int) := cum_at (R := (q53 % (q2 + 1))) (n := 0) (by rw [hcl]; omega) (by omega)
      have hH95 := ((hH94.top1).top1)
      refine O_call (Ev.mono (q_ack (n := 0) hQ66 hvb hbr (by omega) (by omega) (fun e he => by have := (hcz e he).1; omega) hca (Nat.zero_le _) (fun e he => by cases he) ⟨by omega, by omega⟩ (fun e he => by rw [(hcz e he).2.1]; exact ⟨by decide, by decide⟩) (fun e he => (hcz e he).2.2) hH95) fun v96 H97 hq98 => ?_)
      obtain ⟨L99, rfl, hQ100, hH101⟩ := hq98
      rw [ha1] at hQ100
      refine O_p (.tup [(.agg [(.i .i64 ((((ackB bl ec 0) : Nat)) : Int)), (.i .i64 (drS (((nw91 : Nat)) : Int) (ec.take 0) (-1))), (.b (ackL bl ec 0)), (.b (decide ((0 : Int) < ((0 : Nat) : Int))))]), (.b true)]) (r_mv rfl) ?_
      refine O_p (.agg [(.i .i64 ((((ackB bl ec 0) : Nat)) : Int)), (.i .i64 (drS (((nw91 : Nat)) : Int) (ec.take 0) (-1))), (.b (ackL bl ec 0)), (.b (decide ((0 : Int) < ((0 : Nat) : Int))))]) (r_ext rfl rfl) ?_
      refine O_p (.b true) (r_ext rfl rfl) ?_
      refine O_alloc fun n102 H103 hN104 => ?_
      have hH105 := hH101.new hN104
      refine O_store (vs := [(.i .i64 ((((ackB bl ec 0) : Nat)) : Int)), (.i .i64 (drS (((nw91 : Nat)) : Int) (ec.take 0) (-1))), (.b (ackL bl ec 0)), (.b (decide ((0 : Int) < ((0 : Nat) : Int))))]) (c' := [(.i .i64 ((((ackB bl ec 0) : Nat)) : Int)), (.i .i64 (drS (((nw91 : Nat)) : Int) (ec.take 0) (-1))), (.b (ackL bl ec 0)), (.b (decide ((0 : Int) < ((0 : Nat) : Int))))]) rfl (by rfl) hH105.get0 rfl (List.cons_ne_nil _ _) (Nat.le_of_ble_eq_true rfl) rfl fun H106 hW107 => ?_
      have hH108 := hH105.wr0 hW107
      refine O_p (.b true) (r_mv rfl) ?_
      refine O_nil ?_
      refine C_seq ?_
      refine C_region ?_
      refine O_p (.b true) (r_mv hT21) ?_
      refine O_p (.b true) (r_mv rfl) ?_
      refine O_gk rfl ?_
      refine O_p (.b true) (r_mv rfl) ?_
      refine O_p (.b true) (r_pick_t rfl rfl) ?_
      refine O_p (.b true) (r_mv rfl) ?_
      refine O_gk rfl ?_
      refine O_p (.b true) (r_mv rfl) ?_
      refine O_p (.b true) (r_pick_t rfl rfl) ?_
      refine O_p (.b true) (r_mv rfl) ?_
      refine O_gk rfl ?_
      refine O_p (.i .u32 (floorA (w32 (a0 + ((q2 : Nat) : Int))) ec.length)) (r_mv rfl) ?_
      refine O_gk rfl ?_
      refine O_p (.i .u32 (IntKind.u32.wrap ((IntKind.u32.wrap (a0 - 1)) + (IntKind.u32.wrap ((((q53 % (q2 + 1)) : Nat)) : Int))))) (r_mv rfl) ?_
      refine O_gk rfl ?_
      refine O_p (.b true) (by exact (by rw [r_eql rfl rfl, decide_eq_true (floor_at (by rw [hcl]; omega))])) ?_
      refine O_p (.b true) (r_pick_t rfl rfl) ?_
      refine O_p (.b true) (r_mv rfl) ?_
      refine O_gk rfl ?_
      refine O_p (.p (some (F6, 0))) (r_mv hT23) ?_
      refine O_gk rfl ?_
      have hH109 := (hH108.top1)
      refine O_call (Ev.mono (q_floor hQ100 hH109) fun v110 H111 hq112 => ?_)
      obtain ⟨rfl, hH113⟩ := hq112
      refine O_gk rfl ?_
      refine O_p (.i .u32 (IntKind.u32.wrap ((IntKind.u32.wrap (a0 - 1)) + (IntKind.u32.wrap ((((q53 % (q2 + 1)) : Nat)) : Int))))) (r_mv rfl) ?_
      refine O_gk rfl ?_
      refine O_p (.b true) (by exact (by rw [r_eql rfl rfl, decide_eq_true (floor_at (by rw [hcl]; omega))])) ?_
      refine O_p (.b true) (r_pick_t rfl rfl) ?_
      refine O_p (.b true) (r_mv rfl) ?_
      refine O_gk rfl ?_
      refine O_p (.p (some (F6, 0))) (r_mv hT23) ?_
      refine O_gk rfl ?_
      refine O_call (Ev.mono (q_len hQ100 hH113) fun v114 H115 hq116 => ?_)
      obtain ⟨rfl, hH117⟩ := hq116
      refine O_gk rfl ?_
      refine O_p (.i .i64 (((ec.length : Nat)) : Int)) (r_mv rfl) ?_
      refine O_gk rfl ?_
      refine O_p (.b true) (r_eqq rfl rfl) ?_
      refine O_p (.b true) (r_pick_t rfl rfl) ?_
      refine O_p (.b true) (r_mv rfl) ?_
      refine O_gk rfl ?_
      refine O_p (.p (some (n102, 0))) (r_fadd' rfl rfl) ?_
      refine O_gk rfl ?_
      refine O_p (.i .i64 ((((ackB bl ec 0) : Nat)) : Int)) (r_ld rfl hH117.get1 rfl) ?_
      refine O_gk rfl ?_
      refine O_p (.b true) (by exact (by rw [r_eql rfl rfl, decide_eq_true (by rw [ha2]; rfl)])) ?_
      refine O_p (.b true) (r_pick_t rfl rfl) ?_
      refine O_p (.b true) (r_mv rfl) ?_
      refine O_gk rfl ?_
      refine O_p (.p (some (n102, 3))) (r_fadd' rfl rfl) ?_
      refine O_gk rfl ?_
      refine O_p (.b (decide ((0 : Int) < ((0 : Nat) : Int)))) (r_ld rfl hH117.get1 rfl) ?_
      refine O_gk rfl ?_
      refine O_p (.b true) (by exact (by rw [show AV.b true = AV.b (!(decide ((0 : Int) < ((0 : Nat) : Int)))) by rfl]; exact r_not rfl)) ?_
      refine O_p (.b true) (r_pick_t rfl rfl) ?_
      refine O_p (.b true) (r_mv rfl) ?_
      refine O_gk rfl ?_
      refine O_p (.p (some (n102, 1))) (r_fadd' rfl rfl) ?_
      refine O_gk rfl ?_
      refine O_p (.i .i64 (drS (((nw91 : Nat)) : Int) (ec.take 0) (-1))) (r_ld rfl hH117.get1 rfl) ?_
      refine O_gk rfl ?_
      refine O_p (.b true) (by exact (by rw [r_eql rfl rfl, decide_eq_true (by rw [List.take_zero]; rfl)])) ?_
      refine O_p (.b true) (r_pick_t rfl rfl) ?_
      refine O_p (.b true) (r_mv rfl) ?_
      refine O_gk rfl ?_
      refine O_p (.p (some (n102, 2))) (r_fadd' rfl rfl) ?_
      refine O_gk rfl ?_
      refine O_p (.b (ackL bl ec 0)) (r_ld rfl hH117.get1 rfl) ?_
      refine O_gk rfl ?_
      refine O_p (.b true) (by exact (by rw [show AV.b true = AV.b (!(ackL bl ec 0)) by rw [ha3]; rfl]; exact r_not rfl)) ?_
      refine O_p (.b true) (r_pick_t rfl rfl) ?_
      refine O_p (.b true) (r_mv rfl) ?_
      refine O_gk rfl ?_
      refine O_p (.p (some (F6, 0))) (r_mv hT23) ?_
      refine O_gk rfl ?_
      refine O_call (Ev.mono (q_flying hQ100 (by omega) (fun e he => by have := (hcz e he).1; omega) hH117) fun v118 H119 hq120 => ?_)
      obtain ⟨rfl, hH121⟩ := hq120
      refine O_gk rfl ?_
      refine O_p (.i .i64 ((((octs [1] ec) : Nat)) : Int)) (r_mv rfl) ?_
      refine O_gk rfl ?_
      refine O_p (.b true) (r_eqq rfl rfl) ?_
      refine O_p (.b true) (r_pick_t rfl rfl) ?_
      refine O_p (.b true) (r_mv rfl) ?_
      refine O_gk rfl ?_
      refine O_p (.p (some (n68, 0))) (r_fadd' rfl rfl) ?_
      refine O_gk rfl ?_
      refine O_p (.i .i64 ((((ackB bl eb (q53 % (q2 + 1))) : Nat)) : Int)) (r_ld rfl hH121.get3 rfl) ?_
      refine O_gk rfl ?_
      refine O_p (.i .i64 ((((octs [1] ec) : Nat)) : Int)) (r_mv rfl) ?_
      refine O_gk rfl ?_
      refine O_p (.i .i64 (((((ackB bl eb (q53 % (q2 + 1))) : Nat)) : Int) + ((((octs [1] ec) : Nat)) : Int))) (by exact (r_addi rfl rfl (wrap_i64 (by omega) (by omega)))) ?_
      refine O_gk rfl ?_
      refine O_p (.i .i64 (((q2 : Nat)) : Int)) (r_mv hT22) ?_
      refine O_gk rfl ?_
      refine O_p (.i .i64 (3 * (((q2 : Nat)) : Int))) (by exact (r_muli rfl rfl (wrap_i64 (by omega) (by omega)))) ?_
      refine O_gk rfl ?_
      refine O_p (.b true) (by exact (by rw [r_eql rfl rfl, decide_eq_true (by omega)])) ?_
      refine O_p (.b true) (r_pick_t rfl rfl) ?_
      refine O_p (.b true) (r_mv rfl) ?_
      refine O_nil ?_
      refine C_ret ?_
      exact ⟨.inr rfl, _, resL_one (r_tmp (v := .b true) rfl), rfl⟩
set_option maxRecDepth 100000 in
theorem blT {H : AH} {k : Nat} {r : List AV} (h : Typed Try.prog H (k + 3) 119 r) : ∃ b : Int × Int, r = [.i .u16 b.1, .i .u16 b.2] ∧ (0 ≤ b.1 ∧ b.1 < 65536) ∧ 0 ≤ b.2 ∧ b.2 < 65536 := by
  obtain ⟨hl, hq⟩ := struct_parts (qs := [(29, 0, 1), (29, 1, 1)]) Try.underlying119 h (by kernel_rfl)
  rw [show Try.prog.cellsOf 119 = 2 by kernel_rfl] at hl
  obtain ⟨x0, x1, rfl⟩ : ∃ a b, r = [a, b] := by
    match r, hl with
    | [a, b], _ => exact ⟨a, b, rfl⟩
  simp only [List.forall_mem_cons, List.drop_zero, List.drop_succ_cons, List.take_succ_cons, List.take_zero] at hq
  obtain ⟨q0, q1, _⟩ := hq
  obtain ⟨n0, e0, w0⟩ := typed_int Try.underlying29 q0
  obtain ⟨n1, e1, w1⟩ := typed_int Try.underlying29 q1
  cases e0; cases e1
  exact ⟨(n0, n1), rfl, by simp [Lit.wf, IntKind.wrap, IntKind.signed, IntKind.bits, IntKind.min, IntKind.max] at w0; omega, by simp [Lit.wf, IntKind.wrap, IntKind.signed, IntKind.bits, IntKind.min, IntKind.max] at w1; omega⟩
set_option maxRecDepth 100000 in
theorem run3T (H : AH) (hok : H.Ok) (a0 n0 c0 w0 : Int) (w_a0 : (Lit.int .u32 a0).wf = true) {v : AV} (h : Typed Try.prog H 9 23 [v]) : Ev tabA spA (.fn (.func 3) [] []) [.i .u32 a0, .i .i64 n0, .i .i64 c0, v, .i .i64 w0] H (fun v _ => v = .b true) := by
  obtain ⟨p, n, c, rfl, hnc, _, hr⟩ := typed_recs (z := 2) Try.underlying23 (by kernel_rfl) h
  obtain ⟨rows, hrw, _, hrt⟩ := Rw.given hnc hr
  obtain ⟨bl, hbl⟩ := blks_ex fun i r hi => blT (k := 5) (hrt i r hi)
  exact run3 H hok a0 n0 c0 w0 w_a0 _ rows bl (fun H' hh => hrw.ro (R := []) hok (by rw [List.append_nil]; exact hh)) hbl
set_option maxRecDepth 100000 in
theorem law3 (W : World) (ρ : Rho) (H : AH) (xs : List AV) (args : Array Value) (hR : Rel Try.prog W.heap.size W ρ H W) (hro : RO H) (hv : VRL ρ xs args.toList) (ht : TypedVs Try.prog H 9 Try.f3.params.toList xs) :
    Calls Try.prog 3 args W fun e w' => e = .returned (.bool true) ∧ Below W.heap.size W w' := by
  rw [Try.params3] at ht
  obtain ⟨a0, xs, rfl, g0, a1, xs, rfl, g1, a2, xs, rfl, g2, a3, xs, rfl, g3, a4, xs, rfl, g4, rfl⟩ := ht
  obtain ⟨a0, rfl, wa0⟩ := typedV_int Try.underlying22 g0
  obtain ⟨n0, rfl, wn0⟩ := typedV_int Try.underlying3 g1
  obtain ⟨c0, rfl, wc0⟩ := typedV_int Try.underlying3 g2
  obtain ⟨w0, rfl, ww0⟩ := typedV_int Try.underlying3 g4
  obtain ⟨k, v, H', hex, rfl⟩ := run3T H hR.aok a0 n0 c0 w0 wa0 (typedV_slice Try.underlying23 g3)
  exact law_of mixed tabA_ok spA_ok hex hR hv
end Go.Proofs.Ytipcacpaadgagaa.E
namespace Go.Proofs.Ytipcacpaadgagaa.sendqTwice
open Go.ChangeShapes Go.WideShapes Go.RowKit
set_option linter.unusedVariables false
theorem own : ownKnob Try.prog.godebug = none := by kernel_rfl
theorem types : (Try.f3.params.toList.all fun t => E.fit Try.prog 9 t && (Try.prog.readableRec t && decide (t < Try.prog.types.size))) = true := by kernel_rfl
set_option maxRecDepth 100000 in
theorem lifted (os : Os) (started : os.Started) (H : Type) (enc : TypeId × Value → H) :
    ReturnsInHanded {} Try.checked os 3 .any (Rows.sendqTwiceSpec.pre6 enc Try.prog Try.f3 Rows.sendqTwiceRow.domain false) (Rows.sendqTwiceSpec.post enc Try.prog Try.f3 false true false false) :=
  E.law_lifted (C := Try.checked) (k := 9) (tb := 4) E.globals0 E.laid own started (by kernel_rfl) Try.func3
    (ChangeSpec.witness6 (enc := enc) (C := Try.checked) false ⟨#[], #[.int .u32 0, .int .i64 0, .int .i64 0, .slice none 0 0, .int .i64 0], []⟩ 8 (by kernel_rfl) (by kernel_rfl) (by kernel_rfl) (by kernel_rfl))
    rfl rfl Try.underlying4 (fun t ht => by have h := List.all_eq_true.1 types t ht; simp only [Bool.and_eq_true, decide_eq_true_eq] at h; exact h)
    (fun ds hd => by
      rw [Try.params3] at hd
      match ds, hd with
      | [d0, d1, d2, d3, d4], _ => rfl) E.law3
theorem over : Rows.sendqTwiceRow.holds Try.pinned (OpenSpec.ofChange Rows.sendqTwiceSpec) :=
  OpenClaim.holds_of_wide 3 Try.f3 rfl rfl rfl rfl rfl rfl rfl ⟨rfl, rfl, rfl, rfl, rfl⟩ rfl rfl rfl rfl rfl (by kernel_rfl) Try.func3 (by kernel_rfl)
    (of_decide_eq_true (by kernel_rfl)) (by unfold Func.isWrapper; first | (rw [if_pos (by decide +kernel)]; kernel_rfl) | (rw [if_neg (by decide +kernel)]; exact ⟨rfl, rfl⟩))
    (fun os started H enc _ => lifted os started H enc)
end Go.Proofs.Ytipcacpaadgagaa.sendqTwice
namespace Go.Proofs.Ytipcacpaadgagaa
/-- The row, under a short name, for the claim. -/
theorem sendqTwice_holds : Rows.SendqTwiceSaid := sendqTwice.over
#print axioms sendqTwice_holds
end Go.Proofs.Ytipcacpaadgagaa
