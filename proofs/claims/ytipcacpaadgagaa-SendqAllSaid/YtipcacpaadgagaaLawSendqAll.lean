/- SendqAll, for every input, without conditions. -/
import Derived.Test.YtipcacpaadgagaaQQ2
import Derived.Test.YtipcacpaadgagaaRows
import Derived.ProofKit
import Derived.OpenShut
namespace Go.Proofs.Ytipcacpaadgagaa.E
open Go.RowKit (Below)
set_option linter.unusedVariables false
set_option linter.unusedSimpArgs false
set_option maxRecDepth 100000 in
set_option maxHeartbeats 400000 in
theorem run5 (H0 : AH) (hok0 : H0.Ok) (a0 n0 : Int) (w_a0 : (Lit.int .u32 a0).wf = true) (v : AV) (bl : List Bool) (hvb : ∀ H', Hs H' (allL H0) → Rw 1 H' v (bl.map fun x => [AV.b x])) : Ev tabA spA (.fn (.func 5) [] []) [.i .u32 a0, .i .i64 n0, v] H0 (fun v _ => v = .b true) := by
  have hH0 := allL_hs hok0
  refine Ev_C (F := x5) rfl ?_
  have ha0 : 0 ≤ a0 ∧ a0 < 4294967296 := by simp [Lit.wf, IntKind.wrap, IntKind.signed, IntKind.bits, IntKind.min, IntKind.max] at w_a0; omega
  refine C_seq ?_
  refine C_region ?_
  refine O_p (.b false) (r_mv rfl) ?_
  refine O_nil ?_
  refine C_seq ?_
  refine C_region ?_
  refine O_call (Ev_sp (v := (.b true)) rfl rfl ?_)
  refine O_p (.b true) (r_mv rfl) ?_
  refine O_nil ?_
  refine C_seq ?_
  refine C_seq ?_
  refine C_region ?_
  refine O_p v (r_mv rfl) ?_
  refine O_p (.i .i64 (((bl.length : Nat)) : Int)) (r_lenOf (v := v) (n := bl.length) rfl ((hvb _ hH0.top0.fst).lenOf (List.length_map ..)) (hvb _ hH0.top0.fst).isSl) ?_
  refine O_p (.b (decide (300 < (((bl.length : Nat)) : Int)))) (r_gtr rfl rfl) ?_
  refine O_nil ?_
  refine C_cond (x := (decide (300 < (((bl.length : Nat)) : Int)))) rfl (fun hc1 => ?_) (fun hc1 => ?_)
  ·
    try simp only [decide_eq_true_eq, decide_eq_false_iff_not, Bool.not_eq_true', Bool.not_eq_false', Bool.and_eq_true, Bool.or_eq_true, Bool.or_eq_false_iff, Bool.not_not, Bool.and_eq_false_iff] at hc1
    refine C_seq ?_
    refine C_region ?_
    refine O_p (.b true) (r_mv rfl) ?_
    refine O_p (.b true) (r_mv rfl) ?_
    refine O_nil ?_
    refine C_ret ?_
    refine nx_ret ?_
    exact ⟨.inr rfl, _, resL_one (r_tmp (v := .b true) rfl), rfl⟩
  ·
    try simp only [decide_eq_true_eq, decide_eq_false_iff_not, Bool.not_eq_true', Bool.not_eq_false', Bool.and_eq_true, Bool.or_eq_true, Bool.or_eq_false_iff, Bool.not_not, Bool.and_eq_false_iff] at hc1
    refine C_skip ?_
    refine C_seq ?_
    refine C_region ?_
    refine O_p (.i .i64 n0) (r_mv rfl) ?_
    obtain ⟨q2, hq2, hlq2⟩ := and_nat n0 31 (by decide)
    refine O_p (.i .i64 (((q2 : Nat)) : Int)) (by exact (by rw [← hq2]; exact r_bin rfl rfl rfl)) ?_
    refine O_p (.i .i64 (((q2 : Nat)) : Int)) (r_mv rfl) ?_
    refine O_nil ?_
    refine C_seq ?_
    refine C_region ?_
    refine O_p (.i .u32 a0) (r_mv rfl) ?_
    refine O_call (Ev.mono (new_ev (a := a0) hH0) fun v3 H4 hq5 => ?_)
    obtain ⟨F6, rfl, hH7⟩ := hq5
    have hH8 : Hs _ (([(F6, some (.cells [.sl none 0 0 0, .i .u32 a0] true))] ++ []) ++ (([] : HL) ++ _)) := hH7
    have hQ0 := q_new0 (F := F6) a0
    refine O_p (.p (some (F6, 0))) (r_mv rfl) ?_
    refine O_nil ?_
    refine C_seq ?_
    refine C_seq ?_
    refine C_region ?_
    refine O_p (.i .i64 0) (r_mv rfl) ?_
    refine O_nil ?_
    refine C_block ?_
    have hH9 := (((hH8.top2).top2).top2)
    refine C_while (fun m10 T11 H12 => ∃ L : HL, ∃ D : HL, ∃ i : Nat, m10 = q2 - i ∧ i ≤ q2 ∧ Qr F6 (mkE a0 ((sizes q2).take i)) (w32 (a0 + ((i : Nat) : Int))) D L ∧ Hs H12 (L ++ (D ++ ((allL H0) ++ ([])))) ∧ T11.get 0 = (.i .u32 a0) ∧ T11.get 2 = v ∧ T11.get 7 = (.b true) ∧ T11.get 8 = (.i .i64 (((q2 : Nat)) : Int)) ∧ T11.get 9 = (.p (some (F6, 0))) ∧ T11.get 10 = (.i .i64 (((i : Nat)) : Int))) (fun m10 T11 H12 hI13 => ?_) q2 _ _ ⟨([(F6, some (.cells [.sl none 0 0 0, .i .u32 a0] true))] ++ []), ([] : HL), 0, rfl, Nat.zero_le _, by rw [w32_id ha0]; exact hQ0, hH9, rfl, rfl, rfl, rfl, rfl, rfl⟩
    obtain ⟨L, D, i, hm14, hp15, hp16, hH23, hT17, hT18, hT19, hT20, hT21, hT22⟩ := hI13
    refine C_seq ?_
    refine C_seq ?_
    refine C_region ?_
    refine O_p (.i .i64 (((i : Nat)) : Int)) (r_mv hT22) ?_
    refine O_p (.i .i64 (((q2 : Nat)) : Int)) (r_mv hT20) ?_
    refine O_p (.b (decide ((((i : Nat)) : Int) < (((q2 : Nat)) : Int)))) (r_lss rfl rfl) ?_
    refine O_nil ?_
    refine C_cond (x := (decide ((((i : Nat)) : Int) < (((q2 : Nat)) : Int)))) rfl (fun hc24 => ?_) (fun hc24 => ?_)
    ·
      try simp only [decide_eq_true_eq, decide_eq_false_iff_not, Bool.not_eq_true', Bool.not_eq_false', Bool.and_eq_true, Bool.or_eq_true, Bool.or_eq_false_iff, Bool.not_not, Bool.and_eq_false_iff] at hc24
      refine C_skip ?_
      refine C_seq ?_
      refine C_block ?_
      refine C_seq ?_
      refine C_region ?_
      have hil : i < q2 := by omega
      refine O_p (.p (some (F6, 0))) (r_mv hT21) ?_
      refine O_p (.i .i64 (((i : Nat)) : Int)) (r_mv hT22) ?_
      refine O_p (.i .i64 ((((i + 1) : Nat)) : Int)) (by exact (by rw [show ((i + 1 : Nat) : Int) = 1 + ((i : Nat) : Int) by omega]; exact r_addi rfl rfl (wrap_i64 (by omega) (by omega)))) ?_
      refine O_call (Ev.mono (piece_ev (n := (i + 1)) (by have := Nat.le_refl 3; omega) hH23) fun v25 H26 hq27 => ?_)
      obtain ⟨db28, rfl, hH29⟩ := hq27
      refine O_bslice (c := [(.i .u8 0), (.i .u8 3), (.i .u32 0), (.i .u32 0), (.i .u16 0), (.i .u16 0), (.i .u32 0), (.sl none 0 0 0), (.sl none 0 0 0), (.sl none 0 0 0), (.sl none 0 0 0), (.sl (some (db28, 0)) (i + 1) (i + 1) 0)]) rfl fun n30 H31 hN32 => ?_
      have hH33 := hH29.new hN32
      have hH34 := ((hH33.top1).top1)
      have hH35 := Hs.unassoc hH34
      have hH36 := ((hH35.top2).top2)
      refine O_call (Ev.mono (q_push1 (n := (i + 1)) hp16 ⟨by omega, by omega⟩ (by rw [mkE_len, List.length_take, sizes_len]; omega) (w32_r _) hH36) fun v37 H38 hq39 => ?_)
      obtain ⟨L40, D41, m42, rfl, hQ43, hH44⟩ := hq39
      have hH44s := hH44.sub1
      refine O_p (.b false) (r_bin rfl rfl rfl) ?_
      refine O_nil ?_
      refine C_cond (x := false) rfl (fun h => by cases h) (fun _ => ?_)
      refine C_skip ?_
      refine C_region ?_
      refine O_p (.i .i64 (((i : Nat)) : Int)) (r_mv hT22) ?_
      refine O_p (.i .i64 ((((i : Nat)) : Int) + 1)) (by exact (r_addi rfl rfl (wrap_i64 (by omega) (by omega)))) ?_
      refine O_p (.i .i64 ((((i : Nat)) : Int) + 1)) (r_mv rfl) ?_
      refine O_nil ?_
      have hH45 := (((hH44s.top2).top2).top2)
      exact ⟨q2 - (i + 1), by omega, L40, D41, (i + 1), rfl, by omega, by have h9 := hQ43; rw [w32_w, show w32 (w32 (a0 + ((i : Nat) : Int)) + 1) = w32 (a0 + ((i + 1 : Nat) : Int)) from w32_succ a0 i] at h9; rw [sizes_take hil, mkE_snoc, List.length_take, sizes_len, Nat.min_eq_left (Nat.le_of_lt hil)]; exact h9, hH45, hT17, hT18, hT19, hT20, hT21, rfl⟩
    ·
      try simp only [decide_eq_true_eq, decide_eq_false_iff_not, Bool.not_eq_true', Bool.not_eq_false', Bool.and_eq_true, Bool.or_eq_true, Bool.or_eq_false_iff, Bool.not_not, Bool.and_eq_false_iff] at hc24
      refine C_exit ?_
      refine nx_exit ?_
      refine nx_exit ?_
      refine bk_hit ?_
      refine C_seq ?_
      refine C_region ?_
      refine O_p (.i .i64 (((q2 : Nat)) : Int)) (r_mv hT20) ?_
      have hin : i = q2 := by omega
      have hQa := hp16
      rw [hin, List.take_of_length_le (by rw [sizes_len]; exact Nat.le_refl _)] at hQa
      refine O_mks (n := q2) rfl rfl (by omega) (by omega) fun m46 H47 hN48 => ?_
      rw [bool_cells] at hN48
      have hH49 := hH23.new hN48
      refine O_p (.sl (some (m46, 0)) q2 q2 0) (r_mv rfl) ?_
      refine O_nil ?_
      refine C_seq ?_
      refine C_region ?_
      refine O_p (.i .i64 0) (r_mv rfl) ?_
      refine O_nil ?_
      refine C_seq ?_
      refine C_seq ?_
      refine C_region ?_
      refine O_p (.i .i64 0) (r_mv rfl) ?_
      refine O_nil ?_
      refine C_block ?_
      have hH50 := ((((hH49.top3).top1).top3).top3)
      have hsz0 : ∀ e ∈ (mkE a0 (sizes q2)), e.c.d.length ≤ 31 ∧ e.st = 0 ∧ e.sent = 0 ∧ e.mi = 0 ∧ e.tm = 0 := mkE_all fun n hn b => ⟨by have h9 := sizes_le hn; show (List.replicate n (0 : UInt8)).length ≤ 31; rw [List.length_replicate]; omega, rfl, rfl, rfl, rfl⟩
      have hml : (mkE a0 (sizes q2)).length = q2 := by rw [mkE_len, sizes_len]
      refine C_while (fun m51 T52 H53 => ∃ es : List Ea, ∃ L : HL, ∃ D : HL, ∃ c : Nat, ∃ t : Nat, ∃ att : Nat, ∃ g : List Bool, m51 = bl.length + 2 - t ∧ c ≤ q2 ∧ Qr F6 es (w32 (a0 + ((q2 : Nat) : Int))) D L ∧ es.map Ea.ca = ((mkE a0 (sizes q2)).drop c).map Ea.ca ∧ ((∀ e ∈ es, e.st = 0) ∨ (∀ e ∈ es, e.st = 2)) ∧ (∀ e ∈ es, (0 ≤ e.sent ∧ e.sent ≤ ((t : Nat) : Int)) ∧ e.mi = 0 ∧ 0 ≤ e.tm ∧ e.tm ≤ ((t : Nat) : Int)) ∧ g.length = q2 ∧ (∀ i, i < c → g[i]? = some true) ∧ t ≤ att ∧ att ≤ t * 32 ∧ (c < q2 → t ≤ bl.length) ∧ t ≤ bl.length + 1 ∧ Hs H53 (L ++ (D ++ ([(m46, some (.cells (g.map AV.b) true))] ++ ((allL H0) ++ ([]))))) ∧ T52.get 0 = (.i .u32 a0) ∧ T52.get 2 = v ∧ T52.get 7 = (.b true) ∧ T52.get 8 = (.i .i64 (((q2 : Nat)) : Int)) ∧ T52.get 9 = (.p (some (F6, 0))) ∧ T52.get 11 = (.sl (some (m46, 0)) q2 q2 0) ∧ T52.get 12 = (.i .i64 (((att : Nat)) : Int)) ∧ T52.get 13 = (.i .i64 (((t : Nat)) : Int))) (fun m51 T52 H53 hI54 => ?_) (bl.length + 2) _ _ ⟨(mkE a0 (sizes q2)), L, D, 0, 0, 0, (List.replicate q2 false), rfl, Nat.zero_le _, hQa, rfl, .inl fun e he => (hsz0 e he).2.1, fun e he => by obtain ⟨_, _, h1, h2, h3⟩ := hsz0 e he; rw [h1, h2, h3]; exact ⟨⟨Int.le_refl _, Int.le_refl _⟩, rfl, Int.le_refl _, Int.le_refl _⟩, List.length_replicate, fun i hi => absurd hi (Nat.not_lt_zero _), Nat.le_refl _, Nat.zero_le _, fun _ => Nat.zero_le _, by omega, hH50, hT17, hT18, hT19, hT20, hT21, rfl, rfl, rfl⟩
      obtain ⟨es, L, D, c, t, att, g, hm55, hp56, hp57, hp58, hp59, hp60, hp61, hp62, hp63, hp64, hp65, hp66, hH75, hT67, hT68, hT69, hT70, hT71, hT72, hT73, hT74⟩ := hI54
      refine C_seq ?_
      refine C_seq ?_
      refine C_region ?_
      have hesl : es.length = q2 - c := by have h9 := congrArg List.length hp58; rw [List.length_map, List.length_map, List.length_drop, hml] at h9; exact h9
      have hesz : ∀ e ∈ es, e.c.d.length ≤ 31 := ca_all (P := fun z => z.d.length ≤ 31) hp58 fun e he => (hsz0 e (List.mem_of_mem_drop he)).1
      refine O_p (.p (some (F6, 0))) (r_mv hT71) ?_
      refine O_call (Ev.mono (q_len hp57 hH75) fun v76 H77 hq78 => ?_)
      obtain ⟨rfl, hH79⟩ := hq78
      refine O_p (.b (decide (0 < (((es.length : Nat)) : Int)))) (r_gtr rfl rfl) ?_
      refine O_nil ?_
      refine C_cond (x := (decide (0 < (((es.length : Nat)) : Int)))) rfl (fun hc80 => ?_) (fun hc80 => ?_)
      ·
        try simp only [decide_eq_true_eq, decide_eq_false_iff_not, Bool.not_eq_true', Bool.not_eq_false', Bool.and_eq_true, Bool.or_eq_true, Bool.or_eq_false_iff, Bool.not_not, Bool.and_eq_false_iff] at hc80
        refine C_skip ?_
        refine C_seq ?_
        refine C_block ?_
        refine C_seq ?_
        refine C_seq ?_
        refine C_region ?_
        have hck : c < q2 := by omega
        have htl := hp65 hck
        refine O_p (.i .i64 (((t : Nat)) : Int)) (r_mv hT74) ?_
        refine O_p (.b false) (by exact (by rw [r_gtr rfl rfl, decide_eq_false (by omega)])) ?_
        refine O_nil ?_
        refine C_cond (x := false) rfl (fun h => by cases h) (fun _ => ?_)
        refine C_skip ?_
        refine C_seq ?_
        refine C_region ?_
        refine O_p (.p (some (F6, 0))) (r_mv hT71) ?_
        refine O_p (.i .i64 (((t : Nat)) : Int)) (r_mv hT74) ?_
        have hH81 := ((hH79.top1).top1)
        have htot := tot_le hesz
        have h31 : es.length ≤ 31 := by omega
        have htm31 : es.length * 31 ≤ 961 := by omega
        obtain ⟨hta1, hta2⟩ := take2_all (now := ((t : Nat) : Int)) (room := 1073741824) hp59 (by omega)
        obtain ⟨ed, hed⟩ : ∃ z, z = es.map (Ea.fly ((t : Nat) : Int)) := ⟨_, rfl⟩
        rw [← hed] at hta1
        have hd1 : ∀ e ∈ ed, e.st = 1 ∧ (0 ≤ e.sent ∧ e.sent ≤ ((t + 1 : Nat) : Int)) ∧ e.mi = 0 ∧ e.tm = ((t : Nat) : Int) ∧ e.c.d.length ≤ 31 := by rw [hed]; intro e he; obtain ⟨z, hz, rfl⟩ := List.mem_map.1 he; have h9 := hp60 z hz; exact ⟨rfl, ⟨by show 0 ≤ z.sent + 1; omega, by show z.sent + 1 ≤ _; omega⟩, rfl, rfl, hesz z hz⟩
        have hdl : ed.length = es.length := by rw [hed, List.length_map]
        have hdc : ed.map Ea.ca = es.map Ea.ca := by rw [hed, List.map_map]; rfl
        have hH82 := ((hH81.top1).top1)
        refine O_call (Ev.mono (q_take (now := ((t : Nat) : Int)) (room := 1073741824) hp57 (by omega) (fun e he => by have := hesz e he; omega) (fun e he => by have := (hp60 e he).1; omega) (by decide) hH82) fun v83 H84 hq85 => ?_)
        obtain ⟨L5, D5, ov, oc, rows, rfl, hQ5, hSo, hC5, _, hH5⟩ := hq85
        rw [hta1] at hQ5
        rw [hta2] at hC5
        refine O_p v83 (r_mv rfl) ?_
        refine O_nil ?_
        refine C_seq ?_
        refine C_seq ?_
        refine C_region ?_
        refine O_p (.i .i64 0) (r_mv rfl) ?_
        refine O_nil ?_
        refine C_block ?_
        have hH86 := (((((hH5.top4).top4).top4).top4).top4)
        refine C_while (fun m87 T88 H89 => ∃ g1 : List Bool, ∃ j : Nat, m87 = es.length - j ∧ j ≤ es.length ∧ g1.length = q2 ∧ (∀ i, i < c → g1[i]? = some true) ∧ (bl.length ≤ att → ∀ i, c ≤ i → i < c + j → g1[i]? = some true) ∧ Hs H89 ((qseg v83 oc) ++ (L5 ++ (D5 ++ ([(m46, some (.cells (g1.map AV.b) true))] ++ ((allL H0) ++ ([])))))) ∧ T88.get 0 = (.i .u32 a0) ∧ T88.get 2 = v ∧ T88.get 7 = (.b true) ∧ T88.get 8 = (.i .i64 (((q2 : Nat)) : Int)) ∧ T88.get 9 = (.p (some (F6, 0))) ∧ T88.get 11 = (.sl (some (m46, 0)) q2 q2 0) ∧ T88.get 13 = (.i .i64 (((t : Nat)) : Int)) ∧ T88.get 14 = v83 ∧ T88.get 12 = (.i .i64 ((((att + j) : Nat)) : Int)) ∧ T88.get 15 = (.i .i64 (((j : Nat)) : Int))) (fun m87 T88 H89 hI90 => ?_) es.length _ _ ⟨g, 0, rfl, Nat.zero_le _, hp61, hp62, fun _ i h1 h2 => absurd h2 (by omega), hH86, hT67, hT68, hT69, hT70, hT71, hT72, hT74, rfl, (by rw [Nat.add_zero]; exact hT73), rfl⟩
        obtain ⟨g1, j, hm91, hp92, hp93, hp94, hp95, hH106, hT96, hT97, hT98, hT99, hT100, hT101, hT102, hT103, hT104, hT105⟩ := hI90
        refine C_seq ?_
        refine C_seq ?_
        refine C_region ?_
        refine O_p (.i .i64 (((j : Nat)) : Int)) (r_mv hT105) ?_
        refine O_p v83 (r_mv hT103) ?_
        refine O_p (.i .i64 (((es.length : Nat)) : Int)) (by exact (by exact r_lenOf rfl (hSo.lenOf ((flat_len hC5.lens).trans (by rw [hC5.1, List.length_map])) (by decide)) hSo.isSl)) ?_
        refine O_p (.b (decide ((((j : Nat)) : Int) < (((es.length : Nat)) : Int)))) (r_lss rfl rfl) ?_
        refine O_nil ?_
        refine C_cond (x := (decide ((((j : Nat)) : Int) < (((es.length : Nat)) : Int)))) rfl (fun hc107 => ?_) (fun hc107 => ?_)
        ·
          try simp only [decide_eq_true_eq, decide_eq_false_iff_not, Bool.not_eq_true', Bool.not_eq_false', Bool.and_eq_true, Bool.or_eq_true, Bool.or_eq_false_iff, Bool.not_not, Bool.and_eq_false_iff] at hc107
          refine C_skip ?_
          refine C_seq ?_
          refine C_block ?_
          refine C_seq ?_
          refine C_region ?_
          have hje : j < es.length := by omega
          obtain ⟨x, dv, hxj, hri, hoc⟩ := hC5.get (i := j) (by rw [List.length_map]; exact hje)
          unfold cxRow at hri
          have hxa : x.2 = w32 (a0 + ((c + j : Nat) : Int)) := by have h9 := mkE_get (a := a0) (sizes_get (K := q2) (i := c + j) (by omega)); rw [hp58, List.getElem?_map, List.getElem?_drop, h9] at hxj; rw [← Option.some.inj hxj]; rfl
          have hds := dist_at (a := a0) (i := c + j) (by omega)
          rw [← hxa] at hds
          refine O_p (.i .i64 ((((att + j) : Nat)) : Int)) (r_mv hT104) ?_
          refine O_p (.i .i64 (((((att + j) : Nat)) : Int) + 1)) (by exact (r_addi rfl rfl (wrap_i64 (by omega) (by omega)))) ?_
          refine O_p (.i .i64 (((((att + j) : Nat)) : Int) + 1)) (r_mv rfl) ?_
          refine O_nil ?_
          refine C_seq ?_
          refine C_region ?_
          refine O_p (.i .u32 a0) (r_mv hT96) ?_
          refine O_p v83 (r_mv hT103) ?_
          refine O_p (.i .i64 (((j : Nat)) : Int)) (r_mv hT105) ?_
          refine O_q (by exact Sq.cell hSo hC5.lens hH106.top0 rfl (i := j) rfl (r := [(.i .u8 x.1.k), (.i .u8 x.1.f), (.i .u32 x.2), (.i .u32 x.1.b), (.i .u16 x.1.o), (.i .u16 x.1.i), (.i .u32 x.1.p), x.1.x1, x.1.x2, x.1.x3, x.1.x4, dv]) hri (by decide)) fun v109 hv108 => ?_
          obtain ⟨rb110, ro111, rfl, hrg112, hrt113, hrb114, hput115, hqs116⟩ := hv108
          refine O_p (.p (some (rb110, (ro111 + 2)))) (r_fadd' rfl rfl) ?_
          refine O_p (.i .u32 x.2) (r_ldR (q := 2) rfl ⟨_, _, hrg112, hrt113⟩ rfl) ?_
          refine O_call (Ev.mono (dist_ev hH106) fun v117 H118 hq119 => ?_)
          obtain ⟨rfl, hH120⟩ := hq119
          refine O_p (.i .i64 ((((c + j) : Nat)) : Int)) (by exact (by rw [show AV.i IntKind.i64 ((c + j : Nat) : Int) = .i .i64 (IntKind.i64.wrap (w32 (x.2 - a0))) by rw [hds, wrap_i64 (by omega) (by omega)]]; exact r_cint rfl)) ?_
          refine O_p (.i .i64 ((((c + j) : Nat)) : Int)) (r_mv rfl) ?_
          refine O_nil ?_
          refine C_seq ?_
          refine C_seq ?_
          refine C_region ?_
          refine O_p (.i .i64 ((((c + j) : Nat)) : Int)) (r_mv rfl) ?_
          refine O_p (.i .i64 (((q2 : Nat)) : Int)) (r_mv hT99) ?_
          refine O_p (.b false) (by exact (by rw [r_geq rfl rfl, decide_eq_false (by omega)])) ?_
          refine O_nil ?_
          refine C_cond (x := false) rfl (fun h => by cases h) (fun _ => ?_)
          refine C_skip ?_
          refine C_seq ?_
          by_cases hov : bl.length < att + j + 1
          ·
            refine C_region ?_
            refine O_p (.i .i64 (((((att + j) : Nat)) : Int) + 1)) (r_mv rfl) ?_
            refine O_p v (r_mv hT97) ?_
            refine O_p (.i .i64 (((bl.length : Nat)) : Int)) (r_lenOf (v := v) (n := bl.length) rfl ((hvb _ hH120.top4.fst).lenOf (List.length_map ..)) (hvb _ hH120.top4.fst).isSl) ?_
            refine O_p (.b true) (by exact (by rw [r_gtr rfl rfl, decide_eq_true (by omega)])) ?_
            refine O_p (.b true) (r_mv rfl) ?_
            refine O_gf rfl ?_
            refine O_gf rfl ?_
            refine O_gf rfl ?_
            refine O_gf rfl ?_
            refine O_gf rfl ?_
            refine O_gf rfl ?_
            refine O_p (.b true) (r_pick_t rfl rfl) ?_
            refine O_nil ?_
            refine C_cond (x := true) rfl (fun _ => ?_) (fun h => by cases h)
            refine C_region ?_
            refine O_p (.sl (some (m46, 0)) q2 q2 0) (r_mv hT101) ?_
            refine O_p (.i .i64 ((((c + j) : Nat)) : Int)) (r_mv rfl) ?_
            refine O_p (.p (some (m46, ((c + j) * 1 + 0)))) (by exact (r_islr (b := m46) (k := c + j) (len := q2) (cap := q2) (g := 0) rfl rfl (by omega))) ?_
            refine O_store (vs := [(.b true)]) (c' := ((g1.set (c + j) true).map AV.b)) rfl (by rfl) hH120.get3 rfl (List.cons_ne_nil _ _) (by show _ + 1 ≤ _; rw [List.length_map]; omega) (bool_put (by omega)) fun H121 hW122 => ?_
            have hH123 := hH120.wr3 hW122
            refine O_nil ?_
            refine C_region ?_
            refine O_p (.i .i64 (((j : Nat)) : Int)) (r_mv hT105) ?_
            refine O_p (.i .i64 ((((j : Nat)) : Int) + 1)) (by exact (r_addi rfl rfl (wrap_i64 (by omega) (by omega)))) ?_
            refine O_p (.i .i64 ((((j : Nat)) : Int) + 1)) (r_mv rfl) ?_
            refine O_nil ?_
            have hH124 := (((((hH123.top4).top4).top4).top4).top4)
            exact ⟨es.length - (j + 1), by omega, (g1.set (c + j) true), (j + 1), rfl, by omega, by rw [List.length_set]; exact hp93, fun i hi => set_true (hp94 i hi) (by omega), fun h9 i h8 h7 => by rcases Nat.lt_or_ge i (c + j) with h6 | h6; exact set_true (hp95 h9 i h8 h6) (by omega); obtain rfl : i = c + j := (by omega); exact List.getElem?_set_self (by omega), hH124, hT96, hT97, hT98, hT99, hT100, hT101, hT102, hT103, (by rw [show ((att + (j + 1) : Nat) : Int) = ((att + j : Nat) : Int) + 1 by omega]; exact rfl), rfl⟩
          ·
            obtain ⟨lb, hlb⟩ : ∃ b, bl[att + j]? = some b := ⟨_, List.getElem?_eq_getElem (by omega)⟩
            refine C_region ?_
            refine O_p (.i .i64 (((((att + j) : Nat)) : Int) + 1)) (r_mv rfl) ?_
            refine O_p v (r_mv hT97) ?_
            refine O_p (.i .i64 (((bl.length : Nat)) : Int)) (r_lenOf (v := v) (n := bl.length) rfl ((hvb _ hH120.top4.fst).lenOf (List.length_map ..)) (hvb _ hH120.top4.fst).isSl) ?_
            refine O_p (.b false) (by exact (by rw [r_gtr rfl rfl, decide_eq_false (by omega)])) ?_
            refine O_p (.b false) (r_mv rfl) ?_
            refine O_gk rfl ?_
            refine O_p v (r_mv hT97) ?_
            refine O_gk rfl ?_
            refine O_p (.i .i64 (((((att + j) : Nat)) : Int) + 1)) (r_mv rfl) ?_
            refine O_gk rfl ?_
            refine O_p (.i .i64 ((((att + j) : Nat)) : Int)) (by exact ((r_subi rfl rfl (wrap_i64 (by omega) (by omega))).trans (congrArg (fun z => some (AV.i IntKind.i64 z, H118)) (show ((att + j : Nat) : Int) + 1 - 1 = ((att + j : Nat) : Int) by omega)))) ?_
            refine O_gk rfl ?_
            refine O_q (by exact Rw.row (hvb _ hH120.top4.fst) rfl (i := (att + j)) rfl (r := [(.b lb)]) (bool_row hlb)) fun v126 hv125 => ?_
            obtain ⟨rb127, ro128, rfl, hr129⟩ := hv125
            refine O_gk rfl ?_
            refine O_p (.b lb) (r_ldR (q := 0) rfl (hr129 _ (hvb _ hH120.top4.fst)) rfl) ?_
            refine O_gk rfl ?_
            refine O_p (.b (!lb)) (r_not rfl) ?_
            refine O_p (.b (!lb)) (r_pick_f rfl rfl) ?_
            refine O_nil ?_
            refine C_cond (x := (!lb)) rfl (fun hc130 => ?_) (fun hc130 => ?_)
            ·
              try simp only [decide_eq_true_eq, decide_eq_false_iff_not, Bool.not_eq_true', Bool.not_eq_false', Bool.and_eq_true, Bool.or_eq_true, Bool.or_eq_false_iff, Bool.not_not, Bool.and_eq_false_iff] at hc130
              have hlv : lb = false := by simpa using hc130
              refine C_region ?_
              refine O_p (.sl (some (m46, 0)) q2 q2 0) (r_mv hT101) ?_
              refine O_p (.i .i64 ((((c + j) : Nat)) : Int)) (r_mv rfl) ?_
              refine O_p (.p (some (m46, ((c + j) * 1 + 0)))) (by exact (r_islr (b := m46) (k := c + j) (len := q2) (cap := q2) (g := 0) rfl rfl (by omega))) ?_
              refine O_store (vs := [(.b true)]) (c' := ((g1.set (c + j) true).map AV.b)) rfl (by rfl) hH120.get3 rfl (List.cons_ne_nil _ _) (by show _ + 1 ≤ _; rw [List.length_map]; omega) (bool_put (by omega)) fun H131 hW132 => ?_
              have hH133 := hH120.wr3 hW132
              refine O_nil ?_
              refine C_region ?_
              refine O_p (.i .i64 (((j : Nat)) : Int)) (r_mv hT105) ?_
              refine O_p (.i .i64 ((((j : Nat)) : Int) + 1)) (by exact (r_addi rfl rfl (wrap_i64 (by omega) (by omega)))) ?_
              refine O_p (.i .i64 ((((j : Nat)) : Int) + 1)) (r_mv rfl) ?_
              refine O_nil ?_
              have hH134 := (((((hH133.top4).top4).top4).top4).top4)
              exact ⟨es.length - (j + 1), by omega, (g1.set (c + j) true), (j + 1), rfl, by omega, by rw [List.length_set]; exact hp93, fun i hi => set_true (hp94 i hi) (by omega), fun h9 i h8 h7 => by rcases Nat.lt_or_ge i (c + j) with h6 | h6; exact set_true (hp95 h9 i h8 h6) (by omega); obtain rfl : i = c + j := (by omega); exact List.getElem?_set_self (by omega), hH134, hT96, hT97, hT98, hT99, hT100, hT101, hT102, hT103, (by rw [show ((att + (j + 1) : Nat) : Int) = ((att + j : Nat) : Int) + 1 by omega]; exact rfl), rfl⟩
            ·
              try simp only [decide_eq_true_eq, decide_eq_false_iff_not, Bool.not_eq_true', Bool.not_eq_false', Bool.and_eq_true, Bool.or_eq_true, Bool.or_eq_false_iff, Bool.not_not, Bool.and_eq_false_iff] at hc130
              have hlv : lb = true := by simpa using hc130
              refine C_skip ?_
              refine C_region ?_
              refine O_p (.i .i64 (((j : Nat)) : Int)) (r_mv hT105) ?_
              refine O_p (.i .i64 ((((j : Nat)) : Int) + 1)) (by exact (r_addi rfl rfl (wrap_i64 (by omega) (by omega)))) ?_
              refine O_p (.i .i64 ((((j : Nat)) : Int) + 1)) (r_mv rfl) ?_
              refine O_nil ?_
              have hH135 := (((((hH120.top4).top4).top4).top4).top4)
              exact ⟨es.length - (j + 1), by omega, g1, (j + 1), rfl, by omega, hp93, hp94, fun h9 => absurd h9 (by omega), hH135, hT96, hT97, hT98, hT99, hT100, hT101, hT102, hT103, (by rw [show ((att + (j + 1) : Nat) : Int) = ((att + j : Nat) : Int) + 1 by omega]; exact rfl), rfl⟩
        ·
          try simp only [decide_eq_true_eq, decide_eq_false_iff_not, Bool.not_eq_true', Bool.not_eq_false', Bool.and_eq_true, Bool.or_eq_true, Bool.or_eq_false_iff, Bool.not_not, Bool.and_eq_false_iff] at hc107
          refine C_exit ?_
          refine nx_exit ?_
          refine nx_exit ?_
          refine bk_hit ?_
          refine C_seq ?_
          refine C_region ?_
          refine O_p (.i .i64 0) (r_mv rfl) ?_
          refine O_nil ?_
          refine C_seq ?_
          refine C_block ?_
          have hH136 := (hH106.sub0)
          have hH137 := ((((hH136.top3).top3).top3).top3)
          have hjn : j = es.length := by omega
          refine C_while (fun m138 T139 H140 => ∃ c1 : Nat, m138 = q2 - c1 ∧ c1 ≤ q2 ∧ (∀ i, i < c1 → g1[i]? = some true) ∧ Hs H140 (L5 ++ (D5 ++ ([(m46, some (.cells (g1.map AV.b) true))] ++ ((allL H0) ++ ([]))))) ∧ T139.get 0 = (.i .u32 a0) ∧ T139.get 2 = v ∧ T139.get 7 = (.b true) ∧ T139.get 8 = (.i .i64 (((q2 : Nat)) : Int)) ∧ T139.get 9 = (.p (some (F6, 0))) ∧ T139.get 11 = (.sl (some (m46, 0)) q2 q2 0) ∧ T139.get 13 = (.i .i64 (((t : Nat)) : Int)) ∧ T139.get 12 = (.i .i64 ((((att + j) : Nat)) : Int)) ∧ T139.get 17 = (.i .i64 (((c1 : Nat)) : Int))) (fun m138 T139 H140 hI141 => ?_) q2 _ _ ⟨0, rfl, Nat.zero_le _, fun i hi => absurd hi (Nat.not_lt_zero _), hH137, hT96, hT97, hT98, hT99, hT100, hT101, hT102, hT104, rfl⟩
          obtain ⟨c1, hm142, hp143, hp144, hH154, hT145, hT146, hT147, hT148, hT149, hT150, hT151, hT152, hT153⟩ := hI141
          refine C_seq ?_
          refine C_seq ?_
          by_cases hin6 : c1 < q2
          ·
            obtain ⟨gb, hgb⟩ : ∃ b, g1[c1]? = some b := ⟨_, List.getElem?_eq_getElem (by omega)⟩
            refine C_region ?_
            refine O_p (.i .i64 (((c1 : Nat)) : Int)) (r_mv hT153) ?_
            refine O_p (.i .i64 (((q2 : Nat)) : Int)) (r_mv hT148) ?_
            refine O_p (.b true) (by exact (by rw [r_lss rfl rfl, decide_eq_true (by omega)])) ?_
            refine O_p (.b true) (r_mv rfl) ?_
            refine O_gk rfl ?_
            refine O_p (.sl (some (m46, 0)) q2 q2 0) (r_mv hT150) ?_
            refine O_gk rfl ?_
            refine O_p (.i .i64 (((c1 : Nat)) : Int)) (r_mv hT153) ?_
            refine O_gk rfl ?_
            refine O_p (.p (some (m46, (c1 * 1 + 0)))) (by exact (r_islr (b := m46) (k := c1) (len := q2) (cap := q2) (g := 0) rfl rfl (by omega))) ?_
            refine O_gk rfl ?_
            refine O_p (.b gb) (r_ldR (q := 0) rfl ⟨_, _, hH154.top2.get, bool_get hgb⟩ rfl) ?_
            refine O_p (.b gb) (r_pick_t rfl rfl) ?_
            refine O_nil ?_
            refine C_cond (x := gb) rfl (fun hc155 => ?_) (fun hc155 => ?_)
            ·
              try simp only [decide_eq_true_eq, decide_eq_false_iff_not, Bool.not_eq_true', Bool.not_eq_false', Bool.and_eq_true, Bool.or_eq_true, Bool.or_eq_false_iff, Bool.not_not, Bool.and_eq_false_iff] at hc155
              have hgv : gb = true := by simpa using hc155
              refine C_skip ?_
              refine C_block ?_
              refine C_region ?_
              refine O_p (.i .i64 (((c1 : Nat)) : Int)) (r_mv hT153) ?_
              refine O_p (.i .i64 ((((c1 : Nat)) : Int) + 1)) (by exact (r_addi rfl rfl (wrap_i64 (by omega) (by omega)))) ?_
              refine O_p (.i .i64 ((((c1 : Nat)) : Int) + 1)) (r_mv rfl) ?_
              refine O_nil ?_
              have hH156 := ((((hH154.top3).top3).top3).top3)
              exact ⟨q2 - (c1 + 1), by omega, (c1 + 1), rfl, by omega, fun i hi => by rcases Nat.lt_succ_iff_lt_or_eq.1 hi with h9 | rfl; exact hp144 i h9; rw [hgb, hgv], hH156, hT145, hT146, hT147, hT148, hT149, hT150, hT151, hT152, rfl⟩
            ·
              try simp only [decide_eq_true_eq, decide_eq_false_iff_not, Bool.not_eq_true', Bool.not_eq_false', Bool.and_eq_true, Bool.or_eq_true, Bool.or_eq_false_iff, Bool.not_not, Bool.and_eq_false_iff] at hc155
              have hgv : gb = false := by simpa using hc155
              refine C_exit ?_
              refine nx_exit ?_
              refine nx_exit ?_
              refine bk_hit ?_
              refine C_seq ?_
              refine C_seq ?_
              refine C_region ?_
              have hcc : c ≤ c1 := by rcases Nat.lt_or_ge c1 c with h9 | h9; have h8 := hp94 c1 h9; rw [hgb, hgv] at h8; cases h8; exact h9
              have hfull : bl.length ≤ att → c1 = q2 := fun h9 => by have h8 := hp95 h9 c1 hcc (by omega); rw [hgb, hgv] at h8; cases h8
              have hgl1 := hp93
              have hg1 := hp144
              have hcu := cum_at2 (a := a0) (K := q2) hcc (by omega) (by omega)
              rw [← hesl, ← hdl] at hcu
              refine O_p (.p (some (F6, 0))) (r_mv hT149) ?_
              refine O_p (.i .u32 a0) (r_mv hT145) ?_
              refine O_p (.i .i64 (((c1 : Nat)) : Int)) (r_mv hT153) ?_
              refine O_p (.i .u32 (IntKind.u32.wrap (((c1 : Nat)) : Int))) (r_cint rfl) ?_
              refine O_p (.i .u32 (IntKind.u32.wrap (a0 + (IntKind.u32.wrap (((c1 : Nat)) : Int))))) (r_bin rfl rfl rfl) ?_
              refine O_p (.i .u32 (IntKind.u32.wrap ((IntKind.u32.wrap (a0 + (IntKind.u32.wrap (((c1 : Nat)) : Int)))) - 1))) (r_bin rfl rfl rfl) ?_
              refine O_p (.i .i64 (((t : Nat)) : Int)) (r_mv hT151) ?_
              have hH157 := ((hH154.top1).top1)
              have hH158 := ((hH157.top1).top1)
              refine O_call (Ev.mono (q_ack (n := c1 - c) (B := D5) (bl := []) (rows := []) hQ5 (fun _ _ => Rw.none (.inl rfl)) ⟨rfl, fun b hb => by cases hb⟩ (by decide) (by omega) (fun e he => by have := (hd1 e he).2.2.2.2; omega) hcu (by omega) (fun e he => by rw [(hd1 e (List.mem_of_mem_take he)).1]; decide) ⟨by omega, by omega⟩ (fun e he => by rw [(hd1 e he).2.2.2.1]; exact ⟨by omega, by omega⟩) (fun e he => by rw [(hd1 e he).2.2.1]; exact ⟨by decide, by decide⟩) hH158) fun v159 H160 hq161 => ?_)
              obtain ⟨L6, rfl, hQ6, hH6⟩ := hq161
              rw [ack_nil (fun e he => (hd1 e he).1)] at hQ6
              refine O_p (.tup [(.agg [(.i .i64 ((((ackB [] ed (c1 - c)) : Nat)) : Int)), (.i .i64 (drS ((t : Nat) : Int) (ed.take (c1 - c)) (-1))), (.b (ackL [] ed (c1 - c))), (.b (decide ((0 : Int) < ((c1 - c : Nat) : Int))))]), (.b true)]) (r_mv rfl) ?_
              refine O_p (.agg [(.i .i64 ((((ackB [] ed (c1 - c)) : Nat)) : Int)), (.i .i64 (drS ((t : Nat) : Int) (ed.take (c1 - c)) (-1))), (.b (ackL [] ed (c1 - c))), (.b (decide ((0 : Int) < ((c1 - c : Nat) : Int))))]) (r_ext rfl rfl) ?_
              refine O_p (.b true) (r_ext rfl rfl) ?_
              refine O_alloc fun n162 H163 hN164 => ?_
              have hH165 := hH6.new hN164
              refine O_store (vs := [(.i .i64 ((((ackB [] ed (c1 - c)) : Nat)) : Int)), (.i .i64 (drS ((t : Nat) : Int) (ed.take (c1 - c)) (-1))), (.b (ackL [] ed (c1 - c))), (.b (decide ((0 : Int) < ((c1 - c : Nat) : Int))))]) (c' := [(.i .i64 ((((ackB [] ed (c1 - c)) : Nat)) : Int)), (.i .i64 (drS ((t : Nat) : Int) (ed.take (c1 - c)) (-1))), (.b (ackL [] ed (c1 - c))), (.b (decide ((0 : Int) < ((c1 - c : Nat) : Int))))]) rfl (by rfl) hH165.get0 rfl (List.cons_ne_nil _ _) (Nat.le_of_ble_eq_true rfl) rfl fun H166 hW167 => ?_
              have hH168 := hH165.wr0 hW167
              refine O_p (.b true) (r_mv rfl) ?_
              refine O_nil ?_
              refine C_seq ?_
              refine C_region ?_
              refine O_p (.b true) (r_mv rfl) ?_
              refine O_p (.b false) (r_un rfl rfl) ?_
              refine O_nil ?_
              refine C_cond (x := false) rfl (fun h => by cases h) (fun _ => ?_)
              refine C_skip ?_
              refine C_region ?_
              refine O_p (.p (some (F6, 0))) (r_mv hT149) ?_
              have hH169 := (hH168.top1)
              obtain ⟨es2, hes2⟩ : ∃ z, z = (ed.drop (c1 - c)).map toE := ⟨_, rfl⟩
              refine O_call (Ev.mono (q_timeout hQ6 (by rw [List.length_drop]; omega) hH169) fun v170 H171 hq172 => ?_)
              obtain ⟨L7, rfl, hQ7, hH7⟩ := hq172
              rw [← hes2] at hQ7
              have hto : ∀ e ∈ ed.drop (c1 - c), toE e = e.setSt 2 := fun e he => toE_yes (hd1 e (List.mem_of_mem_drop he)).1
              have hst2 : ∀ e ∈ es2, e.st = 2 := by rw [hes2]; intro e he; obtain ⟨z, hz, rfl⟩ := List.mem_map.1 he; rw [hto z hz]; rfl
              have hpr2 : ∀ e ∈ es2, (0 ≤ e.sent ∧ e.sent ≤ ((t + 1 : Nat) : Int)) ∧ e.mi = 0 ∧ 0 ≤ e.tm ∧ e.tm ≤ ((t + 1 : Nat) : Int) := by rw [hes2]; intro e he; obtain ⟨z, hz, rfl⟩ := List.mem_map.1 he; rw [hto z hz]; obtain ⟨_, h2, h3, h4, _⟩ := hd1 z (List.mem_of_mem_drop hz); exact ⟨h2, h3, by show 0 ≤ z.tm; omega, by show z.tm ≤ _; omega⟩
              have hca2 : es2.map Ea.ca = ((mkE a0 (sizes q2)).drop c1).map Ea.ca := by have h9 : es2.map Ea.ca = (ed.drop (c1 - c)).map Ea.ca := by { rw [hes2, List.map_map]; exact List.map_congr_left fun e he => by show (toE e).ca = e.ca; rw [hto e he]; rfl }; rw [h9, List.map_drop, hdc, hp58, ← List.map_drop, List.drop_drop, show c + (c1 - c) = c1 by omega]
              refine O_nil ?_
              refine C_region ?_
              refine O_p (.i .i64 (((t : Nat)) : Int)) (r_mv hT151) ?_
              refine O_p (.i .i64 ((((t : Nat)) : Int) + 1)) (by exact (r_addi rfl rfl (wrap_i64 (by omega) (by omega)))) ?_
              refine O_p (.i .i64 ((((t : Nat)) : Int) + 1)) (r_mv rfl) ?_
              refine O_nil ?_
              have hH173 := (hH7.sub1)
              have hH174 := ((((hH173.top3).top3).top3).top3)
              exact ⟨bl.length + 2 - (t + 1), by omega, es2, L7, D5, c1, (t + 1), (att + es.length), g1, rfl, by omega, hQ7, hca2, .inr hst2, hpr2, hgl1, hg1, by omega, by omega, fun h9 => by by_cases h8 : bl.length ≤ att; exact absurd (hfull h8) (by omega); omega, by omega, hH174, hT145, hT146, hT147, hT148, hT149, hT150, (by rw [← hjn]; exact hT152), rfl⟩
          ·
            refine C_region ?_
            refine O_p (.i .i64 (((c1 : Nat)) : Int)) (r_mv hT153) ?_
            refine O_p (.i .i64 (((q2 : Nat)) : Int)) (r_mv hT148) ?_
            refine O_p (.b false) (by exact (by rw [r_lss rfl rfl, decide_eq_false (by omega)])) ?_
            refine O_p (.b false) (r_mv rfl) ?_
            refine O_gf rfl ?_
            refine O_gf rfl ?_
            refine O_gf rfl ?_
            refine O_gf rfl ?_
            refine O_p (.b false) (r_pick_f rfl rfl) ?_
            refine O_nil ?_
            refine C_cond (x := false) rfl (fun h => by cases h) (fun _ => ?_)
            refine C_exit ?_
            refine nx_exit ?_
            refine nx_exit ?_
            refine bk_hit ?_
            refine C_seq ?_
            refine C_seq ?_
            refine C_region ?_
            have hcc : c ≤ c1 := by omega
            have hfull : bl.length ≤ att → c1 = q2 := fun _ => by omega
            have hgl1 := hp93
            have hg1 := hp144
            have hcu := cum_at2 (a := a0) (K := q2) hcc (by omega) (by omega)
            rw [← hesl, ← hdl] at hcu
            refine O_p (.p (some (F6, 0))) (r_mv hT149) ?_
            refine O_p (.i .u32 a0) (r_mv hT145) ?_
            refine O_p (.i .i64 (((c1 : Nat)) : Int)) (r_mv hT153) ?_
            refine O_p (.i .u32 (IntKind.u32.wrap (((c1 : Nat)) : Int))) (r_cint rfl) ?_
            refine O_p (.i .u32 (IntKind.u32.wrap (a0 + (IntKind.u32.wrap (((c1 : Nat)) : Int))))) (r_bin rfl rfl rfl) ?_
            refine O_p (.i .u32 (IntKind.u32.wrap ((IntKind.u32.wrap (a0 + (IntKind.u32.wrap (((c1 : Nat)) : Int)))) - 1))) (r_bin rfl rfl rfl) ?_
            refine O_p (.i .i64 (((t : Nat)) : Int)) (r_mv hT151) ?_
            have hH175 := ((hH154.top1).top1)
            have hH176 := ((hH175.top1).top1)
            refine O_call (Ev.mono (q_ack (n := c1 - c) (B := D5) (bl := []) (rows := []) hQ5 (fun _ _ => Rw.none (.inl rfl)) ⟨rfl, fun b hb => by cases hb⟩ (by decide) (by omega) (fun e he => by have := (hd1 e he).2.2.2.2; omega) hcu (by omega) (fun e he => by rw [(hd1 e (List.mem_of_mem_take he)).1]; decide) ⟨by omega, by omega⟩ (fun e he => by rw [(hd1 e he).2.2.2.1]; exact ⟨by omega, by omega⟩) (fun e he => by rw [(hd1 e he).2.2.1]; exact ⟨by decide, by decide⟩) hH176) fun v177 H178 hq179 => ?_)
            obtain ⟨L6, rfl, hQ6, hH6⟩ := hq179
            rw [ack_nil (fun e he => (hd1 e he).1)] at hQ6
            refine O_p (.tup [(.agg [(.i .i64 ((((ackB [] ed (c1 - c)) : Nat)) : Int)), (.i .i64 (drS ((t : Nat) : Int) (ed.take (c1 - c)) (-1))), (.b (ackL [] ed (c1 - c))), (.b (decide ((0 : Int) < ((c1 - c : Nat) : Int))))]), (.b true)]) (r_mv rfl) ?_
            refine O_p (.agg [(.i .i64 ((((ackB [] ed (c1 - c)) : Nat)) : Int)), (.i .i64 (drS ((t : Nat) : Int) (ed.take (c1 - c)) (-1))), (.b (ackL [] ed (c1 - c))), (.b (decide ((0 : Int) < ((c1 - c : Nat) : Int))))]) (r_ext rfl rfl) ?_
            refine O_p (.b true) (r_ext rfl rfl) ?_
            refine O_alloc fun n180 H181 hN182 => ?_
            have hH183 := hH6.new hN182
            refine O_store (vs := [(.i .i64 ((((ackB [] ed (c1 - c)) : Nat)) : Int)), (.i .i64 (drS ((t : Nat) : Int) (ed.take (c1 - c)) (-1))), (.b (ackL [] ed (c1 - c))), (.b (decide ((0 : Int) < ((c1 - c : Nat) : Int))))]) (c' := [(.i .i64 ((((ackB [] ed (c1 - c)) : Nat)) : Int)), (.i .i64 (drS ((t : Nat) : Int) (ed.take (c1 - c)) (-1))), (.b (ackL [] ed (c1 - c))), (.b (decide ((0 : Int) < ((c1 - c : Nat) : Int))))]) rfl (by rfl) hH183.get0 rfl (List.cons_ne_nil _ _) (Nat.le_of_ble_eq_true rfl) rfl fun H184 hW185 => ?_
            have hH186 := hH183.wr0 hW185
            refine O_p (.b true) (r_mv rfl) ?_
            refine O_nil ?_
            refine C_seq ?_
            refine C_region ?_
            refine O_p (.b true) (r_mv rfl) ?_
            refine O_p (.b false) (r_un rfl rfl) ?_
            refine O_nil ?_
            refine C_cond (x := false) rfl (fun h => by cases h) (fun _ => ?_)
            refine C_skip ?_
            refine C_region ?_
            refine O_p (.p (some (F6, 0))) (r_mv hT149) ?_
            have hH187 := (hH186.top1)
            obtain ⟨es2, hes2⟩ : ∃ z, z = (ed.drop (c1 - c)).map toE := ⟨_, rfl⟩
            refine O_call (Ev.mono (q_timeout hQ6 (by rw [List.length_drop]; omega) hH187) fun v188 H189 hq190 => ?_)
            obtain ⟨L7, rfl, hQ7, hH7⟩ := hq190
            rw [← hes2] at hQ7
            have hto : ∀ e ∈ ed.drop (c1 - c), toE e = e.setSt 2 := fun e he => toE_yes (hd1 e (List.mem_of_mem_drop he)).1
            have hst2 : ∀ e ∈ es2, e.st = 2 := by rw [hes2]; intro e he; obtain ⟨z, hz, rfl⟩ := List.mem_map.1 he; rw [hto z hz]; rfl
            have hpr2 : ∀ e ∈ es2, (0 ≤ e.sent ∧ e.sent ≤ ((t + 1 : Nat) : Int)) ∧ e.mi = 0 ∧ 0 ≤ e.tm ∧ e.tm ≤ ((t + 1 : Nat) : Int) := by rw [hes2]; intro e he; obtain ⟨z, hz, rfl⟩ := List.mem_map.1 he; rw [hto z hz]; obtain ⟨_, h2, h3, h4, _⟩ := hd1 z (List.mem_of_mem_drop hz); exact ⟨h2, h3, by show 0 ≤ z.tm; omega, by show z.tm ≤ _; omega⟩
            have hca2 : es2.map Ea.ca = ((mkE a0 (sizes q2)).drop c1).map Ea.ca := by have h9 : es2.map Ea.ca = (ed.drop (c1 - c)).map Ea.ca := by { rw [hes2, List.map_map]; exact List.map_congr_left fun e he => by show (toE e).ca = e.ca; rw [hto e he]; rfl }; rw [h9, List.map_drop, hdc, hp58, ← List.map_drop, List.drop_drop, show c + (c1 - c) = c1 by omega]
            refine O_nil ?_
            refine C_region ?_
            refine O_p (.i .i64 (((t : Nat)) : Int)) (r_mv hT151) ?_
            refine O_p (.i .i64 ((((t : Nat)) : Int) + 1)) (by exact (r_addi rfl rfl (wrap_i64 (by omega) (by omega)))) ?_
            refine O_p (.i .i64 ((((t : Nat)) : Int) + 1)) (r_mv rfl) ?_
            refine O_nil ?_
            have hH191 := (hH7.sub1)
            have hH192 := ((((hH191.top3).top3).top3).top3)
            exact ⟨bl.length + 2 - (t + 1), by omega, es2, L7, D5, c1, (t + 1), (att + es.length), g1, rfl, by omega, hQ7, hca2, .inr hst2, hpr2, hgl1, hg1, by omega, by omega, fun h9 => by by_cases h8 : bl.length ≤ att; exact absurd (hfull h8) (by omega); omega, by omega, hH192, hT145, hT146, hT147, hT148, hT149, hT150, (by rw [← hjn]; exact hT152), rfl⟩
      ·
        try simp only [decide_eq_true_eq, decide_eq_false_iff_not, Bool.not_eq_true', Bool.not_eq_false', Bool.and_eq_true, Bool.or_eq_true, Bool.or_eq_false_iff, Bool.not_not, Bool.and_eq_false_iff] at hc80
        refine C_exit ?_
        refine nx_exit ?_
        refine nx_exit ?_
        refine bk_hit ?_
        refine C_seq ?_
        refine C_region ?_
        have hcK : c = q2 := by omega
        have hnil : es = [] := List.length_eq_zero_iff.1 (by omega)
        have hQz := hp57
        rw [hnil] at hQz
        refine O_p (.b true) (r_mv hT69) ?_
        refine O_p (.b true) (r_mv rfl) ?_
        refine O_gk rfl ?_
        refine O_p (.p (some (F6, 0))) (r_mv hT71) ?_
        refine O_gk rfl ?_
        refine O_call (Ev.mono (q_flying hQz (by decide) (fun e he => by cases he) hH79) fun v193 H194 hq195 => ?_)
        obtain ⟨rfl, hH196⟩ := hq195
        refine O_gk rfl ?_
        refine O_p (.b true) (by exact (by rw [r_eql rfl rfl, decide_eq_true (show ((octs [1] [] : Nat) : Int) = 0 from rfl)])) ?_
        refine O_p (.b true) (r_pick_t rfl rfl) ?_
        refine O_p (.b true) (r_mv rfl) ?_
        refine O_gk rfl ?_
        refine O_p (.p (some (F6, 0))) (r_mv hT71) ?_
        refine O_gk rfl ?_
        refine O_call (Ev.mono (q_left hQz (by decide) (fun e he => by cases he) hH196) fun v197 H198 hq199 => ?_)
        obtain ⟨rfl, hH200⟩ := hq199
        refine O_gk rfl ?_
        refine O_p (.b true) (by exact (by rw [r_eql rfl rfl, decide_eq_true (show ((octs [0, 2] [] : Nat) : Int) = 0 from rfl)])) ?_
        refine O_p (.b true) (r_pick_t rfl rfl) ?_
        refine O_p (.b true) (r_mv rfl) ?_
        refine O_gk rfl ?_
        refine O_p (.p (some (F6, 0))) (r_mv hT71) ?_
        refine O_gk rfl ?_
        refine O_call (Ev.mono (q_floor hQz hH200) fun v201 H202 hq203 => ?_)
        obtain ⟨rfl, hH204⟩ := hq203
        refine O_gk rfl ?_
        refine O_p (.i .u32 a0) (r_mv hT67) ?_
        refine O_gk rfl ?_
        refine O_p (.i .i64 (((q2 : Nat)) : Int)) (r_mv hT70) ?_
        refine O_gk rfl ?_
        refine O_p (.i .u32 (IntKind.u32.wrap (((q2 : Nat)) : Int))) (r_cint rfl) ?_
        refine O_gk rfl ?_
        refine O_p (.i .u32 (IntKind.u32.wrap (a0 + (IntKind.u32.wrap (((q2 : Nat)) : Int))))) (r_bin rfl rfl rfl) ?_
        refine O_gk rfl ?_
        refine O_p (.i .u32 (IntKind.u32.wrap ((IntKind.u32.wrap (a0 + (IntKind.u32.wrap (((q2 : Nat)) : Int)))) - 1))) (r_bin rfl rfl rfl) ?_
        refine O_gk rfl ?_
        refine O_p (.b true) (by exact (by rw [r_eql rfl rfl, decide_eq_true (show floorA (w32 (a0 + ((q2 : Nat) : Int))) ([] : List Ea).length = IntKind.u32.wrap (IntKind.u32.wrap (a0 + IntKind.u32.wrap ((q2 : Nat) : Int)) - 1) from floor_end)])) ?_
        refine O_p (.b true) (r_pick_t rfl rfl) ?_
        refine O_p (.b true) (r_mv rfl) ?_
        refine O_nil ?_
        refine C_ret ?_
        exact ⟨.inr rfl, _, resL_one (r_tmp (v := .b true) rfl), rfl⟩
set_option maxRecDepth 100000 in
theorem run5T (H : AH) (hok : H.Ok) (a0 n0 : Int) (w_a0 : (Lit.int .u32 a0).wf = true) {v : AV} (h : Typed Try.prog H 9 49 [v]) : Ev tabA spA (.fn (.func 5) [] []) [.i .u32 a0, .i .i64 n0, v] H (fun v _ => v = .b true) := by
  obtain ⟨p, n, c, rfl, hnc, _, hr⟩ := typed_recs (z := 1) Try.underlying49 (by kernel_rfl) h
  obtain ⟨rows, hrw, _, hrt⟩ := Rw.given hnc hr
  obtain ⟨pl, rfl⟩ := bools_ex fun i r hi => typed_bool Try.underlying4 (hrt i r hi)
  exact run5 H hok a0 n0 w_a0 _ pl fun H' hh => hrw.ro (R := []) hok (by rw [List.append_nil]; exact hh)
set_option maxRecDepth 100000 in
theorem law5 (W : World) (ρ : Rho) (H : AH) (xs : List AV) (args : Array Value) (hR : Rel Try.prog W.heap.size W ρ H W) (hro : RO H) (hv : VRL ρ xs args.toList) (ht : TypedVs Try.prog H 9 Try.f5.params.toList xs) :
    Calls Try.prog 5 args W fun e w' => e = .returned (.bool true) ∧ Below W.heap.size W w' := by
  rw [Try.params5] at ht
  obtain ⟨a0, xs, rfl, g0, a1, xs, rfl, g1, a2, xs, rfl, g2, rfl⟩ := ht
  obtain ⟨a0, rfl, wa0⟩ := typedV_int Try.underlying22 g0
  obtain ⟨n0, rfl, wn0⟩ := typedV_int Try.underlying3 g1
  obtain ⟨k, v, H', hex, rfl⟩ := run5T H hR.aok a0 n0 wa0 (typedV_slice Try.underlying49 g2)
  exact law_of mixed tabA_ok spA_ok hex hR hv
end Go.Proofs.Ytipcacpaadgagaa.E
namespace Go.Proofs.Ytipcacpaadgagaa.sendqAll
open Go.ChangeShapes Go.WideShapes Go.RowKit
set_option linter.unusedVariables false
theorem own : ownKnob Try.prog.godebug = none := by kernel_rfl
theorem types : (Try.f5.params.toList.all fun t => E.fit Try.prog 9 t && (Try.prog.readableRec t && decide (t < Try.prog.types.size))) = true := by kernel_rfl
set_option maxRecDepth 100000 in
theorem lifted (os : Os) (started : os.Started) (H : Type) (enc : TypeId × Value → H) :
    ReturnsInHanded {} Try.checked os 5 .any (Rows.sendqAllSpec.pre6 enc Try.prog Try.f5 Rows.sendqAllRow.domain false) (Rows.sendqAllSpec.post enc Try.prog Try.f5 false true false false) :=
  E.law_lifted (C := Try.checked) (k := 9) (tb := 4) E.globals0 E.laid own started (by kernel_rfl) Try.func5
    (ChangeSpec.witness6 (enc := enc) (C := Try.checked) false ⟨#[], #[.int .u32 0, .int .i64 0, .slice none 0 0], []⟩ 8 (by kernel_rfl) (by kernel_rfl) (by kernel_rfl) (by kernel_rfl))
    rfl rfl Try.underlying4 (fun t ht => by have h := List.all_eq_true.1 types t ht; simp only [Bool.and_eq_true, decide_eq_true_eq] at h; exact h)
    (fun ds hd => by
      rw [Try.params5] at hd
      match ds, hd with
      | [d0, d1, d2], _ => rfl) E.law5
theorem over : Rows.sendqAllRow.holds Try.pinned (OpenSpec.ofChange Rows.sendqAllSpec) :=
  OpenClaim.holds_of_wide 5 Try.f5 rfl rfl rfl rfl rfl rfl rfl ⟨rfl, rfl, rfl, rfl, rfl⟩ rfl rfl rfl rfl rfl (by kernel_rfl) Try.func5 (by kernel_rfl)
    (of_decide_eq_true (by kernel_rfl)) (by unfold Func.isWrapper; first | (rw [if_pos (by decide +kernel)]; kernel_rfl) | (rw [if_neg (by decide +kernel)]; exact ⟨rfl, rfl⟩))
    (fun os started H enc _ => lifted os started H enc)
end Go.Proofs.Ytipcacpaadgagaa.sendqAll
namespace Go.Proofs.Ytipcacpaadgagaa
/-- The row, under a short name, for the claim. -/
theorem sendqAll_holds : Rows.SendqAllSaid := sendqAll.over
#print axioms sendqAll_holds
end Go.Proofs.Ytipcacpaadgagaa
