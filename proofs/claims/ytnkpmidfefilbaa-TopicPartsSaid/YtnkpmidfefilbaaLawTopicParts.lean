/- TopicParts, for every input, without conditions. -/
import Derived.Test.YtnkpmidfefilbaaL
import Derived.Test.YtnkpmidfefilbaaRows
import Derived.ProofKit
import Derived.OpenShut
namespace Go.Proofs.Ytnkpmidfefilbaa.E
open Go.RowKit (Below)
set_option linter.unusedVariables false
set_option linter.unusedSimpArgs false
set_option maxRecDepth 100000 in
set_option maxHeartbeats 4000000 in
theorem run5_true (H0 : AH) (hok0 : H0.Ok) (room n0 : Int) (pv : AV) (pl : List Int) (hpv : ∀ H', Hs H' (allL H0) → Rw 1 H' pv (pl.map fun x => [AV.i .i64 x])) : Ev tabA spA (.fn (.func 5) [] []) [.i .i64 room, pv, .i .i64 n0, .b true] H0 (fun v _ => v = .b true) := by
  have hH0 := allL_hs hok0
  refine Ev_C (F := x5) rfl ?_
  refine C_seq ?_
  refine C_region ?_
  refine O_p (.b false) (r_mv rfl) ?_
  refine O_nil ?_
  refine C_seq ?_
  refine C_region ?_
  refine O_call (Ev_sp (v := (.b true)) rfl rfl ?_)
  refine O_p (.b true) (r_mv rfl) ?_
  refine O_nil ?_
  refine C_seq ?_
  refine C_region ?_
  refine O_p (.i .i64 n0) (r_mv rfl) ?_
  obtain ⟨q1, hq1, hlq1⟩ := and_nat n0 127 (by decide)
  refine O_p (.i .i64 (((q1 : Nat)) : Int)) (by exact (by rw [← hq1]; exact r_bin rfl rfl rfl)) ?_
  refine O_p (.i .i64 (((q1 : Nat)) : Int)) (r_mv rfl) ?_
  refine O_nil ?_
  refine C_seq ?_
  refine C_seq ?_
  refine C_region ?_
  refine O_p pv (r_mv rfl) ?_
  refine O_p (.i .i64 (((pl.length : Nat)) : Int)) (r_lenOf (v := pv) (n := pl.length) rfl ((hpv _ hH0.top0.fst).lenOf (List.length_map ..)) (hpv _ hH0.top0.fst).isSl) ?_
  refine O_p (.b (decide (200 < (((pl.length : Nat)) : Int)))) (r_gtr rfl rfl) ?_
  refine O_nil ?_
  refine C_cond (x := (decide (200 < (((pl.length : Nat)) : Int)))) rfl (fun hc2 => ?_) (fun hc2 => ?_)
  ·
    try simp only [decide_eq_true_eq, decide_eq_false_iff_not, Bool.not_eq_true', Bool.not_eq_false', Bool.and_eq_true, Bool.or_eq_true, Bool.or_eq_false_iff, Bool.not_not, Bool.and_eq_false_iff] at hc2
    refine C_seq ?_
    refine C_region ?_
    refine O_p (.b true) (r_mv rfl) ?_
    refine O_p (.b true) (r_mv rfl) ?_
    refine O_nil ?_
    refine C_ret ?_
    refine nx_ret ?_
    exact ⟨.inr rfl, _, resL_one (r_tmp (v := .b true) rfl), rfl⟩
  ·
    try simp only [decide_eq_true_eq, decide_eq_false_iff_not, Bool.not_eq_true', Bool.not_eq_false', Bool.and_eq_true, Bool.or_eq_true, Bool.or_eq_false_iff, Bool.not_not, Bool.and_eq_false_iff] at hc2
    refine C_skip ?_
    refine C_seq ?_
    refine C_region ?_
    refine O_p (.i .i64 room) (r_mv rfl) ?_
    refine O_call (Ev.mono (new3_ev (room := room) hH0) fun v3 H4 hq5 => ?_)
    obtain ⟨F6, Lb7, cm8, rfl, hH9⟩ := hq5
    refine O_p (.p (some (F6, 0))) (r_mv rfl) ?_
    refine O_nil ?_
    refine C_seq ?_
    refine C_region ?_
    refine O_p (.i .i64 2) (r_mv rfl) ?_
    refine O_nil ?_
    refine C_seq ?_
    refine C_seq ?_
    refine C_region ?_
    refine O_p (.b true) (r_mv rfl) ?_
    refine O_nil ?_
    refine C_cond (x := true) rfl (fun _ => ?_) (fun h => by cases h)
    refine C_region ?_
    refine O_p (.i .i64 1) (r_mv rfl) ?_
    refine O_nil ?_
    refine C_seq ?_
    refine C_seq ?_
    refine C_region ?_
    refine O_p (.p (some (F6, 0))) (r_mv rfl) ?_
    have hall10 : ∀ x ∈ ([zrow, zrow, zrow] : List (List AV)), x.length = 4 := fun x hx => by simp only [List.mem_cons, List.not_mem_nil, or_false] at hx; rcases hx with rfl | rfl | rfl <;> rfl
    have hH11 := ((hH9.top1).top1)
    have hH12 : Hs H4 ([(F6, some (.cells ([(.sl (some (Lb7, 0)) 3 3 0), (.i .i64 (((clampR room) : Nat) : Int)), (.m (some cm8))]) true))] ++ ([(Lb7, some (.cells ((([zrow, zrow, zrow] : List (List AV)).set 0 zrow).flatten) true))] ++ ([(cm8, some (.map [] 0))] ++ ((allL H0) ++ ([]))))) := hH11
    have hH13 := ((hH12.top1).top1)
    refine O_call (Ev.mono (join_ev (np := 3) (i := 0) (rws := ([zrow, zrow, zrow] : List (List AV))) (by decide) hall10 (Nat.le_of_ble_eq_true rfl) hH13) fun v14 H15 hq16 => ?_)
    obtain ⟨mr17, rfl, hH18⟩ := hq16
    refine O_p (.b false) (by exact (by rw [r_neq rfl rfl, decide_eq_true (by decide)]; rfl)) ?_
    refine O_p (.b false) (r_mv rfl) ?_
    refine O_gk rfl ?_
    refine O_p (.p (some (F6, 0))) (r_mv rfl) ?_
    refine O_gk rfl ?_
    have hall19 : ∀ x ∈ ([(prow true (some mr17) (.sl none 0 0 0) 0), zrow, zrow] : List (List AV)), x.length = 4 := fun x hx => by simp only [List.mem_cons, List.not_mem_nil, or_false] at hx; rcases hx with rfl | rfl | rfl <;> rfl
    have hH20 := ((hH18.top1).top1)
    have hH21 : Hs H15 ([(F6, some (.cells ([(.sl (some (Lb7, 0)) 3 3 0), (.i .i64 (((clampR room) : Nat) : Int)), (.m (some cm8))]) true))] ++ ([(Lb7, some (.cells ((([(prow true (some mr17) (.sl none 0 0 0) 0), zrow, zrow] : List (List AV)).set 1 zrow).flatten) true))] ++ ([(mr17, some (.map [] 0))] ++ ([(cm8, some (.map [] 0))] ++ ((allL H0) ++ ([])))))) := hH20
    have hH22 := ((hH21.top1).top1)
    refine O_call (Ev.mono (join_ev (np := 3) (i := 1) (rws := ([(prow true (some mr17) (.sl none 0 0 0) 0), zrow, zrow] : List (List AV))) (by decide) hall19 (Nat.le_of_ble_eq_true rfl) hH22) fun v23 H24 hq25 => ?_)
    obtain ⟨mr26, rfl, hH27⟩ := hq25
    refine O_gk rfl ?_
    refine O_p (.b false) (by exact (by rw [r_neq rfl rfl, decide_eq_true (by decide)]; rfl)) ?_
    refine O_p (.b false) (r_pick_f rfl rfl) ?_
    refine O_p (.b false) (r_mv rfl) ?_
    refine O_gk rfl ?_
    refine O_p (.p (some (F6, 0))) (r_mv rfl) ?_
    refine O_gk rfl ?_
    refine O_p (.i .i64 1) (r_mv rfl) ?_
    refine O_gk rfl ?_
    have hall28 : ∀ x ∈ ([(prow true (some mr17) (.sl none 0 0 0) 0), (prow true (some mr26) (.sl none 0 0 0) 0), zrow] : List (List AV)), x.length = 4 := fun x hx => by simp only [List.mem_cons, List.not_mem_nil, or_false] at hx; rcases hx with rfl | rfl | rfl <;> rfl
    have hH29 := (((hH27.top2).top2).top2)
    have hH30 : Hs H24 ([(F6, some (.cells ([(.sl (some (Lb7, 0)) 3 3 0), (.i .i64 (((clampR room) : Nat) : Int)), (.m (some cm8))]) true))] ++ ([(Lb7, some (.cells ((([(prow true (some mr17) (.sl none 0 0 0) 0), (prow true (some mr26) (.sl none 0 0 0) 0), zrow] : List (List AV)).set 1 (prow true (some mr26) (.sl none 0 0 0) 0)).flatten) true))] ++ ([(mr26, some (.map [] 0))] ++ ([(mr17, some (.map [] 0))] ++ ([(cm8, some (.map [] 0))] ++ ((allL H0) ++ ([]))))))) := hH29
    have hH31 := (((hH30.top2).top2).top2)
    refine O_call (Ev.mono (sub_ev (np := 3) (i := 1) (rws := ([(prow true (some mr17) (.sl none 0 0 0) 0), (prow true (some mr26) (.sl none 0 0 0) 0), zrow] : List (List AV))) (m := []) (tp := [116]) (mode := 1) (by decide) hall28 (Nat.le_of_ble_eq_true rfl) Mb.nil rfl (by decide) (by decide) (by decide) hH31) fun v32 H33 hq34 => ?_)
    obtain ⟨mb35, hMb36, rfl, hH37⟩ := hq34
    refine O_gk rfl ?_
    refine O_p (.b false) (by exact (by rw [r_neq rfl rfl, decide_eq_true (by decide)]; rfl)) ?_
    refine O_p (.b false) (r_pick_f rfl rfl) ?_
    refine O_nil ?_
    refine C_cond (x := false) rfl (fun h => by cases h) (fun _ => ?_)
    refine C_skip ?_
    refine C_seq ?_
    refine C_region ?_
    refine O_p (.i .i64 (-1)) (r_mv rfl) ?_
    refine O_nil ?_
    refine C_seq ?_
    refine C_region ?_
    refine O_p (.i .i64 0) (r_mv rfl) ?_
    refine O_nil ?_
    refine C_seq ?_
    refine C_seq ?_
    refine C_region ?_
    refine O_p (.i .i64 0) (r_mv rfl) ?_
    refine O_nil ?_
    refine C_block ?_
    have hH38 := (hH37.sub3)
    have hH39 := (((((hH38.top4).top3).top4).top4).top4)
    refine C_while (fun m40 T41 H42 => ∃ cb : Blk, ∃ cl : ML, ∃ mb : Blk, ∃ m : ML, ∃ v : AV, ∃ c : List AV, ∃ rows : List (List AV), ∃ js : List Nat, ∃ l : Int, ∃ D : HL, ∃ att : Nat, ∃ got : Nat, ∃ i : Nat, m40 = q1 - i ∧ i ≤ q1 ∧ Mb cl cb ∧ mget cl [116] = cntO i ∧ Mb m mb ∧ mget m [116] = subO (some (1, false)) ∧ Sq 5 v c rows.flatten ∧ ItsR D rows (js.map itT) ∧ js.Pairwise (· < ·) ∧ (∀ x ∈ js, att ≤ x ∧ x < i) ∧ att ≤ i ∧ 0 ≤ l ∧ ((got : Nat) : Int) + l + ((js.length : Nat) : Int) = ((i : Nat) : Int) ∧ (((1 : Int) = 2) → top js att = i) ∧ (i = q1 → js = []) ∧ Hs H42 ([(F6, some (.cells ([(.sl (some (Lb7, 0)) 3 3 0), (.i .i64 (((clampR room) : Nat) : Int)), (.m (some cm8))]) true))] ++ ([(Lb7, some (.cells (([(prow true (some mr17) (.sl none 0 0 0) 0), (prow true (some mr26) v l), zrow] : List (List AV)).flatten) true))] ++ ([(cm8, some cb)] ++ ([(mr26, some mb)] ++ ((qseg v c) ++ (D ++ ((allL H0) ++ ([])))))))) ∧ T41.get 0 = (.i .i64 room) ∧ T41.get 1 = pv ∧ T41.get 2 = (.i .i64 n0) ∧ T41.get 3 = (.b true) ∧ T41.get 8 = (.b false) ∧ T41.get 9 = (.b true) ∧ T41.get 10 = (.i .i64 (((q1 : Nat)) : Int)) ∧ T41.get 11 = (.p (some (F6, 0))) ∧ T41.get 13 = (.i .i64 (((att : Nat) : Int) - 1)) ∧ T41.get 14 = (.i .i64 (((got : Nat)) : Int)) ∧ T41.get 15 = (.i .i64 (((i : Nat)) : Int))) (fun m40 T41 H42 hI43 => ?_) q1 _ _ ⟨(.map [] 0), [], mb35, (mset (mdel [] [116]) [116] (sub 1 false)), (.sl none 0 0 0), [], [], [], 0, [], 0, 0, 0, rfl, Nat.zero_le _, Mb.nil, rfl, hMb36, by rw [mget_set, if_pos rfl]; rfl, Sq.nil, ItsR.nil, List.Pairwise.nil, fun x hx => absurd hx (List.not_mem_nil), Nat.le_refl _, Int.le_refl _, rfl, fun _ => rfl, fun _ => rfl, hH39, rfl, rfl, rfl, rfl, rfl, rfl, rfl, rfl, rfl, rfl, rfl⟩
    obtain ⟨cb, cl, mb, m, v, c, rows, js, l, D, att, got, i, hm44, hp45, hp46, hp47, hp48, hp49, hp50, hp51, hp52, hp53, hp54, hp55, hp56, hp57, hp58, hH70, hT59, hT60, hT61, hT62, hT63, hT64, hT65, hT66, hT67, hT68, hT69⟩ := hI43
    refine C_seq ?_
    refine C_seq ?_
    refine C_region ?_
    refine O_p (.i .i64 (((i : Nat)) : Int)) (r_mv hT69) ?_
    refine O_p (.i .i64 (((q1 : Nat)) : Int)) (r_mv hT65) ?_
    refine O_p (.b (decide ((((i : Nat)) : Int) < (((q1 : Nat)) : Int)))) (r_lss rfl rfl) ?_
    refine O_nil ?_
    refine C_cond (x := (decide ((((i : Nat)) : Int) < (((q1 : Nat)) : Int)))) rfl (fun hc71 => ?_) (fun hc71 => ?_)
    ·
      try simp only [decide_eq_true_eq, decide_eq_false_iff_not, Bool.not_eq_true', Bool.not_eq_false', Bool.and_eq_true, Bool.or_eq_true, Bool.or_eq_false_iff, Bool.not_not, Bool.and_eq_false_iff] at hc71
      refine C_skip ?_
      refine C_seq ?_
      refine C_block ?_
      refine C_seq ?_
      refine C_region ?_
      have hin : i < q1 := by omega
      have hjl : js.length ≤ i := by omega
      obtain ⟨js2, l2, bb, hW, hpw2, hrg2, hsum2, hl2a, hl2b, htop2⟩ := hand_js (mode := 1) (by decide) (room := clampR room) (clampR_le room).1 (l := l) hp52 hp53 hp54
      have hjl2 : js2.length ≤ i + 1 := by omega
      refine O_p (.p (some (F6, 0))) (r_mv hT66) ?_
      refine O_p (.i .i64 (((i : Nat)) : Int)) (r_mv hT69) ?_
      refine O_p (.i .u8 ((UInt8.ofNat (i % 256)).toNat : Int)) (by exact (by rw [u8_lo]; exact r_cint rfl)) ?_
      refine O_bslice (c := [(.i .u8 ((UInt8.ofNat (i % 256)).toNat : Int))]) rfl fun n72 H73 hN74 => ?_
      have hH75 := hH70.new hN74
      have hH76 := ((((((hH75.top6).top6).top6).top6).top6).top6)
      have hH77 := (((((((hH76.top6).top6).top6).top6).top6).top6).top6)
      refine O_call (Ev.mono (publish_ev (room := clampR room) (n := i) (tp := [116]) (dd := bd i) (tx := false) (da := some (n72, 0)) (dc := 1) (dg := 0) (B := [(n72, some (.cells [.i .u8 ((UInt8.ofNat (i % 256)).toNat : Int)] true))]) (w := js.map itT) (g := some (1, false)) (lost := l) hp46 hp47 (by omega) (by decide) (by show 1 ≤ 16384; decide) (.inl rfl) (Nat.le_refl 1) (by decide) (fun H' hh => octs1 (Hs.get (R := []) (by rw [List.append_nil]; exact hh))) hp50 hp51 hp48 hp49 (fun mode f h => by cases h; decide) (fun y hy => by obtain ⟨z, _, rfl⟩ := List.mem_map.1 hy; rfl) (clampR_le room).1 ⟨by omega, by omega⟩ (by rw [List.length_map]; omega) hH77) fun v78 H79 hq80 => ?_)
      rw [hW] at hq80
      obtain ⟨D81, cb82, mb83, ml84, cl85, v86, c87, rows88, rfl, hm89, hcb90, hcg91, hMb92, hmg93, hsq94, hir95, hH96⟩ := hq80
      refine O_nil ?_
      refine C_seq ?_
      refine C_region ?_
      refine O_p (.i .i64 0) (r_mv rfl) ?_
      refine O_nil ?_
      refine C_seq ?_
      refine C_seq ?_
      refine C_region ?_
      refine O_p (.i .i64 (((i : Nat)) : Int)) (r_mv hT69) ?_
      refine O_p pv (r_mv hT60) ?_
      refine O_p (.i .i64 (((pl.length : Nat)) : Int)) (r_lenOf (v := pv) (n := pl.length) rfl ((hpv _ hH96.top7.fst).lenOf (List.length_map ..)) (hpv _ hH96.top7.fst).isSl) ?_
      refine O_p (.b (decide ((((i : Nat)) : Int) < (((pl.length : Nat)) : Int)))) (r_lss rfl rfl) ?_
      refine O_nil ?_
      refine C_cond (x := (decide ((((i : Nat)) : Int) < (((pl.length : Nat)) : Int)))) rfl (fun hc97 => ?_) (fun hc97 => ?_)
      ·
        try simp only [decide_eq_true_eq, decide_eq_false_iff_not, Bool.not_eq_true', Bool.not_eq_false', Bool.and_eq_true, Bool.or_eq_true, Bool.or_eq_false_iff, Bool.not_not, Bool.and_eq_false_iff] at hc97
        refine C_region ?_
        refine O_p pv (r_mv hT60) ?_
        refine O_p (.i .i64 (((i : Nat)) : Int)) (r_mv hT69) ?_
        refine O_q (by exact Rw.row (hpv _ hH96.top7.fst) rfl (i := i) rfl (r := [(.i .i64 (pl.getD i 0))]) (seq_row (by omega))) fun v99 hv98 => ?_
        obtain ⟨rb100, ro101, rfl, hr102⟩ := hv98
        refine O_p (.i .i64 (pl.getD i 0)) (r_ldR (q := 0) rfl (hr102 _ (hpv _ hH96.top7.fst)) rfl) ?_
        obtain ⟨q103, hq103, hlq103⟩ := and_nat (pl.getD i 0) 3 (by decide)
        refine O_p (.i .i64 (((q103 : Nat)) : Int)) (by exact (by rw [← hq103]; exact r_bin rfl rfl rfl)) ?_
        refine O_p (.i .i64 (((q103 : Nat)) : Int)) (r_mv rfl) ?_
        refine O_nil ?_
        refine C_seq ?_
        refine C_region ?_
        refine O_p (.i .i64 0) (r_mv rfl) ?_
        refine O_nil ?_
        refine C_block ?_
        have hH104 := (hH96.sub6)
        have hH105 := (((((((hH104.top6).top6).top6).top6).top6).top6).top6)
        refine C_while (fun m106 T107 H108 => ∃ at2 : Nat, ∃ w : AV, ∃ wc : List AV, ∃ wr : List (List AV), ∃ js3 : List Nat, ∃ got2 : Nat, ∃ j : Nat, m106 = js3.length ∧ Sq 5 w wc wr.flatten ∧ ItsR D81 wr (js3.map itT) ∧ js3.Pairwise (· < ·) ∧ (∀ x ∈ js3, at2 ≤ x ∧ x < i + 1) ∧ at2 ≤ i + 1 ∧ ((got2 : Nat) : Int) + l2 + ((js3.length : Nat) : Int) = ((i : Nat) : Int) + 1 ∧ (((1 : Int) = 2) → top js3 at2 = i + 1) ∧ j + js3.length ≤ 200 ∧ Hs H108 ([(F6, some (.cells ([(.sl (some (Lb7, 0)) 3 3 0), (.i .i64 (((clampR room) : Nat) : Int)), (.m (some cm8))]) true))] ++ ([(Lb7, some (.cells (([(prow true (some mr17) (.sl none 0 0 0) 0), (prow true (some mr26) w l2), zrow] : List (List AV)).flatten) true))] ++ ([(cm8, some cb82)] ++ ([(mr26, some mb83)] ++ ((qseg w wc) ++ (D81 ++ ((allL H0) ++ ([])))))))) ∧ T107.get 0 = (.i .i64 room) ∧ T107.get 1 = pv ∧ T107.get 2 = (.i .i64 n0) ∧ T107.get 3 = (.b true) ∧ T107.get 8 = (.b false) ∧ T107.get 9 = (.b true) ∧ T107.get 10 = (.i .i64 (((q1 : Nat)) : Int)) ∧ T107.get 11 = (.p (some (F6, 0))) ∧ T107.get 15 = (.i .i64 (((i : Nat)) : Int)) ∧ T107.get 16 = (.i .i64 (((q103 : Nat)) : Int)) ∧ T107.get 13 = (.i .i64 (((at2 : Nat) : Int) - 1)) ∧ T107.get 14 = (.i .i64 (((got2 : Nat)) : Int)) ∧ T107.get 17 = (.i .i64 (((j : Nat)) : Int))) (fun m106 T107 H108 hI109 => ?_) js2.length _ _ ⟨att, v86, c87, rows88, js2, got, 0, rfl, hsq94, hir95, hpw2, hrg2, by omega, by omega, htop2, by omega, hH105, hT59, hT60, hT61, hT62, hT63, hT64, hT65, hT66, hT69, rfl, hT67, hT68, rfl⟩
        obtain ⟨at2, w, wc, wr, js3, got2, j, hm110, hp111, hp112, hp113, hp114, hp115, hp116, hp117, hp118, hH132, hT119, hT120, hT121, hT122, hT123, hT124, hT125, hT126, hT127, hT128, hT129, hT130, hT131⟩ := hI109
        refine C_seq ?_
        refine C_seq ?_
        refine C_region ?_
        refine O_p (.i .i64 (((j : Nat)) : Int)) (r_mv hT131) ?_
        refine O_p (.i .i64 (((q103 : Nat)) : Int)) (r_mv hT128) ?_
        refine O_p (.b (decide ((((j : Nat)) : Int) < (((q103 : Nat)) : Int)))) (r_lss rfl rfl) ?_
        refine O_p (.b (decide ((((j : Nat)) : Int) < (((q103 : Nat)) : Int)))) (r_mv rfl) ?_
        refine O_gx (e := (!(decide ((((j : Nat)) : Int) < (((q103 : Nat)) : Int))))) (v := (.i .i64 (((i : Nat)) : Int))) (wf rfl) (fun he => (r_mv hT127)) ?_
        refine O_gx (e := (!(decide ((((j : Nat)) : Int) < (((q103 : Nat)) : Int))))) (v := (.i .i64 (((q1 : Nat)) : Int))) (wf rfl) (fun he => (r_mv hT125)) ?_
        refine O_gx (e := (!(decide ((((j : Nat)) : Int) < (((q103 : Nat)) : Int))))) (v := (.i .i64 ((((q1 - 1) : Nat)) : Int))) (wf rfl) (fun he => (by exact (r_subn (a := q1) (b := 1) (cond_pos he) rfl (by omega) (by omega)))) ?_
        refine O_gx (e := (!(decide ((((j : Nat)) : Int) < (((q103 : Nat)) : Int))))) (v := (.b (decide ((((i : Nat)) : Int) = ((((q1 - 1) : Nat)) : Int))))) (wf rfl) (fun he => (r_eql (cond_pos he) (cond_pos he))) ?_
        refine O_p (.b ((decide ((((j : Nat)) : Int) < (((q103 : Nat)) : Int))) || (decide ((((i : Nat)) : Int) = ((((q1 - 1) : Nat)) : Int))))) (r_pick_or rfl rfl rfl rfl) ?_
        refine O_nil ?_
        refine C_cond (x := ((decide ((((j : Nat)) : Int) < (((q103 : Nat)) : Int))) || (decide ((((i : Nat)) : Int) = ((((q1 - 1) : Nat)) : Int))))) rfl (fun hc133 => ?_) (fun hc133 => ?_)
        ·
          try simp only [decide_eq_true_eq, decide_eq_false_iff_not, Bool.not_eq_true', Bool.not_eq_false', Bool.and_eq_true, Bool.or_eq_true, Bool.or_eq_false_iff, Bool.not_not, Bool.and_eq_false_iff] at hc133
          refine C_skip ?_
          refine C_seq ?_
          refine C_block ?_
          refine C_seq ?_
          by_cases hjn : js3 = []
          ·
            have hp3 := hp112
            rw [hjn] at hp3
            obtain rfl : wr = [] := List.length_eq_zero_iff.1 hp3.1
            refine C_region ?_
            refine O_p (.p (some (F6, 0))) (r_mv hT126) ?_
            have hall134 : ∀ x ∈ ([(prow true (some mr17) (.sl none 0 0 0) 0), (prow true (some mr26) w l2), zrow] : List (List AV)), x.length = 4 := fun x hx => by simp only [List.mem_cons, List.not_mem_nil, or_false] at hx; rcases hx with rfl | rfl | rfl <;> rfl
            have hH135 := (((hH132.top4).top2).top2)
            have hH136 : Hs H108 ([(F6, some (.cells ([(.sl (some (Lb7, 0)) 3 3 0), (.i .i64 (((clampR room) : Nat) : Int)), (.m (some cm8))]) true))] ++ ([(Lb7, some (.cells ((([(prow true (some mr17) (.sl none 0 0 0) 0), (prow true (some mr26) w l2), zrow] : List (List AV)).set 1 (prow true (some mr26) w l2)).flatten) true))] ++ ((qseg w wc) ++ ([(cm8, some cb82)] ++ ([(mr26, some mb83)] ++ (D81 ++ ((allL H0) ++ ([])))))))) := hH135
            have hH137 := (((hH136.top2).top2).top2)
            refine O_call (Ev.mono (pull0_ev (np := 3) (i := 1) (rws := ([(prow true (some mr17) (.sl none 0 0 0) 0), (prow true (some mr26) w l2), zrow] : List (List AV))) (by decide) hall134 (Nat.le_of_ble_eq_true rfl) hp111 hH137) fun v138 H139 hq140 => ?_)
            obtain ⟨rfl, hH141⟩ := hq140
            refine O_p (.tup [(.agg [(.s (txt [])), (.i .i64 0), (.i .i64 0), (.b false), (.sl none 0 0 0)]), (.b false)]) (r_mv rfl) ?_
            refine O_p (.agg [(.s (txt [])), (.i .i64 0), (.i .i64 0), (.b false), (.sl none 0 0 0)]) (r_ext rfl rfl) ?_
            refine O_p (.b false) (r_ext rfl rfl) ?_
            refine O_alloc fun n142 H143 hN144 => ?_
            have hH145 := hH141.new hN144
            refine O_store (vs := [(.s (txt [])), (.i .i64 0), (.i .i64 0), (.b false), (.sl none 0 0 0)]) (c' := [(.s (txt [])), (.i .i64 0), (.i .i64 0), (.b false), (.sl none 0 0 0)]) rfl (by rfl) hH145.get0 rfl (List.cons_ne_nil _ _) (Nat.le_of_ble_eq_true rfl) rfl fun H146 hW147 => ?_
            have hH148 := hH145.wr0 hW147
            refine O_p (.b false) (r_mv rfl) ?_
            refine O_nil ?_
            refine C_seq ?_
            refine C_seq ?_
            refine C_region ?_
            refine O_p (.b false) (r_mv rfl) ?_
            refine O_p (.b true) (r_un rfl rfl) ?_
            refine O_nil ?_
            refine C_cond (x := true) rfl (fun _ => ?_) (fun h => by cases h)
            refine C_exit ?_
            refine nx_exit ?_
            refine bk_miss (by decide) ?_
            refine nx_exit ?_
            refine nx_exit ?_
            refine bk_hit ?_
            refine C_region ?_
            refine O_p (.i .i64 (((i : Nat)) : Int)) (r_mv hT127) ?_
            refine O_p (.i .i64 ((((i : Nat)) : Int) + 1)) (by exact (r_addi rfl rfl (wrap_i64 (by omega) (by omega)))) ?_
            refine O_p (.i .i64 ((((i : Nat)) : Int) + 1)) (r_mv rfl) ?_
            refine O_nil ?_
            have hH149 := (hH148.sub0)
            have hH150 := (((((((hH149.top6).top6).top4).top6).top6).top6).top6)
            exact ⟨q1 - (i + 1), by omega, cb82, cl85, mb83, ml84, w, wc, ([] : List (List AV)), js3, l2, D81, at2, got2, (i + 1), rfl, by omega, hcb90, hcg91, hMb92, hmg93, hp111, hp112, hp113, hp114, by omega, by omega, by omega, hp117, fun h => by first | exact hjn | (exfalso; omega), hH150, hT119, hT120, hT121, hT122, hT123, hT124, hT125, hT126, hT129, hT130, rfl⟩
          ·
            obtain ⟨j0, js4, rfl⟩ : ∃ x y, js3 = x :: y := by
              cases js3 with
              | nil => exact absurd rfl hjn
              | cons x y => exact ⟨x, y, rfl⟩
            have hp3 := hp112
            obtain ⟨r0, rz, rfl⟩ : ∃ r rz, wr = r :: rz := by
              cases wr with
              | nil => have := hp3.1; simp at this
              | cons r rz => exact ⟨r, rz, rfl⟩
            have hl50 := hp3.lens
            have hpt := hp3.tail
            obtain ⟨rr, hrr, hpk⟩ := hp3.2 0 _ rfl
            simp only [List.getElem?_cons_zero, Option.some.injEq] at hrr
            subst hrr
            obtain ⟨ka, kc, kg, rfl, hkg, _, _, hkb⟩ := hpk
            obtain ⟨hlt4, hpw4⟩ := List.pairwise_cons.1 hp113
            have hj0 := hp114 j0 (List.mem_cons_self ..)
            have hrg4 : ∀ x ∈ js4, j0 + 1 ≤ x ∧ x < i + 1 := fun x hx => ⟨hlt4 x hx, (hp114 x (List.mem_cons_of_mem _ hx)).2⟩
            have hlc : (j0 :: js4).length = js4.length + 1 := rfl
            have hbl : (bd j0).length = 1 := rfl
            refine C_region ?_
            refine O_p (.p (some (F6, 0))) (r_mv hT126) ?_
            have hall151 : ∀ x ∈ ([(prow true (some mr17) (.sl none 0 0 0) 0), (prow true (some mr26) w l2), zrow] : List (List AV)), x.length = 4 := fun x hx => by simp only [List.mem_cons, List.not_mem_nil, or_false] at hx; rcases hx with rfl | rfl | rfl <;> rfl
            have hH152 := (((hH132.top4).top2).top2)
            have hH153 : Hs H108 ([(F6, some (.cells ([(.sl (some (Lb7, 0)) 3 3 0), (.i .i64 (((clampR room) : Nat) : Int)), (.m (some cm8))]) true))] ++ ([(Lb7, some (.cells ((([(prow true (some mr17) (.sl none 0 0 0) 0), (prow true (some mr26) w l2), zrow] : List (List AV)).set 1 (prow true (some mr26) w l2)).flatten) true))] ++ ((qseg w wc) ++ ([(cm8, some cb82)] ++ ([(mr26, some mb83)] ++ (D81 ++ ((allL H0) ++ ([])))))))) := hH152
            have hH154 := (((hH153.top2).top2).top2)
            refine O_call (Ev.mono (pull_ev (np := 3) (i := 1) (rws := ([(prow true (some mr17) (.sl none 0 0 0) 0), (prow true (some mr26) w l2), zrow] : List (List AV))) (by decide) hall151 (Nat.le_of_ble_eq_true rfl) hp111 hl50 hH154) fun v155 H156 hq157 => ?_)
            obtain ⟨v158, c159, rfl, hsq160, hH161⟩ := hq157
            refine O_p (.tup [(.agg [(.s (txt [116])), (.i .i64 0), (.i .i64 ((j0 : Nat) : Int)), (.b false), (.sl ka 1 kc kg)]), (.b true)]) (r_mv rfl) ?_
            refine O_p (.agg [(.s (txt [116])), (.i .i64 0), (.i .i64 ((j0 : Nat) : Int)), (.b false), (.sl ka 1 kc kg)]) (r_ext rfl rfl) ?_
            refine O_p (.b true) (r_ext rfl rfl) ?_
            refine O_alloc fun n162 H163 hN164 => ?_
            have hH165 := hH161.new hN164
            refine O_store (vs := [(.s (txt [116])), (.i .i64 0), (.i .i64 ((j0 : Nat) : Int)), (.b false), (.sl ka 1 kc kg)]) (c' := [(.s (txt [116])), (.i .i64 0), (.i .i64 ((j0 : Nat) : Int)), (.b false), (.sl ka 1 kc kg)]) rfl (by rfl) hH165.get0 rfl (List.cons_ne_nil _ _) (Nat.le_of_ble_eq_true rfl) rfl fun H166 hW167 => ?_
            have hH168 := hH165.wr0 hW167
            refine O_p (.b true) (r_mv rfl) ?_
            refine O_nil ?_
            refine C_seq ?_
            refine C_seq ?_
            refine C_region ?_
            refine O_p (.b true) (r_mv rfl) ?_
            refine O_p (.b false) (r_un rfl rfl) ?_
            refine O_nil ?_
            refine C_cond (x := false) rfl (fun h => by cases h) (fun _ => ?_)
            refine C_skip ?_
            refine C_seq ?_
            refine C_seq ?_
            refine C_draw fun b169 H170 hbase171 hA172 => ?_
            have hH173 := hH168.keep (by have := hA172.1; omega) (fun q _ => hA172.2 q) ((hH168.old).aside hA172).ok
            refine D_l (v := (.p (some (n162, 2)))) rfl rfl rfl (r_fadd' rfl rfl) ?_
            refine D_l (v := (.i .i64 (((at2 : Nat) : Int) - 1))) rfl rfl rfl (r_mv hT129) ?_
            refine D_r (v := (.i .i64 ((j0 : Nat) : Int))) rfl rfl rfl (r_ld rfl hH173.get0 rfl) ?_
            refine D_l (v := (.b false)) rfl rfl rfl (by exact (by rw [r_leq rfl rfl, decide_eq_false (by omega)])) ?_
            refine D_l (v := (.b false)) rfl rfl rfl (r_mv rfl) ?_
            refine D_gk rfl ?_
            refine D_l (v := (.p (some (n162, 4)))) rfl rfl rfl (r_fadd' rfl rfl) ?_
            refine D_gk rfl ?_
            refine D_r (v := (.sl ka 1 kc kg)) rfl rfl rfl (r_ld rfl hH173.get0 rfl) ?_
            refine D_gk rfl ?_
            refine D_l (v := (.i .i64 1)) rfl rfl rfl (r_len rfl) ?_
            refine D_gk rfl ?_
            refine D_l (v := (.b false)) rfl rfl rfl (r_bin rfl rfl rfl) ?_
            refine D_l (v := (.b false)) rfl rfl rfl (r_pick_f rfl rfl) ?_
            refine D_l (v := (.b false)) rfl rfl rfl (r_mv rfl) ?_
            refine D_gk rfl ?_
            refine D_l (v := (.p (some (n162, 4)))) rfl rfl rfl (r_fadd' rfl rfl) ?_
            refine D_gk rfl ?_
            refine D_l (v := (.p (some (n162, 2)))) rfl rfl rfl (r_fadd' rfl rfl) ?_
            refine D_gk rfl ?_
            refine D_r (v := (.sl ka 1 kc kg)) rfl rfl rfl (r_ld rfl hH173.get0 rfl) ?_
            refine D_gk rfl ?_
            refine D_q rfl rfl rfl (by exact Bs.ix (hkb _ hH173.top6.fst) rfl (i := 0) rfl (by first | omega | (simp only [List.length_take, List.length_drop, List.length_append, List.length_cons, List.length_nil, beN_len] <;> omega))) fun v175 hv174 => ?_
            refine D_gk rfl ?_
            refine D_r (v := (.i .u8 (((bd j0).getD 0 0).toNat : Int))) rfl rfl rfl (hv174.load rfl) ?_
            refine D_gk rfl ?_
            refine D_r (v := (.i .i64 ((j0 : Nat) : Int))) rfl rfl rfl (r_ld rfl hH173.get0 rfl) ?_
            refine D_gk rfl ?_
            refine D_l (v := (.i .u8 ((UInt8.ofNat (j0 % 256)).toNat : Int))) rfl rfl rfl (by exact (by rw [u8_lo]; exact r_cint rfl)) ?_
            refine D_gk rfl ?_
            refine D_l (v := (.b false)) rfl rfl rfl (by exact (by rw [r_neq rfl rfl, decide_eq_true (show (((bd j0).getD 0 0).toNat : Int) = ((UInt8.ofNat (j0 % 256)).toNat : Int) from rfl)]; rfl)) ?_
            refine D_l (v := (.b false)) rfl rfl rfl (r_pick_f rfl rfl) ?_
            refine D_nil ?_
            refine C_cond (x := false) rfl (fun h => by cases h) (fun _ => ?_)
            refine C_skip ?_
            refine C_seq ?_
            refine C_region ?_
            refine O_p (.p (some (n162, 2))) (r_fadd' rfl rfl) ?_
            refine O_p (.i .i64 ((j0 : Nat) : Int)) (r_ld rfl hH173.get0 rfl) ?_
            refine O_p (.i .i64 ((j0 : Nat) : Int)) (r_mv rfl) ?_
            refine O_nil ?_
            refine C_region ?_
            refine O_p (.i .i64 (((got2 : Nat)) : Int)) (r_mv hT130) ?_
            refine O_p (.i .i64 ((((got2 : Nat)) : Int) + 1)) (by exact (r_addi rfl rfl (wrap_i64 (by omega) (by omega)))) ?_
            refine O_p (.i .i64 ((((got2 : Nat)) : Int) + 1)) (r_mv rfl) ?_
            refine O_nil ?_
            refine C_region ?_
            refine O_p (.i .i64 (((j : Nat)) : Int)) (r_mv hT131) ?_
            refine O_p (.i .i64 ((((j : Nat)) : Int) + 1)) (by exact (r_addi rfl rfl (wrap_i64 (by omega) (by omega)))) ?_
            refine O_p (.i .i64 ((((j : Nat)) : Int) + 1)) (r_mv rfl) ?_
            refine O_nil ?_
            have hH176 := (hH173.sub0)
            have hH177 := (((((((hH176.top6).top6).top4).top6).top6).top6).top6)
            exact ⟨js4.length, by omega, (j0 + 1), v158, c159, rz, js4, (got2 + 1), (j + 1), rfl, hsq160, hpt, hpw4, hrg4, by omega, by omega, fun h => by have := hp117 h; rw [top_cons] at this; exact this, by omega, hH177, hT119, hT120, hT121, hT122, hT123, hT124, hT125, hT126, hT127, hT128, (by rw [show (((j0 + 1 : Nat) : Int) - 1) = ((j0 : Nat) : Int) by omega]; exact rfl), rfl, rfl⟩
        ·
          try simp only [decide_eq_true_eq, decide_eq_false_iff_not, Bool.not_eq_true', Bool.not_eq_false', Bool.and_eq_true, Bool.or_eq_true, Bool.or_eq_false_iff, Bool.not_not, Bool.and_eq_false_iff] at hc133
          refine C_exit ?_
          refine nx_exit ?_
          refine nx_exit ?_
          refine bk_hit ?_
          refine C_region ?_
          refine O_p (.i .i64 (((i : Nat)) : Int)) (r_mv hT127) ?_
          refine O_p (.i .i64 ((((i : Nat)) : Int) + 1)) (by exact (r_addi rfl rfl (wrap_i64 (by omega) (by omega)))) ?_
          refine O_p (.i .i64 ((((i : Nat)) : Int) + 1)) (r_mv rfl) ?_
          refine O_nil ?_
          have hH178 := (((((((hH132.top6).top6).top6).top6).top6).top6).top6)
          exact ⟨q1 - (i + 1), by omega, cb82, cl85, mb83, ml84, w, wc, wr, js3, l2, D81, at2, got2, (i + 1), rfl, by omega, hcb90, hcg91, hMb92, hmg93, hp111, hp112, hp113, hp114, by omega, by omega, by omega, hp117, fun h => by first | exact hnone | (exfalso; omega), hH178, hT119, hT120, hT121, hT122, hT123, hT124, hT125, hT126, hT129, hT130, rfl⟩
      ·
        try simp only [decide_eq_true_eq, decide_eq_false_iff_not, Bool.not_eq_true', Bool.not_eq_false', Bool.and_eq_true, Bool.or_eq_true, Bool.or_eq_false_iff, Bool.not_not, Bool.and_eq_false_iff] at hc97
        refine C_skip ?_
        refine C_seq ?_
        refine C_region ?_
        refine O_p (.i .i64 0) (r_mv rfl) ?_
        refine O_nil ?_
        refine C_block ?_
        have hH179 := (hH96.sub6)
        have hH180 := (((((((hH179.top6).top6).top6).top6).top6).top6).top6)
        refine C_while (fun m181 T182 H183 => ∃ at2 : Nat, ∃ w : AV, ∃ wc : List AV, ∃ wr : List (List AV), ∃ js3 : List Nat, ∃ got2 : Nat, ∃ j : Nat, m181 = js3.length ∧ Sq 5 w wc wr.flatten ∧ ItsR D81 wr (js3.map itT) ∧ js3.Pairwise (· < ·) ∧ (∀ x ∈ js3, at2 ≤ x ∧ x < i + 1) ∧ at2 ≤ i + 1 ∧ ((got2 : Nat) : Int) + l2 + ((js3.length : Nat) : Int) = ((i : Nat) : Int) + 1 ∧ (((1 : Int) = 2) → top js3 at2 = i + 1) ∧ j + js3.length ≤ 200 ∧ Hs H183 ([(F6, some (.cells ([(.sl (some (Lb7, 0)) 3 3 0), (.i .i64 (((clampR room) : Nat) : Int)), (.m (some cm8))]) true))] ++ ([(Lb7, some (.cells (([(prow true (some mr17) (.sl none 0 0 0) 0), (prow true (some mr26) w l2), zrow] : List (List AV)).flatten) true))] ++ ([(cm8, some cb82)] ++ ([(mr26, some mb83)] ++ ((qseg w wc) ++ (D81 ++ ((allL H0) ++ ([])))))))) ∧ T182.get 0 = (.i .i64 room) ∧ T182.get 1 = pv ∧ T182.get 2 = (.i .i64 n0) ∧ T182.get 3 = (.b true) ∧ T182.get 8 = (.b false) ∧ T182.get 9 = (.b true) ∧ T182.get 10 = (.i .i64 (((q1 : Nat)) : Int)) ∧ T182.get 11 = (.p (some (F6, 0))) ∧ T182.get 15 = (.i .i64 (((i : Nat)) : Int)) ∧ T182.get 16 = (.i .i64 0) ∧ T182.get 13 = (.i .i64 (((at2 : Nat) : Int) - 1)) ∧ T182.get 14 = (.i .i64 (((got2 : Nat)) : Int)) ∧ T182.get 17 = (.i .i64 (((j : Nat)) : Int))) (fun m181 T182 H183 hI184 => ?_) js2.length _ _ ⟨att, v86, c87, rows88, js2, got, 0, rfl, hsq94, hir95, hpw2, hrg2, by omega, by omega, htop2, by omega, hH180, hT59, hT60, hT61, hT62, hT63, hT64, hT65, hT66, hT69, rfl, hT67, hT68, rfl⟩
        obtain ⟨at2, w, wc, wr, js3, got2, j, hm185, hp186, hp187, hp188, hp189, hp190, hp191, hp192, hp193, hH207, hT194, hT195, hT196, hT197, hT198, hT199, hT200, hT201, hT202, hT203, hT204, hT205, hT206⟩ := hI184
        refine C_seq ?_
        refine C_seq ?_
        refine C_region ?_
        refine O_p (.i .i64 (((j : Nat)) : Int)) (r_mv hT206) ?_
        refine O_p (.i .i64 0) (r_mv hT203) ?_
        refine O_p (.b false) (by exact (by rw [r_lss rfl rfl, decide_eq_false (by omega)])) ?_
        refine O_p (.b false) (r_mv rfl) ?_
        refine O_gk rfl ?_
        refine O_p (.i .i64 (((i : Nat)) : Int)) (r_mv hT202) ?_
        refine O_gk rfl ?_
        refine O_p (.i .i64 (((q1 : Nat)) : Int)) (r_mv hT200) ?_
        refine O_gk rfl ?_
        refine O_p (.i .i64 ((((q1 - 1) : Nat)) : Int)) (by exact (r_subn (a := q1) (b := 1) rfl rfl (by omega) (by omega))) ?_
        refine O_gk rfl ?_
        refine O_p (.b (decide ((((i : Nat)) : Int) = ((((q1 - 1) : Nat)) : Int)))) (r_eql rfl rfl) ?_
        refine O_p (.b (decide ((((i : Nat)) : Int) = ((((q1 - 1) : Nat)) : Int)))) (r_pick_f rfl rfl) ?_
        refine O_nil ?_
        refine C_cond (x := (decide ((((i : Nat)) : Int) = ((((q1 - 1) : Nat)) : Int)))) rfl (fun hc208 => ?_) (fun hc208 => ?_)
        ·
          try simp only [decide_eq_true_eq, decide_eq_false_iff_not, Bool.not_eq_true', Bool.not_eq_false', Bool.and_eq_true, Bool.or_eq_true, Bool.or_eq_false_iff, Bool.not_not, Bool.and_eq_false_iff] at hc208
          refine C_skip ?_
          refine C_seq ?_
          refine C_block ?_
          refine C_seq ?_
          by_cases hjn : js3 = []
          ·
            have hp3 := hp187
            rw [hjn] at hp3
            obtain rfl : wr = [] := List.length_eq_zero_iff.1 hp3.1
            refine C_region ?_
            refine O_p (.p (some (F6, 0))) (r_mv hT201) ?_
            have hall209 : ∀ x ∈ ([(prow true (some mr17) (.sl none 0 0 0) 0), (prow true (some mr26) w l2), zrow] : List (List AV)), x.length = 4 := fun x hx => by simp only [List.mem_cons, List.not_mem_nil, or_false] at hx; rcases hx with rfl | rfl | rfl <;> rfl
            have hH210 := (((hH207.top4).top2).top2)
            have hH211 : Hs H183 ([(F6, some (.cells ([(.sl (some (Lb7, 0)) 3 3 0), (.i .i64 (((clampR room) : Nat) : Int)), (.m (some cm8))]) true))] ++ ([(Lb7, some (.cells ((([(prow true (some mr17) (.sl none 0 0 0) 0), (prow true (some mr26) w l2), zrow] : List (List AV)).set 1 (prow true (some mr26) w l2)).flatten) true))] ++ ((qseg w wc) ++ ([(cm8, some cb82)] ++ ([(mr26, some mb83)] ++ (D81 ++ ((allL H0) ++ ([])))))))) := hH210
            have hH212 := (((hH211.top2).top2).top2)
            refine O_call (Ev.mono (pull0_ev (np := 3) (i := 1) (rws := ([(prow true (some mr17) (.sl none 0 0 0) 0), (prow true (some mr26) w l2), zrow] : List (List AV))) (by decide) hall209 (Nat.le_of_ble_eq_true rfl) hp186 hH212) fun v213 H214 hq215 => ?_)
            obtain ⟨rfl, hH216⟩ := hq215
            refine O_p (.tup [(.agg [(.s (txt [])), (.i .i64 0), (.i .i64 0), (.b false), (.sl none 0 0 0)]), (.b false)]) (r_mv rfl) ?_
            refine O_p (.agg [(.s (txt [])), (.i .i64 0), (.i .i64 0), (.b false), (.sl none 0 0 0)]) (r_ext rfl rfl) ?_
            refine O_p (.b false) (r_ext rfl rfl) ?_
            refine O_alloc fun n217 H218 hN219 => ?_
            have hH220 := hH216.new hN219
            refine O_store (vs := [(.s (txt [])), (.i .i64 0), (.i .i64 0), (.b false), (.sl none 0 0 0)]) (c' := [(.s (txt [])), (.i .i64 0), (.i .i64 0), (.b false), (.sl none 0 0 0)]) rfl (by rfl) hH220.get0 rfl (List.cons_ne_nil _ _) (Nat.le_of_ble_eq_true rfl) rfl fun H221 hW222 => ?_
            have hH223 := hH220.wr0 hW222
            refine O_p (.b false) (r_mv rfl) ?_
            refine O_nil ?_
            refine C_seq ?_
            refine C_seq ?_
            refine C_region ?_
            refine O_p (.b false) (r_mv rfl) ?_
            refine O_p (.b true) (r_un rfl rfl) ?_
            refine O_nil ?_
            refine C_cond (x := true) rfl (fun _ => ?_) (fun h => by cases h)
            refine C_exit ?_
            refine nx_exit ?_
            refine bk_miss (by decide) ?_
            refine nx_exit ?_
            refine nx_exit ?_
            refine bk_hit ?_
            refine C_region ?_
            refine O_p (.i .i64 (((i : Nat)) : Int)) (r_mv hT202) ?_
            refine O_p (.i .i64 ((((i : Nat)) : Int) + 1)) (by exact (r_addi rfl rfl (wrap_i64 (by omega) (by omega)))) ?_
            refine O_p (.i .i64 ((((i : Nat)) : Int) + 1)) (r_mv rfl) ?_
            refine O_nil ?_
            have hH224 := (hH223.sub0)
            have hH225 := (((((((hH224.top6).top6).top4).top6).top6).top6).top6)
            exact ⟨q1 - (i + 1), by omega, cb82, cl85, mb83, ml84, w, wc, ([] : List (List AV)), js3, l2, D81, at2, got2, (i + 1), rfl, by omega, hcb90, hcg91, hMb92, hmg93, hp186, hp187, hp188, hp189, by omega, by omega, by omega, hp192, fun h => by first | exact hjn | (exfalso; omega), hH225, hT194, hT195, hT196, hT197, hT198, hT199, hT200, hT201, hT204, hT205, rfl⟩
          ·
            obtain ⟨j0, js4, rfl⟩ : ∃ x y, js3 = x :: y := by
              cases js3 with
              | nil => exact absurd rfl hjn
              | cons x y => exact ⟨x, y, rfl⟩
            have hp3 := hp187
            obtain ⟨r0, rz, rfl⟩ : ∃ r rz, wr = r :: rz := by
              cases wr with
              | nil => have := hp3.1; simp at this
              | cons r rz => exact ⟨r, rz, rfl⟩
            have hl50 := hp3.lens
            have hpt := hp3.tail
            obtain ⟨rr, hrr, hpk⟩ := hp3.2 0 _ rfl
            simp only [List.getElem?_cons_zero, Option.some.injEq] at hrr
            subst hrr
            obtain ⟨ka, kc, kg, rfl, hkg, _, _, hkb⟩ := hpk
            obtain ⟨hlt4, hpw4⟩ := List.pairwise_cons.1 hp188
            have hj0 := hp189 j0 (List.mem_cons_self ..)
            have hrg4 : ∀ x ∈ js4, j0 + 1 ≤ x ∧ x < i + 1 := fun x hx => ⟨hlt4 x hx, (hp189 x (List.mem_cons_of_mem _ hx)).2⟩
            have hlc : (j0 :: js4).length = js4.length + 1 := rfl
            have hbl : (bd j0).length = 1 := rfl
            refine C_region ?_
            refine O_p (.p (some (F6, 0))) (r_mv hT201) ?_
            have hall226 : ∀ x ∈ ([(prow true (some mr17) (.sl none 0 0 0) 0), (prow true (some mr26) w l2), zrow] : List (List AV)), x.length = 4 := fun x hx => by simp only [List.mem_cons, List.not_mem_nil, or_false] at hx; rcases hx with rfl | rfl | rfl <;> rfl
            have hH227 := (((hH207.top4).top2).top2)
            have hH228 : Hs H183 ([(F6, some (.cells ([(.sl (some (Lb7, 0)) 3 3 0), (.i .i64 (((clampR room) : Nat) : Int)), (.m (some cm8))]) true))] ++ ([(Lb7, some (.cells ((([(prow true (some mr17) (.sl none 0 0 0) 0), (prow true (some mr26) w l2), zrow] : List (List AV)).set 1 (prow true (some mr26) w l2)).flatten) true))] ++ ((qseg w wc) ++ ([(cm8, some cb82)] ++ ([(mr26, some mb83)] ++ (D81 ++ ((allL H0) ++ ([])))))))) := hH227
            have hH229 := (((hH228.top2).top2).top2)
            refine O_call (Ev.mono (pull_ev (np := 3) (i := 1) (rws := ([(prow true (some mr17) (.sl none 0 0 0) 0), (prow true (some mr26) w l2), zrow] : List (List AV))) (by decide) hall226 (Nat.le_of_ble_eq_true rfl) hp186 hl50 hH229) fun v230 H231 hq232 => ?_)
            obtain ⟨v233, c234, rfl, hsq235, hH236⟩ := hq232
            refine O_p (.tup [(.agg [(.s (txt [116])), (.i .i64 0), (.i .i64 ((j0 : Nat) : Int)), (.b false), (.sl ka 1 kc kg)]), (.b true)]) (r_mv rfl) ?_
            refine O_p (.agg [(.s (txt [116])), (.i .i64 0), (.i .i64 ((j0 : Nat) : Int)), (.b false), (.sl ka 1 kc kg)]) (r_ext rfl rfl) ?_
            refine O_p (.b true) (r_ext rfl rfl) ?_
            refine O_alloc fun n237 H238 hN239 => ?_
            have hH240 := hH236.new hN239
            refine O_store (vs := [(.s (txt [116])), (.i .i64 0), (.i .i64 ((j0 : Nat) : Int)), (.b false), (.sl ka 1 kc kg)]) (c' := [(.s (txt [116])), (.i .i64 0), (.i .i64 ((j0 : Nat) : Int)), (.b false), (.sl ka 1 kc kg)]) rfl (by rfl) hH240.get0 rfl (List.cons_ne_nil _ _) (Nat.le_of_ble_eq_true rfl) rfl fun H241 hW242 => ?_
            have hH243 := hH240.wr0 hW242
            refine O_p (.b true) (r_mv rfl) ?_
            refine O_nil ?_
            refine C_seq ?_
            refine C_seq ?_
            refine C_region ?_
            refine O_p (.b true) (r_mv rfl) ?_
            refine O_p (.b false) (r_un rfl rfl) ?_
            refine O_nil ?_
            refine C_cond (x := false) rfl (fun h => by cases h) (fun _ => ?_)
            refine C_skip ?_
            refine C_seq ?_
            refine C_seq ?_
            refine C_draw fun b244 H245 hbase246 hA247 => ?_
            have hH248 := hH243.keep (by have := hA247.1; omega) (fun q _ => hA247.2 q) ((hH243.old).aside hA247).ok
            refine D_l (v := (.p (some (n237, 2)))) rfl rfl rfl (r_fadd' rfl rfl) ?_
            refine D_l (v := (.i .i64 (((at2 : Nat) : Int) - 1))) rfl rfl rfl (r_mv hT204) ?_
            refine D_r (v := (.i .i64 ((j0 : Nat) : Int))) rfl rfl rfl (r_ld rfl hH248.get0 rfl) ?_
            refine D_l (v := (.b false)) rfl rfl rfl (by exact (by rw [r_leq rfl rfl, decide_eq_false (by omega)])) ?_
            refine D_l (v := (.b false)) rfl rfl rfl (r_mv rfl) ?_
            refine D_gk rfl ?_
            refine D_l (v := (.p (some (n237, 4)))) rfl rfl rfl (r_fadd' rfl rfl) ?_
            refine D_gk rfl ?_
            refine D_r (v := (.sl ka 1 kc kg)) rfl rfl rfl (r_ld rfl hH248.get0 rfl) ?_
            refine D_gk rfl ?_
            refine D_l (v := (.i .i64 1)) rfl rfl rfl (r_len rfl) ?_
            refine D_gk rfl ?_
            refine D_l (v := (.b false)) rfl rfl rfl (r_bin rfl rfl rfl) ?_
            refine D_l (v := (.b false)) rfl rfl rfl (r_pick_f rfl rfl) ?_
            refine D_l (v := (.b false)) rfl rfl rfl (r_mv rfl) ?_
            refine D_gk rfl ?_
            refine D_l (v := (.p (some (n237, 4)))) rfl rfl rfl (r_fadd' rfl rfl) ?_
            refine D_gk rfl ?_
            refine D_l (v := (.p (some (n237, 2)))) rfl rfl rfl (r_fadd' rfl rfl) ?_
            refine D_gk rfl ?_
            refine D_r (v := (.sl ka 1 kc kg)) rfl rfl rfl (r_ld rfl hH248.get0 rfl) ?_
            refine D_gk rfl ?_
            refine D_q rfl rfl rfl (by exact Bs.ix (hkb _ hH248.top6.fst) rfl (i := 0) rfl (by first | omega | (simp only [List.length_take, List.length_drop, List.length_append, List.length_cons, List.length_nil, beN_len] <;> omega))) fun v250 hv249 => ?_
            refine D_gk rfl ?_
            refine D_r (v := (.i .u8 (((bd j0).getD 0 0).toNat : Int))) rfl rfl rfl (hv249.load rfl) ?_
            refine D_gk rfl ?_
            refine D_r (v := (.i .i64 ((j0 : Nat) : Int))) rfl rfl rfl (r_ld rfl hH248.get0 rfl) ?_
            refine D_gk rfl ?_
            refine D_l (v := (.i .u8 ((UInt8.ofNat (j0 % 256)).toNat : Int))) rfl rfl rfl (by exact (by rw [u8_lo]; exact r_cint rfl)) ?_
            refine D_gk rfl ?_
            refine D_l (v := (.b false)) rfl rfl rfl (by exact (by rw [r_neq rfl rfl, decide_eq_true (show (((bd j0).getD 0 0).toNat : Int) = ((UInt8.ofNat (j0 % 256)).toNat : Int) from rfl)]; rfl)) ?_
            refine D_l (v := (.b false)) rfl rfl rfl (r_pick_f rfl rfl) ?_
            refine D_nil ?_
            refine C_cond (x := false) rfl (fun h => by cases h) (fun _ => ?_)
            refine C_skip ?_
            refine C_seq ?_
            refine C_region ?_
            refine O_p (.p (some (n237, 2))) (r_fadd' rfl rfl) ?_
            refine O_p (.i .i64 ((j0 : Nat) : Int)) (r_ld rfl hH248.get0 rfl) ?_
            refine O_p (.i .i64 ((j0 : Nat) : Int)) (r_mv rfl) ?_
            refine O_nil ?_
            refine C_region ?_
            refine O_p (.i .i64 (((got2 : Nat)) : Int)) (r_mv hT205) ?_
            refine O_p (.i .i64 ((((got2 : Nat)) : Int) + 1)) (by exact (r_addi rfl rfl (wrap_i64 (by omega) (by omega)))) ?_
            refine O_p (.i .i64 ((((got2 : Nat)) : Int) + 1)) (r_mv rfl) ?_
            refine O_nil ?_
            refine C_region ?_
            refine O_p (.i .i64 (((j : Nat)) : Int)) (r_mv hT206) ?_
            refine O_p (.i .i64 ((((j : Nat)) : Int) + 1)) (by exact (r_addi rfl rfl (wrap_i64 (by omega) (by omega)))) ?_
            refine O_p (.i .i64 ((((j : Nat)) : Int) + 1)) (r_mv rfl) ?_
            refine O_nil ?_
            have hH251 := (hH248.sub0)
            have hH252 := (((((((hH251.top6).top6).top4).top6).top6).top6).top6)
            exact ⟨js4.length, by omega, (j0 + 1), v233, c234, rz, js4, (got2 + 1), (j + 1), rfl, hsq235, hpt, hpw4, hrg4, by omega, by omega, fun h => by have := hp192 h; rw [top_cons] at this; exact this, by omega, hH252, hT194, hT195, hT196, hT197, hT198, hT199, hT200, hT201, hT202, hT203, (by rw [show (((j0 + 1 : Nat) : Int) - 1) = ((j0 : Nat) : Int) by omega]; exact rfl), rfl, rfl⟩
        ·
          try simp only [decide_eq_true_eq, decide_eq_false_iff_not, Bool.not_eq_true', Bool.not_eq_false', Bool.and_eq_true, Bool.or_eq_true, Bool.or_eq_false_iff, Bool.not_not, Bool.and_eq_false_iff] at hc208
          refine C_exit ?_
          refine nx_exit ?_
          refine nx_exit ?_
          refine bk_hit ?_
          refine C_region ?_
          refine O_p (.i .i64 (((i : Nat)) : Int)) (r_mv hT202) ?_
          refine O_p (.i .i64 ((((i : Nat)) : Int) + 1)) (by exact (r_addi rfl rfl (wrap_i64 (by omega) (by omega)))) ?_
          refine O_p (.i .i64 ((((i : Nat)) : Int) + 1)) (r_mv rfl) ?_
          refine O_nil ?_
          have hH253 := (((((((hH207.top6).top6).top6).top6).top6).top6).top6)
          exact ⟨q1 - (i + 1), by omega, cb82, cl85, mb83, ml84, w, wc, wr, js3, l2, D81, at2, got2, (i + 1), rfl, by omega, hcb90, hcg91, hMb92, hmg93, hp186, hp187, hp188, hp189, by omega, by omega, by omega, hp192, fun h => by first | exact hnone | (exfalso; omega), hH253, hT194, hT195, hT196, hT197, hT198, hT199, hT200, hT201, hT204, hT205, rfl⟩
    ·
      try simp only [decide_eq_true_eq, decide_eq_false_iff_not, Bool.not_eq_true', Bool.not_eq_false', Bool.and_eq_true, Bool.or_eq_true, Bool.or_eq_false_iff, Bool.not_not, Bool.and_eq_false_iff] at hc71
      refine C_exit ?_
      refine nx_exit ?_
      refine nx_exit ?_
      refine bk_hit ?_
      refine C_seq ?_
      by_cases hK0 : q1 = 0
      ·
        refine C_region ?_
        have hie : i = q1 := by omega
        have hjz := hp58 hie
        have hjz0 : js.length = 0 := by rw [hjz]; rfl
        have htz := hp57
        rw [hjz] at htz
        refine O_p (.b true) (r_mv hT64) ?_
        refine O_p (.b true) (r_mv rfl) ?_
        refine O_gk rfl ?_
        refine O_p (.i .i64 (((got : Nat)) : Int)) (r_mv hT68) ?_
        refine O_gk rfl ?_
        refine O_p (.p (some (F6, 0))) (r_mv hT66) ?_
        refine O_gk rfl ?_
        have hall254 : ∀ x ∈ ([(prow true (some mr17) (.sl none 0 0 0) 0), (prow true (some mr26) v l), zrow] : List (List AV)), x.length = 4 := fun x hx => by simp only [List.mem_cons, List.not_mem_nil, or_false] at hx; rcases hx with rfl | rfl | rfl <;> rfl
        have hH255 := ((hH70.top1).top1)
        have hH256 : Hs H42 ([(F6, some (.cells ([(.sl (some (Lb7, 0)) 3 3 0), (.i .i64 (((clampR room) : Nat) : Int)), (.m (some cm8))]) true))] ++ ([(Lb7, some (.cells ((([(prow true (some mr17) (.sl none 0 0 0) 0), (prow true (some mr26) v l), zrow] : List (List AV)).set 1 (prow true (some mr26) v l)).flatten) true))] ++ ([(cm8, some cb)] ++ ([(mr26, some mb)] ++ ((qseg v c) ++ (D ++ ((allL H0) ++ ([])))))))) := hH255
        have hH257 := ((hH256.top1).top1)
        refine O_call (Ev.mono (lost_ev (np := 3) (i := 1) (rws := ([(prow true (some mr17) (.sl none 0 0 0) 0), (prow true (some mr26) v l), zrow] : List (List AV))) (by decide) hall254 (Nat.le_of_ble_eq_true rfl) hH257) fun v258 H259 hq260 => ?_)
        obtain ⟨rfl, hH261⟩ := hq260
        refine O_gk rfl ?_
        refine O_p (.i .i64 ((((got : Nat)) : Int) + l)) (by exact (r_addi rfl rfl (wrap_i64 (by omega) (by omega)))) ?_
        refine O_gk rfl ?_
        refine O_p (.i .i64 (((q1 : Nat)) : Int)) (r_mv hT65) ?_
        refine O_gk rfl ?_
        refine O_p (.b true) (by exact (by rw [r_eql rfl rfl, decide_eq_true (by omega)])) ?_
        refine O_p (.b true) (r_pick_t rfl rfl) ?_
        refine O_p (.b true) (r_mv rfl) ?_
        refine O_gk rfl ?_
        refine O_p (.p (some (F6, 0))) (r_mv hT66) ?_
        refine O_gk rfl ?_
        have hall262 : ∀ x ∈ ([(prow true (some mr17) (.sl none 0 0 0) 0), (prow true (some mr26) v l), zrow] : List (List AV)), x.length = 4 := fun x hx => by simp only [List.mem_cons, List.not_mem_nil, or_false] at hx; rcases hx with rfl | rfl | rfl <;> rfl
        have hH263 := (((hH261.top3).top2).top2)
        have hH264 : Hs H259 ([(F6, some (.cells ([(.sl (some (Lb7, 0)) 3 3 0), (.i .i64 (((clampR room) : Nat) : Int)), (.m (some cm8))]) true))] ++ ([(Lb7, some (.cells ((([(prow true (some mr17) (.sl none 0 0 0) 0), (prow true (some mr26) v l), zrow] : List (List AV)).set 1 (prow true (some mr26) v l)).flatten) true))] ++ ([(mr26, some mb)] ++ ([(cm8, some cb)] ++ ((qseg v c) ++ (D ++ ((allL H0) ++ ([])))))))) := hH263
        have hH265 := (((hH264.top2).top2).top2)
        refine O_call (Ev.mono (failed_some (np := 3) (i := 1) (rws := ([(prow true (some mr17) (.sl none 0 0 0) 0), (prow true (some mr26) v l), zrow] : List (List AV))) (tp := [116]) (fl := false) (by decide) hall262 (Nat.le_of_ble_eq_true rfl) hp48 hp49 hH265) fun v266 H267 hq268 => ?_)
        obtain ⟨rfl, hH269⟩ := hq268
        refine O_gk rfl ?_
        refine O_p (.b true) (r_un rfl rfl) ?_
        refine O_p (.b true) (r_pick_t rfl rfl) ?_
        refine O_p (.b true) (r_mv rfl) ?_
        refine O_gk rfl ?_
        refine O_p (.b true) (r_mv hT62) ?_
        refine O_gk rfl ?_
        refine O_p (.b true) (r_mv rfl) ?_
        refine O_gf rfl ?_
        refine O_gf rfl ?_
        refine O_gk rfl ?_
        refine O_p (.b true) (r_pick_t rfl rfl) ?_
        refine O_gk rfl ?_
        refine O_p (.b true) (r_mv rfl) ?_
        refine O_gf rfl ?_
        refine O_gf rfl ?_
        refine O_gf rfl ?_
        refine O_gf rfl ?_
        refine O_gk rfl ?_
        refine O_p (.b true) (r_pick_t rfl rfl) ?_
        refine O_p (.b true) (r_pick_t rfl rfl) ?_
        refine O_p (.b true) (r_mv rfl) ?_
        refine O_nil ?_
        refine C_ret ?_
        exact ⟨.inr rfl, _, resL_one (r_tmp (v := .b true) rfl), rfl⟩
      ·
        refine C_region ?_
        have hie : i = q1 := by omega
        have hjz := hp58 hie
        have hjz0 : js.length = 0 := by rw [hjz]; rfl
        have htz := hp57
        rw [hjz] at htz
        refine O_p (.b true) (r_mv hT64) ?_
        refine O_p (.b true) (r_mv rfl) ?_
        refine O_gk rfl ?_
        refine O_p (.i .i64 (((got : Nat)) : Int)) (r_mv hT68) ?_
        refine O_gk rfl ?_
        refine O_p (.p (some (F6, 0))) (r_mv hT66) ?_
        refine O_gk rfl ?_
        have hall270 : ∀ x ∈ ([(prow true (some mr17) (.sl none 0 0 0) 0), (prow true (some mr26) v l), zrow] : List (List AV)), x.length = 4 := fun x hx => by simp only [List.mem_cons, List.not_mem_nil, or_false] at hx; rcases hx with rfl | rfl | rfl <;> rfl
        have hH271 := ((hH70.top1).top1)
        have hH272 : Hs H42 ([(F6, some (.cells ([(.sl (some (Lb7, 0)) 3 3 0), (.i .i64 (((clampR room) : Nat) : Int)), (.m (some cm8))]) true))] ++ ([(Lb7, some (.cells ((([(prow true (some mr17) (.sl none 0 0 0) 0), (prow true (some mr26) v l), zrow] : List (List AV)).set 1 (prow true (some mr26) v l)).flatten) true))] ++ ([(cm8, some cb)] ++ ([(mr26, some mb)] ++ ((qseg v c) ++ (D ++ ((allL H0) ++ ([])))))))) := hH271
        have hH273 := ((hH272.top1).top1)
        refine O_call (Ev.mono (lost_ev (np := 3) (i := 1) (rws := ([(prow true (some mr17) (.sl none 0 0 0) 0), (prow true (some mr26) v l), zrow] : List (List AV))) (by decide) hall270 (Nat.le_of_ble_eq_true rfl) hH273) fun v274 H275 hq276 => ?_)
        obtain ⟨rfl, hH277⟩ := hq276
        refine O_gk rfl ?_
        refine O_p (.i .i64 ((((got : Nat)) : Int) + l)) (by exact (r_addi rfl rfl (wrap_i64 (by omega) (by omega)))) ?_
        refine O_gk rfl ?_
        refine O_p (.i .i64 (((q1 : Nat)) : Int)) (r_mv hT65) ?_
        refine O_gk rfl ?_
        refine O_p (.b true) (by exact (by rw [r_eql rfl rfl, decide_eq_true (by omega)])) ?_
        refine O_p (.b true) (r_pick_t rfl rfl) ?_
        refine O_p (.b true) (r_mv rfl) ?_
        refine O_gk rfl ?_
        refine O_p (.p (some (F6, 0))) (r_mv hT66) ?_
        refine O_gk rfl ?_
        have hall278 : ∀ x ∈ ([(prow true (some mr17) (.sl none 0 0 0) 0), (prow true (some mr26) v l), zrow] : List (List AV)), x.length = 4 := fun x hx => by simp only [List.mem_cons, List.not_mem_nil, or_false] at hx; rcases hx with rfl | rfl | rfl <;> rfl
        have hH279 := (((hH277.top3).top2).top2)
        have hH280 : Hs H275 ([(F6, some (.cells ([(.sl (some (Lb7, 0)) 3 3 0), (.i .i64 (((clampR room) : Nat) : Int)), (.m (some cm8))]) true))] ++ ([(Lb7, some (.cells ((([(prow true (some mr17) (.sl none 0 0 0) 0), (prow true (some mr26) v l), zrow] : List (List AV)).set 1 (prow true (some mr26) v l)).flatten) true))] ++ ([(mr26, some mb)] ++ ([(cm8, some cb)] ++ ((qseg v c) ++ (D ++ ((allL H0) ++ ([])))))))) := hH279
        have hH281 := (((hH280.top2).top2).top2)
        refine O_call (Ev.mono (failed_some (np := 3) (i := 1) (rws := ([(prow true (some mr17) (.sl none 0 0 0) 0), (prow true (some mr26) v l), zrow] : List (List AV))) (tp := [116]) (fl := false) (by decide) hall278 (Nat.le_of_ble_eq_true rfl) hp48 hp49 hH281) fun v282 H283 hq284 => ?_)
        obtain ⟨rfl, hH285⟩ := hq284
        refine O_gk rfl ?_
        refine O_p (.b true) (r_un rfl rfl) ?_
        refine O_p (.b true) (r_pick_t rfl rfl) ?_
        refine O_p (.b true) (r_mv rfl) ?_
        refine O_gk rfl ?_
        refine O_p (.b true) (r_mv hT62) ?_
        refine O_gk rfl ?_
        refine O_p (.b true) (r_mv rfl) ?_
        refine O_gf rfl ?_
        refine O_gf rfl ?_
        refine O_gk rfl ?_
        refine O_p (.b true) (r_pick_t rfl rfl) ?_
        refine O_gk rfl ?_
        refine O_p (.b true) (r_mv rfl) ?_
        refine O_gf rfl ?_
        refine O_gf rfl ?_
        refine O_gf rfl ?_
        refine O_gf rfl ?_
        refine O_gk rfl ?_
        refine O_p (.b true) (r_pick_t rfl rfl) ?_
        refine O_p (.b true) (r_pick_t rfl rfl) ?_
        refine O_p (.b true) (r_mv rfl) ?_
        refine O_nil ?_
        refine C_ret ?_
        exact ⟨.inr rfl, _, resL_one (r_tmp (v := .b true) rfl), rfl⟩
set_option maxRecDepth 100000 in
set_option maxHeartbeats 4000000 in
theorem run5_false (H0 : AH) (hok0 : H0.Ok) (room n0 : Int) (pv : AV) (pl : List Int) (hpv : ∀ H', Hs H' (allL H0) → Rw 1 H' pv (pl.map fun x => [AV.i .i64 x])) : Ev tabA spA (.fn (.func 5) [] []) [.i .i64 room, pv, .i .i64 n0, .b false] H0 (fun v _ => v = .b true) := by
  have hH0 := allL_hs hok0
  refine Ev_C (F := x5) rfl ?_
  refine C_seq ?_
  refine C_region ?_
  refine O_p (.b false) (r_mv rfl) ?_
  refine O_nil ?_
  refine C_seq ?_
  refine C_region ?_
  refine O_call (Ev_sp (v := (.b true)) rfl rfl ?_)
  refine O_p (.b true) (r_mv rfl) ?_
  refine O_nil ?_
  refine C_seq ?_
  refine C_region ?_
  refine O_p (.i .i64 n0) (r_mv rfl) ?_
  obtain ⟨q1, hq1, hlq1⟩ := and_nat n0 127 (by decide)
  refine O_p (.i .i64 (((q1 : Nat)) : Int)) (by exact (by rw [← hq1]; exact r_bin rfl rfl rfl)) ?_
  refine O_p (.i .i64 (((q1 : Nat)) : Int)) (r_mv rfl) ?_
  refine O_nil ?_
  refine C_seq ?_
  refine C_seq ?_
  refine C_region ?_
  refine O_p pv (r_mv rfl) ?_
  refine O_p (.i .i64 (((pl.length : Nat)) : Int)) (r_lenOf (v := pv) (n := pl.length) rfl ((hpv _ hH0.top0.fst).lenOf (List.length_map ..)) (hpv _ hH0.top0.fst).isSl) ?_
  refine O_p (.b (decide (200 < (((pl.length : Nat)) : Int)))) (r_gtr rfl rfl) ?_
  refine O_nil ?_
  refine C_cond (x := (decide (200 < (((pl.length : Nat)) : Int)))) rfl (fun hc2 => ?_) (fun hc2 => ?_)
  ·
    try simp only [decide_eq_true_eq, decide_eq_false_iff_not, Bool.not_eq_true', Bool.not_eq_false', Bool.and_eq_true, Bool.or_eq_true, Bool.or_eq_false_iff, Bool.not_not, Bool.and_eq_false_iff] at hc2
    refine C_seq ?_
    refine C_region ?_
    refine O_p (.b true) (r_mv rfl) ?_
    refine O_p (.b true) (r_mv rfl) ?_
    refine O_nil ?_
    refine C_ret ?_
    refine nx_ret ?_
    exact ⟨.inr rfl, _, resL_one (r_tmp (v := .b true) rfl), rfl⟩
  ·
    try simp only [decide_eq_true_eq, decide_eq_false_iff_not, Bool.not_eq_true', Bool.not_eq_false', Bool.and_eq_true, Bool.or_eq_true, Bool.or_eq_false_iff, Bool.not_not, Bool.and_eq_false_iff] at hc2
    refine C_skip ?_
    refine C_seq ?_
    refine C_region ?_
    refine O_p (.i .i64 room) (r_mv rfl) ?_
    refine O_call (Ev.mono (new3_ev (room := room) hH0) fun v3 H4 hq5 => ?_)
    obtain ⟨F6, Lb7, cm8, rfl, hH9⟩ := hq5
    refine O_p (.p (some (F6, 0))) (r_mv rfl) ?_
    refine O_nil ?_
    refine C_seq ?_
    refine C_region ?_
    refine O_p (.i .i64 2) (r_mv rfl) ?_
    refine O_nil ?_
    refine C_seq ?_
    refine C_seq ?_
    refine C_region ?_
    refine O_p (.b false) (r_mv rfl) ?_
    refine O_nil ?_
    refine C_cond (x := false) rfl (fun h => by cases h) (fun _ => ?_)
    refine C_skip ?_
    refine C_seq ?_
    refine C_seq ?_
    refine C_region ?_
    refine O_p (.p (some (F6, 0))) (r_mv rfl) ?_
    have hall10 : ∀ x ∈ ([zrow, zrow, zrow] : List (List AV)), x.length = 4 := fun x hx => by simp only [List.mem_cons, List.not_mem_nil, or_false] at hx; rcases hx with rfl | rfl | rfl <;> rfl
    have hH11 := ((hH9.top1).top1)
    have hH12 : Hs H4 ([(F6, some (.cells ([(.sl (some (Lb7, 0)) 3 3 0), (.i .i64 (((clampR room) : Nat) : Int)), (.m (some cm8))]) true))] ++ ([(Lb7, some (.cells ((([zrow, zrow, zrow] : List (List AV)).set 0 zrow).flatten) true))] ++ ([(cm8, some (.map [] 0))] ++ ((allL H0) ++ ([]))))) := hH11
    have hH13 := ((hH12.top1).top1)
    refine O_call (Ev.mono (join_ev (np := 3) (i := 0) (rws := ([zrow, zrow, zrow] : List (List AV))) (by decide) hall10 (Nat.le_of_ble_eq_true rfl) hH13) fun v14 H15 hq16 => ?_)
    obtain ⟨mr17, rfl, hH18⟩ := hq16
    refine O_p (.b false) (by exact (by rw [r_neq rfl rfl, decide_eq_true (by decide)]; rfl)) ?_
    refine O_p (.b false) (r_mv rfl) ?_
    refine O_gk rfl ?_
    refine O_p (.p (some (F6, 0))) (r_mv rfl) ?_
    refine O_gk rfl ?_
    have hall19 : ∀ x ∈ ([(prow true (some mr17) (.sl none 0 0 0) 0), zrow, zrow] : List (List AV)), x.length = 4 := fun x hx => by simp only [List.mem_cons, List.not_mem_nil, or_false] at hx; rcases hx with rfl | rfl | rfl <;> rfl
    have hH20 := ((hH18.top1).top1)
    have hH21 : Hs H15 ([(F6, some (.cells ([(.sl (some (Lb7, 0)) 3 3 0), (.i .i64 (((clampR room) : Nat) : Int)), (.m (some cm8))]) true))] ++ ([(Lb7, some (.cells ((([(prow true (some mr17) (.sl none 0 0 0) 0), zrow, zrow] : List (List AV)).set 1 zrow).flatten) true))] ++ ([(mr17, some (.map [] 0))] ++ ([(cm8, some (.map [] 0))] ++ ((allL H0) ++ ([])))))) := hH20
    have hH22 := ((hH21.top1).top1)
    refine O_call (Ev.mono (join_ev (np := 3) (i := 1) (rws := ([(prow true (some mr17) (.sl none 0 0 0) 0), zrow, zrow] : List (List AV))) (by decide) hall19 (Nat.le_of_ble_eq_true rfl) hH22) fun v23 H24 hq25 => ?_)
    obtain ⟨mr26, rfl, hH27⟩ := hq25
    refine O_gk rfl ?_
    refine O_p (.b false) (by exact (by rw [r_neq rfl rfl, decide_eq_true (by decide)]; rfl)) ?_
    refine O_p (.b false) (r_pick_f rfl rfl) ?_
    refine O_p (.b false) (r_mv rfl) ?_
    refine O_gk rfl ?_
    refine O_p (.p (some (F6, 0))) (r_mv rfl) ?_
    refine O_gk rfl ?_
    refine O_p (.i .i64 2) (r_mv rfl) ?_
    refine O_gk rfl ?_
    have hall28 : ∀ x ∈ ([(prow true (some mr17) (.sl none 0 0 0) 0), (prow true (some mr26) (.sl none 0 0 0) 0), zrow] : List (List AV)), x.length = 4 := fun x hx => by simp only [List.mem_cons, List.not_mem_nil, or_false] at hx; rcases hx with rfl | rfl | rfl <;> rfl
    have hH29 := (((hH27.top2).top2).top2)
    have hH30 : Hs H24 ([(F6, some (.cells ([(.sl (some (Lb7, 0)) 3 3 0), (.i .i64 (((clampR room) : Nat) : Int)), (.m (some cm8))]) true))] ++ ([(Lb7, some (.cells ((([(prow true (some mr17) (.sl none 0 0 0) 0), (prow true (some mr26) (.sl none 0 0 0) 0), zrow] : List (List AV)).set 1 (prow true (some mr26) (.sl none 0 0 0) 0)).flatten) true))] ++ ([(mr26, some (.map [] 0))] ++ ([(mr17, some (.map [] 0))] ++ ([(cm8, some (.map [] 0))] ++ ((allL H0) ++ ([]))))))) := hH29
    have hH31 := (((hH30.top2).top2).top2)
    refine O_call (Ev.mono (sub_ev (np := 3) (i := 1) (rws := ([(prow true (some mr17) (.sl none 0 0 0) 0), (prow true (some mr26) (.sl none 0 0 0) 0), zrow] : List (List AV))) (m := []) (tp := [116]) (mode := 2) (by decide) hall28 (Nat.le_of_ble_eq_true rfl) Mb.nil rfl (by decide) (by decide) (by decide) hH31) fun v32 H33 hq34 => ?_)
    obtain ⟨mb35, hMb36, rfl, hH37⟩ := hq34
    refine O_gk rfl ?_
    refine O_p (.b false) (by exact (by rw [r_neq rfl rfl, decide_eq_true (by decide)]; rfl)) ?_
    refine O_p (.b false) (r_pick_f rfl rfl) ?_
    refine O_nil ?_
    refine C_cond (x := false) rfl (fun h => by cases h) (fun _ => ?_)
    refine C_skip ?_
    refine C_seq ?_
    refine C_region ?_
    refine O_p (.i .i64 (-1)) (r_mv rfl) ?_
    refine O_nil ?_
    refine C_seq ?_
    refine C_region ?_
    refine O_p (.i .i64 0) (r_mv rfl) ?_
    refine O_nil ?_
    refine C_seq ?_
    refine C_seq ?_
    refine C_region ?_
    refine O_p (.i .i64 0) (r_mv rfl) ?_
    refine O_nil ?_
    refine C_block ?_
    have hH38 := (hH37.sub3)
    have hH39 := (((((hH38.top4).top3).top4).top4).top4)
    refine C_while (fun m40 T41 H42 => ∃ cb : Blk, ∃ cl : ML, ∃ mb : Blk, ∃ m : ML, ∃ v : AV, ∃ c : List AV, ∃ rows : List (List AV), ∃ js : List Nat, ∃ l : Int, ∃ D : HL, ∃ att : Nat, ∃ got : Nat, ∃ i : Nat, m40 = q1 - i ∧ i ≤ q1 ∧ Mb cl cb ∧ mget cl [116] = cntO i ∧ Mb m mb ∧ mget m [116] = subO (some (2, false)) ∧ Sq 5 v c rows.flatten ∧ ItsR D rows (js.map itT) ∧ js.Pairwise (· < ·) ∧ (∀ x ∈ js, att ≤ x ∧ x < i) ∧ att ≤ i ∧ 0 ≤ l ∧ ((got : Nat) : Int) + l + ((js.length : Nat) : Int) = ((i : Nat) : Int) ∧ (((2 : Int) = 2) → top js att = i) ∧ (i = q1 → js = []) ∧ Hs H42 ([(F6, some (.cells ([(.sl (some (Lb7, 0)) 3 3 0), (.i .i64 (((clampR room) : Nat) : Int)), (.m (some cm8))]) true))] ++ ([(Lb7, some (.cells (([(prow true (some mr17) (.sl none 0 0 0) 0), (prow true (some mr26) v l), zrow] : List (List AV)).flatten) true))] ++ ([(cm8, some cb)] ++ ([(mr26, some mb)] ++ ((qseg v c) ++ (D ++ ((allL H0) ++ ([])))))))) ∧ T41.get 0 = (.i .i64 room) ∧ T41.get 1 = pv ∧ T41.get 2 = (.i .i64 n0) ∧ T41.get 3 = (.b false) ∧ T41.get 8 = (.b false) ∧ T41.get 9 = (.b true) ∧ T41.get 10 = (.i .i64 (((q1 : Nat)) : Int)) ∧ T41.get 11 = (.p (some (F6, 0))) ∧ T41.get 13 = (.i .i64 (((att : Nat) : Int) - 1)) ∧ T41.get 14 = (.i .i64 (((got : Nat)) : Int)) ∧ T41.get 15 = (.i .i64 (((i : Nat)) : Int))) (fun m40 T41 H42 hI43 => ?_) q1 _ _ ⟨(.map [] 0), [], mb35, (mset (mdel [] [116]) [116] (sub 2 false)), (.sl none 0 0 0), [], [], [], 0, [], 0, 0, 0, rfl, Nat.zero_le _, Mb.nil, rfl, hMb36, by rw [mget_set, if_pos rfl]; rfl, Sq.nil, ItsR.nil, List.Pairwise.nil, fun x hx => absurd hx (List.not_mem_nil), Nat.le_refl _, Int.le_refl _, rfl, fun _ => rfl, fun _ => rfl, hH39, rfl, rfl, rfl, rfl, rfl, rfl, rfl, rfl, rfl, rfl, rfl⟩
    obtain ⟨cb, cl, mb, m, v, c, rows, js, l, D, att, got, i, hm44, hp45, hp46, hp47, hp48, hp49, hp50, hp51, hp52, hp53, hp54, hp55, hp56, hp57, hp58, hH70, hT59, hT60, hT61, hT62, hT63, hT64, hT65, hT66, hT67, hT68, hT69⟩ := hI43
    refine C_seq ?_
    refine C_seq ?_
    refine C_region ?_
    refine O_p (.i .i64 (((i : Nat)) : Int)) (r_mv hT69) ?_
    refine O_p (.i .i64 (((q1 : Nat)) : Int)) (r_mv hT65) ?_
    refine O_p (.b (decide ((((i : Nat)) : Int) < (((q1 : Nat)) : Int)))) (r_lss rfl rfl) ?_
    refine O_nil ?_
    refine C_cond (x := (decide ((((i : Nat)) : Int) < (((q1 : Nat)) : Int)))) rfl (fun hc71 => ?_) (fun hc71 => ?_)
    ·
      try simp only [decide_eq_true_eq, decide_eq_false_iff_not, Bool.not_eq_true', Bool.not_eq_false', Bool.and_eq_true, Bool.or_eq_true, Bool.or_eq_false_iff, Bool.not_not, Bool.and_eq_false_iff] at hc71
      refine C_skip ?_
      refine C_seq ?_
      refine C_block ?_
      refine C_seq ?_
      refine C_region ?_
      have hin : i < q1 := by omega
      have hjl : js.length ≤ i := by omega
      obtain ⟨js2, l2, bb, hW, hpw2, hrg2, hsum2, hl2a, hl2b, htop2⟩ := hand_js (mode := 2) (by decide) (room := clampR room) (clampR_le room).1 (l := l) hp52 hp53 hp54
      have hjl2 : js2.length ≤ i + 1 := by omega
      refine O_p (.p (some (F6, 0))) (r_mv hT66) ?_
      refine O_p (.i .i64 (((i : Nat)) : Int)) (r_mv hT69) ?_
      refine O_p (.i .u8 ((UInt8.ofNat (i % 256)).toNat : Int)) (by exact (by rw [u8_lo]; exact r_cint rfl)) ?_
      refine O_bslice (c := [(.i .u8 ((UInt8.ofNat (i % 256)).toNat : Int))]) rfl fun n72 H73 hN74 => ?_
      have hH75 := hH70.new hN74
      have hH76 := ((((((hH75.top6).top6).top6).top6).top6).top6)
      have hH77 := (((((((hH76.top6).top6).top6).top6).top6).top6).top6)
      refine O_call (Ev.mono (publish_ev (room := clampR room) (n := i) (tp := [116]) (dd := bd i) (tx := false) (da := some (n72, 0)) (dc := 1) (dg := 0) (B := [(n72, some (.cells [.i .u8 ((UInt8.ofNat (i % 256)).toNat : Int)] true))]) (w := js.map itT) (g := some (2, false)) (lost := l) hp46 hp47 (by omega) (by decide) (by show 1 ≤ 16384; decide) (.inl rfl) (Nat.le_refl 1) (by decide) (fun H' hh => octs1 (Hs.get (R := []) (by rw [List.append_nil]; exact hh))) hp50 hp51 hp48 hp49 (fun mode f h => by cases h; decide) (fun y hy => by obtain ⟨z, _, rfl⟩ := List.mem_map.1 hy; rfl) (clampR_le room).1 ⟨by omega, by omega⟩ (by rw [List.length_map]; omega) hH77) fun v78 H79 hq80 => ?_)
      rw [hW] at hq80
      obtain ⟨D81, cb82, mb83, ml84, cl85, v86, c87, rows88, rfl, hm89, hcb90, hcg91, hMb92, hmg93, hsq94, hir95, hH96⟩ := hq80
      refine O_nil ?_
      refine C_seq ?_
      refine C_region ?_
      refine O_p (.i .i64 0) (r_mv rfl) ?_
      refine O_nil ?_
      refine C_seq ?_
      refine C_seq ?_
      refine C_region ?_
      refine O_p (.i .i64 (((i : Nat)) : Int)) (r_mv hT69) ?_
      refine O_p pv (r_mv hT60) ?_
      refine O_p (.i .i64 (((pl.length : Nat)) : Int)) (r_lenOf (v := pv) (n := pl.length) rfl ((hpv _ hH96.top7.fst).lenOf (List.length_map ..)) (hpv _ hH96.top7.fst).isSl) ?_
      refine O_p (.b (decide ((((i : Nat)) : Int) < (((pl.length : Nat)) : Int)))) (r_lss rfl rfl) ?_
      refine O_nil ?_
      refine C_cond (x := (decide ((((i : Nat)) : Int) < (((pl.length : Nat)) : Int)))) rfl (fun hc97 => ?_) (fun hc97 => ?_)
      ·
        try simp only [decide_eq_true_eq, decide_eq_false_iff_not, Bool.not_eq_true', Bool.not_eq_false', Bool.and_eq_true, Bool.or_eq_true, Bool.or_eq_false_iff, Bool.not_not, Bool.and_eq_false_iff] at hc97
        refine C_region ?_
        refine O_p pv (r_mv hT60) ?_
        refine O_p (.i .i64 (((i : Nat)) : Int)) (r_mv hT69) ?_
        refine O_q (by exact Rw.row (hpv _ hH96.top7.fst) rfl (i := i) rfl (r := [(.i .i64 (pl.getD i 0))]) (seq_row (by omega))) fun v99 hv98 => ?_
        obtain ⟨rb100, ro101, rfl, hr102⟩ := hv98
        refine O_p (.i .i64 (pl.getD i 0)) (r_ldR (q := 0) rfl (hr102 _ (hpv _ hH96.top7.fst)) rfl) ?_
        obtain ⟨q103, hq103, hlq103⟩ := and_nat (pl.getD i 0) 3 (by decide)
        refine O_p (.i .i64 (((q103 : Nat)) : Int)) (by exact (by rw [← hq103]; exact r_bin rfl rfl rfl)) ?_
        refine O_p (.i .i64 (((q103 : Nat)) : Int)) (r_mv rfl) ?_
        refine O_nil ?_
        refine C_seq ?_
        refine C_region ?_
        refine O_p (.i .i64 0) (r_mv rfl) ?_
        refine O_nil ?_
        refine C_block ?_
        have hH104 := (hH96.sub6)
        have hH105 := (((((((hH104.top6).top6).top6).top6).top6).top6).top6)
        refine C_while (fun m106 T107 H108 => ∃ at2 : Nat, ∃ w : AV, ∃ wc : List AV, ∃ wr : List (List AV), ∃ js3 : List Nat, ∃ got2 : Nat, ∃ j : Nat, m106 = js3.length ∧ Sq 5 w wc wr.flatten ∧ ItsR D81 wr (js3.map itT) ∧ js3.Pairwise (· < ·) ∧ (∀ x ∈ js3, at2 ≤ x ∧ x < i + 1) ∧ at2 ≤ i + 1 ∧ ((got2 : Nat) : Int) + l2 + ((js3.length : Nat) : Int) = ((i : Nat) : Int) + 1 ∧ (((2 : Int) = 2) → top js3 at2 = i + 1) ∧ j + js3.length ≤ 200 ∧ Hs H108 ([(F6, some (.cells ([(.sl (some (Lb7, 0)) 3 3 0), (.i .i64 (((clampR room) : Nat) : Int)), (.m (some cm8))]) true))] ++ ([(Lb7, some (.cells (([(prow true (some mr17) (.sl none 0 0 0) 0), (prow true (some mr26) w l2), zrow] : List (List AV)).flatten) true))] ++ ([(cm8, some cb82)] ++ ([(mr26, some mb83)] ++ ((qseg w wc) ++ (D81 ++ ((allL H0) ++ ([])))))))) ∧ T107.get 0 = (.i .i64 room) ∧ T107.get 1 = pv ∧ T107.get 2 = (.i .i64 n0) ∧ T107.get 3 = (.b false) ∧ T107.get 8 = (.b false) ∧ T107.get 9 = (.b true) ∧ T107.get 10 = (.i .i64 (((q1 : Nat)) : Int)) ∧ T107.get 11 = (.p (some (F6, 0))) ∧ T107.get 15 = (.i .i64 (((i : Nat)) : Int)) ∧ T107.get 16 = (.i .i64 (((q103 : Nat)) : Int)) ∧ T107.get 13 = (.i .i64 (((at2 : Nat) : Int) - 1)) ∧ T107.get 14 = (.i .i64 (((got2 : Nat)) : Int)) ∧ T107.get 17 = (.i .i64 (((j : Nat)) : Int))) (fun m106 T107 H108 hI109 => ?_) js2.length _ _ ⟨att, v86, c87, rows88, js2, got, 0, rfl, hsq94, hir95, hpw2, hrg2, by omega, by omega, htop2, by omega, hH105, hT59, hT60, hT61, hT62, hT63, hT64, hT65, hT66, hT69, rfl, hT67, hT68, rfl⟩
        obtain ⟨at2, w, wc, wr, js3, got2, j, hm110, hp111, hp112, hp113, hp114, hp115, hp116, hp117, hp118, hH132, hT119, hT120, hT121, hT122, hT123, hT124, hT125, hT126, hT127, hT128, hT129, hT130, hT131⟩ := hI109
        refine C_seq ?_
        refine C_seq ?_
        refine C_region ?_
        refine O_p (.i .i64 (((j : Nat)) : Int)) (r_mv hT131) ?_
        refine O_p (.i .i64 (((q103 : Nat)) : Int)) (r_mv hT128) ?_
        refine O_p (.b (decide ((((j : Nat)) : Int) < (((q103 : Nat)) : Int)))) (r_lss rfl rfl) ?_
        refine O_p (.b (decide ((((j : Nat)) : Int) < (((q103 : Nat)) : Int)))) (r_mv rfl) ?_
        refine O_gx (e := (!(decide ((((j : Nat)) : Int) < (((q103 : Nat)) : Int))))) (v := (.i .i64 (((i : Nat)) : Int))) (wf rfl) (fun he => (r_mv hT127)) ?_
        refine O_gx (e := (!(decide ((((j : Nat)) : Int) < (((q103 : Nat)) : Int))))) (v := (.i .i64 (((q1 : Nat)) : Int))) (wf rfl) (fun he => (r_mv hT125)) ?_
        refine O_gx (e := (!(decide ((((j : Nat)) : Int) < (((q103 : Nat)) : Int))))) (v := (.i .i64 ((((q1 - 1) : Nat)) : Int))) (wf rfl) (fun he => (by exact (r_subn (a := q1) (b := 1) (cond_pos he) rfl (by omega) (by omega)))) ?_
        refine O_gx (e := (!(decide ((((j : Nat)) : Int) < (((q103 : Nat)) : Int))))) (v := (.b (decide ((((i : Nat)) : Int) = ((((q1 - 1) : Nat)) : Int))))) (wf rfl) (fun he => (r_eql (cond_pos he) (cond_pos he))) ?_
        refine O_p (.b ((decide ((((j : Nat)) : Int) < (((q103 : Nat)) : Int))) || (decide ((((i : Nat)) : Int) = ((((q1 - 1) : Nat)) : Int))))) (r_pick_or rfl rfl rfl rfl) ?_
        refine O_nil ?_
        refine C_cond (x := ((decide ((((j : Nat)) : Int) < (((q103 : Nat)) : Int))) || (decide ((((i : Nat)) : Int) = ((((q1 - 1) : Nat)) : Int))))) rfl (fun hc133 => ?_) (fun hc133 => ?_)
        ·
          try simp only [decide_eq_true_eq, decide_eq_false_iff_not, Bool.not_eq_true', Bool.not_eq_false', Bool.and_eq_true, Bool.or_eq_true, Bool.or_eq_false_iff, Bool.not_not, Bool.and_eq_false_iff] at hc133
          refine C_skip ?_
          refine C_seq ?_
          refine C_block ?_
          refine C_seq ?_
          by_cases hjn : js3 = []
          ·
            have hp3 := hp112
            rw [hjn] at hp3
            obtain rfl : wr = [] := List.length_eq_zero_iff.1 hp3.1
            refine C_region ?_
            refine O_p (.p (some (F6, 0))) (r_mv hT126) ?_
            have hall134 : ∀ x ∈ ([(prow true (some mr17) (.sl none 0 0 0) 0), (prow true (some mr26) w l2), zrow] : List (List AV)), x.length = 4 := fun x hx => by simp only [List.mem_cons, List.not_mem_nil, or_false] at hx; rcases hx with rfl | rfl | rfl <;> rfl
            have hH135 := (((hH132.top4).top2).top2)
            have hH136 : Hs H108 ([(F6, some (.cells ([(.sl (some (Lb7, 0)) 3 3 0), (.i .i64 (((clampR room) : Nat) : Int)), (.m (some cm8))]) true))] ++ ([(Lb7, some (.cells ((([(prow true (some mr17) (.sl none 0 0 0) 0), (prow true (some mr26) w l2), zrow] : List (List AV)).set 1 (prow true (some mr26) w l2)).flatten) true))] ++ ((qseg w wc) ++ ([(cm8, some cb82)] ++ ([(mr26, some mb83)] ++ (D81 ++ ((allL H0) ++ ([])))))))) := hH135
            have hH137 := (((hH136.top2).top2).top2)
            refine O_call (Ev.mono (pull0_ev (np := 3) (i := 1) (rws := ([(prow true (some mr17) (.sl none 0 0 0) 0), (prow true (some mr26) w l2), zrow] : List (List AV))) (by decide) hall134 (Nat.le_of_ble_eq_true rfl) hp111 hH137) fun v138 H139 hq140 => ?_)
            obtain ⟨rfl, hH141⟩ := hq140
            refine O_p (.tup [(.agg [(.s (txt [])), (.i .i64 0), (.i .i64 0), (.b false), (.sl none 0 0 0)]), (.b false)]) (r_mv rfl) ?_
            refine O_p (.agg [(.s (txt [])), (.i .i64 0), (.i .i64 0), (.b false), (.sl none 0 0 0)]) (r_ext rfl rfl) ?_
            refine O_p (.b false) (r_ext rfl rfl) ?_
            refine O_alloc fun n142 H143 hN144 => ?_
            have hH145 := hH141.new hN144
            refine O_store (vs := [(.s (txt [])), (.i .i64 0), (.i .i64 0), (.b false), (.sl none 0 0 0)]) (c' := [(.s (txt [])), (.i .i64 0), (.i .i64 0), (.b false), (.sl none 0 0 0)]) rfl (by rfl) hH145.get0 rfl (List.cons_ne_nil _ _) (Nat.le_of_ble_eq_true rfl) rfl fun H146 hW147 => ?_
            have hH148 := hH145.wr0 hW147
            refine O_p (.b false) (r_mv rfl) ?_
            refine O_nil ?_
            refine C_seq ?_
            refine C_seq ?_
            refine C_region ?_
            refine O_p (.b false) (r_mv rfl) ?_
            refine O_p (.b true) (r_un rfl rfl) ?_
            refine O_nil ?_
            refine C_cond (x := true) rfl (fun _ => ?_) (fun h => by cases h)
            refine C_exit ?_
            refine nx_exit ?_
            refine bk_miss (by decide) ?_
            refine nx_exit ?_
            refine nx_exit ?_
            refine bk_hit ?_
            refine C_region ?_
            refine O_p (.i .i64 (((i : Nat)) : Int)) (r_mv hT127) ?_
            refine O_p (.i .i64 ((((i : Nat)) : Int) + 1)) (by exact (r_addi rfl rfl (wrap_i64 (by omega) (by omega)))) ?_
            refine O_p (.i .i64 ((((i : Nat)) : Int) + 1)) (r_mv rfl) ?_
            refine O_nil ?_
            have hH149 := (hH148.sub0)
            have hH150 := (((((((hH149.top6).top6).top4).top6).top6).top6).top6)
            exact ⟨q1 - (i + 1), by omega, cb82, cl85, mb83, ml84, w, wc, ([] : List (List AV)), js3, l2, D81, at2, got2, (i + 1), rfl, by omega, hcb90, hcg91, hMb92, hmg93, hp111, hp112, hp113, hp114, by omega, by omega, by omega, hp117, fun h => by first | exact hjn | (exfalso; omega), hH150, hT119, hT120, hT121, hT122, hT123, hT124, hT125, hT126, hT129, hT130, rfl⟩
          ·
            obtain ⟨j0, js4, rfl⟩ : ∃ x y, js3 = x :: y := by
              cases js3 with
              | nil => exact absurd rfl hjn
              | cons x y => exact ⟨x, y, rfl⟩
            have hp3 := hp112
            obtain ⟨r0, rz, rfl⟩ : ∃ r rz, wr = r :: rz := by
              cases wr with
              | nil => have := hp3.1; simp at this
              | cons r rz => exact ⟨r, rz, rfl⟩
            have hl50 := hp3.lens
            have hpt := hp3.tail
            obtain ⟨rr, hrr, hpk⟩ := hp3.2 0 _ rfl
            simp only [List.getElem?_cons_zero, Option.some.injEq] at hrr
            subst hrr
            obtain ⟨ka, kc, kg, rfl, hkg, _, _, hkb⟩ := hpk
            obtain ⟨hlt4, hpw4⟩ := List.pairwise_cons.1 hp113
            have hj0 := hp114 j0 (List.mem_cons_self ..)
            have hrg4 : ∀ x ∈ js4, j0 + 1 ≤ x ∧ x < i + 1 := fun x hx => ⟨hlt4 x hx, (hp114 x (List.mem_cons_of_mem _ hx)).2⟩
            have hlc : (j0 :: js4).length = js4.length + 1 := rfl
            have hbl : (bd j0).length = 1 := rfl
            refine C_region ?_
            refine O_p (.p (some (F6, 0))) (r_mv hT126) ?_
            have hall151 : ∀ x ∈ ([(prow true (some mr17) (.sl none 0 0 0) 0), (prow true (some mr26) w l2), zrow] : List (List AV)), x.length = 4 := fun x hx => by simp only [List.mem_cons, List.not_mem_nil, or_false] at hx; rcases hx with rfl | rfl | rfl <;> rfl
            have hH152 := (((hH132.top4).top2).top2)
            have hH153 : Hs H108 ([(F6, some (.cells ([(.sl (some (Lb7, 0)) 3 3 0), (.i .i64 (((clampR room) : Nat) : Int)), (.m (some cm8))]) true))] ++ ([(Lb7, some (.cells ((([(prow true (some mr17) (.sl none 0 0 0) 0), (prow true (some mr26) w l2), zrow] : List (List AV)).set 1 (prow true (some mr26) w l2)).flatten) true))] ++ ((qseg w wc) ++ ([(cm8, some cb82)] ++ ([(mr26, some mb83)] ++ (D81 ++ ((allL H0) ++ ([])))))))) := hH152
            have hH154 := (((hH153.top2).top2).top2)
            refine O_call (Ev.mono (pull_ev (np := 3) (i := 1) (rws := ([(prow true (some mr17) (.sl none 0 0 0) 0), (prow true (some mr26) w l2), zrow] : List (List AV))) (by decide) hall151 (Nat.le_of_ble_eq_true rfl) hp111 hl50 hH154) fun v155 H156 hq157 => ?_)
            obtain ⟨v158, c159, rfl, hsq160, hH161⟩ := hq157
            refine O_p (.tup [(.agg [(.s (txt [116])), (.i .i64 0), (.i .i64 ((j0 : Nat) : Int)), (.b false), (.sl ka 1 kc kg)]), (.b true)]) (r_mv rfl) ?_
            refine O_p (.agg [(.s (txt [116])), (.i .i64 0), (.i .i64 ((j0 : Nat) : Int)), (.b false), (.sl ka 1 kc kg)]) (r_ext rfl rfl) ?_
            refine O_p (.b true) (r_ext rfl rfl) ?_
            refine O_alloc fun n162 H163 hN164 => ?_
            have hH165 := hH161.new hN164
            refine O_store (vs := [(.s (txt [116])), (.i .i64 0), (.i .i64 ((j0 : Nat) : Int)), (.b false), (.sl ka 1 kc kg)]) (c' := [(.s (txt [116])), (.i .i64 0), (.i .i64 ((j0 : Nat) : Int)), (.b false), (.sl ka 1 kc kg)]) rfl (by rfl) hH165.get0 rfl (List.cons_ne_nil _ _) (Nat.le_of_ble_eq_true rfl) rfl fun H166 hW167 => ?_
            have hH168 := hH165.wr0 hW167
            refine O_p (.b true) (r_mv rfl) ?_
            refine O_nil ?_
            refine C_seq ?_
            refine C_seq ?_
            refine C_region ?_
            refine O_p (.b true) (r_mv rfl) ?_
            refine O_p (.b false) (r_un rfl rfl) ?_
            refine O_nil ?_
            refine C_cond (x := false) rfl (fun h => by cases h) (fun _ => ?_)
            refine C_skip ?_
            refine C_seq ?_
            refine C_seq ?_
            refine C_draw fun b169 H170 hbase171 hA172 => ?_
            have hH173 := hH168.keep (by have := hA172.1; omega) (fun q _ => hA172.2 q) ((hH168.old).aside hA172).ok
            refine D_l (v := (.p (some (n162, 2)))) rfl rfl rfl (r_fadd' rfl rfl) ?_
            refine D_l (v := (.i .i64 (((at2 : Nat) : Int) - 1))) rfl rfl rfl (r_mv hT129) ?_
            refine D_r (v := (.i .i64 ((j0 : Nat) : Int))) rfl rfl rfl (r_ld rfl hH173.get0 rfl) ?_
            refine D_l (v := (.b false)) rfl rfl rfl (by exact (by rw [r_leq rfl rfl, decide_eq_false (by omega)])) ?_
            refine D_l (v := (.b false)) rfl rfl rfl (r_mv rfl) ?_
            refine D_gk rfl ?_
            refine D_l (v := (.p (some (n162, 4)))) rfl rfl rfl (r_fadd' rfl rfl) ?_
            refine D_gk rfl ?_
            refine D_r (v := (.sl ka 1 kc kg)) rfl rfl rfl (r_ld rfl hH173.get0 rfl) ?_
            refine D_gk rfl ?_
            refine D_l (v := (.i .i64 1)) rfl rfl rfl (r_len rfl) ?_
            refine D_gk rfl ?_
            refine D_l (v := (.b false)) rfl rfl rfl (r_bin rfl rfl rfl) ?_
            refine D_l (v := (.b false)) rfl rfl rfl (r_pick_f rfl rfl) ?_
            refine D_l (v := (.b false)) rfl rfl rfl (r_mv rfl) ?_
            refine D_gk rfl ?_
            refine D_l (v := (.p (some (n162, 4)))) rfl rfl rfl (r_fadd' rfl rfl) ?_
            refine D_gk rfl ?_
            refine D_l (v := (.p (some (n162, 2)))) rfl rfl rfl (r_fadd' rfl rfl) ?_
            refine D_gk rfl ?_
            refine D_r (v := (.sl ka 1 kc kg)) rfl rfl rfl (r_ld rfl hH173.get0 rfl) ?_
            refine D_gk rfl ?_
            refine D_q rfl rfl rfl (by exact Bs.ix (hkb _ hH173.top6.fst) rfl (i := 0) rfl (by first | omega | (simp only [List.length_take, List.length_drop, List.length_append, List.length_cons, List.length_nil, beN_len] <;> omega))) fun v175 hv174 => ?_
            refine D_gk rfl ?_
            refine D_r (v := (.i .u8 (((bd j0).getD 0 0).toNat : Int))) rfl rfl rfl (hv174.load rfl) ?_
            refine D_gk rfl ?_
            refine D_r (v := (.i .i64 ((j0 : Nat) : Int))) rfl rfl rfl (r_ld rfl hH173.get0 rfl) ?_
            refine D_gk rfl ?_
            refine D_l (v := (.i .u8 ((UInt8.ofNat (j0 % 256)).toNat : Int))) rfl rfl rfl (by exact (by rw [u8_lo]; exact r_cint rfl)) ?_
            refine D_gk rfl ?_
            refine D_l (v := (.b false)) rfl rfl rfl (by exact (by rw [r_neq rfl rfl, decide_eq_true (show (((bd j0).getD 0 0).toNat : Int) = ((UInt8.ofNat (j0 % 256)).toNat : Int) from rfl)]; rfl)) ?_
            refine D_l (v := (.b false)) rfl rfl rfl (r_pick_f rfl rfl) ?_
            refine D_nil ?_
            refine C_cond (x := false) rfl (fun h => by cases h) (fun _ => ?_)
            refine C_skip ?_
            refine C_seq ?_
            refine C_region ?_
            refine O_p (.p (some (n162, 2))) (r_fadd' rfl rfl) ?_
            refine O_p (.i .i64 ((j0 : Nat) : Int)) (r_ld rfl hH173.get0 rfl) ?_
            refine O_p (.i .i64 ((j0 : Nat) : Int)) (r_mv rfl) ?_
            refine O_nil ?_
            refine C_region ?_
            refine O_p (.i .i64 (((got2 : Nat)) : Int)) (r_mv hT130) ?_
            refine O_p (.i .i64 ((((got2 : Nat)) : Int) + 1)) (by exact (r_addi rfl rfl (wrap_i64 (by omega) (by omega)))) ?_
            refine O_p (.i .i64 ((((got2 : Nat)) : Int) + 1)) (r_mv rfl) ?_
            refine O_nil ?_
            refine C_region ?_
            refine O_p (.i .i64 (((j : Nat)) : Int)) (r_mv hT131) ?_
            refine O_p (.i .i64 ((((j : Nat)) : Int) + 1)) (by exact (r_addi rfl rfl (wrap_i64 (by omega) (by omega)))) ?_
            refine O_p (.i .i64 ((((j : Nat)) : Int) + 1)) (r_mv rfl) ?_
            refine O_nil ?_
            have hH176 := (hH173.sub0)
            have hH177 := (((((((hH176.top6).top6).top4).top6).top6).top6).top6)
            exact ⟨js4.length, by omega, (j0 + 1), v158, c159, rz, js4, (got2 + 1), (j + 1), rfl, hsq160, hpt, hpw4, hrg4, by omega, by omega, fun h => by have := hp117 h; rw [top_cons] at this; exact this, by omega, hH177, hT119, hT120, hT121, hT122, hT123, hT124, hT125, hT126, hT127, hT128, (by rw [show (((j0 + 1 : Nat) : Int) - 1) = ((j0 : Nat) : Int) by omega]; exact rfl), rfl, rfl⟩
        ·
          try simp only [decide_eq_true_eq, decide_eq_false_iff_not, Bool.not_eq_true', Bool.not_eq_false', Bool.and_eq_true, Bool.or_eq_true, Bool.or_eq_false_iff, Bool.not_not, Bool.and_eq_false_iff] at hc133
          refine C_exit ?_
          refine nx_exit ?_
          refine nx_exit ?_
          refine bk_hit ?_
          refine C_region ?_
          refine O_p (.i .i64 (((i : Nat)) : Int)) (r_mv hT127) ?_
          refine O_p (.i .i64 ((((i : Nat)) : Int) + 1)) (by exact (r_addi rfl rfl (wrap_i64 (by omega) (by omega)))) ?_
          refine O_p (.i .i64 ((((i : Nat)) : Int) + 1)) (r_mv rfl) ?_
          refine O_nil ?_
          have hH178 := (((((((hH132.top6).top6).top6).top6).top6).top6).top6)
          exact ⟨q1 - (i + 1), by omega, cb82, cl85, mb83, ml84, w, wc, wr, js3, l2, D81, at2, got2, (i + 1), rfl, by omega, hcb90, hcg91, hMb92, hmg93, hp111, hp112, hp113, hp114, by omega, by omega, by omega, hp117, fun h => by first | exact hnone | (exfalso; omega), hH178, hT119, hT120, hT121, hT122, hT123, hT124, hT125, hT126, hT129, hT130, rfl⟩
      ·
        try simp only [decide_eq_true_eq, decide_eq_false_iff_not, Bool.not_eq_true', Bool.not_eq_false', Bool.and_eq_true, Bool.or_eq_true, Bool.or_eq_false_iff, Bool.not_not, Bool.and_eq_false_iff] at hc97
        refine C_skip ?_
        refine C_seq ?_
        refine C_region ?_
        refine O_p (.i .i64 0) (r_mv rfl) ?_
        refine O_nil ?_
        refine C_block ?_
        have hH179 := (hH96.sub6)
        have hH180 := (((((((hH179.top6).top6).top6).top6).top6).top6).top6)
        refine C_while (fun m181 T182 H183 => ∃ at2 : Nat, ∃ w : AV, ∃ wc : List AV, ∃ wr : List (List AV), ∃ js3 : List Nat, ∃ got2 : Nat, ∃ j : Nat, m181 = js3.length ∧ Sq 5 w wc wr.flatten ∧ ItsR D81 wr (js3.map itT) ∧ js3.Pairwise (· < ·) ∧ (∀ x ∈ js3, at2 ≤ x ∧ x < i + 1) ∧ at2 ≤ i + 1 ∧ ((got2 : Nat) : Int) + l2 + ((js3.length : Nat) : Int) = ((i : Nat) : Int) + 1 ∧ (((2 : Int) = 2) → top js3 at2 = i + 1) ∧ j + js3.length ≤ 200 ∧ Hs H183 ([(F6, some (.cells ([(.sl (some (Lb7, 0)) 3 3 0), (.i .i64 (((clampR room) : Nat) : Int)), (.m (some cm8))]) true))] ++ ([(Lb7, some (.cells (([(prow true (some mr17) (.sl none 0 0 0) 0), (prow true (some mr26) w l2), zrow] : List (List AV)).flatten) true))] ++ ([(cm8, some cb82)] ++ ([(mr26, some mb83)] ++ ((qseg w wc) ++ (D81 ++ ((allL H0) ++ ([])))))))) ∧ T182.get 0 = (.i .i64 room) ∧ T182.get 1 = pv ∧ T182.get 2 = (.i .i64 n0) ∧ T182.get 3 = (.b false) ∧ T182.get 8 = (.b false) ∧ T182.get 9 = (.b true) ∧ T182.get 10 = (.i .i64 (((q1 : Nat)) : Int)) ∧ T182.get 11 = (.p (some (F6, 0))) ∧ T182.get 15 = (.i .i64 (((i : Nat)) : Int)) ∧ T182.get 16 = (.i .i64 0) ∧ T182.get 13 = (.i .i64 (((at2 : Nat) : Int) - 1)) ∧ T182.get 14 = (.i .i64 (((got2 : Nat)) : Int)) ∧ T182.get 17 = (.i .i64 (((j : Nat)) : Int))) (fun m181 T182 H183 hI184 => ?_) js2.length _ _ ⟨att, v86, c87, rows88, js2, got, 0, rfl, hsq94, hir95, hpw2, hrg2, by omega, by omega, htop2, by omega, hH180, hT59, hT60, hT61, hT62, hT63, hT64, hT65, hT66, hT69, rfl, hT67, hT68, rfl⟩
        obtain ⟨at2, w, wc, wr, js3, got2, j, hm185, hp186, hp187, hp188, hp189, hp190, hp191, hp192, hp193, hH207, hT194, hT195, hT196, hT197, hT198, hT199, hT200, hT201, hT202, hT203, hT204, hT205, hT206⟩ := hI184
        refine C_seq ?_
        refine C_seq ?_
        refine C_region ?_
        refine O_p (.i .i64 (((j : Nat)) : Int)) (r_mv hT206) ?_
        refine O_p (.i .i64 0) (r_mv hT203) ?_
        refine O_p (.b false) (by exact (by rw [r_lss rfl rfl, decide_eq_false (by omega)])) ?_
        refine O_p (.b false) (r_mv rfl) ?_
        refine O_gk rfl ?_
        refine O_p (.i .i64 (((i : Nat)) : Int)) (r_mv hT202) ?_
        refine O_gk rfl ?_
        refine O_p (.i .i64 (((q1 : Nat)) : Int)) (r_mv hT200) ?_
        refine O_gk rfl ?_
        refine O_p (.i .i64 ((((q1 - 1) : Nat)) : Int)) (by exact (r_subn (a := q1) (b := 1) rfl rfl (by omega) (by omega))) ?_
        refine O_gk rfl ?_
        refine O_p (.b (decide ((((i : Nat)) : Int) = ((((q1 - 1) : Nat)) : Int)))) (r_eql rfl rfl) ?_
        refine O_p (.b (decide ((((i : Nat)) : Int) = ((((q1 - 1) : Nat)) : Int)))) (r_pick_f rfl rfl) ?_
        refine O_nil ?_
        refine C_cond (x := (decide ((((i : Nat)) : Int) = ((((q1 - 1) : Nat)) : Int)))) rfl (fun hc208 => ?_) (fun hc208 => ?_)
        ·
          try simp only [decide_eq_true_eq, decide_eq_false_iff_not, Bool.not_eq_true', Bool.not_eq_false', Bool.and_eq_true, Bool.or_eq_true, Bool.or_eq_false_iff, Bool.not_not, Bool.and_eq_false_iff] at hc208
          refine C_skip ?_
          refine C_seq ?_
          refine C_block ?_
          refine C_seq ?_
          by_cases hjn : js3 = []
          ·
            have hp3 := hp187
            rw [hjn] at hp3
            obtain rfl : wr = [] := List.length_eq_zero_iff.1 hp3.1
            refine C_region ?_
            refine O_p (.p (some (F6, 0))) (r_mv hT201) ?_
            have hall209 : ∀ x ∈ ([(prow true (some mr17) (.sl none 0 0 0) 0), (prow true (some mr26) w l2), zrow] : List (List AV)), x.length = 4 := fun x hx => by simp only [List.mem_cons, List.not_mem_nil, or_false] at hx; rcases hx with rfl | rfl | rfl <;> rfl
            have hH210 := (((hH207.top4).top2).top2)
            have hH211 : Hs H183 ([(F6, some (.cells ([(.sl (some (Lb7, 0)) 3 3 0), (.i .i64 (((clampR room) : Nat) : Int)), (.m (some cm8))]) true))] ++ ([(Lb7, some (.cells ((([(prow true (some mr17) (.sl none 0 0 0) 0), (prow true (some mr26) w l2), zrow] : List (List AV)).set 1 (prow true (some mr26) w l2)).flatten) true))] ++ ((qseg w wc) ++ ([(cm8, some cb82)] ++ ([(mr26, some mb83)] ++ (D81 ++ ((allL H0) ++ ([])))))))) := hH210
            have hH212 := (((hH211.top2).top2).top2)
            refine O_call (Ev.mono (pull0_ev (np := 3) (i := 1) (rws := ([(prow true (some mr17) (.sl none 0 0 0) 0), (prow true (some mr26) w l2), zrow] : List (List AV))) (by decide) hall209 (Nat.le_of_ble_eq_true rfl) hp186 hH212) fun v213 H214 hq215 => ?_)
            obtain ⟨rfl, hH216⟩ := hq215
            refine O_p (.tup [(.agg [(.s (txt [])), (.i .i64 0), (.i .i64 0), (.b false), (.sl none 0 0 0)]), (.b false)]) (r_mv rfl) ?_
            refine O_p (.agg [(.s (txt [])), (.i .i64 0), (.i .i64 0), (.b false), (.sl none 0 0 0)]) (r_ext rfl rfl) ?_
            refine O_p (.b false) (r_ext rfl rfl) ?_
            refine O_alloc fun n217 H218 hN219 => ?_
            have hH220 := hH216.new hN219
            refine O_store (vs := [(.s (txt [])), (.i .i64 0), (.i .i64 0), (.b false), (.sl none 0 0 0)]) (c' := [(.s (txt [])), (.i .i64 0), (.i .i64 0), (.b false), (.sl none 0 0 0)]) rfl (by rfl) hH220.get0 rfl (List.cons_ne_nil _ _) (Nat.le_of_ble_eq_true rfl) rfl fun H221 hW222 => ?_
            have hH223 := hH220.wr0 hW222
            refine O_p (.b false) (r_mv rfl) ?_
            refine O_nil ?_
            refine C_seq ?_
            refine C_seq ?_
            refine C_region ?_
            refine O_p (.b false) (r_mv rfl) ?_
            refine O_p (.b true) (r_un rfl rfl) ?_
            refine O_nil ?_
            refine C_cond (x := true) rfl (fun _ => ?_) (fun h => by cases h)
            refine C_exit ?_
            refine nx_exit ?_
            refine bk_miss (by decide) ?_
            refine nx_exit ?_
            refine nx_exit ?_
            refine bk_hit ?_
            refine C_region ?_
            refine O_p (.i .i64 (((i : Nat)) : Int)) (r_mv hT202) ?_
            refine O_p (.i .i64 ((((i : Nat)) : Int) + 1)) (by exact (r_addi rfl rfl (wrap_i64 (by omega) (by omega)))) ?_
            refine O_p (.i .i64 ((((i : Nat)) : Int) + 1)) (r_mv rfl) ?_
            refine O_nil ?_
            have hH224 := (hH223.sub0)
            have hH225 := (((((((hH224.top6).top6).top4).top6).top6).top6).top6)
            exact ⟨q1 - (i + 1), by omega, cb82, cl85, mb83, ml84, w, wc, ([] : List (List AV)), js3, l2, D81, at2, got2, (i + 1), rfl, by omega, hcb90, hcg91, hMb92, hmg93, hp186, hp187, hp188, hp189, by omega, by omega, by omega, hp192, fun h => by first | exact hjn | (exfalso; omega), hH225, hT194, hT195, hT196, hT197, hT198, hT199, hT200, hT201, hT204, hT205, rfl⟩
          ·
            obtain ⟨j0, js4, rfl⟩ : ∃ x y, js3 = x :: y := by
              cases js3 with
              | nil => exact absurd rfl hjn
              | cons x y => exact ⟨x, y, rfl⟩
            have hp3 := hp187
            obtain ⟨r0, rz, rfl⟩ : ∃ r rz, wr = r :: rz := by
              cases wr with
              | nil => have := hp3.1; simp at this
              | cons r rz => exact ⟨r, rz, rfl⟩
            have hl50 := hp3.lens
            have hpt := hp3.tail
            obtain ⟨rr, hrr, hpk⟩ := hp3.2 0 _ rfl
            simp only [List.getElem?_cons_zero, Option.some.injEq] at hrr
            subst hrr
            obtain ⟨ka, kc, kg, rfl, hkg, _, _, hkb⟩ := hpk
            obtain ⟨hlt4, hpw4⟩ := List.pairwise_cons.1 hp188
            have hj0 := hp189 j0 (List.mem_cons_self ..)
            have hrg4 : ∀ x ∈ js4, j0 + 1 ≤ x ∧ x < i + 1 := fun x hx => ⟨hlt4 x hx, (hp189 x (List.mem_cons_of_mem _ hx)).2⟩
            have hlc : (j0 :: js4).length = js4.length + 1 := rfl
            have hbl : (bd j0).length = 1 := rfl
            refine C_region ?_
            refine O_p (.p (some (F6, 0))) (r_mv hT201) ?_
            have hall226 : ∀ x ∈ ([(prow true (some mr17) (.sl none 0 0 0) 0), (prow true (some mr26) w l2), zrow] : List (List AV)), x.length = 4 := fun x hx => by simp only [List.mem_cons, List.not_mem_nil, or_false] at hx; rcases hx with rfl | rfl | rfl <;> rfl
            have hH227 := (((hH207.top4).top2).top2)
            have hH228 : Hs H183 ([(F6, some (.cells ([(.sl (some (Lb7, 0)) 3 3 0), (.i .i64 (((clampR room) : Nat) : Int)), (.m (some cm8))]) true))] ++ ([(Lb7, some (.cells ((([(prow true (some mr17) (.sl none 0 0 0) 0), (prow true (some mr26) w l2), zrow] : List (List AV)).set 1 (prow true (some mr26) w l2)).flatten) true))] ++ ((qseg w wc) ++ ([(cm8, some cb82)] ++ ([(mr26, some mb83)] ++ (D81 ++ ((allL H0) ++ ([])))))))) := hH227
            have hH229 := (((hH228.top2).top2).top2)
            refine O_call (Ev.mono (pull_ev (np := 3) (i := 1) (rws := ([(prow true (some mr17) (.sl none 0 0 0) 0), (prow true (some mr26) w l2), zrow] : List (List AV))) (by decide) hall226 (Nat.le_of_ble_eq_true rfl) hp186 hl50 hH229) fun v230 H231 hq232 => ?_)
            obtain ⟨v233, c234, rfl, hsq235, hH236⟩ := hq232
            refine O_p (.tup [(.agg [(.s (txt [116])), (.i .i64 0), (.i .i64 ((j0 : Nat) : Int)), (.b false), (.sl ka 1 kc kg)]), (.b true)]) (r_mv rfl) ?_
            refine O_p (.agg [(.s (txt [116])), (.i .i64 0), (.i .i64 ((j0 : Nat) : Int)), (.b false), (.sl ka 1 kc kg)]) (r_ext rfl rfl) ?_
            refine O_p (.b true) (r_ext rfl rfl) ?_
            refine O_alloc fun n237 H238 hN239 => ?_
            have hH240 := hH236.new hN239
            refine O_store (vs := [(.s (txt [116])), (.i .i64 0), (.i .i64 ((j0 : Nat) : Int)), (.b false), (.sl ka 1 kc kg)]) (c' := [(.s (txt [116])), (.i .i64 0), (.i .i64 ((j0 : Nat) : Int)), (.b false), (.sl ka 1 kc kg)]) rfl (by rfl) hH240.get0 rfl (List.cons_ne_nil _ _) (Nat.le_of_ble_eq_true rfl) rfl fun H241 hW242 => ?_
            have hH243 := hH240.wr0 hW242
            refine O_p (.b true) (r_mv rfl) ?_
            refine O_nil ?_
            refine C_seq ?_
            refine C_seq ?_
            refine C_region ?_
            refine O_p (.b true) (r_mv rfl) ?_
            refine O_p (.b false) (r_un rfl rfl) ?_
            refine O_nil ?_
            refine C_cond (x := false) rfl (fun h => by cases h) (fun _ => ?_)
            refine C_skip ?_
            refine C_seq ?_
            refine C_seq ?_
            refine C_draw fun b244 H245 hbase246 hA247 => ?_
            have hH248 := hH243.keep (by have := hA247.1; omega) (fun q _ => hA247.2 q) ((hH243.old).aside hA247).ok
            refine D_l (v := (.p (some (n237, 2)))) rfl rfl rfl (r_fadd' rfl rfl) ?_
            refine D_l (v := (.i .i64 (((at2 : Nat) : Int) - 1))) rfl rfl rfl (r_mv hT204) ?_
            refine D_r (v := (.i .i64 ((j0 : Nat) : Int))) rfl rfl rfl (r_ld rfl hH248.get0 rfl) ?_
            refine D_l (v := (.b false)) rfl rfl rfl (by exact (by rw [r_leq rfl rfl, decide_eq_false (by omega)])) ?_
            refine D_l (v := (.b false)) rfl rfl rfl (r_mv rfl) ?_
            refine D_gk rfl ?_
            refine D_l (v := (.p (some (n237, 4)))) rfl rfl rfl (r_fadd' rfl rfl) ?_
            refine D_gk rfl ?_
            refine D_r (v := (.sl ka 1 kc kg)) rfl rfl rfl (r_ld rfl hH248.get0 rfl) ?_
            refine D_gk rfl ?_
            refine D_l (v := (.i .i64 1)) rfl rfl rfl (r_len rfl) ?_
            refine D_gk rfl ?_
            refine D_l (v := (.b false)) rfl rfl rfl (r_bin rfl rfl rfl) ?_
            refine D_l (v := (.b false)) rfl rfl rfl (r_pick_f rfl rfl) ?_
            refine D_l (v := (.b false)) rfl rfl rfl (r_mv rfl) ?_
            refine D_gk rfl ?_
            refine D_l (v := (.p (some (n237, 4)))) rfl rfl rfl (r_fadd' rfl rfl) ?_
            refine D_gk rfl ?_
            refine D_l (v := (.p (some (n237, 2)))) rfl rfl rfl (r_fadd' rfl rfl) ?_
            refine D_gk rfl ?_
            refine D_r (v := (.sl ka 1 kc kg)) rfl rfl rfl (r_ld rfl hH248.get0 rfl) ?_
            refine D_gk rfl ?_
            refine D_q rfl rfl rfl (by exact Bs.ix (hkb _ hH248.top6.fst) rfl (i := 0) rfl (by first | omega | (simp only [List.length_take, List.length_drop, List.length_append, List.length_cons, List.length_nil, beN_len] <;> omega))) fun v250 hv249 => ?_
            refine D_gk rfl ?_
            refine D_r (v := (.i .u8 (((bd j0).getD 0 0).toNat : Int))) rfl rfl rfl (hv249.load rfl) ?_
            refine D_gk rfl ?_
            refine D_r (v := (.i .i64 ((j0 : Nat) : Int))) rfl rfl rfl (r_ld rfl hH248.get0 rfl) ?_
            refine D_gk rfl ?_
            refine D_l (v := (.i .u8 ((UInt8.ofNat (j0 % 256)).toNat : Int))) rfl rfl rfl (by exact (by rw [u8_lo]; exact r_cint rfl)) ?_
            refine D_gk rfl ?_
            refine D_l (v := (.b false)) rfl rfl rfl (by exact (by rw [r_neq rfl rfl, decide_eq_true (show (((bd j0).getD 0 0).toNat : Int) = ((UInt8.ofNat (j0 % 256)).toNat : Int) from rfl)]; rfl)) ?_
            refine D_l (v := (.b false)) rfl rfl rfl (r_pick_f rfl rfl) ?_
            refine D_nil ?_
            refine C_cond (x := false) rfl (fun h => by cases h) (fun _ => ?_)
            refine C_skip ?_
            refine C_seq ?_
            refine C_region ?_
            refine O_p (.p (some (n237, 2))) (r_fadd' rfl rfl) ?_
            refine O_p (.i .i64 ((j0 : Nat) : Int)) (r_ld rfl hH248.get0 rfl) ?_
            refine O_p (.i .i64 ((j0 : Nat) : Int)) (r_mv rfl) ?_
            refine O_nil ?_
            refine C_region ?_
            refine O_p (.i .i64 (((got2 : Nat)) : Int)) (r_mv hT205) ?_
            refine O_p (.i .i64 ((((got2 : Nat)) : Int) + 1)) (by exact (r_addi rfl rfl (wrap_i64 (by omega) (by omega)))) ?_
            refine O_p (.i .i64 ((((got2 : Nat)) : Int) + 1)) (r_mv rfl) ?_
            refine O_nil ?_
            refine C_region ?_
            refine O_p (.i .i64 (((j : Nat)) : Int)) (r_mv hT206) ?_
            refine O_p (.i .i64 ((((j : Nat)) : Int) + 1)) (by exact (r_addi rfl rfl (wrap_i64 (by omega) (by omega)))) ?_
            refine O_p (.i .i64 ((((j : Nat)) : Int) + 1)) (r_mv rfl) ?_
            refine O_nil ?_
            have hH251 := (hH248.sub0)
            have hH252 := (((((((hH251.top6).top6).top4).top6).top6).top6).top6)
            exact ⟨js4.length, by omega, (j0 + 1), v233, c234, rz, js4, (got2 + 1), (j + 1), rfl, hsq235, hpt, hpw4, hrg4, by omega, by omega, fun h => by have := hp192 h; rw [top_cons] at this; exact this, by omega, hH252, hT194, hT195, hT196, hT197, hT198, hT199, hT200, hT201, hT202, hT203, (by rw [show (((j0 + 1 : Nat) : Int) - 1) = ((j0 : Nat) : Int) by omega]; exact rfl), rfl, rfl⟩
        ·
          try simp only [decide_eq_true_eq, decide_eq_false_iff_not, Bool.not_eq_true', Bool.not_eq_false', Bool.and_eq_true, Bool.or_eq_true, Bool.or_eq_false_iff, Bool.not_not, Bool.and_eq_false_iff] at hc208
          refine C_exit ?_
          refine nx_exit ?_
          refine nx_exit ?_
          refine bk_hit ?_
          refine C_region ?_
          refine O_p (.i .i64 (((i : Nat)) : Int)) (r_mv hT202) ?_
          refine O_p (.i .i64 ((((i : Nat)) : Int) + 1)) (by exact (r_addi rfl rfl (wrap_i64 (by omega) (by omega)))) ?_
          refine O_p (.i .i64 ((((i : Nat)) : Int) + 1)) (r_mv rfl) ?_
          refine O_nil ?_
          have hH253 := (((((((hH207.top6).top6).top6).top6).top6).top6).top6)
          exact ⟨q1 - (i + 1), by omega, cb82, cl85, mb83, ml84, w, wc, wr, js3, l2, D81, at2, got2, (i + 1), rfl, by omega, hcb90, hcg91, hMb92, hmg93, hp186, hp187, hp188, hp189, by omega, by omega, by omega, hp192, fun h => by first | exact hnone | (exfalso; omega), hH253, hT194, hT195, hT196, hT197, hT198, hT199, hT200, hT201, hT204, hT205, rfl⟩
    ·
      try simp only [decide_eq_true_eq, decide_eq_false_iff_not, Bool.not_eq_true', Bool.not_eq_false', Bool.and_eq_true, Bool.or_eq_true, Bool.or_eq_false_iff, Bool.not_not, Bool.and_eq_false_iff] at hc71
      refine C_exit ?_
      refine nx_exit ?_
      refine nx_exit ?_
      refine bk_hit ?_
      refine C_seq ?_
      by_cases hK0 : q1 = 0
      ·
        refine C_region ?_
        have hie : i = q1 := by omega
        have hjz := hp58 hie
        have hjz0 : js.length = 0 := by rw [hjz]; rfl
        have htz := hp57
        rw [hjz] at htz
        have hta : att = i := htz rfl
        refine O_p (.b true) (r_mv hT64) ?_
        refine O_p (.b true) (r_mv rfl) ?_
        refine O_gk rfl ?_
        refine O_p (.i .i64 (((got : Nat)) : Int)) (r_mv hT68) ?_
        refine O_gk rfl ?_
        refine O_p (.p (some (F6, 0))) (r_mv hT66) ?_
        refine O_gk rfl ?_
        have hall254 : ∀ x ∈ ([(prow true (some mr17) (.sl none 0 0 0) 0), (prow true (some mr26) v l), zrow] : List (List AV)), x.length = 4 := fun x hx => by simp only [List.mem_cons, List.not_mem_nil, or_false] at hx; rcases hx with rfl | rfl | rfl <;> rfl
        have hH255 := ((hH70.top1).top1)
        have hH256 : Hs H42 ([(F6, some (.cells ([(.sl (some (Lb7, 0)) 3 3 0), (.i .i64 (((clampR room) : Nat) : Int)), (.m (some cm8))]) true))] ++ ([(Lb7, some (.cells ((([(prow true (some mr17) (.sl none 0 0 0) 0), (prow true (some mr26) v l), zrow] : List (List AV)).set 1 (prow true (some mr26) v l)).flatten) true))] ++ ([(cm8, some cb)] ++ ([(mr26, some mb)] ++ ((qseg v c) ++ (D ++ ((allL H0) ++ ([])))))))) := hH255
        have hH257 := ((hH256.top1).top1)
        refine O_call (Ev.mono (lost_ev (np := 3) (i := 1) (rws := ([(prow true (some mr17) (.sl none 0 0 0) 0), (prow true (some mr26) v l), zrow] : List (List AV))) (by decide) hall254 (Nat.le_of_ble_eq_true rfl) hH257) fun v258 H259 hq260 => ?_)
        obtain ⟨rfl, hH261⟩ := hq260
        refine O_gk rfl ?_
        refine O_p (.i .i64 ((((got : Nat)) : Int) + l)) (by exact (r_addi rfl rfl (wrap_i64 (by omega) (by omega)))) ?_
        refine O_gk rfl ?_
        refine O_p (.i .i64 (((q1 : Nat)) : Int)) (r_mv hT65) ?_
        refine O_gk rfl ?_
        refine O_p (.b true) (by exact (by rw [r_eql rfl rfl, decide_eq_true (by omega)])) ?_
        refine O_p (.b true) (r_pick_t rfl rfl) ?_
        refine O_p (.b true) (r_mv rfl) ?_
        refine O_gk rfl ?_
        refine O_p (.p (some (F6, 0))) (r_mv hT66) ?_
        refine O_gk rfl ?_
        have hall262 : ∀ x ∈ ([(prow true (some mr17) (.sl none 0 0 0) 0), (prow true (some mr26) v l), zrow] : List (List AV)), x.length = 4 := fun x hx => by simp only [List.mem_cons, List.not_mem_nil, or_false] at hx; rcases hx with rfl | rfl | rfl <;> rfl
        have hH263 := (((hH261.top3).top2).top2)
        have hH264 : Hs H259 ([(F6, some (.cells ([(.sl (some (Lb7, 0)) 3 3 0), (.i .i64 (((clampR room) : Nat) : Int)), (.m (some cm8))]) true))] ++ ([(Lb7, some (.cells ((([(prow true (some mr17) (.sl none 0 0 0) 0), (prow true (some mr26) v l), zrow] : List (List AV)).set 1 (prow true (some mr26) v l)).flatten) true))] ++ ([(mr26, some mb)] ++ ([(cm8, some cb)] ++ ((qseg v c) ++ (D ++ ((allL H0) ++ ([])))))))) := hH263
        have hH265 := (((hH264.top2).top2).top2)
        refine O_call (Ev.mono (failed_some (np := 3) (i := 1) (rws := ([(prow true (some mr17) (.sl none 0 0 0) 0), (prow true (some mr26) v l), zrow] : List (List AV))) (tp := [116]) (fl := false) (by decide) hall262 (Nat.le_of_ble_eq_true rfl) hp48 hp49 hH265) fun v266 H267 hq268 => ?_)
        obtain ⟨rfl, hH269⟩ := hq268
        refine O_gk rfl ?_
        refine O_p (.b true) (r_un rfl rfl) ?_
        refine O_p (.b true) (r_pick_t rfl rfl) ?_
        refine O_p (.b true) (r_mv rfl) ?_
        refine O_gk rfl ?_
        refine O_p (.b false) (r_mv hT62) ?_
        refine O_gk rfl ?_
        refine O_p (.b false) (r_mv rfl) ?_
        refine O_gk rfl ?_
        refine O_p (.i .i64 (((q1 : Nat)) : Int)) (r_mv hT65) ?_
        refine O_gk rfl ?_
        refine O_p (.b true) (by exact (by rw [r_eql rfl rfl, decide_eq_true (by omega)])) ?_
        refine O_gk rfl ?_
        refine O_p (.b true) (r_pick_f rfl rfl) ?_
        refine O_gk rfl ?_
        refine O_p (.b true) (r_mv rfl) ?_
        refine O_gf rfl ?_
        refine O_gf rfl ?_
        refine O_gf rfl ?_
        refine O_gf rfl ?_
        refine O_gk rfl ?_
        refine O_p (.b true) (r_pick_t rfl rfl) ?_
        refine O_p (.b true) (r_pick_t rfl rfl) ?_
        refine O_p (.b true) (r_mv rfl) ?_
        refine O_nil ?_
        refine C_ret ?_
        exact ⟨.inr rfl, _, resL_one (r_tmp (v := .b true) rfl), rfl⟩
      ·
        refine C_region ?_
        have hie : i = q1 := by omega
        have hjz := hp58 hie
        have hjz0 : js.length = 0 := by rw [hjz]; rfl
        have htz := hp57
        rw [hjz] at htz
        have hta : att = i := htz rfl
        refine O_p (.b true) (r_mv hT64) ?_
        refine O_p (.b true) (r_mv rfl) ?_
        refine O_gk rfl ?_
        refine O_p (.i .i64 (((got : Nat)) : Int)) (r_mv hT68) ?_
        refine O_gk rfl ?_
        refine O_p (.p (some (F6, 0))) (r_mv hT66) ?_
        refine O_gk rfl ?_
        have hall270 : ∀ x ∈ ([(prow true (some mr17) (.sl none 0 0 0) 0), (prow true (some mr26) v l), zrow] : List (List AV)), x.length = 4 := fun x hx => by simp only [List.mem_cons, List.not_mem_nil, or_false] at hx; rcases hx with rfl | rfl | rfl <;> rfl
        have hH271 := ((hH70.top1).top1)
        have hH272 : Hs H42 ([(F6, some (.cells ([(.sl (some (Lb7, 0)) 3 3 0), (.i .i64 (((clampR room) : Nat) : Int)), (.m (some cm8))]) true))] ++ ([(Lb7, some (.cells ((([(prow true (some mr17) (.sl none 0 0 0) 0), (prow true (some mr26) v l), zrow] : List (List AV)).set 1 (prow true (some mr26) v l)).flatten) true))] ++ ([(cm8, some cb)] ++ ([(mr26, some mb)] ++ ((qseg v c) ++ (D ++ ((allL H0) ++ ([])))))))) := hH271
        have hH273 := ((hH272.top1).top1)
        refine O_call (Ev.mono (lost_ev (np := 3) (i := 1) (rws := ([(prow true (some mr17) (.sl none 0 0 0) 0), (prow true (some mr26) v l), zrow] : List (List AV))) (by decide) hall270 (Nat.le_of_ble_eq_true rfl) hH273) fun v274 H275 hq276 => ?_)
        obtain ⟨rfl, hH277⟩ := hq276
        refine O_gk rfl ?_
        refine O_p (.i .i64 ((((got : Nat)) : Int) + l)) (by exact (r_addi rfl rfl (wrap_i64 (by omega) (by omega)))) ?_
        refine O_gk rfl ?_
        refine O_p (.i .i64 (((q1 : Nat)) : Int)) (r_mv hT65) ?_
        refine O_gk rfl ?_
        refine O_p (.b true) (by exact (by rw [r_eql rfl rfl, decide_eq_true (by omega)])) ?_
        refine O_p (.b true) (r_pick_t rfl rfl) ?_
        refine O_p (.b true) (r_mv rfl) ?_
        refine O_gk rfl ?_
        refine O_p (.p (some (F6, 0))) (r_mv hT66) ?_
        refine O_gk rfl ?_
        have hall278 : ∀ x ∈ ([(prow true (some mr17) (.sl none 0 0 0) 0), (prow true (some mr26) v l), zrow] : List (List AV)), x.length = 4 := fun x hx => by simp only [List.mem_cons, List.not_mem_nil, or_false] at hx; rcases hx with rfl | rfl | rfl <;> rfl
        have hH279 := (((hH277.top3).top2).top2)
        have hH280 : Hs H275 ([(F6, some (.cells ([(.sl (some (Lb7, 0)) 3 3 0), (.i .i64 (((clampR room) : Nat) : Int)), (.m (some cm8))]) true))] ++ ([(Lb7, some (.cells ((([(prow true (some mr17) (.sl none 0 0 0) 0), (prow true (some mr26) v l), zrow] : List (List AV)).set 1 (prow true (some mr26) v l)).flatten) true))] ++ ([(mr26, some mb)] ++ ([(cm8, some cb)] ++ ((qseg v c) ++ (D ++ ((allL H0) ++ ([])))))))) := hH279
        have hH281 := (((hH280.top2).top2).top2)
        refine O_call (Ev.mono (failed_some (np := 3) (i := 1) (rws := ([(prow true (some mr17) (.sl none 0 0 0) 0), (prow true (some mr26) v l), zrow] : List (List AV))) (tp := [116]) (fl := false) (by decide) hall278 (Nat.le_of_ble_eq_true rfl) hp48 hp49 hH281) fun v282 H283 hq284 => ?_)
        obtain ⟨rfl, hH285⟩ := hq284
        refine O_gk rfl ?_
        refine O_p (.b true) (r_un rfl rfl) ?_
        refine O_p (.b true) (r_pick_t rfl rfl) ?_
        refine O_p (.b true) (r_mv rfl) ?_
        refine O_gk rfl ?_
        refine O_p (.b false) (r_mv hT62) ?_
        refine O_gk rfl ?_
        refine O_p (.b false) (r_mv rfl) ?_
        refine O_gk rfl ?_
        refine O_p (.i .i64 (((q1 : Nat)) : Int)) (r_mv hT65) ?_
        refine O_gk rfl ?_
        refine O_p (.b false) (by exact (by rw [r_eql rfl rfl, decide_eq_false (by omega)])) ?_
        refine O_gk rfl ?_
        refine O_p (.b false) (r_pick_f rfl rfl) ?_
        refine O_gk rfl ?_
        refine O_p (.b false) (r_mv rfl) ?_
        refine O_gk rfl ?_
        refine O_p (.i .i64 (((att : Nat) : Int) - 1)) (r_mv hT67) ?_
        refine O_gk rfl ?_
        refine O_p (.i .i64 (((q1 : Nat)) : Int)) (r_mv hT65) ?_
        refine O_gk rfl ?_
        refine O_p (.i .i64 ((((q1 : Nat)) : Int) - 1)) (by exact (r_subi rfl rfl (wrap_i64 (by omega) (by omega)))) ?_
        refine O_gk rfl ?_
        refine O_p (.b true) (by exact (by rw [r_eql rfl rfl, decide_eq_true (by omega)])) ?_
        refine O_gk rfl ?_
        refine O_p (.b true) (r_pick_f rfl rfl) ?_
        refine O_p (.b true) (r_pick_t rfl rfl) ?_
        refine O_p (.b true) (r_mv rfl) ?_
        refine O_nil ?_
        refine C_ret ?_
        exact ⟨.inr rfl, _, resL_one (r_tmp (v := .b true) rfl), rfl⟩
set_option maxRecDepth 100000 in
theorem run5T (H : AH) (hok : H.Ok) (room n0 : Int) (newest : Bool) {v : AV} (h : Typed Try.prog H 9 22 [v]) : Ev tabA spA (.fn (.func 5) [] []) [.i .i64 room, v, .i .i64 n0, .b newest] H (fun v _ => v = .b true) := by
  obtain ⟨p, n, c, rfl, hnc, _, hr⟩ := typed_recs (z := 1) Try.underlying22 (by kernel_rfl) h
  obtain ⟨rows, hrw, _, hrt⟩ := Rw.given hnc hr
  obtain ⟨pl, rfl⟩ := ints_ex (k := .i64) fun i r hi => by
    obtain ⟨x, e, _⟩ := typed_int Try.underlying3 (hrt i r hi)
    exact ⟨x, e⟩
  have hpv : ∀ H', Hs H' (allL H) → Rw 1 H' (.sl p n c 0) (pl.map fun x => [AV.i .i64 x]) := fun H' hh => hrw.ro (R := []) hok (by rw [List.append_nil]; exact hh)
  cases newest
  · exact run5_false H hok room n0 _ pl hpv
  · exact run5_true H hok room n0 _ pl hpv
set_option maxRecDepth 100000 in
theorem law5 (W : World) (ρ : Rho) (H : AH) (xs : List AV) (args : Array Value) (hR : Rel Try.prog W.heap.size W ρ H W) (hro : RO H) (hv : VRL ρ xs args.toList) (ht : TypedVs Try.prog H 9 Try.f5.params.toList xs) :
    Calls Try.prog 5 args W fun e w' => e = .returned (.bool true) ∧ Below W.heap.size W w' := by
  rw [Try.params5] at ht
  obtain ⟨a0, xs, rfl, g0, a1, xs, rfl, g1, a2, xs, rfl, g2, a3, xs, rfl, g3, rfl⟩ := ht
  obtain ⟨room, rfl, wroom⟩ := typedV_int Try.underlying3 g0
  obtain ⟨n0, rfl, wn0⟩ := typedV_int Try.underlying3 g2
  obtain ⟨newest, rfl⟩ := typedV_bool Try.underlying4 g3
  obtain ⟨k, v, H', hex, rfl⟩ := run5T H hR.aok room n0 newest (typedV_slice Try.underlying22 g1)
  exact law_of mixed tabA_ok spA_ok hex hR hv
end Go.Proofs.Ytnkpmidfefilbaa.E
namespace Go.Proofs.Ytnkpmidfefilbaa.topicParts
open Go.ChangeShapes Go.WideShapes Go.RowKit
set_option linter.unusedVariables false
theorem own : ownKnob Try.prog.godebug = none := by kernel_rfl
theorem types : (Try.f5.params.toList.all fun t => E.fit Try.prog 9 t && (Try.prog.readableRec t && decide (t < Try.prog.types.size))) = true := by kernel_rfl
set_option maxRecDepth 100000 in
theorem lifted (os : Os) (started : os.Started) (H : Type) (enc : TypeId × Value → H) :
    ReturnsInHanded {} Try.checked os 5 .any (Rows.topicPartsSpec.pre6 enc Try.prog Try.f5 Rows.topicPartsRow.domain false) (Rows.topicPartsSpec.post enc Try.prog Try.f5 false true false false) :=
  E.law_lifted (C := Try.checked) (k := 9) (tb := 4) E.globals0 E.laid own started (by kernel_rfl) Try.func5
    (ChangeSpec.witness6 (enc := enc) (C := Try.checked) false ⟨#[], #[.int .i64 0, .slice none 0 0, .int .i64 0, .bool false], []⟩ 8 (by kernel_rfl) (by kernel_rfl) (by kernel_rfl) (by kernel_rfl))
    rfl rfl Try.underlying4 (fun t ht => by have h := List.all_eq_true.1 types t ht; simp only [Bool.and_eq_true, decide_eq_true_eq] at h; exact h)
    (fun ds hd => by
      rw [Try.params5] at hd
      match ds, hd with
      | [d0, d1, d2, d3], _ => rfl) E.law5
theorem over : Rows.topicPartsRow.holds Try.pinned (OpenSpec.ofChange Rows.topicPartsSpec) :=
  OpenClaim.holds_of_wide 5 Try.f5 rfl rfl rfl rfl rfl rfl rfl ⟨rfl, rfl, rfl, rfl, rfl⟩ rfl rfl rfl rfl rfl (by kernel_rfl) Try.func5 (by kernel_rfl)
    (of_decide_eq_true (by kernel_rfl)) (by unfold Func.isWrapper; first | (rw [if_pos (by decide +kernel)]; kernel_rfl) | (rw [if_neg (by decide +kernel)]; exact ⟨rfl, rfl⟩))
    (fun os started H enc _ => lifted os started H enc)
end Go.Proofs.Ytnkpmidfefilbaa.topicParts
namespace Go.Proofs.Ytnkpmidfefilbaa
/-- The row, under a short name, for the claim. -/
theorem topicParts_holds : Rows.TopicPartsSaid := topicParts.over
#print axioms topicParts_holds
end Go.Proofs.Ytnkpmidfefilbaa
