/- Topics: the document's relay: what is heard, what no longer. It bears no condition. -/
import Derived.Test.YtnkpmidfefilbaaCC1
namespace Go.Proofs.Ytnkpmidfefilbaa.E

set_option linter.unusedVariables false
set_option linter.unusedSimpArgs false
theorem era_map {α β : Type} (f : α → β) : ∀ (l : List α) (k : Nat), (l.map f).eraseIdx k = (l.eraseIdx k).map f
  | [], k => rfl
  | x :: l, 0 => rfl
  | x :: l, k + 1 => by rw [List.map_cons, List.eraseIdx_cons_succ, List.eraseIdx_cons_succ, List.map_cons, era_map]
theorem su_del {sb : List Su} {k : Nat} : ([] ++ ((sb.map suRow).take k).flatten) ++ ((sb.map suRow).drop (k + 1)).flatten = ((sb.eraseIdx k).map suRow).flatten := by
  rw [flat_era, era_map]
theorem su_add {sb : List Su} {x : Su} : (sb.map suRow).flatten ++ suRow x = ((sb ++ [x]).map suRow).flatten := by
  rw [List.map_append]; exact flat_snoc _ _
theorem rhandP_ev {H : AH} {R D : HL} {Pb i room n : Nat} {rws : List (List AV)} {p : Rp} {x : It} {dv : AV} (hrw : ∀ x ∈ rws, x.length = 4) (hi : i < rws.length) (hok : p.ok D) (hinv : p.a.inv room n) (hsl : p.a.sb.length ≤ 1000000) (hon : p.a.on = true) (hroom : 1 ≤ room ∧ room ≤ 64) (hn : n ≤ 1000000) (hx : ItRow D [.s (txt x.tp), .i .i64 x.frm, .i .i64 x.num, .b x.tx, dv] x) (hH0 : Hs H ([(Pb, some (.cells (rws.set i p.row).flatten true))] ++ (p.seg ++ R))) :
    Ev tabA spA (.fn (.func 46) [] []) [.p (some (Pb, i * 4 + 0)), .agg [.s (txt x.tp), .i .i64 x.frm, .i .i64 x.num, .b x.tx, dv], .i .i64 room] H (fun r H' => ∃ q : Rp, r = .b (p.a.hand room x).2 ∧ q.a = (p.a.hand room x).1 ∧ q.ok D ∧ Hs H' ([(Pb, some (.cells (rws.set i q.row).flatten true))] ++ (q.seg ++ R))) := by
  obtain ⟨sv, sc, wv, wc, rows, on, sb, w, lost⟩ := p
  obtain ⟨hss, hsq, hir⟩ := hok
  simp only at hss hsq hir hinv hsl hon
  subst hon
  have hl5 := hir.lens
  have hrl := hir.1
  have hw : w.length ≤ room := hinv.w
  have hlo : lost ≤ n := hinv.lost
  have hfitw : rows.length ≤ 1000000 := by omega
  have hlost : (0 : Int) ≤ ((lost : Nat) : Int) ∧ ((lost : Nat) : Int) < 4611686018427387904 := ⟨by omega, by omega⟩
  have hcast : ((lost : Nat) : Int) + 1 = ((lost + 1 : Nat) : Int) := rfl
  have hH1 : Hs H ([(Pb, some (.cells (rws.set i (rrow true sv wv ((lost : Nat) : Int))).flatten true))] ++ (qseg sv sc ++ (qseg wv wc ++ R))) := by
    have e : Rp.seg ⟨sv, sc, wv, wc, rows, ⟨true, sb, w, lost⟩⟩ = qseg sv sc ++ qseg wv wc := rfl
    rw [e, List.append_assoc] at hH0; exact hH0
  cases hg : sget sb x.tp with
  | none =>
    have e : Pa.hand ⟨true, sb, w, lost⟩ room x = (⟨true, sb, w, lost⟩, false) := by unfold Pa.hand; simp only [if_true, hg]
    rw [e]
    refine Ev.mono (rhand_no (k0 := 0) (k := 0) (md := 0) hrw hi hss hsl hsq hl5 hir hfitw hlost hg hH1) fun r H2 hq => ?_
    obtain ⟨rfl, hh⟩ := hq
    exact ⟨⟨sv, sc, wv, wc, rows, ⟨true, sb, w, lost⟩⟩, rfl, rfl, ⟨hss, hsq, hir⟩, by rw [Rp.seg, List.append_assoc]; exact hh⟩
  | some q =>
    obtain ⟨mode, f⟩ := q
    have hsi := sget_some hg
    have hmo := sget_mode hinv.mode hg
    cases f with
    | true =>
      have e : Pa.hand ⟨true, sb, w, lost⟩ room x = (⟨true, sb, w, lost⟩, false) := by unfold Pa.hand; simp only [if_true, hg]
      rw [e]
      refine Ev.mono (rhand_failed (k := 0) (md := mode) hrw hi hss hsl hsq hl5 hir hfitw hlost rfl hsi hH1) fun r H2 hq => ?_
      obtain ⟨rfl, hh⟩ := hq
      exact ⟨⟨sv, sc, wv, wc, rows, ⟨true, sb, w, lost⟩⟩, rfl, rfl, ⟨hss, hsq, hir⟩, by rw [Rp.seg, List.append_assoc]; exact hh⟩
    | false =>
      by_cases hr : w.length < room
      · have e : Pa.hand ⟨true, sb, w, lost⟩ room x = (⟨true, sb, w ++ [x], lost⟩, true) := by unfold Pa.hand; simp only [if_true, hg, if_pos hr]
        rw [e]
        refine Ev.mono (rhand_room (k := 0) (md := mode) hrw hi hss hsl hsq hl5 hir hfitw hlost rfl hsi (by omega) hH1) fun r H2 hq => ?_
        obtain ⟨rfl, v2, c2, hs2, hh⟩ := hq
        exact ⟨⟨sv, sc, v2, c2, _, ⟨true, sb, w ++ [x], lost⟩⟩, rfl, rfl, ⟨hss, hs2, hir.snoc hx⟩, by rw [Rp.seg, List.append_assoc]; exact hh⟩
      · by_cases h0 : mode = 0
        · subst h0
          have e : Pa.hand ⟨true, sb, w, lost⟩ room x = (⟨true, sset sb x.tp 0 true, w, lost⟩, false) := by unfold Pa.hand; simp only [if_true, hg, if_neg hr]
          rw [e]
          refine Ev.mono (rhand_ord (k := 0) (md := 0) hrw hi hss hsl hsq hl5 hir hfitw hlost rfl hsi (by omega) hH1) fun r H2 hq => ?_
          obtain ⟨rfl, c2, hs2, hh⟩ := hq
          rw [← sset_at hg] at hs2
          exact ⟨⟨sv, c2, wv, wc, rows, ⟨true, sset sb x.tp 0 true, w, lost⟩⟩, rfl, rfl, ⟨hs2, hsq, hir⟩, by rw [Rp.seg, List.append_assoc]; exact hh⟩
        · by_cases h1 : mode = 1
          · subst h1
            have e : Pa.hand ⟨true, sb, w, lost⟩ room x = (⟨true, sb, w, lost + 1⟩, false) := by unfold Pa.hand; simp only [if_true, hg, if_neg hr]; rw [if_neg (by decide), if_pos (by first | exact .inl trivial | exact .inl rfl)]
            rw [e]
            refine Ev.mono (rhand_new (k := 0) (md := 1) hrw hi hss hsl hsq hl5 hir hfitw hlost rfl hsi (by omega) hroom.1 hH1) fun r H2 hq => ?_
            obtain ⟨rfl, hh⟩ := hq
            exact ⟨⟨sv, sc, wv, wc, rows, ⟨true, sb, w, lost + 1⟩⟩, rfl, rfl, ⟨hss, hsq, hir⟩, by rw [Rp.seg, List.append_assoc]; exact hh⟩
          · have h2 : mode = 2 := by omega
            subst h2
            by_cases hk : w.length ≤ w.findIdx (fun y => decide (y.tp = x.tp))
            · have e : Pa.hand ⟨true, sb, w, lost⟩ room x = (⟨true, sb, w, lost + 1⟩, false) := by unfold Pa.hand; simp only [if_true, hg, if_neg hr]; rw [if_neg (by decide), if_pos (.inr hk)]
              rw [e]
              refine Ev.mono (rhand_nf (k := 0) (md := 2) hrw hi hss hsl hsq hl5 hir hfitw hlost rfl hsi (by omega) hk hH1) fun r H2 hq => ?_
              obtain ⟨rfl, hh⟩ := hq
              exact ⟨⟨sv, sc, wv, wc, rows, ⟨true, sb, w, lost + 1⟩⟩, rfl, rfl, ⟨hss, hsq, hir⟩, by rw [Rp.seg, List.append_assoc]; exact hh⟩
            · have e : Pa.hand ⟨true, sb, w, lost⟩ room x = (⟨true, sb, w.eraseIdx (w.findIdx fun y => decide (y.tp = x.tp)) ++ [x], lost + 1⟩, true) := by unfold Pa.hand; simp only [if_true, hg, if_neg hr]; rw [if_neg (by decide), if_neg (fun h => by rcases h with h | h; exact absurd h (by decide); exact hk h)]
              rw [e]
              refine Ev.mono (rhand_old (md := 2) hrw hi hss hsl hsq hl5 hir hfitw hlost rfl hsi (by omega) rfl (by omega) hH1) fun r H2 hq => ?_
              obtain ⟨rfl, v2, c2, hs2, hh⟩ := hq
              exact ⟨⟨sv, sc, v2, c2, _, ⟨true, sb, w.eraseIdx (w.findIdx fun y => decide (y.tp = x.tp)) ++ [x], lost + 1⟩⟩, rfl, rfl, ⟨hss, hs2, hir.eraseIdx.snoc hx⟩, by rw [Rp.seg, List.append_assoc]; exact hh⟩

set_option maxHeartbeats 1000000 in
theorem rsub_neg {H : AH} {R : HL} {F Pb np i room : Nat} {rws : List (List AV)} {cv : AV} {on : Bool} {sv wv : AV} {lost : Int} {tp : List UInt8} {mode : Int} (hk : i < np) (hrw : ∀ x ∈ rws, x.length = 4) (hi : i < rws.length) (hm : mode < 0) (hH0 : Hs H ([(F, some (.cells ([(.sl (some (Pb, 0)) np np 0), (.i .i64 ((room : Nat) : Int)), cv]) true))] ++ ([(Pb, some (.cells (((rws).set i (rrow on sv wv lost)).flatten) true))] ++ (R)))) : Ev tabA spA (.fn (.func 37) [] []) [.p (some (F, 0)), .i .i64 ((i : Nat) : Int), .s (txt tp), .i .i64 mode] H (fun r H' => r = .i .i64 1 ∧ Hs H' ([(F, some (.cells ([(.sl (some (Pb, 0)) np np 0), (.i .i64 ((room : Nat) : Int)), cv]) true))] ++ ([(Pb, some (.cells (((rws).set i (rrow on sv wv lost)).flatten) true))] ++ (R)))) := by
  refine Ev_C (F := x37) rfl ?_
  refine C_seq ?_
  refine C_region ?_
  refine O_p (.i .i64 0) (r_mv rfl) ?_
  refine O_nil ?_
  refine C_seq ?_
  refine C_seq ?_
  refine C_region ?_
  refine O_p (.p (some (F, 0))) (r_mv rfl) ?_
  refine O_p (.i .i64 ((i : Nat) : Int)) (r_mv rfl) ?_
  refine O_call (Ev.mono (there_yes ⟨by omega, by omega⟩ hH0) fun v1 H2 hq3 => ?_)
  obtain ⟨rfl, hH4⟩ := hq3
  refine O_p (.b false) (r_un rfl rfl) ?_
  refine O_p (.b false) (r_mv rfl) ?_
  refine O_gk rfl ?_
  refine O_p (.i .i64 mode) (r_mv rfl) ?_
  refine O_gk rfl ?_
  refine O_p (.b true) (by exact (by rw [r_lss rfl rfl, decide_eq_true hm])) ?_
  refine O_p (.b true) (r_pick_f rfl rfl) ?_
  refine O_p (.b true) (r_mv rfl) ?_
  refine O_gf rfl ?_
  refine O_gf rfl ?_
  refine O_p (.b true) (r_pick_t rfl rfl) ?_
  refine O_p (.b true) (r_mv rfl) ?_
  refine O_gf rfl ?_
  refine O_gf rfl ?_
  refine O_p (.b true) (r_pick_t rfl rfl) ?_
  refine O_nil ?_
  refine C_cond (x := true) rfl (fun _ => ?_) (fun h => by cases h)
  refine C_seq ?_
  refine C_region ?_
  refine O_p (.i .i64 1) (r_mv rfl) ?_
  refine O_nil ?_
  refine C_ret ?_
  refine nx_ret ?_
  have hH5 := ((hH4.top1).top1)
  exact ⟨.inr rfl, _, resL_one (r_tmp (v := (.i .i64 1)) rfl), rfl, hH5⟩
set_option maxHeartbeats 1000000 in
theorem rsub_pos {H : AH} {R : HL} {F Pb np i room : Nat} {rws : List (List AV)} {cv : AV} {on : Bool} {sv wv : AV} {lost : Int} {tp : List UInt8} {mode : Int} (hk : i < np) (hrw : ∀ x ∈ rws, x.length = 4) (hi : i < rws.length) (hm : 2 < mode) (hH0 : Hs H ([(F, some (.cells ([(.sl (some (Pb, 0)) np np 0), (.i .i64 ((room : Nat) : Int)), cv]) true))] ++ ([(Pb, some (.cells (((rws).set i (rrow on sv wv lost)).flatten) true))] ++ (R)))) : Ev tabA spA (.fn (.func 37) [] []) [.p (some (F, 0)), .i .i64 ((i : Nat) : Int), .s (txt tp), .i .i64 mode] H (fun r H' => r = .i .i64 1 ∧ Hs H' ([(F, some (.cells ([(.sl (some (Pb, 0)) np np 0), (.i .i64 ((room : Nat) : Int)), cv]) true))] ++ ([(Pb, some (.cells (((rws).set i (rrow on sv wv lost)).flatten) true))] ++ (R)))) := by
  refine Ev_C (F := x37) rfl ?_
  refine C_seq ?_
  refine C_region ?_
  refine O_p (.i .i64 0) (r_mv rfl) ?_
  refine O_nil ?_
  refine C_seq ?_
  refine C_seq ?_
  refine C_region ?_
  refine O_p (.p (some (F, 0))) (r_mv rfl) ?_
  refine O_p (.i .i64 ((i : Nat) : Int)) (r_mv rfl) ?_
  refine O_call (Ev.mono (there_yes ⟨by omega, by omega⟩ hH0) fun v1 H2 hq3 => ?_)
  obtain ⟨rfl, hH4⟩ := hq3
  refine O_p (.b false) (r_un rfl rfl) ?_
  refine O_p (.b false) (r_mv rfl) ?_
  refine O_gk rfl ?_
  refine O_p (.i .i64 mode) (r_mv rfl) ?_
  refine O_gk rfl ?_
  refine O_p (.b false) (by exact (by rw [r_lss rfl rfl, decide_eq_false (by omega)])) ?_
  refine O_p (.b false) (r_pick_f rfl rfl) ?_
  refine O_p (.b false) (r_mv rfl) ?_
  refine O_gk rfl ?_
  refine O_p (.i .i64 mode) (r_mv rfl) ?_
  refine O_gk rfl ?_
  refine O_p (.b true) (by exact (by rw [r_gtr rfl rfl, decide_eq_true (by omega)])) ?_
  refine O_p (.b true) (r_pick_f rfl rfl) ?_
  refine O_p (.b true) (r_mv rfl) ?_
  refine O_gf rfl ?_
  refine O_gf rfl ?_
  refine O_p (.b true) (r_pick_t rfl rfl) ?_
  refine O_nil ?_
  refine C_cond (x := true) rfl (fun _ => ?_) (fun h => by cases h)
  refine C_seq ?_
  refine C_region ?_
  refine O_p (.i .i64 1) (r_mv rfl) ?_
  refine O_nil ?_
  refine C_ret ?_
  refine nx_ret ?_
  have hH5 := ((hH4.top1).top1)
  exact ⟨.inr rfl, _, resL_one (r_tmp (v := (.i .i64 1)) rfl), rfl, hH5⟩
set_option maxHeartbeats 1000000 in
theorem rsub_emp {H : AH} {R : HL} {F Pb np i room : Nat} {rws : List (List AV)} {cv : AV} {on : Bool} {sv wv : AV} {lost : Int} {tp : List UInt8} {mode : Int} (hk : i < np) (hrw : ∀ x ∈ rws, x.length = 4) (hi : i < rws.length) (hm : 0 ≤ mode ∧ mode ≤ 2) (htp : tp = []) (hH0 : Hs H ([(F, some (.cells ([(.sl (some (Pb, 0)) np np 0), (.i .i64 ((room : Nat) : Int)), cv]) true))] ++ ([(Pb, some (.cells (((rws).set i (rrow on sv wv lost)).flatten) true))] ++ (R)))) : Ev tabA spA (.fn (.func 37) [] []) [.p (some (F, 0)), .i .i64 ((i : Nat) : Int), .s (txt tp), .i .i64 mode] H (fun r H' => r = .i .i64 1 ∧ Hs H' ([(F, some (.cells ([(.sl (some (Pb, 0)) np np 0), (.i .i64 ((room : Nat) : Int)), cv]) true))] ++ ([(Pb, some (.cells (((rws).set i (rrow on sv wv lost)).flatten) true))] ++ (R)))) := by
  refine Ev_C (F := x37) rfl ?_
  refine C_seq ?_
  refine C_region ?_
  refine O_p (.i .i64 0) (r_mv rfl) ?_
  refine O_nil ?_
  refine C_seq ?_
  refine C_seq ?_
  refine C_region ?_
  refine O_p (.p (some (F, 0))) (r_mv rfl) ?_
  refine O_p (.i .i64 ((i : Nat) : Int)) (r_mv rfl) ?_
  refine O_call (Ev.mono (there_yes ⟨by omega, by omega⟩ hH0) fun v1 H2 hq3 => ?_)
  obtain ⟨rfl, hH4⟩ := hq3
  refine O_p (.b false) (r_un rfl rfl) ?_
  refine O_p (.b false) (r_mv rfl) ?_
  refine O_gk rfl ?_
  refine O_p (.i .i64 mode) (r_mv rfl) ?_
  refine O_gk rfl ?_
  refine O_p (.b false) (by exact (by rw [r_lss rfl rfl, decide_eq_false (by omega)])) ?_
  refine O_p (.b false) (r_pick_f rfl rfl) ?_
  refine O_p (.b false) (r_mv rfl) ?_
  refine O_gk rfl ?_
  refine O_p (.i .i64 mode) (r_mv rfl) ?_
  refine O_gk rfl ?_
  refine O_p (.b false) (by exact (by rw [r_gtr rfl rfl, decide_eq_false (by omega)])) ?_
  refine O_p (.b false) (r_pick_f rfl rfl) ?_
  refine O_p (.b false) (r_mv rfl) ?_
  refine O_gk rfl ?_
  refine O_p (.s (txt tp)) (r_mv rfl) ?_
  refine O_gk rfl ?_
  refine O_p (.b true) (by exact (by rw [r_eqt (b := ([] : List UInt8)) rfl rfl, decide_eq_true htp])) ?_
  refine O_p (.b true) (r_pick_f rfl rfl) ?_
  refine O_nil ?_
  refine C_cond (x := true) rfl (fun _ => ?_) (fun h => by cases h)
  refine C_seq ?_
  refine C_region ?_
  refine O_p (.i .i64 1) (r_mv rfl) ?_
  refine O_nil ?_
  refine C_ret ?_
  refine nx_ret ?_
  have hH5 := ((hH4.top1).top1)
  exact ⟨.inr rfl, _, resL_one (r_tmp (v := (.i .i64 1)) rfl), rfl, hH5⟩
set_option maxHeartbeats 1000000 in
theorem rsub_big {H : AH} {R : HL} {F Pb np i room : Nat} {rws : List (List AV)} {cv : AV} {on : Bool} {sv wv : AV} {lost : Int} {tp : List UInt8} {mode : Int} (hk : i < np) (hrw : ∀ x ∈ rws, x.length = 4) (hi : i < rws.length) (hm : 0 ≤ mode ∧ mode ≤ 2) (htp : 0 < tp.length ∧ 256 < tp.length) (hH0 : Hs H ([(F, some (.cells ([(.sl (some (Pb, 0)) np np 0), (.i .i64 ((room : Nat) : Int)), cv]) true))] ++ ([(Pb, some (.cells (((rws).set i (rrow on sv wv lost)).flatten) true))] ++ (R)))) : Ev tabA spA (.fn (.func 37) [] []) [.p (some (F, 0)), .i .i64 ((i : Nat) : Int), .s (txt tp), .i .i64 mode] H (fun r H' => r = .i .i64 10 ∧ Hs H' ([(F, some (.cells ([(.sl (some (Pb, 0)) np np 0), (.i .i64 ((room : Nat) : Int)), cv]) true))] ++ ([(Pb, some (.cells (((rws).set i (rrow on sv wv lost)).flatten) true))] ++ (R)))) := by
  refine Ev_C (F := x37) rfl ?_
  refine C_seq ?_
  refine C_region ?_
  refine O_p (.i .i64 0) (r_mv rfl) ?_
  refine O_nil ?_
  refine C_seq ?_
  refine C_seq ?_
  refine C_region ?_
  refine O_p (.p (some (F, 0))) (r_mv rfl) ?_
  refine O_p (.i .i64 ((i : Nat) : Int)) (r_mv rfl) ?_
  refine O_call (Ev.mono (there_yes ⟨by omega, by omega⟩ hH0) fun v1 H2 hq3 => ?_)
  obtain ⟨rfl, hH4⟩ := hq3
  refine O_p (.b false) (r_un rfl rfl) ?_
  refine O_p (.b false) (r_mv rfl) ?_
  refine O_gk rfl ?_
  refine O_p (.i .i64 mode) (r_mv rfl) ?_
  refine O_gk rfl ?_
  refine O_p (.b false) (by exact (by rw [r_lss rfl rfl, decide_eq_false (by omega)])) ?_
  refine O_p (.b false) (r_pick_f rfl rfl) ?_
  refine O_p (.b false) (r_mv rfl) ?_
  refine O_gk rfl ?_
  refine O_p (.i .i64 mode) (r_mv rfl) ?_
  refine O_gk rfl ?_
  refine O_p (.b false) (by exact (by rw [r_gtr rfl rfl, decide_eq_false (by omega)])) ?_
  refine O_p (.b false) (r_pick_f rfl rfl) ?_
  refine O_p (.b false) (r_mv rfl) ?_
  refine O_gk rfl ?_
  refine O_p (.s (txt tp)) (r_mv rfl) ?_
  refine O_gk rfl ?_
  refine O_p (.b false) (by exact (by rw [r_eqt (b := ([] : List UInt8)) rfl rfl, decide_eq_false (by intro h; rw [h] at htp; exact absurd htp.1 (by decide))])) ?_
  refine O_p (.b false) (r_pick_f rfl rfl) ?_
  refine O_nil ?_
  refine C_cond (x := false) rfl (fun h => by cases h) (fun _ => ?_)
  refine C_skip ?_
  refine C_seq ?_
  refine C_seq ?_
  refine C_region ?_
  refine O_p (.s (txt tp)) (r_mv rfl) ?_
  refine O_p (.i .i64 ((((tp).length : Nat)) : Int)) (r_lent (l := tp) rfl) ?_
  refine O_p (.b true) (by exact (by rw [r_gtr rfl rfl, decide_eq_true (by omega)])) ?_
  refine O_nil ?_
  refine C_cond (x := true) rfl (fun _ => ?_) (fun h => by cases h)
  refine C_seq ?_
  refine C_region ?_
  refine O_p (.i .i64 10) (r_mv rfl) ?_
  refine O_nil ?_
  refine C_ret ?_
  refine nx_ret ?_
  have hH5 := ((hH4.top1).top1)
  exact ⟨.inr rfl, _, resL_one (r_tmp (v := (.i .i64 10)) rfl), rfl, hH5⟩
set_option maxHeartbeats 1000000 in
theorem rsub_off {H : AH} {R : HL} {F Pb np i room : Nat} {rws : List (List AV)} {cv : AV} {sv wv : AV} {lost : Int} {tp : List UInt8} {mode : Int} (hk : i < np) (hrw : ∀ x ∈ rws, x.length = 4) (hi : i < rws.length) (hm : 0 ≤ mode ∧ mode ≤ 2) (htp : 0 < tp.length ∧ tp.length ≤ 256) (hH0 : Hs H ([(F, some (.cells ([(.sl (some (Pb, 0)) np np 0), (.i .i64 ((room : Nat) : Int)), cv]) true))] ++ ([(Pb, some (.cells (((rws).set i (rrow false sv wv lost)).flatten) true))] ++ (R)))) : Ev tabA spA (.fn (.func 37) [] []) [.p (some (F, 0)), .i .i64 ((i : Nat) : Int), .s (txt tp), .i .i64 mode] H (fun r H' => r = .i .i64 11 ∧ Hs H' ([(F, some (.cells ([(.sl (some (Pb, 0)) np np 0), (.i .i64 ((room : Nat) : Int)), cv]) true))] ++ ([(Pb, some (.cells (((rws).set i (rrow false sv wv lost)).flatten) true))] ++ (R)))) := by
  refine Ev_C (F := x37) rfl ?_
  refine C_seq ?_
  refine C_region ?_
  refine O_p (.i .i64 0) (r_mv rfl) ?_
  refine O_nil ?_
  refine C_seq ?_
  refine C_seq ?_
  refine C_region ?_
  refine O_p (.p (some (F, 0))) (r_mv rfl) ?_
  refine O_p (.i .i64 ((i : Nat) : Int)) (r_mv rfl) ?_
  refine O_call (Ev.mono (there_yes ⟨by omega, by omega⟩ hH0) fun v1 H2 hq3 => ?_)
  obtain ⟨rfl, hH4⟩ := hq3
  refine O_p (.b false) (r_un rfl rfl) ?_
  refine O_p (.b false) (r_mv rfl) ?_
  refine O_gk rfl ?_
  refine O_p (.i .i64 mode) (r_mv rfl) ?_
  refine O_gk rfl ?_
  refine O_p (.b false) (by exact (by rw [r_lss rfl rfl, decide_eq_false (by omega)])) ?_
  refine O_p (.b false) (r_pick_f rfl rfl) ?_
  refine O_p (.b false) (r_mv rfl) ?_
  refine O_gk rfl ?_
  refine O_p (.i .i64 mode) (r_mv rfl) ?_
  refine O_gk rfl ?_
  refine O_p (.b false) (by exact (by rw [r_gtr rfl rfl, decide_eq_false (by omega)])) ?_
  refine O_p (.b false) (r_pick_f rfl rfl) ?_
  refine O_p (.b false) (r_mv rfl) ?_
  refine O_gk rfl ?_
  refine O_p (.s (txt tp)) (r_mv rfl) ?_
  refine O_gk rfl ?_
  refine O_p (.b false) (by exact (by rw [r_eqt (b := ([] : List UInt8)) rfl rfl, decide_eq_false (by intro h; rw [h] at htp; exact absurd htp.1 (by decide))])) ?_
  refine O_p (.b false) (r_pick_f rfl rfl) ?_
  refine O_nil ?_
  refine C_cond (x := false) rfl (fun h => by cases h) (fun _ => ?_)
  refine C_skip ?_
  refine C_seq ?_
  refine C_seq ?_
  refine C_region ?_
  refine O_p (.s (txt tp)) (r_mv rfl) ?_
  refine O_p (.i .i64 ((((tp).length : Nat)) : Int)) (r_lent (l := tp) rfl) ?_
  refine O_p (.b false) (by exact (by rw [r_gtr rfl rfl, decide_eq_false (by omega)])) ?_
  refine O_nil ?_
  refine C_cond (x := false) rfl (fun h => by cases h) (fun _ => ?_)
  refine C_skip ?_
  refine C_seq ?_
  refine C_region ?_
  refine O_p (.p (some (F, 0))) (r_mv rfl) ?_
  refine O_p (.p (some (F, 0))) (r_nilc rfl) ?_
  refine O_p (.p (some (F, 0))) (r_fadd' rfl rfl) ?_
  refine O_p (.sl (some (Pb, 0)) np np 0) (r_ld rfl hH4.get0 rfl) ?_
  refine O_p (.i .i64 ((i : Nat) : Int)) (r_mv rfl) ?_
  refine O_p (.p (some (Pb, (i * 4 + 0)))) (by exact (r_islr (b := Pb) (k := i) (len := np) (cap := np) (g := 0) rfl rfl (by omega))) ?_
  refine O_p (.p (some (Pb, (i * 4 + 0)))) (r_mv rfl) ?_
  refine O_nil ?_
  refine C_seq ?_
  refine C_seq ?_
  refine C_region ?_
  refine O_p (.p (some (Pb, (i * 4 + 0)))) (r_mv rfl) ?_
  refine O_p (.p (some (Pb, (i * 4 + 0)))) (r_nilc rfl) ?_
  refine O_p (.p (some (Pb, (i * 4 + 0)))) (r_fadd' rfl rfl) ?_
  refine O_p (.b false) (by exact (r_ld rfl hH4.get1 ((foc_get hrw hi rfl (by decide)).trans rfl))) ?_
  refine O_p (.b true) (r_un rfl rfl) ?_
  refine O_nil ?_
  refine C_cond (x := true) rfl (fun _ => ?_) (fun h => by cases h)
  refine C_seq ?_
  refine C_region ?_
  refine O_p (.i .i64 11) (r_mv rfl) ?_
  refine O_nil ?_
  refine C_ret ?_
  refine nx_ret ?_
  have hH5 := ((hH4.top1).top1)
  exact ⟨.inr rfl, _, resL_one (r_tmp (v := (.i .i64 11)) rfl), rfl, hH5⟩
set_option maxHeartbeats 1000000 in
theorem rsub_dup {H : AH} {R : HL} {F Pb np i room : Nat} {rws : List (List AV)} {cv : AV} {sv wv : AV} {sc : List AV} {sb : List Su} {lost md : Int} {k : Nat} {tp : List UInt8} {mode : Int} (hk : i < np) (hrw : ∀ x ∈ rws, x.length = 4) (hi : i < rws.length) (hss : Sq 3 sv sc (sb.map suRow).flatten) (hsl : sb.length ≤ 1000000) (hfi : sb.findIdx (sfP tp) = k) (hsi : sb[k]? = some ⟨tp, md, false⟩) (hm : 0 ≤ mode ∧ mode ≤ 2) (htp : 0 < tp.length ∧ tp.length ≤ 256) (hH0 : Hs H ([(F, some (.cells ([(.sl (some (Pb, 0)) np np 0), (.i .i64 ((room : Nat) : Int)), cv]) true))] ++ ([(Pb, some (.cells (((rws).set i (rrow true sv wv lost)).flatten) true))] ++ ((qseg sv sc) ++ (R))))) : Ev tabA spA (.fn (.func 37) [] []) [.p (some (F, 0)), .i .i64 ((i : Nat) : Int), .s (txt tp), .i .i64 mode] H (fun r H' => r = .i .i64 8 ∧ Hs H' ([(F, some (.cells ([(.sl (some (Pb, 0)) np np 0), (.i .i64 ((room : Nat) : Int)), cv]) true))] ++ ([(Pb, some (.cells (((rws).set i (rrow true sv wv lost)).flatten) true))] ++ ((qseg sv sc) ++ (R))))) := by
  refine Ev_C (F := x37) rfl ?_
  refine C_seq ?_
  refine C_region ?_
  refine O_p (.i .i64 0) (r_mv rfl) ?_
  refine O_nil ?_
  refine C_seq ?_
  refine C_seq ?_
  refine C_region ?_
  refine O_p (.p (some (F, 0))) (r_mv rfl) ?_
  refine O_p (.i .i64 ((i : Nat) : Int)) (r_mv rfl) ?_
  refine O_call (Ev.mono (there_yes ⟨by omega, by omega⟩ hH0) fun v1 H2 hq3 => ?_)
  obtain ⟨rfl, hH4⟩ := hq3
  refine O_p (.b false) (r_un rfl rfl) ?_
  refine O_p (.b false) (r_mv rfl) ?_
  refine O_gk rfl ?_
  refine O_p (.i .i64 mode) (r_mv rfl) ?_
  refine O_gk rfl ?_
  refine O_p (.b false) (by exact (by rw [r_lss rfl rfl, decide_eq_false (by omega)])) ?_
  refine O_p (.b false) (r_pick_f rfl rfl) ?_
  refine O_p (.b false) (r_mv rfl) ?_
  refine O_gk rfl ?_
  refine O_p (.i .i64 mode) (r_mv rfl) ?_
  refine O_gk rfl ?_
  refine O_p (.b false) (by exact (by rw [r_gtr rfl rfl, decide_eq_false (by omega)])) ?_
  refine O_p (.b false) (r_pick_f rfl rfl) ?_
  refine O_p (.b false) (r_mv rfl) ?_
  refine O_gk rfl ?_
  refine O_p (.s (txt tp)) (r_mv rfl) ?_
  refine O_gk rfl ?_
  refine O_p (.b false) (by exact (by rw [r_eqt (b := ([] : List UInt8)) rfl rfl, decide_eq_false (by intro h; rw [h] at htp; exact absurd htp.1 (by decide))])) ?_
  refine O_p (.b false) (r_pick_f rfl rfl) ?_
  refine O_nil ?_
  refine C_cond (x := false) rfl (fun h => by cases h) (fun _ => ?_)
  refine C_skip ?_
  refine C_seq ?_
  refine C_seq ?_
  refine C_region ?_
  refine O_p (.s (txt tp)) (r_mv rfl) ?_
  refine O_p (.i .i64 ((((tp).length : Nat)) : Int)) (r_lent (l := tp) rfl) ?_
  refine O_p (.b false) (by exact (by rw [r_gtr rfl rfl, decide_eq_false (by omega)])) ?_
  refine O_nil ?_
  refine C_cond (x := false) rfl (fun h => by cases h) (fun _ => ?_)
  refine C_skip ?_
  refine C_seq ?_
  refine C_region ?_
  refine O_p (.p (some (F, 0))) (r_mv rfl) ?_
  refine O_p (.p (some (F, 0))) (r_nilc rfl) ?_
  refine O_p (.p (some (F, 0))) (r_fadd' rfl rfl) ?_
  refine O_p (.sl (some (Pb, 0)) np np 0) (r_ld rfl hH4.get0 rfl) ?_
  refine O_p (.i .i64 ((i : Nat) : Int)) (r_mv rfl) ?_
  refine O_p (.p (some (Pb, (i * 4 + 0)))) (by exact (r_islr (b := Pb) (k := i) (len := np) (cap := np) (g := 0) rfl rfl (by omega))) ?_
  refine O_p (.p (some (Pb, (i * 4 + 0)))) (r_mv rfl) ?_
  refine O_nil ?_
  refine C_seq ?_
  refine C_seq ?_
  refine C_region ?_
  refine O_p (.p (some (Pb, (i * 4 + 0)))) (r_mv rfl) ?_
  refine O_p (.p (some (Pb, (i * 4 + 0)))) (r_nilc rfl) ?_
  refine O_p (.p (some (Pb, (i * 4 + 0)))) (r_fadd' rfl rfl) ?_
  refine O_p (.b true) (by exact (r_ld rfl hH4.get1 ((foc_get hrw hi rfl (by decide)).trans rfl))) ?_
  refine O_p (.b false) (r_un rfl rfl) ?_
  refine O_nil ?_
  refine C_cond (x := false) rfl (fun h => by cases h) (fun _ => ?_)
  refine C_skip ?_
  refine C_seq ?_
  refine C_region ?_
  have hkl : k < sb.length := (List.getElem?_eq_some_iff.1 hsi).1
  refine O_p (.p (some (Pb, (i * 4 + 0)))) (r_mv rfl) ?_
  refine O_p (.s (txt tp)) (r_mv rfl) ?_
  have hH5 := ((hH4.top2).top2)
  refine O_call (Ev.mono (sat_ev (tp := tp) hrw hi hss hsl hH5) fun v6 H7 hq8 => ?_)
  rw [show fxI (sfP tp) sb = ((k : Nat) : Int) from by unfold fxI; rw [hfi, if_pos (List.getElem?_eq_some_iff.1 hsi).1]] at hq8
  obtain ⟨rfl, hH9⟩ := hq8
  refine O_p (.i .i64 (((k : Nat)) : Int)) (r_mv rfl) ?_
  refine O_nil ?_
  refine C_seq ?_
  refine C_seq ?_
  refine C_region ?_
  refine O_p (.i .i64 (((k : Nat)) : Int)) (r_mv rfl) ?_
  refine O_p (.b true) (by exact (by rw [r_geq rfl rfl, decide_eq_true (by omega)])) ?_
  refine O_nil ?_
  refine C_cond (x := true) rfl (fun _ => ?_) (fun h => by cases h)
  refine C_seq ?_
  refine C_seq ?_
  refine C_region ?_
  refine O_p (.p (some (Pb, (i * 4 + 0)))) (r_mv rfl) ?_
  refine O_p (.p (some (Pb, (i * 4 + 0)))) (r_nilc rfl) ?_
  refine O_p (.p (some (Pb, (i * 4 + 1)))) (r_fadd' rfl rfl) ?_
  refine O_p sv (by exact (r_ld rfl hH9.get0 ((foc_get hrw hi rfl (by decide)).trans rfl))) ?_
  refine O_p (.i .i64 (((k : Nat)) : Int)) (r_mv rfl) ?_
  refine O_q (by exact Sq.cell hss (su_lens sb) hH9.top1 rfl (i := k) rfl (r := [(.s (txt tp)), (.i .i64 md), (.b false)]) (su_get hsi) (by decide)) fun v11 hv10 => ?_
  obtain ⟨rb12, ro13, rfl, hrg14, hrt15, hrb16, hput17, hqs18⟩ := hv10
  refine O_p (.p (some (rb12, (ro13 + 2)))) (r_fadd' rfl rfl) ?_
  refine O_p (.b false) (r_ldR (q := 2) rfl ⟨_, _, hrg14, hrt15⟩ rfl) ?_
  refine O_p (.b true) (r_un rfl rfl) ?_
  refine O_nil ?_
  refine C_cond (x := true) rfl (fun _ => ?_) (fun h => by cases h)
  refine C_seq ?_
  refine C_region ?_
  refine O_p (.i .i64 8) (r_mv rfl) ?_
  refine O_nil ?_
  refine C_ret ?_
  refine nx_ret ?_
  refine nx_ret ?_
  have hH19 := (((hH9.top1).top1).top2)
  exact ⟨.inr rfl, _, resL_one (r_tmp (v := (.i .i64 8)) rfl), rfl, hH19⟩
set_option maxHeartbeats 1000000 in
theorem rsub_none_ok {H : AH} {R : HL} {F Pb np i room : Nat} {rws : List (List AV)} {cv : AV} {sv wv : AV} {sc : List AV} {sb : List Su} {lost md : Int} {k : Nat} {tp : List UInt8} {mode : Int} (hk : i < np) (hrw : ∀ x ∈ rws, x.length = 4) (hi : i < rws.length) (hss : Sq 3 sv sc (sb.map suRow).flatten) (hsl : sb.length ≤ 1000000) (hg : sget sb tp = none) (hcn : sb.length < 64) (hm : 0 ≤ mode ∧ mode ≤ 2) (htp : 0 < tp.length ∧ tp.length ≤ 256) (hH0 : Hs H ([(F, some (.cells ([(.sl (some (Pb, 0)) np np 0), (.i .i64 ((room : Nat) : Int)), cv]) true))] ++ ([(Pb, some (.cells (((rws).set i (rrow true sv wv lost)).flatten) true))] ++ ((qseg sv sc) ++ (R))))) : Ev tabA spA (.fn (.func 37) [] []) [.p (some (F, 0)), .i .i64 ((i : Nat) : Int), .s (txt tp), .i .i64 mode] H (fun r H' => r = .i .i64 0 ∧ ∃ v' c', Sq 3 v' c' ((sb ++ [(⟨tp, mode, false⟩ : Su)]).map suRow).flatten ∧ Hs H' ([(F, some (.cells ([(.sl (some (Pb, 0)) np np 0), (.i .i64 ((room : Nat) : Int)), cv]) true))] ++ ([(Pb, some (.cells (((rws).set i (rrow true v' wv lost)).flatten) true))] ++ ((qseg v' c') ++ (R))))) := by
  refine Ev_C (F := x37) rfl ?_
  refine C_seq ?_
  refine C_region ?_
  refine O_p (.i .i64 0) (r_mv rfl) ?_
  refine O_nil ?_
  refine C_seq ?_
  refine C_seq ?_
  refine C_region ?_
  refine O_p (.p (some (F, 0))) (r_mv rfl) ?_
  refine O_p (.i .i64 ((i : Nat) : Int)) (r_mv rfl) ?_
  refine O_call (Ev.mono (there_yes ⟨by omega, by omega⟩ hH0) fun v1 H2 hq3 => ?_)
  obtain ⟨rfl, hH4⟩ := hq3
  refine O_p (.b false) (r_un rfl rfl) ?_
  refine O_p (.b false) (r_mv rfl) ?_
  refine O_gk rfl ?_
  refine O_p (.i .i64 mode) (r_mv rfl) ?_
  refine O_gk rfl ?_
  refine O_p (.b false) (by exact (by rw [r_lss rfl rfl, decide_eq_false (by omega)])) ?_
  refine O_p (.b false) (r_pick_f rfl rfl) ?_
  refine O_p (.b false) (r_mv rfl) ?_
  refine O_gk rfl ?_
  refine O_p (.i .i64 mode) (r_mv rfl) ?_
  refine O_gk rfl ?_
  refine O_p (.b false) (by exact (by rw [r_gtr rfl rfl, decide_eq_false (by omega)])) ?_
  refine O_p (.b false) (r_pick_f rfl rfl) ?_
  refine O_p (.b false) (r_mv rfl) ?_
  refine O_gk rfl ?_
  refine O_p (.s (txt tp)) (r_mv rfl) ?_
  refine O_gk rfl ?_
  refine O_p (.b false) (by exact (by rw [r_eqt (b := ([] : List UInt8)) rfl rfl, decide_eq_false (by intro h; rw [h] at htp; exact absurd htp.1 (by decide))])) ?_
  refine O_p (.b false) (r_pick_f rfl rfl) ?_
  refine O_nil ?_
  refine C_cond (x := false) rfl (fun h => by cases h) (fun _ => ?_)
  refine C_skip ?_
  refine C_seq ?_
  refine C_seq ?_
  refine C_region ?_
  refine O_p (.s (txt tp)) (r_mv rfl) ?_
  refine O_p (.i .i64 ((((tp).length : Nat)) : Int)) (r_lent (l := tp) rfl) ?_
  refine O_p (.b false) (by exact (by rw [r_gtr rfl rfl, decide_eq_false (by omega)])) ?_
  refine O_nil ?_
  refine C_cond (x := false) rfl (fun h => by cases h) (fun _ => ?_)
  refine C_skip ?_
  refine C_seq ?_
  refine C_region ?_
  refine O_p (.p (some (F, 0))) (r_mv rfl) ?_
  refine O_p (.p (some (F, 0))) (r_nilc rfl) ?_
  refine O_p (.p (some (F, 0))) (r_fadd' rfl rfl) ?_
  refine O_p (.sl (some (Pb, 0)) np np 0) (r_ld rfl hH4.get0 rfl) ?_
  refine O_p (.i .i64 ((i : Nat) : Int)) (r_mv rfl) ?_
  refine O_p (.p (some (Pb, (i * 4 + 0)))) (by exact (r_islr (b := Pb) (k := i) (len := np) (cap := np) (g := 0) rfl rfl (by omega))) ?_
  refine O_p (.p (some (Pb, (i * 4 + 0)))) (r_mv rfl) ?_
  refine O_nil ?_
  refine C_seq ?_
  refine C_seq ?_
  refine C_region ?_
  refine O_p (.p (some (Pb, (i * 4 + 0)))) (r_mv rfl) ?_
  refine O_p (.p (some (Pb, (i * 4 + 0)))) (r_nilc rfl) ?_
  refine O_p (.p (some (Pb, (i * 4 + 0)))) (r_fadd' rfl rfl) ?_
  refine O_p (.b true) (by exact (r_ld rfl hH4.get1 ((foc_get hrw hi rfl (by decide)).trans rfl))) ?_
  refine O_p (.b false) (r_un rfl rfl) ?_
  refine O_nil ?_
  refine C_cond (x := false) rfl (fun h => by cases h) (fun _ => ?_)
  refine C_skip ?_
  refine C_seq ?_
  refine C_region ?_
  refine O_p (.p (some (Pb, (i * 4 + 0)))) (r_mv rfl) ?_
  refine O_p (.s (txt tp)) (r_mv rfl) ?_
  have hH5 := ((hH4.top2).top2)
  refine O_call (Ev.mono (sat_ev (tp := tp) hrw hi hss hsl hH5) fun v6 H7 hq8 => ?_)
  rw [fxI_none (sget_none hg)] at hq8
  obtain ⟨rfl, hH9⟩ := hq8
  refine O_p (.i .i64 (-1)) (r_mv rfl) ?_
  refine O_nil ?_
  refine C_seq ?_
  refine C_seq ?_
  refine C_region ?_
  refine O_p (.i .i64 (-1)) (r_mv rfl) ?_
  refine O_p (.b false) (by exact (by rw [r_geq rfl rfl, decide_eq_false (by decide)])) ?_
  refine O_nil ?_
  refine C_cond (x := false) rfl (fun h => by cases h) (fun _ => ?_)
  refine C_skip ?_
  refine C_seq ?_
  refine C_seq ?_
  refine C_region ?_
  have hml : (sb.map suRow).length = sb.length := List.length_map _
  refine O_p (.p (some (Pb, (i * 4 + 0)))) (r_mv rfl) ?_
  refine O_p (.p (some (Pb, (i * 4 + 0)))) (r_nilc rfl) ?_
  refine O_p (.p (some (Pb, (i * 4 + 1)))) (r_fadd' rfl rfl) ?_
  refine O_p sv (by exact (r_ld rfl hH9.get0 ((foc_get hrw hi rfl (by decide)).trans rfl))) ?_
  refine O_p (.i .i64 (((sb.length : Nat)) : Int)) (by exact (by exact r_lenOf rfl (hss.lenOf ((flat_len (su_lens sb)).trans (by rw [List.length_map])) (by decide)) hss.isSl)) ?_
  refine O_p (.b false) (by exact (by rw [r_geq rfl rfl, decide_eq_false (by omega)])) ?_
  refine O_nil ?_
  refine C_cond (x := false) rfl (fun h => by cases h) (fun _ => ?_)
  refine C_skip ?_
  refine C_seq ?_
  refine C_region ?_
  refine O_p (.p (some (Pb, (i * 4 + 0)))) (r_mv rfl) ?_
  refine O_p (.p (some (Pb, (i * 4 + 0)))) (r_mv rfl) ?_
  refine O_p (.p (some (Pb, (i * 4 + 0)))) (r_nilc rfl) ?_
  refine O_p (.p (some (Pb, (i * 4 + 1)))) (r_fadd' rfl rfl) ?_
  refine O_p sv (by exact (r_ld rfl hH9.get0 ((foc_get hrw hi rfl (by decide)).trans rfl))) ?_
  refine O_p (.s (txt tp)) (r_mv rfl) ?_
  refine O_p (.i .i64 mode) (r_mv rfl) ?_
  refine O_p (.agg [(.s (txt tp)), (.i .i64 mode), (.b false)]) (r_build rfl) ?_
  refine O_bslice (c := [(.s (txt tp)), (.i .i64 mode), (.b false)]) rfl fun n10 H11 hN12 => ?_
  have hH13 := hH9.new hN12
  refine O_qh (by exact r_appq (n := sb.length) (k := 1) (new := [(.s (txt tp)), (.i .i64 mode), (.b false)]) hH13.top2 hss rfl rfl rfl (src_blk hH13.get0 (by rfl)) rfl (by decide) (by decide) ((flat_len (su_lens sb)).trans (by rw [List.length_map])) (by first | omega | (simp only [List.length_take, List.length_drop, List.length_append, List.length_cons, List.length_nil, beN_len] <;> omega))) fun o14 H15 hA17 => ?_
  obtain ⟨c16, hA17, hH18⟩ := hA17
  obtain ⟨qa19, ql20, qc21, qg22, rfl⟩ := hA17.isSl
  refine O_p (.p (some (Pb, (i * 4 + 0)))) (r_nilc rfl) ?_
  refine O_p (.p (some (Pb, (i * 4 + 1)))) (r_fadd' rfl rfl) ?_
  refine O_store (vs := [(.sl qa19 ql20 qc21 qg22)]) (c' := ((rws).set i (rrow true (.sl qa19 ql20 qc21 qg22) wv lost)).flatten) rfl (by rfl) hH18.get2 rfl (List.cons_ne_nil _ _) (foc_len (n := 1) hrw hi rfl (Nat.le_of_ble_eq_true rfl)) (foc_put hrw hi rfl (Nat.le_of_ble_eq_true rfl) rfl) fun H23 hW24 => ?_
  have hH25 := hH18.wr2 hW24
  refine O_nil ?_
  refine C_seq ?_
  refine C_region ?_
  refine O_p (.i .i64 0) (r_mv rfl) ?_
  refine O_nil ?_
  refine C_ret ?_
  have hH26 := (hH25.sub1)
  have hH27 := ((hH26.top1).top2)
  exact ⟨.inr rfl, _, resL_one (r_tmp (v := (.i .i64 0)) rfl), rfl, (.sl qa19 ql20 qc21 qg22), c16, by rw [← su_add]; exact hA17, hH27⟩
set_option maxHeartbeats 1000000 in
theorem rsub_none_full {H : AH} {R : HL} {F Pb np i room : Nat} {rws : List (List AV)} {cv : AV} {sv wv : AV} {sc : List AV} {sb : List Su} {lost md : Int} {k : Nat} {tp : List UInt8} {mode : Int} (hk : i < np) (hrw : ∀ x ∈ rws, x.length = 4) (hi : i < rws.length) (hss : Sq 3 sv sc (sb.map suRow).flatten) (hsl : sb.length ≤ 1000000) (hg : sget sb tp = none) (hcn : 64 ≤ sb.length) (hm : 0 ≤ mode ∧ mode ≤ 2) (htp : 0 < tp.length ∧ tp.length ≤ 256) (hH0 : Hs H ([(F, some (.cells ([(.sl (some (Pb, 0)) np np 0), (.i .i64 ((room : Nat) : Int)), cv]) true))] ++ ([(Pb, some (.cells (((rws).set i (rrow true sv wv lost)).flatten) true))] ++ ((qseg sv sc) ++ (R))))) : Ev tabA spA (.fn (.func 37) [] []) [.p (some (F, 0)), .i .i64 ((i : Nat) : Int), .s (txt tp), .i .i64 mode] H (fun r H' => r = .i .i64 9 ∧ Hs H' ([(F, some (.cells ([(.sl (some (Pb, 0)) np np 0), (.i .i64 ((room : Nat) : Int)), cv]) true))] ++ ([(Pb, some (.cells (((rws).set i (rrow true sv wv lost)).flatten) true))] ++ ((qseg sv sc) ++ (R))))) := by
  refine Ev_C (F := x37) rfl ?_
  refine C_seq ?_
  refine C_region ?_
  refine O_p (.i .i64 0) (r_mv rfl) ?_
  refine O_nil ?_
  refine C_seq ?_
  refine C_seq ?_
  refine C_region ?_
  refine O_p (.p (some (F, 0))) (r_mv rfl) ?_
  refine O_p (.i .i64 ((i : Nat) : Int)) (r_mv rfl) ?_
  refine O_call (Ev.mono (there_yes ⟨by omega, by omega⟩ hH0) fun v1 H2 hq3 => ?_)
  obtain ⟨rfl, hH4⟩ := hq3
  refine O_p (.b false) (r_un rfl rfl) ?_
  refine O_p (.b false) (r_mv rfl) ?_
  refine O_gk rfl ?_
  refine O_p (.i .i64 mode) (r_mv rfl) ?_
  refine O_gk rfl ?_
  refine O_p (.b false) (by exact (by rw [r_lss rfl rfl, decide_eq_false (by omega)])) ?_
  refine O_p (.b false) (r_pick_f rfl rfl) ?_
  refine O_p (.b false) (r_mv rfl) ?_
  refine O_gk rfl ?_
  refine O_p (.i .i64 mode) (r_mv rfl) ?_
  refine O_gk rfl ?_
  refine O_p (.b false) (by exact (by rw [r_gtr rfl rfl, decide_eq_false (by omega)])) ?_
  refine O_p (.b false) (r_pick_f rfl rfl) ?_
  refine O_p (.b false) (r_mv rfl) ?_
  refine O_gk rfl ?_
  refine O_p (.s (txt tp)) (r_mv rfl) ?_
  refine O_gk rfl ?_
  refine O_p (.b false) (by exact (by rw [r_eqt (b := ([] : List UInt8)) rfl rfl, decide_eq_false (by intro h; rw [h] at htp; exact absurd htp.1 (by decide))])) ?_
  refine O_p (.b false) (r_pick_f rfl rfl) ?_
  refine O_nil ?_
  refine C_cond (x := false) rfl (fun h => by cases h) (fun _ => ?_)
  refine C_skip ?_
  refine C_seq ?_
  refine C_seq ?_
  refine C_region ?_
  refine O_p (.s (txt tp)) (r_mv rfl) ?_
  refine O_p (.i .i64 ((((tp).length : Nat)) : Int)) (r_lent (l := tp) rfl) ?_
  refine O_p (.b false) (by exact (by rw [r_gtr rfl rfl, decide_eq_false (by omega)])) ?_
  refine O_nil ?_
  refine C_cond (x := false) rfl (fun h => by cases h) (fun _ => ?_)
  refine C_skip ?_
  refine C_seq ?_
  refine C_region ?_
  refine O_p (.p (some (F, 0))) (r_mv rfl) ?_
  refine O_p (.p (some (F, 0))) (r_nilc rfl) ?_
  refine O_p (.p (some (F, 0))) (r_fadd' rfl rfl) ?_
  refine O_p (.sl (some (Pb, 0)) np np 0) (r_ld rfl hH4.get0 rfl) ?_
  refine O_p (.i .i64 ((i : Nat) : Int)) (r_mv rfl) ?_
  refine O_p (.p (some (Pb, (i * 4 + 0)))) (by exact (r_islr (b := Pb) (k := i) (len := np) (cap := np) (g := 0) rfl rfl (by omega))) ?_
  refine O_p (.p (some (Pb, (i * 4 + 0)))) (r_mv rfl) ?_
  refine O_nil ?_
  refine C_seq ?_
  refine C_seq ?_
  refine C_region ?_
  refine O_p (.p (some (Pb, (i * 4 + 0)))) (r_mv rfl) ?_
  refine O_p (.p (some (Pb, (i * 4 + 0)))) (r_nilc rfl) ?_
  refine O_p (.p (some (Pb, (i * 4 + 0)))) (r_fadd' rfl rfl) ?_
  refine O_p (.b true) (by exact (r_ld rfl hH4.get1 ((foc_get hrw hi rfl (by decide)).trans rfl))) ?_
  refine O_p (.b false) (r_un rfl rfl) ?_
  refine O_nil ?_
  refine C_cond (x := false) rfl (fun h => by cases h) (fun _ => ?_)
  refine C_skip ?_
  refine C_seq ?_
  refine C_region ?_
  refine O_p (.p (some (Pb, (i * 4 + 0)))) (r_mv rfl) ?_
  refine O_p (.s (txt tp)) (r_mv rfl) ?_
  have hH5 := ((hH4.top2).top2)
  refine O_call (Ev.mono (sat_ev (tp := tp) hrw hi hss hsl hH5) fun v6 H7 hq8 => ?_)
  rw [fxI_none (sget_none hg)] at hq8
  obtain ⟨rfl, hH9⟩ := hq8
  refine O_p (.i .i64 (-1)) (r_mv rfl) ?_
  refine O_nil ?_
  refine C_seq ?_
  refine C_seq ?_
  refine C_region ?_
  refine O_p (.i .i64 (-1)) (r_mv rfl) ?_
  refine O_p (.b false) (by exact (by rw [r_geq rfl rfl, decide_eq_false (by decide)])) ?_
  refine O_nil ?_
  refine C_cond (x := false) rfl (fun h => by cases h) (fun _ => ?_)
  refine C_skip ?_
  refine C_seq ?_
  refine C_seq ?_
  refine C_region ?_
  have hml : (sb.map suRow).length = sb.length := List.length_map _
  refine O_p (.p (some (Pb, (i * 4 + 0)))) (r_mv rfl) ?_
  refine O_p (.p (some (Pb, (i * 4 + 0)))) (r_nilc rfl) ?_
  refine O_p (.p (some (Pb, (i * 4 + 1)))) (r_fadd' rfl rfl) ?_
  refine O_p sv (by exact (r_ld rfl hH9.get0 ((foc_get hrw hi rfl (by decide)).trans rfl))) ?_
  refine O_p (.i .i64 (((sb.length : Nat)) : Int)) (by exact (by exact r_lenOf rfl (hss.lenOf ((flat_len (su_lens sb)).trans (by rw [List.length_map])) (by decide)) hss.isSl)) ?_
  refine O_p (.b true) (by exact (by rw [r_geq rfl rfl, decide_eq_true (by omega)])) ?_
  refine O_nil ?_
  refine C_cond (x := true) rfl (fun _ => ?_) (fun h => by cases h)
  refine C_seq ?_
  refine C_region ?_
  refine O_p (.i .i64 9) (r_mv rfl) ?_
  refine O_nil ?_
  refine C_ret ?_
  refine nx_ret ?_
  have hH10 := (((hH9.top1).top1).top2)
  exact ⟨.inr rfl, _, resL_one (r_tmp (v := (.i .i64 9)) rfl), rfl, hH10⟩
set_option maxHeartbeats 1000000 in
theorem rsub_fail_ok {H : AH} {R : HL} {F Pb np i room : Nat} {rws : List (List AV)} {cv : AV} {sv wv : AV} {sc : List AV} {sb : List Su} {lost md : Int} {k : Nat} {tp : List UInt8} {mode : Int} (hk : i < np) (hrw : ∀ x ∈ rws, x.length = 4) (hi : i < rws.length) (hss : Sq 3 sv sc (sb.map suRow).flatten) (hsl : sb.length ≤ 1000000) (hfi : sb.findIdx (sfP tp) = k) (hsi : sb[k]? = some ⟨tp, md, true⟩) (hcn : (sb.length - 1) < 64) (hm : 0 ≤ mode ∧ mode ≤ 2) (htp : 0 < tp.length ∧ tp.length ≤ 256) (hH0 : Hs H ([(F, some (.cells ([(.sl (some (Pb, 0)) np np 0), (.i .i64 ((room : Nat) : Int)), cv]) true))] ++ ([(Pb, some (.cells (((rws).set i (rrow true sv wv lost)).flatten) true))] ++ ((qseg sv sc) ++ (R))))) : Ev tabA spA (.fn (.func 37) [] []) [.p (some (F, 0)), .i .i64 ((i : Nat) : Int), .s (txt tp), .i .i64 mode] H (fun r H' => r = .i .i64 0 ∧ ∃ v' c', Sq 3 v' c' (((sb.eraseIdx k) ++ [(⟨tp, mode, false⟩ : Su)]).map suRow).flatten ∧ Hs H' ([(F, some (.cells ([(.sl (some (Pb, 0)) np np 0), (.i .i64 ((room : Nat) : Int)), cv]) true))] ++ ([(Pb, some (.cells (((rws).set i (rrow true v' wv lost)).flatten) true))] ++ ((qseg v' c') ++ (R))))) := by
  refine Ev_C (F := x37) rfl ?_
  refine C_seq ?_
  refine C_region ?_
  refine O_p (.i .i64 0) (r_mv rfl) ?_
  refine O_nil ?_
  refine C_seq ?_
  refine C_seq ?_
  refine C_region ?_
  refine O_p (.p (some (F, 0))) (r_mv rfl) ?_
  refine O_p (.i .i64 ((i : Nat) : Int)) (r_mv rfl) ?_
  refine O_call (Ev.mono (there_yes ⟨by omega, by omega⟩ hH0) fun v1 H2 hq3 => ?_)
  obtain ⟨rfl, hH4⟩ := hq3
  refine O_p (.b false) (r_un rfl rfl) ?_
  refine O_p (.b false) (r_mv rfl) ?_
  refine O_gk rfl ?_
  refine O_p (.i .i64 mode) (r_mv rfl) ?_
  refine O_gk rfl ?_
  refine O_p (.b false) (by exact (by rw [r_lss rfl rfl, decide_eq_false (by omega)])) ?_
  refine O_p (.b false) (r_pick_f rfl rfl) ?_
  refine O_p (.b false) (r_mv rfl) ?_
  refine O_gk rfl ?_
  refine O_p (.i .i64 mode) (r_mv rfl) ?_
  refine O_gk rfl ?_
  refine O_p (.b false) (by exact (by rw [r_gtr rfl rfl, decide_eq_false (by omega)])) ?_
  refine O_p (.b false) (r_pick_f rfl rfl) ?_
  refine O_p (.b false) (r_mv rfl) ?_
  refine O_gk rfl ?_
  refine O_p (.s (txt tp)) (r_mv rfl) ?_
  refine O_gk rfl ?_
  refine O_p (.b false) (by exact (by rw [r_eqt (b := ([] : List UInt8)) rfl rfl, decide_eq_false (by intro h; rw [h] at htp; exact absurd htp.1 (by decide))])) ?_
  refine O_p (.b false) (r_pick_f rfl rfl) ?_
  refine O_nil ?_
  refine C_cond (x := false) rfl (fun h => by cases h) (fun _ => ?_)
  refine C_skip ?_
  refine C_seq ?_
  refine C_seq ?_
  refine C_region ?_
  refine O_p (.s (txt tp)) (r_mv rfl) ?_
  refine O_p (.i .i64 ((((tp).length : Nat)) : Int)) (r_lent (l := tp) rfl) ?_
  refine O_p (.b false) (by exact (by rw [r_gtr rfl rfl, decide_eq_false (by omega)])) ?_
  refine O_nil ?_
  refine C_cond (x := false) rfl (fun h => by cases h) (fun _ => ?_)
  refine C_skip ?_
  refine C_seq ?_
  refine C_region ?_
  refine O_p (.p (some (F, 0))) (r_mv rfl) ?_
  refine O_p (.p (some (F, 0))) (r_nilc rfl) ?_
  refine O_p (.p (some (F, 0))) (r_fadd' rfl rfl) ?_
  refine O_p (.sl (some (Pb, 0)) np np 0) (r_ld rfl hH4.get0 rfl) ?_
  refine O_p (.i .i64 ((i : Nat) : Int)) (r_mv rfl) ?_
  refine O_p (.p (some (Pb, (i * 4 + 0)))) (by exact (r_islr (b := Pb) (k := i) (len := np) (cap := np) (g := 0) rfl rfl (by omega))) ?_
  refine O_p (.p (some (Pb, (i * 4 + 0)))) (r_mv rfl) ?_
  refine O_nil ?_
  refine C_seq ?_
  refine C_seq ?_
  refine C_region ?_
  refine O_p (.p (some (Pb, (i * 4 + 0)))) (r_mv rfl) ?_
  refine O_p (.p (some (Pb, (i * 4 + 0)))) (r_nilc rfl) ?_
  refine O_p (.p (some (Pb, (i * 4 + 0)))) (r_fadd' rfl rfl) ?_
  refine O_p (.b true) (by exact (r_ld rfl hH4.get1 ((foc_get hrw hi rfl (by decide)).trans rfl))) ?_
  refine O_p (.b false) (r_un rfl rfl) ?_
  refine O_nil ?_
  refine C_cond (x := false) rfl (fun h => by cases h) (fun _ => ?_)
  refine C_skip ?_
  refine C_seq ?_
  refine C_region ?_
  have hkl : k < sb.length := (List.getElem?_eq_some_iff.1 hsi).1
  refine O_p (.p (some (Pb, (i * 4 + 0)))) (r_mv rfl) ?_
  refine O_p (.s (txt tp)) (r_mv rfl) ?_
  have hH5 := ((hH4.top2).top2)
  refine O_call (Ev.mono (sat_ev (tp := tp) hrw hi hss hsl hH5) fun v6 H7 hq8 => ?_)
  rw [show fxI (sfP tp) sb = ((k : Nat) : Int) from by unfold fxI; rw [hfi, if_pos (List.getElem?_eq_some_iff.1 hsi).1]] at hq8
  obtain ⟨rfl, hH9⟩ := hq8
  refine O_p (.i .i64 (((k : Nat)) : Int)) (r_mv rfl) ?_
  refine O_nil ?_
  refine C_seq ?_
  refine C_seq ?_
  refine C_region ?_
  refine O_p (.i .i64 (((k : Nat)) : Int)) (r_mv rfl) ?_
  refine O_p (.b true) (by exact (by rw [r_geq rfl rfl, decide_eq_true (by omega)])) ?_
  refine O_nil ?_
  refine C_cond (x := true) rfl (fun _ => ?_) (fun h => by cases h)
  refine C_seq ?_
  refine C_seq ?_
  refine C_region ?_
  refine O_p (.p (some (Pb, (i * 4 + 0)))) (r_mv rfl) ?_
  refine O_p (.p (some (Pb, (i * 4 + 0)))) (r_nilc rfl) ?_
  refine O_p (.p (some (Pb, (i * 4 + 1)))) (r_fadd' rfl rfl) ?_
  refine O_p sv (by exact (r_ld rfl hH9.get0 ((foc_get hrw hi rfl (by decide)).trans rfl))) ?_
  refine O_p (.i .i64 (((k : Nat)) : Int)) (r_mv rfl) ?_
  refine O_q (by exact Sq.cell hss (su_lens sb) hH9.top1 rfl (i := k) rfl (r := [(.s (txt tp)), (.i .i64 md), (.b true)]) (su_get hsi) (by decide)) fun v11 hv10 => ?_
  obtain ⟨rb12, ro13, rfl, hrg14, hrt15, hrb16, hput17, hqs18⟩ := hv10
  refine O_p (.p (some (rb12, (ro13 + 2)))) (r_fadd' rfl rfl) ?_
  refine O_p (.b true) (r_ldR (q := 2) rfl ⟨_, _, hrg14, hrt15⟩ rfl) ?_
  refine O_p (.b false) (r_un rfl rfl) ?_
  refine O_nil ?_
  refine C_cond (x := false) rfl (fun h => by cases h) (fun _ => ?_)
  refine C_skip ?_
  refine C_draw fun b19 H20 hbase21 hA22 => ?_
  have hH23 : Hs H20 (asideL b19 [1] ++ _) := hH9.aside hA22 [1] hbase21 rfl (by decide)
  have hH24 : Hs H20 ([(b19 + 1, none)] ++ _) := hH23
  have hml : (sb.map suRow).length = sb.length := List.length_map _
  refine D_l (v := (.p (some (Pb, (i * 4 + 0))))) rfl rfl rfl (r_mv rfl) ?_
  refine D_l (v := (.p (some (Pb, (i * 4 + 0))))) rfl rfl rfl (r_mv rfl) ?_
  refine D_l (v := (.p (some (Pb, (i * 4 + 0))))) rfl rfl rfl (r_nilc rfl) ?_
  refine D_l (v := (.p (some (Pb, (i * 4 + 1))))) rfl rfl rfl (r_fadd' rfl rfl) ?_
  refine D_l (v := (.i .i64 (((k : Nat)) : Int))) rfl rfl rfl (r_mv rfl) ?_
  refine D_l (v := (.p (some (Pb, (i * 4 + 0))))) rfl rfl rfl (r_mv rfl) ?_
  refine D_l (v := (.p (some (Pb, (i * 4 + 0))))) rfl rfl rfl (r_nilc rfl) ?_
  refine D_l (v := (.p (some (Pb, (i * 4 + 1))))) rfl rfl rfl (r_fadd' rfl rfl) ?_
  refine D_l (v := (.i .i64 (((k : Nat)) : Int))) rfl rfl rfl (r_mv rfl) ?_
  refine D_l (v := (.i .i64 ((((k : Nat)) : Int) + 1))) rfl rfl rfl (by exact (r_addi rfl rfl (wrap_i64 (by omega) (by omega)))) ?_
  refine D_r (v := sv) rfl rfl rfl (by exact (r_ld rfl hH24.get1 ((foc_get hrw hi rfl (by decide)).trans rfl))) ?_
  refine D_q rfl rfl rfl (by exact Sq.rdHi hss (su_lens sb) (by decide) hH24.top2 rfl (i := k) rfl (by rw [List.length_map]; omega)) fun v26 hv25 => ?_
  obtain ⟨hl27, hs28⟩ := hv25
  refine D_r (v := sv) rfl rfl rfl (by exact (r_ld rfl hH24.get1 ((foc_get hrw hi rfl (by decide)).trans rfl))) ?_
  refine D_q rfl rfl rfl (by exact Sq.rdLo hss (su_lens sb) (by decide) hH24.top2 rfl (i := (k + 1)) rfl (by rw [List.length_map]; omega)) fun v30 hv29 => ?_
  obtain ⟨hl31, hs32⟩ := hv29
  refine D_m (f := fun n => ((.sl (some (n, 0)) 0 0 0), .cells [] true)) rfl rfl fun H34 hW35 => ?_
  have hH37 := hH24.wr0 hW35
  generalize hn36 : b19 + 1 = n33 at hW35 hH37 ⊢
  refine And.intro (And.intro (Or.inr (look_run rfl rfl (r_ld rfl hH37.get1 ((foc_get hrw hi rfl (by decide)).trans rfl)))) (And.intro (Or.inr (look_run rfl rfl (r_ld rfl hH37.get1 ((foc_get hrw hi rfl (by decide)).trans rfl)))) True.intro)) ?_
  refine D_qh rfl rfl (by exact r_appq (n := 0) (k := k) (new := ((sb.map suRow).take k).flatten) hH37.top0 (Sq.full (b := n33) (n := 0) (g := 0) (sz := 3) (l := []) (.inl rfl) rfl) rfl rfl hl27 (hs28 _ _ hH37.top2) (tk_len (su_lens sb) (by rw [List.length_map]; omega)) (by decide) (by decide) rfl (by first | omega | (simp only [List.length_take, List.length_drop, List.length_append, List.length_cons, List.length_nil, beN_len] <;> omega))) fun o38 H39 hA41 => ?_
  obtain ⟨c40, hA41, hH42⟩ := hA41
  refine And.intro (And.intro (Or.inr (look_run rfl rfl (r_ld rfl hH42.get1 ((foc_get hrw hi rfl (by decide)).trans rfl)))) (And.intro (Or.inl rfl) True.intro)) ?_
  refine D_qh rfl rfl (by exact r_appq (n := (0 + k)) (k := ((sb.map suRow).length - (k + 1))) (new := ((sb.map suRow).drop (k + 1)).flatten) hH42.top0 hA41 rfl rfl hl31 (hs32 _ _ hH42.top2) (dr_len (su_lens sb)) (by decide) (by decide) (len_app rfl (tk_len (su_lens sb) (by rw [List.length_map]; omega))) (by first | omega | (simp only [List.length_take, List.length_drop, List.length_append, List.length_cons, List.length_nil, beN_len] <;> omega))) fun o43 H44 hA46 => ?_
  obtain ⟨c45, hA46, hH47⟩ := hA46
  refine And.intro (And.intro (Or.inl rfl) True.intro) ?_
  obtain ⟨qa48, ql49, qc50, qg51, rfl⟩ := hA46.isSl
  refine D_l (v := (.p (some (Pb, (i * 4 + 0))))) rfl rfl rfl (r_nilc rfl) ?_
  refine D_l (v := (.p (some (Pb, (i * 4 + 1))))) rfl rfl rfl (r_fadd' rfl rfl) ?_
  refine D_store (vs := [(.sl qa48 ql49 qc50 qg51)]) (c' := ((rws).set i (rrow true (.sl qa48 ql49 qc50 qg51) wv lost)).flatten) rfl (by rfl) hH47.get1 rfl (List.cons_ne_nil _ _) (foc_len (n := 1) hrw hi rfl (Nat.le_of_ble_eq_true rfl)) (foc_put hrw hi rfl (Nat.le_of_ble_eq_true rfl) rfl) fun H52 hW53 => ?_
  have hH54 := hH47.wr1 hW53
  refine And.intro True.intro ?_
  refine D_nil ?_
  refine C_seq ?_
  refine C_seq ?_
  refine C_region ?_
  refine O_p (.p (some (Pb, (i * 4 + 0)))) (r_mv rfl) ?_
  refine O_p (.p (some (Pb, (i * 4 + 0)))) (r_nilc rfl) ?_
  refine O_p (.p (some (Pb, (i * 4 + 1)))) (r_fadd' rfl rfl) ?_
  refine O_p (.sl qa48 ql49 qc50 qg51) (by exact (r_ld rfl hH54.get1 ((foc_get hrw hi rfl (by decide)).trans rfl))) ?_
  refine O_p (.i .i64 (((((0 + k) + ((sb.map suRow).length - (k + 1))) : Nat)) : Int)) (by exact (by exact r_lenOf rfl (hA46.lenOf (len_app (len_app rfl (tk_len (su_lens sb) (by rw [List.length_map]; omega))) (dr_len (su_lens sb))) (by decide)) hA46.isSl)) ?_
  refine O_p (.b false) (by exact (by rw [r_geq rfl rfl, decide_eq_false (by omega)])) ?_
  refine O_nil ?_
  refine C_cond (x := false) rfl (fun h => by cases h) (fun _ => ?_)
  refine C_skip ?_
  refine C_seq ?_
  refine C_region ?_
  refine O_p (.p (some (Pb, (i * 4 + 0)))) (r_mv rfl) ?_
  refine O_p (.p (some (Pb, (i * 4 + 0)))) (r_mv rfl) ?_
  refine O_p (.p (some (Pb, (i * 4 + 0)))) (r_nilc rfl) ?_
  refine O_p (.p (some (Pb, (i * 4 + 1)))) (r_fadd' rfl rfl) ?_
  refine O_p (.sl qa48 ql49 qc50 qg51) (by exact (r_ld rfl hH54.get1 ((foc_get hrw hi rfl (by decide)).trans rfl))) ?_
  refine O_p (.s (txt tp)) (r_mv rfl) ?_
  refine O_p (.i .i64 mode) (r_mv rfl) ?_
  refine O_p (.agg [(.s (txt tp)), (.i .i64 mode), (.b false)]) (r_build rfl) ?_
  refine O_bslice (c := [(.s (txt tp)), (.i .i64 mode), (.b false)]) rfl fun n55 H56 hN57 => ?_
  have hH58 := hH54.new hN57
  refine O_qh (by exact r_appq (n := ((0 + k) + ((sb.map suRow).length - (k + 1)))) (k := 1) (new := [(.s (txt tp)), (.i .i64 mode), (.b false)]) hH58.top1 hA46 rfl rfl rfl (src_blk hH58.get0 (by rfl)) rfl (by decide) (by decide) (len_app (len_app rfl (tk_len (su_lens sb) (by rw [List.length_map]; omega))) (dr_len (su_lens sb))) (by first | omega | (simp only [List.length_take, List.length_drop, List.length_append, List.length_cons, List.length_nil, beN_len] <;> omega))) fun o59 H60 hA62 => ?_
  obtain ⟨c61, hA62, hH63⟩ := hA62
  obtain ⟨qa64, ql65, qc66, qg67, rfl⟩ := hA62.isSl
  refine O_p (.p (some (Pb, (i * 4 + 0)))) (r_nilc rfl) ?_
  refine O_p (.p (some (Pb, (i * 4 + 1)))) (r_fadd' rfl rfl) ?_
  refine O_store (vs := [(.sl qa64 ql65 qc66 qg67)]) (c' := ((rws).set i (rrow true (.sl qa64 ql65 qc66 qg67) wv lost)).flatten) rfl (by rfl) hH63.get2 rfl (List.cons_ne_nil _ _) (foc_len (n := 1) hrw hi rfl (Nat.le_of_ble_eq_true rfl)) (foc_put hrw hi rfl (Nat.le_of_ble_eq_true rfl) rfl) fun H68 hW69 => ?_
  have hH70 := hH63.wr2 hW69
  refine O_nil ?_
  refine C_seq ?_
  refine C_region ?_
  refine O_p (.i .i64 0) (r_mv rfl) ?_
  refine O_nil ?_
  refine C_ret ?_
  have hH71 := ((hH70.sub1).sub2)
  have hH72 := ((hH71.top1).top2)
  exact ⟨.inr rfl, _, resL_one (r_tmp (v := (.i .i64 0)) rfl), rfl, (.sl qa64 ql65 qc66 qg67), c61, by rw [← su_add, ← su_del]; exact hA62, hH72⟩
set_option maxHeartbeats 1000000 in
theorem rsub_fail_full {H : AH} {R : HL} {F Pb np i room : Nat} {rws : List (List AV)} {cv : AV} {sv wv : AV} {sc : List AV} {sb : List Su} {lost md : Int} {k : Nat} {tp : List UInt8} {mode : Int} (hk : i < np) (hrw : ∀ x ∈ rws, x.length = 4) (hi : i < rws.length) (hss : Sq 3 sv sc (sb.map suRow).flatten) (hsl : sb.length ≤ 1000000) (hfi : sb.findIdx (sfP tp) = k) (hsi : sb[k]? = some ⟨tp, md, true⟩) (hcn : 64 ≤ (sb.length - 1)) (hm : 0 ≤ mode ∧ mode ≤ 2) (htp : 0 < tp.length ∧ tp.length ≤ 256) (hH0 : Hs H ([(F, some (.cells ([(.sl (some (Pb, 0)) np np 0), (.i .i64 ((room : Nat) : Int)), cv]) true))] ++ ([(Pb, some (.cells (((rws).set i (rrow true sv wv lost)).flatten) true))] ++ ((qseg sv sc) ++ (R))))) : Ev tabA spA (.fn (.func 37) [] []) [.p (some (F, 0)), .i .i64 ((i : Nat) : Int), .s (txt tp), .i .i64 mode] H (fun r H' => r = .i .i64 9 ∧ ∃ v' c', Sq 3 v' c' (((sb.eraseIdx k)).map suRow).flatten ∧ Hs H' ([(F, some (.cells ([(.sl (some (Pb, 0)) np np 0), (.i .i64 ((room : Nat) : Int)), cv]) true))] ++ ([(Pb, some (.cells (((rws).set i (rrow true v' wv lost)).flatten) true))] ++ ((qseg v' c') ++ (R))))) := by
  refine Ev_C (F := x37) rfl ?_
  refine C_seq ?_
  refine C_region ?_
  refine O_p (.i .i64 0) (r_mv rfl) ?_
  refine O_nil ?_
  refine C_seq ?_
  refine C_seq ?_
  refine C_region ?_
  refine O_p (.p (some (F, 0))) (r_mv rfl) ?_
  refine O_p (.i .i64 ((i : Nat) : Int)) (r_mv rfl) ?_
  refine O_call (Ev.mono (there_yes ⟨by omega, by omega⟩ hH0) fun v1 H2 hq3 => ?_)
  obtain ⟨rfl, hH4⟩ := hq3
  refine O_p (.b false) (r_un rfl rfl) ?_
  refine O_p (.b false) (r_mv rfl) ?_
  refine O_gk rfl ?_
  refine O_p (.i .i64 mode) (r_mv rfl) ?_
  refine O_gk rfl ?_
  refine O_p (.b false) (by exact (by rw [r_lss rfl rfl, decide_eq_false (by omega)])) ?_
  refine O_p (.b false) (r_pick_f rfl rfl) ?_
  refine O_p (.b false) (r_mv rfl) ?_
  refine O_gk rfl ?_
  refine O_p (.i .i64 mode) (r_mv rfl) ?_
  refine O_gk rfl ?_
  refine O_p (.b false) (by exact (by rw [r_gtr rfl rfl, decide_eq_false (by omega)])) ?_
  refine O_p (.b false) (r_pick_f rfl rfl) ?_
  refine O_p (.b false) (r_mv rfl) ?_
  refine O_gk rfl ?_
  refine O_p (.s (txt tp)) (r_mv rfl) ?_
  refine O_gk rfl ?_
  refine O_p (.b false) (by exact (by rw [r_eqt (b := ([] : List UInt8)) rfl rfl, decide_eq_false (by intro h; rw [h] at htp; exact absurd htp.1 (by decide))])) ?_
  refine O_p (.b false) (r_pick_f rfl rfl) ?_
  refine O_nil ?_
  refine C_cond (x := false) rfl (fun h => by cases h) (fun _ => ?_)
  refine C_skip ?_
  refine C_seq ?_
  refine C_seq ?_
  refine C_region ?_
  refine O_p (.s (txt tp)) (r_mv rfl) ?_
  refine O_p (.i .i64 ((((tp).length : Nat)) : Int)) (r_lent (l := tp) rfl) ?_
  refine O_p (.b false) (by exact (by rw [r_gtr rfl rfl, decide_eq_false (by omega)])) ?_
  refine O_nil ?_
  refine C_cond (x := false) rfl (fun h => by cases h) (fun _ => ?_)
  refine C_skip ?_
  refine C_seq ?_
  refine C_region ?_
  refine O_p (.p (some (F, 0))) (r_mv rfl) ?_
  refine O_p (.p (some (F, 0))) (r_nilc rfl) ?_
  refine O_p (.p (some (F, 0))) (r_fadd' rfl rfl) ?_
  refine O_p (.sl (some (Pb, 0)) np np 0) (r_ld rfl hH4.get0 rfl) ?_
  refine O_p (.i .i64 ((i : Nat) : Int)) (r_mv rfl) ?_
  refine O_p (.p (some (Pb, (i * 4 + 0)))) (by exact (r_islr (b := Pb) (k := i) (len := np) (cap := np) (g := 0) rfl rfl (by omega))) ?_
  refine O_p (.p (some (Pb, (i * 4 + 0)))) (r_mv rfl) ?_
  refine O_nil ?_
  refine C_seq ?_
  refine C_seq ?_
  refine C_region ?_
  refine O_p (.p (some (Pb, (i * 4 + 0)))) (r_mv rfl) ?_
  refine O_p (.p (some (Pb, (i * 4 + 0)))) (r_nilc rfl) ?_
  refine O_p (.p (some (Pb, (i * 4 + 0)))) (r_fadd' rfl rfl) ?_
  refine O_p (.b true) (by exact (r_ld rfl hH4.get1 ((foc_get hrw hi rfl (by decide)).trans rfl))) ?_
  refine O_p (.b false) (r_un rfl rfl) ?_
  refine O_nil ?_
  refine C_cond (x := false) rfl (fun h => by cases h) (fun _ => ?_)
  refine C_skip ?_
  refine C_seq ?_
  refine C_region ?_
  have hkl : k < sb.length := (List.getElem?_eq_some_iff.1 hsi).1
  refine O_p (.p (some (Pb, (i * 4 + 0)))) (r_mv rfl) ?_
  refine O_p (.s (txt tp)) (r_mv rfl) ?_
  have hH5 := ((hH4.top2).top2)
  refine O_call (Ev.mono (sat_ev (tp := tp) hrw hi hss hsl hH5) fun v6 H7 hq8 => ?_)
  rw [show fxI (sfP tp) sb = ((k : Nat) : Int) from by unfold fxI; rw [hfi, if_pos (List.getElem?_eq_some_iff.1 hsi).1]] at hq8
  obtain ⟨rfl, hH9⟩ := hq8
  refine O_p (.i .i64 (((k : Nat)) : Int)) (r_mv rfl) ?_
  refine O_nil ?_
  refine C_seq ?_
  refine C_seq ?_
  refine C_region ?_
  refine O_p (.i .i64 (((k : Nat)) : Int)) (r_mv rfl) ?_
  refine O_p (.b true) (by exact (by rw [r_geq rfl rfl, decide_eq_true (by omega)])) ?_
  refine O_nil ?_
  refine C_cond (x := true) rfl (fun _ => ?_) (fun h => by cases h)
  refine C_seq ?_
  refine C_seq ?_
  refine C_region ?_
  refine O_p (.p (some (Pb, (i * 4 + 0)))) (r_mv rfl) ?_
  refine O_p (.p (some (Pb, (i * 4 + 0)))) (r_nilc rfl) ?_
  refine O_p (.p (some (Pb, (i * 4 + 1)))) (r_fadd' rfl rfl) ?_
  refine O_p sv (by exact (r_ld rfl hH9.get0 ((foc_get hrw hi rfl (by decide)).trans rfl))) ?_
  refine O_p (.i .i64 (((k : Nat)) : Int)) (r_mv rfl) ?_
  refine O_q (by exact Sq.cell hss (su_lens sb) hH9.top1 rfl (i := k) rfl (r := [(.s (txt tp)), (.i .i64 md), (.b true)]) (su_get hsi) (by decide)) fun v11 hv10 => ?_
  obtain ⟨rb12, ro13, rfl, hrg14, hrt15, hrb16, hput17, hqs18⟩ := hv10
  refine O_p (.p (some (rb12, (ro13 + 2)))) (r_fadd' rfl rfl) ?_
  refine O_p (.b true) (r_ldR (q := 2) rfl ⟨_, _, hrg14, hrt15⟩ rfl) ?_
  refine O_p (.b false) (r_un rfl rfl) ?_
  refine O_nil ?_
  refine C_cond (x := false) rfl (fun h => by cases h) (fun _ => ?_)
  refine C_skip ?_
  refine C_draw fun b19 H20 hbase21 hA22 => ?_
  have hH23 : Hs H20 (asideL b19 [1] ++ _) := hH9.aside hA22 [1] hbase21 rfl (by decide)
  have hH24 : Hs H20 ([(b19 + 1, none)] ++ _) := hH23
  have hml : (sb.map suRow).length = sb.length := List.length_map _
  refine D_l (v := (.p (some (Pb, (i * 4 + 0))))) rfl rfl rfl (r_mv rfl) ?_
  refine D_l (v := (.p (some (Pb, (i * 4 + 0))))) rfl rfl rfl (r_mv rfl) ?_
  refine D_l (v := (.p (some (Pb, (i * 4 + 0))))) rfl rfl rfl (r_nilc rfl) ?_
  refine D_l (v := (.p (some (Pb, (i * 4 + 1))))) rfl rfl rfl (r_fadd' rfl rfl) ?_
  refine D_l (v := (.i .i64 (((k : Nat)) : Int))) rfl rfl rfl (r_mv rfl) ?_
  refine D_l (v := (.p (some (Pb, (i * 4 + 0))))) rfl rfl rfl (r_mv rfl) ?_
  refine D_l (v := (.p (some (Pb, (i * 4 + 0))))) rfl rfl rfl (r_nilc rfl) ?_
  refine D_l (v := (.p (some (Pb, (i * 4 + 1))))) rfl rfl rfl (r_fadd' rfl rfl) ?_
  refine D_l (v := (.i .i64 (((k : Nat)) : Int))) rfl rfl rfl (r_mv rfl) ?_
  refine D_l (v := (.i .i64 ((((k : Nat)) : Int) + 1))) rfl rfl rfl (by exact (r_addi rfl rfl (wrap_i64 (by omega) (by omega)))) ?_
  refine D_r (v := sv) rfl rfl rfl (by exact (r_ld rfl hH24.get1 ((foc_get hrw hi rfl (by decide)).trans rfl))) ?_
  refine D_q rfl rfl rfl (by exact Sq.rdHi hss (su_lens sb) (by decide) hH24.top2 rfl (i := k) rfl (by rw [List.length_map]; omega)) fun v26 hv25 => ?_
  obtain ⟨hl27, hs28⟩ := hv25
  refine D_r (v := sv) rfl rfl rfl (by exact (r_ld rfl hH24.get1 ((foc_get hrw hi rfl (by decide)).trans rfl))) ?_
  refine D_q rfl rfl rfl (by exact Sq.rdLo hss (su_lens sb) (by decide) hH24.top2 rfl (i := (k + 1)) rfl (by rw [List.length_map]; omega)) fun v30 hv29 => ?_
  obtain ⟨hl31, hs32⟩ := hv29
  refine D_m (f := fun n => ((.sl (some (n, 0)) 0 0 0), .cells [] true)) rfl rfl fun H34 hW35 => ?_
  have hH37 := hH24.wr0 hW35
  generalize hn36 : b19 + 1 = n33 at hW35 hH37 ⊢
  refine And.intro (And.intro (Or.inr (look_run rfl rfl (r_ld rfl hH37.get1 ((foc_get hrw hi rfl (by decide)).trans rfl)))) (And.intro (Or.inr (look_run rfl rfl (r_ld rfl hH37.get1 ((foc_get hrw hi rfl (by decide)).trans rfl)))) True.intro)) ?_
  refine D_qh rfl rfl (by exact r_appq (n := 0) (k := k) (new := ((sb.map suRow).take k).flatten) hH37.top0 (Sq.full (b := n33) (n := 0) (g := 0) (sz := 3) (l := []) (.inl rfl) rfl) rfl rfl hl27 (hs28 _ _ hH37.top2) (tk_len (su_lens sb) (by rw [List.length_map]; omega)) (by decide) (by decide) rfl (by first | omega | (simp only [List.length_take, List.length_drop, List.length_append, List.length_cons, List.length_nil, beN_len] <;> omega))) fun o38 H39 hA41 => ?_
  obtain ⟨c40, hA41, hH42⟩ := hA41
  refine And.intro (And.intro (Or.inr (look_run rfl rfl (r_ld rfl hH42.get1 ((foc_get hrw hi rfl (by decide)).trans rfl)))) (And.intro (Or.inl rfl) True.intro)) ?_
  refine D_qh rfl rfl (by exact r_appq (n := (0 + k)) (k := ((sb.map suRow).length - (k + 1))) (new := ((sb.map suRow).drop (k + 1)).flatten) hH42.top0 hA41 rfl rfl hl31 (hs32 _ _ hH42.top2) (dr_len (su_lens sb)) (by decide) (by decide) (len_app rfl (tk_len (su_lens sb) (by rw [List.length_map]; omega))) (by first | omega | (simp only [List.length_take, List.length_drop, List.length_append, List.length_cons, List.length_nil, beN_len] <;> omega))) fun o43 H44 hA46 => ?_
  obtain ⟨c45, hA46, hH47⟩ := hA46
  refine And.intro (And.intro (Or.inl rfl) True.intro) ?_
  obtain ⟨qa48, ql49, qc50, qg51, rfl⟩ := hA46.isSl
  refine D_l (v := (.p (some (Pb, (i * 4 + 0))))) rfl rfl rfl (r_nilc rfl) ?_
  refine D_l (v := (.p (some (Pb, (i * 4 + 1))))) rfl rfl rfl (r_fadd' rfl rfl) ?_
  refine D_store (vs := [(.sl qa48 ql49 qc50 qg51)]) (c' := ((rws).set i (rrow true (.sl qa48 ql49 qc50 qg51) wv lost)).flatten) rfl (by rfl) hH47.get1 rfl (List.cons_ne_nil _ _) (foc_len (n := 1) hrw hi rfl (Nat.le_of_ble_eq_true rfl)) (foc_put hrw hi rfl (Nat.le_of_ble_eq_true rfl) rfl) fun H52 hW53 => ?_
  have hH54 := hH47.wr1 hW53
  refine And.intro True.intro ?_
  refine D_nil ?_
  refine C_seq ?_
  refine C_seq ?_
  refine C_region ?_
  refine O_p (.p (some (Pb, (i * 4 + 0)))) (r_mv rfl) ?_
  refine O_p (.p (some (Pb, (i * 4 + 0)))) (r_nilc rfl) ?_
  refine O_p (.p (some (Pb, (i * 4 + 1)))) (r_fadd' rfl rfl) ?_
  refine O_p (.sl qa48 ql49 qc50 qg51) (by exact (r_ld rfl hH54.get1 ((foc_get hrw hi rfl (by decide)).trans rfl))) ?_
  refine O_p (.i .i64 (((((0 + k) + ((sb.map suRow).length - (k + 1))) : Nat)) : Int)) (by exact (by exact r_lenOf rfl (hA46.lenOf (len_app (len_app rfl (tk_len (su_lens sb) (by rw [List.length_map]; omega))) (dr_len (su_lens sb))) (by decide)) hA46.isSl)) ?_
  refine O_p (.b true) (by exact (by rw [r_geq rfl rfl, decide_eq_true (by omega)])) ?_
  refine O_nil ?_
  refine C_cond (x := true) rfl (fun _ => ?_) (fun h => by cases h)
  refine C_seq ?_
  refine C_region ?_
  refine O_p (.i .i64 9) (r_mv rfl) ?_
  refine O_nil ?_
  refine C_ret ?_
  refine nx_ret ?_
  have hH55 := (hH54.sub2)
  have hH56 := ((hH55.top1).top2)
  exact ⟨.inr rfl, _, resL_one (r_tmp (v := (.i .i64 9)) rfl), rfl, (.sl qa48 ql49 qc50 qg51), c45, by rw [← su_del]; exact hA46, hH56⟩
set_option maxHeartbeats 1000000 in
theorem rdrop_off {H : AH} {R : HL} {F Pb np i room : Nat} {rws : List (List AV)} {cv : AV} {sv wv : AV} {lost : Int} {tp : List UInt8} (hk : i < np) (hrw : ∀ x ∈ rws, x.length = 4) (hi : i < rws.length)  (hH0 : Hs H ([(F, some (.cells ([(.sl (some (Pb, 0)) np np 0), (.i .i64 ((room : Nat) : Int)), cv]) true))] ++ ([(Pb, some (.cells (((rws).set i (rrow false sv wv lost)).flatten) true))] ++ (R)))) : Ev tabA spA (.fn (.func 38) [] []) [.p (some (F, 0)), .i .i64 ((i : Nat) : Int), .s (txt tp)] H (fun r H' => r = .i .i64 11 ∧ Hs H' ([(F, some (.cells ([(.sl (some (Pb, 0)) np np 0), (.i .i64 ((room : Nat) : Int)), cv]) true))] ++ ([(Pb, some (.cells (((rws).set i (rrow false sv wv lost)).flatten) true))] ++ (R)))) := by
  refine Ev_C (F := x38) rfl ?_
  refine C_seq ?_
  refine C_region ?_
  refine O_p (.i .i64 0) (r_mv rfl) ?_
  refine O_nil ?_
  refine C_seq ?_
  refine C_seq ?_
  refine C_region ?_
  refine O_p (.p (some (F, 0))) (r_mv rfl) ?_
  refine O_p (.i .i64 ((i : Nat) : Int)) (r_mv rfl) ?_
  refine O_call (Ev.mono (there_yes ⟨by omega, by omega⟩ hH0) fun v1 H2 hq3 => ?_)
  obtain ⟨rfl, hH4⟩ := hq3
  refine O_p (.b false) (r_un rfl rfl) ?_
  refine O_nil ?_
  refine C_cond (x := false) rfl (fun h => by cases h) (fun _ => ?_)
  refine C_skip ?_
  refine C_seq ?_
  refine C_region ?_
  refine O_p (.p (some (F, 0))) (r_mv rfl) ?_
  refine O_p (.p (some (F, 0))) (r_nilc rfl) ?_
  refine O_p (.p (some (F, 0))) (r_fadd' rfl rfl) ?_
  refine O_p (.sl (some (Pb, 0)) np np 0) (r_ld rfl hH4.get0 rfl) ?_
  refine O_p (.i .i64 ((i : Nat) : Int)) (r_mv rfl) ?_
  refine O_p (.p (some (Pb, (i * 4 + 0)))) (by exact (r_islr (b := Pb) (k := i) (len := np) (cap := np) (g := 0) rfl rfl (by omega))) ?_
  refine O_p (.p (some (Pb, (i * 4 + 0)))) (r_mv rfl) ?_
  refine O_nil ?_
  refine C_seq ?_
  refine C_seq ?_
  refine C_region ?_
  refine O_p (.p (some (Pb, (i * 4 + 0)))) (r_mv rfl) ?_
  refine O_p (.p (some (Pb, (i * 4 + 0)))) (r_nilc rfl) ?_
  refine O_p (.p (some (Pb, (i * 4 + 0)))) (r_fadd' rfl rfl) ?_
  refine O_p (.b false) (by exact (r_ld rfl hH4.get1 ((foc_get hrw hi rfl (by decide)).trans rfl))) ?_
  refine O_p (.b true) (r_un rfl rfl) ?_
  refine O_nil ?_
  refine C_cond (x := true) rfl (fun _ => ?_) (fun h => by cases h)
  refine C_seq ?_
  refine C_region ?_
  refine O_p (.i .i64 11) (r_mv rfl) ?_
  refine O_nil ?_
  refine C_ret ?_
  refine nx_ret ?_
  have hH5 := ((hH4.top1).top1)
  exact ⟨.inr rfl, _, resL_one (r_tmp (v := (.i .i64 11)) rfl), rfl, hH5⟩
set_option maxHeartbeats 1000000 in
theorem rdrop_none {H : AH} {R : HL} {F Pb np i room : Nat} {rws : List (List AV)} {cv : AV} {sv wv : AV} {sc : List AV} {sb : List Su} {lost md : Int} {k : Nat} {tp : List UInt8} {mode : Int} (hk : i < np) (hrw : ∀ x ∈ rws, x.length = 4) (hi : i < rws.length) (hss : Sq 3 sv sc (sb.map suRow).flatten) (hsl : sb.length ≤ 1000000) (hg : sget sb tp = none) (hH0 : Hs H ([(F, some (.cells ([(.sl (some (Pb, 0)) np np 0), (.i .i64 ((room : Nat) : Int)), cv]) true))] ++ ([(Pb, some (.cells (((rws).set i (rrow true sv wv lost)).flatten) true))] ++ ((qseg sv sc) ++ (R))))) : Ev tabA spA (.fn (.func 38) [] []) [.p (some (F, 0)), .i .i64 ((i : Nat) : Int), .s (txt tp)] H (fun r H' => r = .i .i64 12 ∧ Hs H' ([(F, some (.cells ([(.sl (some (Pb, 0)) np np 0), (.i .i64 ((room : Nat) : Int)), cv]) true))] ++ ([(Pb, some (.cells (((rws).set i (rrow true sv wv lost)).flatten) true))] ++ ((qseg sv sc) ++ (R))))) := by
  refine Ev_C (F := x38) rfl ?_
  refine C_seq ?_
  refine C_region ?_
  refine O_p (.i .i64 0) (r_mv rfl) ?_
  refine O_nil ?_
  refine C_seq ?_
  refine C_seq ?_
  refine C_region ?_
  refine O_p (.p (some (F, 0))) (r_mv rfl) ?_
  refine O_p (.i .i64 ((i : Nat) : Int)) (r_mv rfl) ?_
  refine O_call (Ev.mono (there_yes ⟨by omega, by omega⟩ hH0) fun v1 H2 hq3 => ?_)
  obtain ⟨rfl, hH4⟩ := hq3
  refine O_p (.b false) (r_un rfl rfl) ?_
  refine O_nil ?_
  refine C_cond (x := false) rfl (fun h => by cases h) (fun _ => ?_)
  refine C_skip ?_
  refine C_seq ?_
  refine C_region ?_
  refine O_p (.p (some (F, 0))) (r_mv rfl) ?_
  refine O_p (.p (some (F, 0))) (r_nilc rfl) ?_
  refine O_p (.p (some (F, 0))) (r_fadd' rfl rfl) ?_
  refine O_p (.sl (some (Pb, 0)) np np 0) (r_ld rfl hH4.get0 rfl) ?_
  refine O_p (.i .i64 ((i : Nat) : Int)) (r_mv rfl) ?_
  refine O_p (.p (some (Pb, (i * 4 + 0)))) (by exact (r_islr (b := Pb) (k := i) (len := np) (cap := np) (g := 0) rfl rfl (by omega))) ?_
  refine O_p (.p (some (Pb, (i * 4 + 0)))) (r_mv rfl) ?_
  refine O_nil ?_
  refine C_seq ?_
  refine C_seq ?_
  refine C_region ?_
  refine O_p (.p (some (Pb, (i * 4 + 0)))) (r_mv rfl) ?_
  refine O_p (.p (some (Pb, (i * 4 + 0)))) (r_nilc rfl) ?_
  refine O_p (.p (some (Pb, (i * 4 + 0)))) (r_fadd' rfl rfl) ?_
  refine O_p (.b true) (by exact (r_ld rfl hH4.get1 ((foc_get hrw hi rfl (by decide)).trans rfl))) ?_
  refine O_p (.b false) (r_un rfl rfl) ?_
  refine O_nil ?_
  refine C_cond (x := false) rfl (fun h => by cases h) (fun _ => ?_)
  refine C_skip ?_
  refine C_seq ?_
  refine C_region ?_
  refine O_p (.p (some (Pb, (i * 4 + 0)))) (r_mv rfl) ?_
  refine O_p (.s (txt tp)) (r_mv rfl) ?_
  have hH5 := ((hH4.top2).top2)
  refine O_call (Ev.mono (sat_ev (tp := tp) hrw hi hss hsl hH5) fun v6 H7 hq8 => ?_)
  rw [fxI_none (sget_none hg)] at hq8
  obtain ⟨rfl, hH9⟩ := hq8
  refine O_p (.i .i64 (-1)) (r_mv rfl) ?_
  refine O_nil ?_
  refine C_seq ?_
  refine C_seq ?_
  refine C_region ?_
  refine O_p (.i .i64 (-1)) (r_mv rfl) ?_
  refine O_p (.b true) (by exact (by rw [r_lss rfl rfl, decide_eq_true (by decide)])) ?_
  refine O_nil ?_
  refine C_cond (x := true) rfl (fun _ => ?_) (fun h => by cases h)
  refine C_seq ?_
  refine C_region ?_
  refine O_p (.i .i64 12) (r_mv rfl) ?_
  refine O_nil ?_
  refine C_ret ?_
  refine nx_ret ?_
  have hH10 := (((hH9.top1).top1).top2)
  exact ⟨.inr rfl, _, resL_one (r_tmp (v := (.i .i64 12)) rfl), rfl, hH10⟩
set_option maxHeartbeats 1000000 in
theorem rdropg_ev {H : AH} {R : HL} {F Pb np i room : Nat} {rws : List (List AV)} {cv : AV} {D : HL} {sv wv : AV} {sc wc : List AV} {sb : List Su} {rows : List (List AV)} {w : List It} {lost md : Int} {fl : Bool} {k : Nat} {tp : List UInt8} (hk : i < np) (hrw : ∀ x ∈ rws, x.length = 4) (hi : i < rws.length) (hss : Sq 3 sv sc (sb.map suRow).flatten) (hsl : sb.length ≤ 1000000) (hfi : sb.findIdx (sfP tp) = k) (hsi : sb[k]? = some ⟨tp, md, fl⟩) (hsq : Sq 5 wv wc rows.flatten) (hl5 : ∀ x ∈ rows, x.length = 5) (hir : ItsR D rows w) (hfitw : rows.length ≤ 1000000) (hH0 : Hs H ([(F, some (.cells ([(.sl (some (Pb, 0)) np np 0), (.i .i64 ((room : Nat) : Int)), cv]) true))] ++ ([(Pb, some (.cells (((rws).set i (rrow true sv wv lost)).flatten) true))] ++ ((qseg sv sc) ++ ((qseg wv wc) ++ (R)))))) : Ev tabA spA (.fn (.func 38) [] []) [.p (some (F, 0)), .i .i64 ((i : Nat) : Int), .s (txt tp)] H (fun r H' => ∃ v' c' u' d' rows', r = .i .i64 0 ∧ Sq 3 v' c' ((sb.eraseIdx k).map suRow).flatten ∧ Sq 5 u' d' rows'.flatten ∧ ItsR D rows' (w.filter fun y => !(decide (y.tp = tp))) ∧ Hs H' ([(F, some (.cells ([(.sl (some (Pb, 0)) np np 0), (.i .i64 ((room : Nat) : Int)), cv]) true))] ++ ([(Pb, some (.cells (((rws).set i (rrow true v' u' lost)).flatten) true))] ++ ((qseg v' c') ++ ((qseg u' d') ++ (R)))))) := by
  refine Ev_C (F := x38) rfl ?_
  have hrl := hir.1
  refine C_seq ?_
  refine C_region ?_
  refine O_p (.i .i64 0) (r_mv rfl) ?_
  refine O_nil ?_
  refine C_seq ?_
  refine C_seq ?_
  refine C_region ?_
  refine O_p (.p (some (F, 0))) (r_mv rfl) ?_
  refine O_p (.i .i64 ((i : Nat) : Int)) (r_mv rfl) ?_
  refine O_call (Ev.mono (there_yes ⟨by omega, by omega⟩ hH0) fun v1 H2 hq3 => ?_)
  obtain ⟨rfl, hH4⟩ := hq3
  refine O_p (.b false) (r_un rfl rfl) ?_
  refine O_nil ?_
  refine C_cond (x := false) rfl (fun h => by cases h) (fun _ => ?_)
  refine C_skip ?_
  refine C_seq ?_
  refine C_region ?_
  refine O_p (.p (some (F, 0))) (r_mv rfl) ?_
  refine O_p (.p (some (F, 0))) (r_nilc rfl) ?_
  refine O_p (.p (some (F, 0))) (r_fadd' rfl rfl) ?_
  refine O_p (.sl (some (Pb, 0)) np np 0) (r_ld rfl hH4.get0 rfl) ?_
  refine O_p (.i .i64 ((i : Nat) : Int)) (r_mv rfl) ?_
  refine O_p (.p (some (Pb, (i * 4 + 0)))) (by exact (r_islr (b := Pb) (k := i) (len := np) (cap := np) (g := 0) rfl rfl (by omega))) ?_
  refine O_p (.p (some (Pb, (i * 4 + 0)))) (r_mv rfl) ?_
  refine O_nil ?_
  refine C_seq ?_
  refine C_seq ?_
  refine C_region ?_
  refine O_p (.p (some (Pb, (i * 4 + 0)))) (r_mv rfl) ?_
  refine O_p (.p (some (Pb, (i * 4 + 0)))) (r_nilc rfl) ?_
  refine O_p (.p (some (Pb, (i * 4 + 0)))) (r_fadd' rfl rfl) ?_
  refine O_p (.b true) (by exact (r_ld rfl hH4.get1 ((foc_get hrw hi rfl (by decide)).trans rfl))) ?_
  refine O_p (.b false) (r_un rfl rfl) ?_
  refine O_nil ?_
  refine C_cond (x := false) rfl (fun h => by cases h) (fun _ => ?_)
  refine C_skip ?_
  refine C_seq ?_
  refine C_region ?_
  have hkl : k < sb.length := (List.getElem?_eq_some_iff.1 hsi).1
  refine O_p (.p (some (Pb, (i * 4 + 0)))) (r_mv rfl) ?_
  refine O_p (.s (txt tp)) (r_mv rfl) ?_
  have hH5 := ((hH4.top2).top2)
  refine O_call (Ev.mono (sat_ev (tp := tp) hrw hi hss hsl hH5) fun v6 H7 hq8 => ?_)
  rw [show fxI (sfP tp) sb = ((k : Nat) : Int) from by unfold fxI; rw [hfi, if_pos (List.getElem?_eq_some_iff.1 hsi).1]] at hq8
  obtain ⟨rfl, hH9⟩ := hq8
  refine O_p (.i .i64 (((k : Nat)) : Int)) (r_mv rfl) ?_
  refine O_nil ?_
  refine C_seq ?_
  refine C_seq ?_
  refine C_region ?_
  refine O_p (.i .i64 (((k : Nat)) : Int)) (r_mv rfl) ?_
  refine O_p (.b false) (by exact (by rw [r_lss rfl rfl, decide_eq_false (by omega)])) ?_
  refine O_nil ?_
  refine C_cond (x := false) rfl (fun h => by cases h) (fun _ => ?_)
  refine C_skip ?_
  refine C_seq ?_
  refine C_draw fun b10 H11 hbase12 hA13 => ?_
  have hH14 : Hs H11 (asideL b10 [1] ++ _) := hH9.aside hA13 [1] hbase12 rfl (by decide)
  have hH15 : Hs H11 ([(b10 + 1, none)] ++ _) := hH14
  have hml : (sb.map suRow).length = sb.length := List.length_map _
  refine D_l (v := (.p (some (Pb, (i * 4 + 0))))) rfl rfl rfl (r_mv rfl) ?_
  refine D_l (v := (.p (some (Pb, (i * 4 + 0))))) rfl rfl rfl (r_mv rfl) ?_
  refine D_l (v := (.p (some (Pb, (i * 4 + 0))))) rfl rfl rfl (r_nilc rfl) ?_
  refine D_l (v := (.p (some (Pb, (i * 4 + 1))))) rfl rfl rfl (r_fadd' rfl rfl) ?_
  refine D_l (v := (.i .i64 (((k : Nat)) : Int))) rfl rfl rfl (r_mv rfl) ?_
  refine D_l (v := (.p (some (Pb, (i * 4 + 0))))) rfl rfl rfl (r_mv rfl) ?_
  refine D_l (v := (.p (some (Pb, (i * 4 + 0))))) rfl rfl rfl (r_nilc rfl) ?_
  refine D_l (v := (.p (some (Pb, (i * 4 + 1))))) rfl rfl rfl (r_fadd' rfl rfl) ?_
  refine D_l (v := (.i .i64 (((k : Nat)) : Int))) rfl rfl rfl (r_mv rfl) ?_
  refine D_l (v := (.i .i64 ((((k : Nat)) : Int) + 1))) rfl rfl rfl (by exact (r_addi rfl rfl (wrap_i64 (by omega) (by omega)))) ?_
  refine D_r (v := sv) rfl rfl rfl (by exact (r_ld rfl hH15.get1 ((foc_get hrw hi rfl (by decide)).trans rfl))) ?_
  refine D_q rfl rfl rfl (by exact Sq.rdHi hss (su_lens sb) (by decide) hH15.top2 rfl (i := k) rfl (by rw [List.length_map]; omega)) fun v17 hv16 => ?_
  obtain ⟨hl18, hs19⟩ := hv16
  refine D_r (v := sv) rfl rfl rfl (by exact (r_ld rfl hH15.get1 ((foc_get hrw hi rfl (by decide)).trans rfl))) ?_
  refine D_q rfl rfl rfl (by exact Sq.rdLo hss (su_lens sb) (by decide) hH15.top2 rfl (i := (k + 1)) rfl (by rw [List.length_map]; omega)) fun v21 hv20 => ?_
  obtain ⟨hl22, hs23⟩ := hv20
  refine D_m (f := fun n => ((.sl (some (n, 0)) 0 0 0), .cells [] true)) rfl rfl fun H25 hW26 => ?_
  have hH28 := hH15.wr0 hW26
  generalize hn27 : b10 + 1 = n24 at hW26 hH28 ⊢
  refine And.intro (And.intro (Or.inr (look_run rfl rfl (r_ld rfl hH28.get1 ((foc_get hrw hi rfl (by decide)).trans rfl)))) (And.intro (Or.inr (look_run rfl rfl (r_ld rfl hH28.get1 ((foc_get hrw hi rfl (by decide)).trans rfl)))) True.intro)) ?_
  refine D_qh rfl rfl (by exact r_appq (n := 0) (k := k) (new := ((sb.map suRow).take k).flatten) hH28.top0 (Sq.full (b := n24) (n := 0) (g := 0) (sz := 3) (l := []) (.inl rfl) rfl) rfl rfl hl18 (hs19 _ _ hH28.top2) (tk_len (su_lens sb) (by rw [List.length_map]; omega)) (by decide) (by decide) rfl (by first | omega | (simp only [List.length_take, List.length_drop, List.length_append, List.length_cons, List.length_nil, beN_len] <;> omega))) fun o29 H30 hA32 => ?_
  obtain ⟨c31, hA32, hH33⟩ := hA32
  refine And.intro (And.intro (Or.inr (look_run rfl rfl (r_ld rfl hH33.get1 ((foc_get hrw hi rfl (by decide)).trans rfl)))) (And.intro (Or.inl rfl) True.intro)) ?_
  refine D_qh rfl rfl (by exact r_appq (n := (0 + k)) (k := ((sb.map suRow).length - (k + 1))) (new := ((sb.map suRow).drop (k + 1)).flatten) hH33.top0 hA32 rfl rfl hl22 (hs23 _ _ hH33.top2) (dr_len (su_lens sb)) (by decide) (by decide) (len_app rfl (tk_len (su_lens sb) (by rw [List.length_map]; omega))) (by first | omega | (simp only [List.length_take, List.length_drop, List.length_append, List.length_cons, List.length_nil, beN_len] <;> omega))) fun o34 H35 hA37 => ?_
  obtain ⟨c36, hA37, hH38⟩ := hA37
  refine And.intro (And.intro (Or.inl rfl) True.intro) ?_
  obtain ⟨qa39, ql40, qc41, qg42, rfl⟩ := hA37.isSl
  refine D_l (v := (.p (some (Pb, (i * 4 + 0))))) rfl rfl rfl (r_nilc rfl) ?_
  refine D_l (v := (.p (some (Pb, (i * 4 + 1))))) rfl rfl rfl (r_fadd' rfl rfl) ?_
  refine D_store (vs := [(.sl qa39 ql40 qc41 qg42)]) (c' := ((rws).set i (rrow true (.sl qa39 ql40 qc41 qg42) wv lost)).flatten) rfl (by rfl) hH38.get1 rfl (List.cons_ne_nil _ _) (foc_len (n := 1) hrw hi rfl (Nat.le_of_ble_eq_true rfl)) (foc_put hrw hi rfl (Nat.le_of_ble_eq_true rfl) rfl) fun H43 hW44 => ?_
  have hH45 := hH38.wr1 hW44
  refine And.intro True.intro ?_
  refine D_nil ?_
  refine C_seq ?_
  refine C_region ?_
  refine O_p (.sl none 0 0 0) (r_mv rfl) ?_
  refine O_nil ?_
  refine C_seq ?_
  refine C_seq ?_
  refine C_region ?_
  refine O_p (.i .i64 0) (r_mv rfl) ?_
  refine O_nil ?_
  refine C_block ?_
  have hH46 := (hH45.sub2)
  have hH47 := ((((hH46.top3).top1).top2).top3)
  refine C_while (fun m48 T49 H50 => ∃ lv : AV, ∃ lc : List AV, ∃ lr : List (List AV), ∃ j : Nat, m48 = rows.length - j ∧ j ≤ rows.length ∧ Sq 5 lv lc lr.flatten ∧ ItsR D lr ((w.take j).filter fun y => !(decide (y.tp = tp))) ∧ lr.length ≤ j ∧ Hs H50 ((qseg lv lc) ++ ([(F, some (.cells ([(.sl (some (Pb, 0)) np np 0), (.i .i64 ((room : Nat) : Int)), cv]) true))] ++ ([(Pb, some (.cells (((rws).set i (rrow true (.sl qa39 ql40 qc41 qg42) wv lost)).flatten) true))] ++ ((qseg (.sl qa39 ql40 qc41 qg42) c36) ++ ((qseg wv wc) ++ (R)))))) ∧ T49.get 0 = (.p (some (F, 0))) ∧ T49.get 2 = (.s (txt tp)) ∧ T49.get 7 = (.p (some (Pb, (i * 4 + 0)))) ∧ T49.get 9 = lv ∧ T49.get 10 = (.i .i64 (((j : Nat)) : Int))) (fun m48 T49 H50 hI51 => ?_) rows.length _ _ ⟨(.sl none 0 0 0), [], [], 0, rfl, Nat.zero_le _, Sq.nil, ItsR.nil, Nat.le_refl _, hH47.addnil, rfl, rfl, rfl, rfl, rfl⟩
  obtain ⟨lv, lc, lr, j, hm52, hp53, hp54, hp55, hp56, hH62, hT57, hT58, hT59, hT60, hT61⟩ := hI51
  refine C_seq ?_
  refine C_seq ?_
  refine C_region ?_
  refine O_p (.i .i64 (((j : Nat)) : Int)) (r_mv hT61) ?_
  refine O_p (.p (some (Pb, (i * 4 + 0)))) (r_mv hT59) ?_
  refine O_p (.p (some (Pb, (i * 4 + 0)))) (r_nilc rfl) ?_
  refine O_p (.p (some (Pb, (i * 4 + 2)))) (r_fadd' rfl rfl) ?_
  refine O_p wv (by exact (r_ld rfl hH62.get2 ((foc_get hrw hi rfl (by decide)).trans rfl))) ?_
  refine O_p (.i .i64 (((rows.length : Nat)) : Int)) (by exact (by exact r_lenOf rfl (hsq.lenOf (flat_len hl5) (by decide)) hsq.isSl)) ?_
  refine O_p (.b (decide ((((j : Nat)) : Int) < (((rows.length : Nat)) : Int)))) (r_lss rfl rfl) ?_
  refine O_nil ?_
  refine C_cond (x := (decide ((((j : Nat)) : Int) < (((rows.length : Nat)) : Int)))) rfl (fun hc63 => ?_) (fun hc63 => ?_)
  ·
    try simp only [decide_eq_true_eq, decide_eq_false_iff_not, Bool.not_eq_true', Bool.not_eq_false', Bool.and_eq_true, Bool.or_eq_true, Bool.or_eq_false_iff, Bool.not_not, Bool.and_eq_false_iff] at hc63
    refine C_skip ?_
    refine C_seq ?_
    refine C_block ?_
    refine C_seq ?_
    refine C_region ?_
    have hjw : j < w.length := by omega
    obtain ⟨x, ri, hxi, hri, hit⟩ := hir.get hjw
    have hit2 := hit
    obtain ⟨ka, kc, kg, rfl, _⟩ := hit2
    refine O_p (.p (some (Pb, (i * 4 + 0)))) (r_mv hT59) ?_
    refine O_p (.p (some (Pb, (i * 4 + 0)))) (r_nilc rfl) ?_
    refine O_p (.p (some (Pb, (i * 4 + 2)))) (r_fadd' rfl rfl) ?_
    refine O_p wv (by exact (r_ld rfl hH62.get2 ((foc_get hrw hi rfl (by decide)).trans rfl))) ?_
    refine O_p (.i .i64 (((j : Nat)) : Int)) (r_mv hT61) ?_
    refine O_q (by exact Sq.cell hsq hl5 hH62.top4 rfl (i := j) rfl (r := [(.s (txt x.tp)), (.i .i64 x.frm), (.i .i64 x.num), (.b x.tx), (.sl ka x.d.length kc kg)]) hri (by decide)) fun v65 hv64 => ?_
    obtain ⟨rb66, ro67, rfl, hrg68, hrt69, hrb70, hput71, hqs72⟩ := hv64
    refine O_p (.p (some (rb66, (ro67 + 0)))) (r_fadd' rfl rfl) ?_
    refine O_p (.s (txt x.tp)) (r_ldR (q := 0) rfl ⟨_, _, hrg68, hrt69⟩ rfl) ?_
    refine O_p (.s (txt tp)) (r_mv hT58) ?_
    refine O_p (.b (!decide (x.tp = tp))) (r_eqtn rfl rfl) ?_
    refine O_nil ?_
    refine C_cond (x := (!decide (x.tp = tp))) rfl (fun hc73 => ?_) (fun hc73 => ?_)
    ·
      try simp only [decide_eq_true_eq, decide_eq_false_iff_not, Bool.not_eq_true', Bool.not_eq_false', Bool.and_eq_true, Bool.or_eq_true, Bool.or_eq_false_iff, Bool.not_not, Bool.and_eq_false_iff] at hc73
      have hP : (fun y : It => decide (y.tp = tp)) x = false := by first | exact decide_eq_false hc73 | simpa using hc73
      refine C_region ?_
      refine O_p lv (r_mv hT60) ?_
      refine O_p (.p (some (Pb, (i * 4 + 0)))) (r_mv hT59) ?_
      refine O_p (.p (some (Pb, (i * 4 + 0)))) (r_nilc rfl) ?_
      refine O_p (.p (some (Pb, (i * 4 + 2)))) (r_fadd' rfl rfl) ?_
      refine O_p wv (by exact (r_ld rfl hH62.get2 ((foc_get hrw hi rfl (by decide)).trans rfl))) ?_
      refine O_p (.i .i64 (((j : Nat)) : Int)) (r_mv hT61) ?_
      refine O_q (by exact Sq.cell hsq hl5 hH62.top4 rfl (i := j) rfl (r := [(.s (txt x.tp)), (.i .i64 x.frm), (.i .i64 x.num), (.b x.tx), (.sl ka x.d.length kc kg)]) hri (by decide)) fun v75 hv74 => ?_
      obtain ⟨rb76, ro77, rfl, hrg78, hrt79, hrb80, hput81, hqs82⟩ := hv74
      refine O_p (.agg [(.s (txt x.tp)), (.i .i64 x.frm), (.i .i64 x.num), (.b x.tx), (.sl ka x.d.length kc kg)]) (r_ldRA (q := 0) rfl ⟨_, _, hrg78, hrt79⟩ rfl) ?_
      refine O_bslice (c := [(.s (txt x.tp)), (.i .i64 x.frm), (.i .i64 x.num), (.b x.tx), (.sl ka x.d.length kc kg)]) rfl fun n83 H84 hN85 => ?_
      have hH86 := hH62.new hN85
      refine O_qh (by exact r_appq (n := lr.length) (k := 1) (new := [(.s (txt x.tp)), (.i .i64 x.frm), (.i .i64 x.num), (.b x.tx), (.sl ka x.d.length kc kg)]) hH86.top1 hp54 rfl rfl rfl (src_blk hH86.get0 (by rfl)) rfl (by decide) (by decide) (flat_len hp55.lens) (by first | omega | (simp only [List.length_take, List.length_drop, List.length_append, List.length_cons, List.length_nil, beN_len] <;> omega))) fun o87 H88 hA90 => ?_
      obtain ⟨c89, hA90, hH91⟩ := hA90
      refine O_p o87 (r_mv rfl) ?_
      refine O_nil ?_
      refine C_region ?_
      refine O_p (.i .i64 (((j : Nat)) : Int)) (r_mv hT61) ?_
      refine O_p (.i .i64 ((((j : Nat)) : Int) + 1)) (by exact (r_addi rfl rfl (wrap_i64 (by omega) (by omega)))) ?_
      refine O_p (.i .i64 ((((j : Nat)) : Int) + 1)) (r_mv rfl) ?_
      refine O_nil ?_
      have hH92 := (hH91.sub1)
      have hH93 := (((((hH92.top4).top4).top4).top4).top4)
      exact ⟨rows.length - (j + 1), by omega, o87, c89, (lr ++ [[(.s (txt x.tp)), (.i .i64 x.frm), (.i .i64 x.num), (.b x.tx), (.sl ka x.d.length kc kg)]]), (j + 1), rfl, by omega, by rw [← flat_snoc]; exact hA90, by rw [df_keep hxi hP]; exact ItsR.snoc hp55 hit, by rw [List.length_append]; show lr.length + 1 ≤ _; omega, hH93, hT57, hT58, hT59, rfl, rfl⟩
    ·
      try simp only [decide_eq_true_eq, decide_eq_false_iff_not, Bool.not_eq_true', Bool.not_eq_false', Bool.and_eq_true, Bool.or_eq_true, Bool.or_eq_false_iff, Bool.not_not, Bool.and_eq_false_iff] at hc73
      have hP : (fun y : It => decide (y.tp = tp)) x = true := by first | exact decide_eq_true hc73 | simpa using hc73
      refine C_skip ?_
      refine C_region ?_
      refine O_p (.i .i64 (((j : Nat)) : Int)) (r_mv hT61) ?_
      refine O_p (.i .i64 ((((j : Nat)) : Int) + 1)) (by exact (r_addi rfl rfl (wrap_i64 (by omega) (by omega)))) ?_
      refine O_p (.i .i64 ((((j : Nat)) : Int) + 1)) (r_mv rfl) ?_
      refine O_nil ?_
      have hH94 := (((((hH62.top4).top4).top4).top4).top4)
      exact ⟨rows.length - (j + 1), by omega, lv, lc, lr, (j + 1), rfl, by omega, hp54, by rw [df_skip hxi hP]; exact hp55, by omega, hH94, hT57, hT58, hT59, hT60, rfl⟩
  ·
    try simp only [decide_eq_true_eq, decide_eq_false_iff_not, Bool.not_eq_true', Bool.not_eq_false', Bool.and_eq_true, Bool.or_eq_true, Bool.or_eq_false_iff, Bool.not_not, Bool.and_eq_false_iff] at hc63
    refine C_exit ?_
    refine nx_exit ?_
    refine nx_exit ?_
    refine bk_hit ?_
    refine C_seq ?_
    refine C_region ?_
    have hjn : j = w.length := by omega
    obtain ⟨qa95, ql96, qc97, qg98, rfl⟩ := hp54.isSl
    refine O_p (.p (some (Pb, (i * 4 + 0)))) (r_mv hT59) ?_
    refine O_p (.sl qa95 ql96 qc97 qg98) (r_mv hT60) ?_
    refine O_p (.p (some (Pb, (i * 4 + 0)))) (r_nilc rfl) ?_
    refine O_p (.p (some (Pb, (i * 4 + 2)))) (r_fadd' rfl rfl) ?_
    refine O_store (vs := [(.sl qa95 ql96 qc97 qg98)]) (c' := ((rws).set i (rrow true (.sl qa39 ql40 qc41 qg42) (.sl qa95 ql96 qc97 qg98) lost)).flatten) rfl (by rfl) hH62.get2 rfl (List.cons_ne_nil _ _) (foc_len (n := 1) hrw hi rfl (Nat.le_of_ble_eq_true rfl)) (foc_put hrw hi rfl (Nat.le_of_ble_eq_true rfl) rfl) fun H99 hW100 => ?_
    have hH101 := hH62.wr2 hW100
    refine O_nil ?_
    refine C_seq ?_
    refine C_region ?_
    refine O_p (.i .i64 0) (r_mv rfl) ?_
    refine O_nil ?_
    refine C_ret ?_
    have hH102 := (hH101.sub4)
    have hH103 := (((hH102.top3).top3).top3)
    exact ⟨.inr rfl, _, resL_one (r_tmp (v := (.i .i64 0)) rfl), (.sl qa39 ql40 qc41 qg42), c36, (.sl qa95 ql96 qc97 qg98), lc, lr, rfl, by rw [← su_del]; exact hA37, hp54, by have h9 := hp55; rw [hjn, List.take_length] at h9; exact h9, hH103⟩


set_option linter.unusedVariables false
set_option linter.unusedSimpArgs false
theorem rows_same {α : Type} {l : List α} {k : Nat} {x : α} (h : l[k]? = some x) : l.set k x = l := by
  obtain ⟨hk, rfl⟩ := List.getElem?_eq_some_iff.1 h
  exact List.set_getElem_self hk
/-! ### Parties of the document's relay -/
theorem Rp.ok.mono {A B : HL} {p : Rp} (h : p.ok A) (hs : ∀ H', Hs H' B → Hs H' A) : p.ok B := ⟨h.ss, h.sq, h.ir.mono hs⟩
theorem getElem_map_r {qs : List Rp} {aL : List Pa} {k : Nat} {p : Rp} (h : qs.map Rp.a = aL) (hp : qs[k]? = some p) : aL[k]? = some p.a := by rw [← h, List.getElem?_map, hp]; rfl
section
variable {H : AH} {Pb k : Nat} {ps : List Rp} {p q : Rp} {R : HL}
theorem Rp.row_len (p : Rp) : p.row.length = 4 := rfl
theorem rows_rp (ps : List Rp) : ∀ r ∈ ps.map Rp.row, r.length = 4 := fun r hr => by obtain ⟨p, _, rfl⟩ := List.mem_map.1 hr; exact p.row_len
theorem row_rp (h : ps[k]? = some p) : (ps.map Rp.row)[k]? = some p.row := by rw [List.getElem?_map, h]; rfl
theorem Rp.foc (h : ps[k]? = some p) : (ps.map Rp.row).set k p.row = ps.map Rp.row := (rows_foc (row_rp h)).symm
theorem Rp.out (h : ps[k]? = some p) (hH : Hs H ([(Pb, some (.cells (ps.map Rp.row).flatten true))] ++ (ps.flatMap Rp.seg ++ R))) : Hs H ([(Pb, some (.cells ((ps.map Rp.row).set k p.row).flatten true))] ++ (p.seg ++ ((ps.eraseIdx k).flatMap Rp.seg ++ R))) := by
  rw [Rp.foc h]
  refine Hs.perm hH (List.Perm.append_left _ ?_)
  refine (List.Perm.append_right R (erase_perm Rp.seg h)).trans ?_
  rw [List.append_assoc]
theorem Rp.back (h : ps[k]? = some p) (hH : Hs H ([(Pb, some (.cells ((ps.map Rp.row).set k q.row).flatten true))] ++ (q.seg ++ ((ps.eraseIdx k).flatMap Rp.seg ++ R)))) : Hs H ([(Pb, some (.cells ((ps.set k q).map Rp.row).flatten true))] ++ ((ps.set k q).flatMap Rp.seg ++ R)) := by
  have hk := (List.getElem?_eq_some_iff.1 h).1
  rw [← List.map_set] at hH
  refine Hs.perm hH (List.Perm.append_left _ ?_)
  have h2 : (ps.set k q)[k]? = some q := List.getElem?_set_self hk
  refine List.Perm.trans ?_ (List.Perm.append_right R (erase_perm Rp.seg h2)).symm
  rw [erase_set, List.append_assoc]
theorem Rp.rd (h : ps[k]? = some p) (hH : Hs H ([(Pb, some (.cells (ps.map Rp.row).flatten true))] ++ R)) : ∃ c mu, H.get Pb = some (.cells c mu) ∧ takeAt c (k * 4) 4 = some p.row := by
  have hlt := (List.getElem?_eq_some_iff.1 (row_rp h)).1
  refine ⟨_, _, hH.get, ?_⟩
  rw [rows_foc (row_rp h)]
  have := foc_take (sz := 4) (n := 4) (j := 0) (rows_rp ps) hlt p.row_len (by omega)
  rw [Nat.add_zero] at this
  rw [this]; rfl
theorem rp_set {P : Rp → Prop} (h : ∀ p ∈ ps, P p) (hq : P q) : ∀ p ∈ ps.set k q, P p := fun p hp => by
  rcases List.mem_or_eq_of_mem_set hp with h1 | rfl
  · exact h p h1
  · exact hq
end
theorem Rp.back0 {H : AH} {Pb k : Nat} {ps : List Rp} {p : Rp} {R : HL} (h : ps[k]? = some p) (hH : Hs H ([(Pb, some (.cells ((ps.map Rp.row).set k p.row).flatten true))] ++ (p.seg ++ ((ps.eraseIdx k).flatMap Rp.seg ++ R)))) : Hs H ([(Pb, some (.cells (ps.map Rp.row).flatten true))] ++ (ps.flatMap Rp.seg ++ R)) := by
  have h1 := Rp.back h hH
  rw [show ps.set k p = ps from (rows_same h)] at h1
  exact h1
theorem pubN_off {n room : Nat} {x : It} {ps : List Pa} {k : Nat} {p : Pa} (h : k ≠ n) (hp : (pubN n room x ps k).1[k]? = some p) (ho : p.on = false) : pubN n room x ps (k + 1) = pubN n room x ps k := by
  have e : p.hand room x = (p, false) := by unfold Pa.hand; rw [ho]; rfl
  rw [pubN_ne h hp, e]
  show (List.set _ k p, _ + 0) = _
  rw [rows_same hp, Nat.add_zero]
theorem co_add {cs : List (List UInt8 × Nat)} {x : List UInt8 × Nat} : (cs.map coRow).flatten ++ coRow x = ((cs ++ [x]).map coRow).flatten := by
  rw [List.map_append]; exact flat_snoc _ _
theorem co_last {cs : List (List UInt8 × Nat)} {x : List UInt8 × Nat} : (cs ++ [x])[cs.length]? = some x := by rw [List.getElem?_append_right (Nat.le_refl _), Nat.sub_self]; rfl
theorem co_set_some {cs : List (List UInt8 × Nat)} {tp : List UInt8} {n0 kk : Nat} (h : cget cs tp = some n0) (hk : cs.findIdx (cfP tp) = kk) : (cs.map coRow).set kk [.s (txt tp), .i .i64 (((n0 : Nat) : Int) + 1)] = (cset cs tp ((cget cs tp).getD 0 + 1)).map coRow := by
  subst hk
  rw [cset_at h, h, List.map_set]; rfl
theorem co_set_none {cs : List (List UInt8 × Nat)} {tp : List UInt8} {kc : Nat} (h : cget cs tp = none) (hk : kc = cs.length) : ((cs ++ [(tp, 0)]).map coRow).set kc [.s (txt tp), .i .i64 (((0 : Nat) : Int) + 1)] = (cset cs tp ((cget cs tp).getD 0 + 1)).map coRow := by
  subst hk
  rw [cset_new h, h, List.map_append, List.map_append, List.set_append_right (h := by rw [List.length_map]; exact Nat.le_refl _), List.length_map, Nat.sub_self]; rfl
set_option maxHeartbeats 1000000 in
theorem rpub_emp {H : AH} {R : HL} {F Pb np i room : Nat} {rws : List (List AV)} {cv : AV} {on : Bool} {sv wv : AV} {lost : Int} {tp dd : List UInt8} {tx : Bool} {da : Option (Nat × Nat)} {dc dg : Nat} (hk : i < np) (hrw : ∀ x ∈ rws, x.length = 4) (hi : i < rws.length) (htp : tp = []) (hH0 : Hs H ([(F, some (.cells ([(.sl (some (Pb, 0)) np np 0), (.i .i64 ((room : Nat) : Int)), cv]) true))] ++ ([(Pb, some (.cells (((rws).set i (rrow on sv wv lost)).flatten) true))] ++ (R)))) : Ev tabA spA (.fn (.func 39) [] []) [.p (some (F, 0)), .i .i64 ((i : Nat) : Int), .s (txt tp), .b tx, .sl da dd.length dc dg] H (fun r H' => r = .tup [.i .i64 0, .i .i64 1] ∧ Hs H' ([(F, some (.cells ([(.sl (some (Pb, 0)) np np 0), (.i .i64 ((room : Nat) : Int)), cv]) true))] ++ ([(Pb, some (.cells (((rws).set i (rrow on sv wv lost)).flatten) true))] ++ (R)))) := by
  refine Ev_C (F := x39) rfl ?_
  refine C_seq ?_
  refine C_region ?_
  refine O_p (.i .i64 0) (r_mv rfl) ?_
  refine O_p (.i .i64 0) (r_mv rfl) ?_
  refine O_nil ?_
  refine C_seq ?_
  refine C_seq ?_
  refine C_region ?_
  refine O_p (.p (some (F, 0))) (r_mv rfl) ?_
  refine O_p (.i .i64 ((i : Nat) : Int)) (r_mv rfl) ?_
  refine O_call (Ev.mono (there_yes ⟨by omega, by omega⟩ hH0) fun v1 H2 hq3 => ?_)
  obtain ⟨rfl, hH4⟩ := hq3
  refine O_p (.b false) (r_un rfl rfl) ?_
  refine O_p (.b false) (r_mv rfl) ?_
  refine O_gk rfl ?_
  refine O_p (.s (txt tp)) (r_mv rfl) ?_
  refine O_gk rfl ?_
  refine O_p (.b true) (by exact (by rw [r_eqt (b := ([] : List UInt8)) rfl rfl, decide_eq_true htp])) ?_
  refine O_p (.b true) (r_pick_f rfl rfl) ?_
  refine O_nil ?_
  refine C_cond (x := true) rfl (fun _ => ?_) (fun h => by cases h)
  refine C_seq ?_
  refine C_region ?_
  refine O_p (.i .i64 0) (r_mv rfl) ?_
  refine O_p (.i .i64 1) (r_mv rfl) ?_
  refine O_nil ?_
  refine C_ret ?_
  refine nx_ret ?_
  have hH5 := ((hH4.top1).top1)
  exact ⟨.inr rfl, _, resL_cons (r_tmp (v := (.i .i64 0)) rfl) (resL_one (r_tmp (v := (.i .i64 1)) rfl)), rfl, hH5⟩
set_option maxHeartbeats 1000000 in
theorem rpub_big {H : AH} {R : HL} {F Pb np i room : Nat} {rws : List (List AV)} {cv : AV} {on : Bool} {sv wv : AV} {lost : Int} {tp dd : List UInt8} {tx : Bool} {da : Option (Nat × Nat)} {dc dg : Nat} (hk : i < np) (hrw : ∀ x ∈ rws, x.length = 4) (hi : i < rws.length) (htp : 0 < tp.length ∧ 256 < tp.length) (hH0 : Hs H ([(F, some (.cells ([(.sl (some (Pb, 0)) np np 0), (.i .i64 ((room : Nat) : Int)), cv]) true))] ++ ([(Pb, some (.cells (((rws).set i (rrow on sv wv lost)).flatten) true))] ++ (R)))) : Ev tabA spA (.fn (.func 39) [] []) [.p (some (F, 0)), .i .i64 ((i : Nat) : Int), .s (txt tp), .b tx, .sl da dd.length dc dg] H (fun r H' => r = .tup [.i .i64 0, .i .i64 10] ∧ Hs H' ([(F, some (.cells ([(.sl (some (Pb, 0)) np np 0), (.i .i64 ((room : Nat) : Int)), cv]) true))] ++ ([(Pb, some (.cells (((rws).set i (rrow on sv wv lost)).flatten) true))] ++ (R)))) := by
  refine Ev_C (F := x39) rfl ?_
  refine C_seq ?_
  refine C_region ?_
  refine O_p (.i .i64 0) (r_mv rfl) ?_
  refine O_p (.i .i64 0) (r_mv rfl) ?_
  refine O_nil ?_
  refine C_seq ?_
  refine C_seq ?_
  refine C_region ?_
  refine O_p (.p (some (F, 0))) (r_mv rfl) ?_
  refine O_p (.i .i64 ((i : Nat) : Int)) (r_mv rfl) ?_
  refine O_call (Ev.mono (there_yes ⟨by omega, by omega⟩ hH0) fun v1 H2 hq3 => ?_)
  obtain ⟨rfl, hH4⟩ := hq3
  refine O_p (.b false) (r_un rfl rfl) ?_
  refine O_p (.b false) (r_mv rfl) ?_
  refine O_gk rfl ?_
  refine O_p (.s (txt tp)) (r_mv rfl) ?_
  refine O_gk rfl ?_
  refine O_p (.b false) (by exact (by rw [r_eqt (b := ([] : List UInt8)) rfl rfl, decide_eq_false (by intro h; rw [h] at htp; exact absurd htp.1 (by decide))])) ?_
  refine O_p (.b false) (r_pick_f rfl rfl) ?_
  refine O_nil ?_
  refine C_cond (x := false) rfl (fun h => by cases h) (fun _ => ?_)
  refine C_skip ?_
  refine C_seq ?_
  refine C_seq ?_
  refine C_region ?_
  refine O_p (.s (txt tp)) (r_mv rfl) ?_
  refine O_p (.i .i64 ((((tp).length : Nat)) : Int)) (r_lent (l := tp) rfl) ?_
  refine O_p (.b true) (by exact (by rw [r_gtr rfl rfl, decide_eq_true (by omega)])) ?_
  refine O_p (.b true) (r_mv rfl) ?_
  refine O_gf rfl ?_
  refine O_gf rfl ?_
  refine O_gf rfl ?_
  refine O_p (.b true) (r_pick_t rfl rfl) ?_
  refine O_nil ?_
  refine C_cond (x := true) rfl (fun _ => ?_) (fun h => by cases h)
  refine C_seq ?_
  refine C_region ?_
  refine O_p (.i .i64 0) (r_mv rfl) ?_
  refine O_p (.i .i64 10) (r_mv rfl) ?_
  refine O_nil ?_
  refine C_ret ?_
  refine nx_ret ?_
  have hH5 := ((hH4.top1).top1)
  exact ⟨.inr rfl, _, resL_cons (r_tmp (v := (.i .i64 0)) rfl) (resL_one (r_tmp (v := (.i .i64 10)) rfl)), rfl, hH5⟩
set_option maxHeartbeats 1000000 in
theorem rpub_large {H : AH} {R : HL} {F Pb np i room : Nat} {rws : List (List AV)} {cv : AV} {on : Bool} {sv wv : AV} {lost : Int} {tp dd : List UInt8} {tx : Bool} {da : Option (Nat × Nat)} {dc dg : Nat} (hk : i < np) (hrw : ∀ x ∈ rws, x.length = 4) (hi : i < rws.length) (htp : 0 < tp.length ∧ tp.length ≤ 256) (hdl : 16384 < dd.length) (hH0 : Hs H ([(F, some (.cells ([(.sl (some (Pb, 0)) np np 0), (.i .i64 ((room : Nat) : Int)), cv]) true))] ++ ([(Pb, some (.cells (((rws).set i (rrow on sv wv lost)).flatten) true))] ++ (R)))) : Ev tabA spA (.fn (.func 39) [] []) [.p (some (F, 0)), .i .i64 ((i : Nat) : Int), .s (txt tp), .b tx, .sl da dd.length dc dg] H (fun r H' => r = .tup [.i .i64 0, .i .i64 10] ∧ Hs H' ([(F, some (.cells ([(.sl (some (Pb, 0)) np np 0), (.i .i64 ((room : Nat) : Int)), cv]) true))] ++ ([(Pb, some (.cells (((rws).set i (rrow on sv wv lost)).flatten) true))] ++ (R)))) := by
  refine Ev_C (F := x39) rfl ?_
  refine C_seq ?_
  refine C_region ?_
  refine O_p (.i .i64 0) (r_mv rfl) ?_
  refine O_p (.i .i64 0) (r_mv rfl) ?_
  refine O_nil ?_
  refine C_seq ?_
  refine C_seq ?_
  refine C_region ?_
  refine O_p (.p (some (F, 0))) (r_mv rfl) ?_
  refine O_p (.i .i64 ((i : Nat) : Int)) (r_mv rfl) ?_
  refine O_call (Ev.mono (there_yes ⟨by omega, by omega⟩ hH0) fun v1 H2 hq3 => ?_)
  obtain ⟨rfl, hH4⟩ := hq3
  refine O_p (.b false) (r_un rfl rfl) ?_
  refine O_p (.b false) (r_mv rfl) ?_
  refine O_gk rfl ?_
  refine O_p (.s (txt tp)) (r_mv rfl) ?_
  refine O_gk rfl ?_
  refine O_p (.b false) (by exact (by rw [r_eqt (b := ([] : List UInt8)) rfl rfl, decide_eq_false (by intro h; rw [h] at htp; exact absurd htp.1 (by decide))])) ?_
  refine O_p (.b false) (r_pick_f rfl rfl) ?_
  refine O_nil ?_
  refine C_cond (x := false) rfl (fun h => by cases h) (fun _ => ?_)
  refine C_skip ?_
  refine C_seq ?_
  refine C_seq ?_
  refine C_region ?_
  refine O_p (.s (txt tp)) (r_mv rfl) ?_
  refine O_p (.i .i64 ((((tp).length : Nat)) : Int)) (r_lent (l := tp) rfl) ?_
  refine O_p (.b false) (by exact (by rw [r_gtr rfl rfl, decide_eq_false (by omega)])) ?_
  refine O_p (.b false) (r_mv rfl) ?_
  refine O_gk rfl ?_
  refine O_p (.sl da dd.length dc dg) (r_mv rfl) ?_
  refine O_gk rfl ?_
  refine O_p (.i .i64 (((dd.length : Nat)) : Int)) (r_len rfl) ?_
  refine O_gk rfl ?_
  refine O_p (.b true) (by exact (by rw [r_gtr rfl rfl, decide_eq_true (by omega)])) ?_
  refine O_p (.b true) (r_pick_f rfl rfl) ?_
  refine O_nil ?_
  refine C_cond (x := true) rfl (fun _ => ?_) (fun h => by cases h)
  refine C_seq ?_
  refine C_region ?_
  refine O_p (.i .i64 0) (r_mv rfl) ?_
  refine O_p (.i .i64 10) (r_mv rfl) ?_
  refine O_nil ?_
  refine C_ret ?_
  refine nx_ret ?_
  have hH5 := ((hH4.top1).top1)
  exact ⟨.inr rfl, _, resL_cons (r_tmp (v := (.i .i64 0)) rfl) (resL_one (r_tmp (v := (.i .i64 10)) rfl)), rfl, hH5⟩
set_option maxHeartbeats 1000000 in
theorem rpub_off {H : AH} {R : HL} {F Pb np i room : Nat} {rws : List (List AV)} {cv : AV} {sv wv : AV} {lost : Int} {tp dd : List UInt8} {tx : Bool} {da : Option (Nat × Nat)} {dc dg : Nat} (hk : i < np) (hrw : ∀ x ∈ rws, x.length = 4) (hi : i < rws.length) (htp : 0 < tp.length ∧ tp.length ≤ 256) (hdl : dd.length ≤ 16384) (hH0 : Hs H ([(F, some (.cells ([(.sl (some (Pb, 0)) np np 0), (.i .i64 ((room : Nat) : Int)), cv]) true))] ++ ([(Pb, some (.cells (((rws).set i (rrow false sv wv lost)).flatten) true))] ++ (R)))) : Ev tabA spA (.fn (.func 39) [] []) [.p (some (F, 0)), .i .i64 ((i : Nat) : Int), .s (txt tp), .b tx, .sl da dd.length dc dg] H (fun r H' => r = .tup [.i .i64 0, .i .i64 11] ∧ Hs H' ([(F, some (.cells ([(.sl (some (Pb, 0)) np np 0), (.i .i64 ((room : Nat) : Int)), cv]) true))] ++ ([(Pb, some (.cells (((rws).set i (rrow false sv wv lost)).flatten) true))] ++ (R)))) := by
  refine Ev_C (F := x39) rfl ?_
  refine C_seq ?_
  refine C_region ?_
  refine O_p (.i .i64 0) (r_mv rfl) ?_
  refine O_p (.i .i64 0) (r_mv rfl) ?_
  refine O_nil ?_
  refine C_seq ?_
  refine C_seq ?_
  refine C_region ?_
  refine O_p (.p (some (F, 0))) (r_mv rfl) ?_
  refine O_p (.i .i64 ((i : Nat) : Int)) (r_mv rfl) ?_
  refine O_call (Ev.mono (there_yes ⟨by omega, by omega⟩ hH0) fun v1 H2 hq3 => ?_)
  obtain ⟨rfl, hH4⟩ := hq3
  refine O_p (.b false) (r_un rfl rfl) ?_
  refine O_p (.b false) (r_mv rfl) ?_
  refine O_gk rfl ?_
  refine O_p (.s (txt tp)) (r_mv rfl) ?_
  refine O_gk rfl ?_
  refine O_p (.b false) (by exact (by rw [r_eqt (b := ([] : List UInt8)) rfl rfl, decide_eq_false (by intro h; rw [h] at htp; exact absurd htp.1 (by decide))])) ?_
  refine O_p (.b false) (r_pick_f rfl rfl) ?_
  refine O_nil ?_
  refine C_cond (x := false) rfl (fun h => by cases h) (fun _ => ?_)
  refine C_skip ?_
  refine C_seq ?_
  refine C_seq ?_
  refine C_region ?_
  refine O_p (.s (txt tp)) (r_mv rfl) ?_
  refine O_p (.i .i64 ((((tp).length : Nat)) : Int)) (r_lent (l := tp) rfl) ?_
  refine O_p (.b false) (by exact (by rw [r_gtr rfl rfl, decide_eq_false (by omega)])) ?_
  refine O_p (.b false) (r_mv rfl) ?_
  refine O_gk rfl ?_
  refine O_p (.sl da dd.length dc dg) (r_mv rfl) ?_
  refine O_gk rfl ?_
  refine O_p (.i .i64 (((dd.length : Nat)) : Int)) (r_len rfl) ?_
  refine O_gk rfl ?_
  refine O_p (.b false) (by exact (by rw [r_gtr rfl rfl, decide_eq_false (by omega)])) ?_
  refine O_p (.b false) (r_pick_f rfl rfl) ?_
  refine O_nil ?_
  refine C_cond (x := false) rfl (fun h => by cases h) (fun _ => ?_)
  refine C_skip ?_
  refine C_seq ?_
  refine C_seq ?_
  refine C_region ?_
  refine O_p (.p (some (F, 0))) (r_mv rfl) ?_
  refine O_p (.p (some (F, 0))) (r_nilc rfl) ?_
  refine O_p (.p (some (F, 0))) (r_fadd' rfl rfl) ?_
  refine O_p (.sl (some (Pb, 0)) np np 0) (r_ld rfl hH4.get0 rfl) ?_
  refine O_p (.i .i64 ((i : Nat) : Int)) (r_mv rfl) ?_
  refine O_p (.p (some (Pb, (i * 4 + 0)))) (by exact (r_islr (b := Pb) (k := i) (len := np) (cap := np) (g := 0) rfl rfl (by omega))) ?_
  refine O_p (.p (some (Pb, (i * 4 + 0)))) (r_fadd' rfl rfl) ?_
  refine O_p (.b false) (by exact (r_ld rfl hH4.get1 ((foc_get hrw hi rfl (by decide)).trans rfl))) ?_
  refine O_p (.b true) (r_un rfl rfl) ?_
  refine O_nil ?_
  refine C_cond (x := true) rfl (fun _ => ?_) (fun h => by cases h)
  refine C_seq ?_
  refine C_region ?_
  refine O_p (.i .i64 0) (r_mv rfl) ?_
  refine O_p (.i .i64 11) (r_mv rfl) ?_
  refine O_nil ?_
  refine C_ret ?_
  refine nx_ret ?_
  have hH5 := ((hH4.top1).top1)
  exact ⟨.inr rfl, _, resL_cons (r_tmp (v := (.i .i64 0)) rfl) (resL_one (r_tmp (v := (.i .i64 11)) rfl)), rfl, hH5⟩
set_option maxRecDepth 100000 in
set_option maxHeartbeats 2000000 in
theorem rpubP_none {H : AH} {R B : HL} {F Pb room i n n0 : Nat} {cv : AV} {cc : List AV} {cs : List (List UInt8 × Nat)} {ps : List Rp} {p0 : Rp} {tp dd : List UInt8} {tx : Bool} {da : Option (Nat × Nat)} {dc dg : Nat} (hip : i < ps.length) (hps : ps.length ≤ 16) (hrd : ∀ H' R', Hs H' ([(Pb, some (.cells ((ps.map Rp.row).flatten) true))] ++ R') → ∃ c mu, H'.get Pb = some (.cells c mu) ∧ takeAt c (i * 4) 4 = some [.b true, p0.sv, p0.wv, .i .i64 ((p0.a.lost : Nat) : Int)]) (hok : ∀ p ∈ ps, p.ok B) (hinv : ∀ p ∈ ps, p.a.inv room n) (hsb : ∀ p ∈ ps, p.a.sb.length ≤ 1000000) (hroom : 1 ≤ room ∧ room ≤ 64) (hn6 : n ≤ 1000000) (hcs : Sq 2 cv cc (cs.map coRow).flatten) (hcl : cs.length ≤ 1000000) (hcg : cget cs tp = none) (hn0 : n0 ≤ 1000000) (htp : 0 < tp.length ∧ tp.length ≤ 256) (hdl : dd.length ≤ 16384) (hdg : dg = 0 ∨ dg = 1) (hdc : dd.length ≤ dc) (hdm : dc ≤ 9223372036854775807) (hdb : ∀ H', Hs H' B → Bs H' (.sl da dd.length dc dg) dd) (hH0 : Hs H ([(F, some (.cells ([(.sl (some (Pb, 0)) ps.length ps.length 0), (.i .i64 ((room : Nat) : Int)), cv]) true))] ++ ([(Pb, some (.cells ((ps.map Rp.row).flatten) true))] ++ ((qseg cv cc) ++ ((ps.flatMap Rp.seg) ++ (R)))))) : Ev tabA spA (.fn (.func 39) [] []) [.p (some (F, 0)), .i .i64 ((i : Nat) : Int), .s (txt tp), .b tx, .sl da dd.length dc dg] H (fun r H' => ∃ (qs : List Rp) (v' : AV) (c' : List AV), r = .tup [.i .i64 (((pubN i room (⟨tp, ((i : Nat) : Int), (((cget cs tp).getD 0 : Nat) : Int), tx, dd⟩ : It) (ps.map Rp.a) ps.length).2 : Nat) : Int), .i .i64 0] ∧ qs.map Rp.a = (pubN i room (⟨tp, ((i : Nat) : Int), (((cget cs tp).getD 0 : Nat) : Int), tx, dd⟩ : It) (ps.map Rp.a) ps.length).1 ∧ (∀ p ∈ qs, p.ok B) ∧ qs.length = ps.length ∧ Sq 2 v' c' ((cset cs tp ((cget cs tp).getD 0 + 1)).map coRow).flatten ∧ Hs H' ([(F, some (.cells ([(.sl (some (Pb, 0)) ps.length ps.length 0), (.i .i64 ((room : Nat) : Int)), v']) true))] ++ ([(Pb, some (.cells ((qs.map Rp.row).flatten) true))] ++ ((qseg v' c') ++ ((qs.flatMap Rp.seg) ++ (R)))))) := by
  refine Ev_C (F := x39) rfl ?_
  have hkn0 := cget_none hcg
  refine C_seq ?_
  refine C_region ?_
  refine O_p (.i .i64 0) (r_mv rfl) ?_
  refine O_p (.i .i64 0) (r_mv rfl) ?_
  refine O_nil ?_
  refine C_seq ?_
  refine C_seq ?_
  refine C_region ?_
  refine O_p (.p (some (F, 0))) (r_mv rfl) ?_
  refine O_p (.i .i64 ((i : Nat) : Int)) (r_mv rfl) ?_
  refine O_call (Ev.mono (there_yes ⟨by omega, by omega⟩ hH0) fun v1 H2 hq3 => ?_)
  obtain ⟨rfl, hH4⟩ := hq3
  refine O_p (.b false) (r_un rfl rfl) ?_
  refine O_p (.b false) (r_mv rfl) ?_
  refine O_gk rfl ?_
  refine O_p (.s (txt tp)) (r_mv rfl) ?_
  refine O_gk rfl ?_
  refine O_p (.b false) (by exact (by rw [r_eqt (b := ([] : List UInt8)) rfl rfl, decide_eq_false (by intro h; rw [h] at htp; exact absurd htp.1 (by decide))])) ?_
  refine O_p (.b false) (r_pick_f rfl rfl) ?_
  refine O_nil ?_
  refine C_cond (x := false) rfl (fun h => by cases h) (fun _ => ?_)
  refine C_skip ?_
  refine C_seq ?_
  refine C_seq ?_
  refine C_region ?_
  refine O_p (.s (txt tp)) (r_mv rfl) ?_
  refine O_p (.i .i64 ((((tp).length : Nat)) : Int)) (r_lent (l := tp) rfl) ?_
  refine O_p (.b false) (by exact (by rw [r_gtr rfl rfl, decide_eq_false (by omega)])) ?_
  refine O_p (.b false) (r_mv rfl) ?_
  refine O_gk rfl ?_
  refine O_p (.sl da dd.length dc dg) (r_mv rfl) ?_
  refine O_gk rfl ?_
  refine O_p (.i .i64 (((dd.length : Nat)) : Int)) (r_len rfl) ?_
  refine O_gk rfl ?_
  refine O_p (.b false) (by exact (by rw [r_gtr rfl rfl, decide_eq_false (by omega)])) ?_
  refine O_p (.b false) (r_pick_f rfl rfl) ?_
  refine O_nil ?_
  refine C_cond (x := false) rfl (fun h => by cases h) (fun _ => ?_)
  refine C_skip ?_
  refine C_seq ?_
  refine C_seq ?_
  refine C_region ?_
  refine O_p (.p (some (F, 0))) (r_mv rfl) ?_
  refine O_p (.p (some (F, 0))) (r_nilc rfl) ?_
  refine O_p (.p (some (F, 0))) (r_fadd' rfl rfl) ?_
  refine O_p (.sl (some (Pb, 0)) ps.length ps.length 0) (r_ld rfl hH4.get0 rfl) ?_
  refine O_p (.i .i64 ((i : Nat) : Int)) (r_mv rfl) ?_
  refine O_p (.p (some (Pb, (i * 4 + 0)))) (by exact (r_islr (b := Pb) (k := i) (len := ps.length) (cap := ps.length) (g := 0) rfl rfl (by omega))) ?_
  refine O_p (.p (some (Pb, (i * 4 + 0)))) (r_fadd' rfl rfl) ?_
  refine O_p (.b true) (r_ldR (q := 0) rfl (hrd _ _ hH4.top1) rfl) ?_
  refine O_p (.b false) (r_un rfl rfl) ?_
  refine O_nil ?_
  refine C_cond (x := false) rfl (fun h => by cases h) (fun _ => ?_)
  refine C_skip ?_
  refine C_seq ?_
  refine C_region ?_
  refine O_p (.s (txt tp)) (r_mv rfl) ?_
  refine O_p (.i .i64 ((i : Nat) : Int)) (r_mv rfl) ?_
  refine O_p (.p (some (F, 0))) (r_mv rfl) ?_
  refine O_p (.s (txt tp)) (r_mv rfl) ?_
  have hH5 := ((hH4.top2).top1)
  refine O_call (Ev.mono (rcount_ev hcs hcl hH5) fun v6 H7 hq8 => ?_)
  obtain ⟨rfl, hH9⟩ := hq8
  refine O_p (.b tx) (r_mv rfl) ?_
  refine O_p (.sl da dd.length dc dg) (r_mv rfl) ?_
  refine O_p (.agg [(.s (txt tp)), (.i .i64 ((i : Nat) : Int)), (.i .i64 (((cget cs tp).getD 0 : Nat) : Int)), (.b tx), (.sl da dd.length dc dg)]) (r_build rfl) ?_
  refine O_alloc fun n10 H11 hN12 => ?_
  have hH13 := hH9.new hN12
  refine O_store (vs := [(.s (txt tp)), (.i .i64 ((i : Nat) : Int)), (.i .i64 (((cget cs tp).getD 0 : Nat) : Int)), (.b tx), (.sl da dd.length dc dg)]) (c' := [(.s (txt tp)), (.i .i64 ((i : Nat) : Int)), (.i .i64 (((cget cs tp).getD 0 : Nat) : Int)), (.b tx), (.sl da dd.length dc dg)]) rfl (by rfl) hH13.get0 rfl (List.cons_ne_nil _ _) (Nat.le_of_ble_eq_true rfl) rfl fun H14 hW15 => ?_
  have hH16 := hH13.wr0 hW15
  refine O_nil ?_
  refine C_seq ?_
  refine C_region ?_
  refine O_p (.i .i64 0) (r_mv rfl) ?_
  refine O_nil ?_
  refine C_seq ?_
  refine C_block ?_
  refine C_while (fun m17 T18 H19 => ∃ kc : Nat, m17 = cs.length - kc ∧ kc ≤ cs.length ∧ Hs H19 ([(n10, some (.cells ([(.s (txt tp)), (.i .i64 ((i : Nat) : Int)), (.i .i64 (((cget cs tp).getD 0 : Nat) : Int)), (.b tx), (.sl da dd.length dc dg)]) true))] ++ ([(F, some (.cells ([(.sl (some (Pb, 0)) ps.length ps.length 0), (.i .i64 ((room : Nat) : Int)), cv]) true))] ++ ((qseg cv cc) ++ ([(Pb, some (.cells ((ps.map Rp.row).flatten) true))] ++ ((ps.flatMap Rp.seg) ++ (R)))))) ∧ T18.get 0 = (.p (some (F, 0))) ∧ T18.get 1 = (.i .i64 ((i : Nat) : Int)) ∧ T18.get 2 = (.s (txt tp)) ∧ T18.get 12 = (.p (some (n10, 0))) ∧ T18.get 13 = (.i .i64 (((kc : Nat)) : Int))) (fun m17 T18 H19 hI20 => ?_) cs.length _ _ ⟨0, rfl, Nat.zero_le _, hH16, rfl, rfl, rfl, rfl, rfl⟩
  obtain ⟨kc, hm21, hp22, hH28, hT23, hT24, hT25, hT26, hT27⟩ := hI20
  refine C_seq ?_
  refine C_seq ?_
  by_cases hc0 : kc < cs.length
  ·
    refine C_region ?_
    obtain ⟨co, hci⟩ : ∃ x, cs[kc]? = some x := ⟨_, List.getElem?_eq_getElem (by omega)⟩
    have hP : co.1 ≠ tp := of_decide_eq_false (fx_ne (P := cfP tp) (by omega) hci)
    refine O_p (.i .i64 (((kc : Nat)) : Int)) (r_mv hT27) ?_
    refine O_p (.p (some (F, 0))) (r_mv hT23) ?_
    refine O_p (.p (some (F, 0))) (r_nilc rfl) ?_
    refine O_p (.p (some (F, 2))) (r_fadd' rfl rfl) ?_
    refine O_p cv (r_ld rfl hH28.get1 rfl) ?_
    refine O_p (.i .i64 (((cs.length : Nat)) : Int)) (by exact (by exact r_lenOf rfl (hcs.lenOf ((flat_len (co_lens cs)).trans (by rw [List.length_map])) (by decide)) hcs.isSl)) ?_
    refine O_p (.b true) (by exact (by rw [r_lss rfl rfl, decide_eq_true (by omega)])) ?_
    refine O_p (.b true) (r_mv rfl) ?_
    refine O_gk rfl ?_
    refine O_p (.p (some (F, 0))) (r_mv hT23) ?_
    refine O_gk rfl ?_
    refine O_p (.p (some (F, 0))) (r_nilc rfl) ?_
    refine O_gk rfl ?_
    refine O_p (.p (some (F, 2))) (r_fadd' rfl rfl) ?_
    refine O_gk rfl ?_
    refine O_p cv (r_ld rfl hH28.get1 rfl) ?_
    refine O_gk rfl ?_
    refine O_p (.i .i64 (((kc : Nat)) : Int)) (r_mv hT27) ?_
    refine O_gk rfl ?_
    refine O_q (by exact Sq.cell hcs (co_lens cs) hH28.top2 rfl (i := kc) rfl (r := [(.s (txt co.1)), (.i .i64 (((co.2 : Nat)) : Int))]) (co_get hci) (by decide)) fun v30 hv29 => ?_
    obtain ⟨rb31, ro32, rfl, hrg33, hrt34, hrb35, hput36, hqs37⟩ := hv29
    refine O_gk rfl ?_
    refine O_p (.p (some (rb31, (ro32 + 0)))) (r_fadd' rfl rfl) ?_
    refine O_gk rfl ?_
    refine O_p (.s (txt co.1)) (r_ldR (q := 0) rfl ⟨_, _, hrg33, hrt34⟩ rfl) ?_
    refine O_gk rfl ?_
    refine O_p (.s (txt tp)) (r_mv hT25) ?_
    refine O_gk rfl ?_
    refine O_p (.b true) (by exact (by rw [r_eqtn rfl rfl, decide_eq_false hP]; rfl)) ?_
    refine O_p (.b true) (r_pick_t rfl rfl) ?_
    refine O_nil ?_
    refine C_cond (x := true) rfl (fun _ => ?_) (fun h => by cases h)
    refine C_skip ?_
    refine C_block ?_
    refine C_region ?_
    refine O_p (.i .i64 (((kc : Nat)) : Int)) (r_mv hT27) ?_
    refine O_p (.i .i64 ((((kc : Nat)) : Int) + 1)) (by exact (r_addi rfl rfl (wrap_i64 (by omega) (by omega)))) ?_
    refine O_p (.i .i64 ((((kc : Nat)) : Int) + 1)) (r_mv rfl) ?_
    refine O_nil ?_
    exact ⟨cs.length - (kc + 1), by omega, (kc + 1), rfl, by omega, hH28, hT23, hT24, hT25, hT26, rfl⟩
  ·
    refine C_region ?_
    have hkn : kc = cs.length := by omega
    refine O_p (.i .i64 (((kc : Nat)) : Int)) (r_mv hT27) ?_
    refine O_p (.p (some (F, 0))) (r_mv hT23) ?_
    refine O_p (.p (some (F, 0))) (r_nilc rfl) ?_
    refine O_p (.p (some (F, 2))) (r_fadd' rfl rfl) ?_
    refine O_p cv (r_ld rfl hH28.get1 rfl) ?_
    refine O_p (.i .i64 (((cs.length : Nat)) : Int)) (by exact (by exact r_lenOf rfl (hcs.lenOf ((flat_len (co_lens cs)).trans (by rw [List.length_map])) (by decide)) hcs.isSl)) ?_
    refine O_p (.b false) (by exact (by rw [r_lss rfl rfl, decide_eq_false (by omega)])) ?_
    refine O_p (.b false) (r_mv rfl) ?_
    refine O_gf rfl ?_
    refine O_gf rfl ?_
    refine O_gf rfl ?_
    refine O_gf rfl ?_
    refine O_gf rfl ?_
    refine O_gf rfl ?_
    refine O_gf rfl ?_
    refine O_gf rfl ?_
    refine O_gf rfl ?_
    refine O_gf rfl ?_
    refine O_p (.b false) (r_pick_f rfl rfl) ?_
    refine O_nil ?_
    refine C_cond (x := false) rfl (fun h => by cases h) (fun _ => ?_)
    refine C_exit ?_
    refine nx_exit ?_
    refine nx_exit ?_
    refine bk_hit ?_
    refine C_seq ?_
    refine C_seq ?_
    refine C_region ?_
    refine O_p (.i .i64 (((kc : Nat)) : Int)) (r_mv hT27) ?_
    refine O_p (.p (some (F, 0))) (r_mv hT23) ?_
    refine O_p (.p (some (F, 0))) (r_nilc rfl) ?_
    refine O_p (.p (some (F, 2))) (r_fadd' rfl rfl) ?_
    refine O_p cv (r_ld rfl hH28.get1 rfl) ?_
    refine O_p (.i .i64 (((cs.length : Nat)) : Int)) (by exact (by exact r_lenOf rfl (hcs.lenOf ((flat_len (co_lens cs)).trans (by rw [List.length_map])) (by decide)) hcs.isSl)) ?_
    refine O_p (.b true) (by exact (by rw [r_eql rfl rfl, decide_eq_true (by omega)])) ?_
    refine O_nil ?_
    refine C_cond (x := true) rfl (fun _ => ?_) (fun h => by cases h)
    refine C_region ?_
    refine O_p (.p (some (F, 0))) (r_mv hT23) ?_
    refine O_p (.p (some (F, 0))) (r_mv hT23) ?_
    refine O_p (.p (some (F, 0))) (r_nilc rfl) ?_
    refine O_p (.p (some (F, 2))) (r_fadd' rfl rfl) ?_
    refine O_p cv (r_ld rfl hH28.get1 rfl) ?_
    refine O_p (.s (txt tp)) (r_mv hT25) ?_
    refine O_p (.agg [(.s (txt tp)), (.i .i64 0)]) (r_build rfl) ?_
    refine O_bslice (c := [(.s (txt tp)), (.i .i64 0)]) rfl fun n38 H39 hN40 => ?_
    have hH41 := hH28.new hN40
    refine O_qh (by exact r_appq (n := cs.length) (k := 1) (new := [(.s (txt tp)), (.i .i64 0)]) hH41.top3 hcs rfl rfl rfl (src_blk hH41.get0 (by rfl)) rfl (by decide) (by decide) ((flat_len (co_lens cs)).trans (by rw [List.length_map])) (by first | omega | (simp only [List.length_take, List.length_drop, List.length_append, List.length_cons, List.length_nil, beN_len] <;> omega))) fun o42 H43 hA45 => ?_
    obtain ⟨c44, hA45, hH46⟩ := hA45
    obtain ⟨qa47, ql48, qc49, qg50, rfl⟩ := hA45.isSl
    refine O_p (.p (some (F, 0))) (r_nilc rfl) ?_
    refine O_p (.p (some (F, 2))) (r_fadd' rfl rfl) ?_
    refine O_store (vs := [(.sl qa47 ql48 qc49 qg50)]) (c' := [(.sl (some (Pb, 0)) ps.length ps.length 0), (.i .i64 ((room : Nat) : Int)), (.sl qa47 ql48 qc49 qg50)]) rfl (by rfl) hH46.get3 rfl (List.cons_ne_nil _ _) (Nat.le_of_ble_eq_true rfl) rfl fun H51 hW52 => ?_
    have hH53 := hH46.wr3 hW52
    refine O_nil ?_
    refine C_seq ?_
    refine C_region ?_
    have hcq54 : Sq 2 (.sl qa47 ql48 qc49 qg50) c44 ((cs ++ [(tp, 0)]).map coRow).flatten := by rw [← co_add]; exact hA45
    refine O_p (.p (some (F, 0))) (r_mv hT23) ?_
    refine O_p (.p (some (F, 0))) (r_nilc rfl) ?_
    refine O_p (.p (some (F, 2))) (r_fadd' rfl rfl) ?_
    refine O_p (.sl qa47 ql48 qc49 qg50) (r_ld rfl hH53.get3 rfl) ?_
    refine O_p (.i .i64 (((kc : Nat)) : Int)) (r_mv hT27) ?_
    refine O_q (by exact Sq.cell hcq54 (co_lens _) hH53.top0 rfl (i := kc) rfl (r := [(.s (txt tp)), (.i .i64 ((0 : Nat) : Int))]) (co_get (x := (tp, 0)) (by rw [hkn]; exact co_last)) (by decide)) fun v56 hv55 => ?_
    obtain ⟨rb57, ro58, rfl, hrg59, hrt60, hrb61, hput62, hqs63⟩ := hv55
    refine O_p (.p (some (rb57, (ro58 + 1)))) (r_fadd' rfl rfl) ?_
    refine O_p (.i .i64 ((0 : Nat) : Int)) (r_ldR (q := 1) rfl ⟨_, _, hrg59, hrt60⟩ rfl) ?_
    refine O_p (.i .i64 (((0 : Nat) : Int) + 1)) (by exact (r_addi rfl rfl (wrap_i64 (by omega) (by omega)))) ?_
    refine O_q (by exact Sq.cell hcq54 (co_lens _) hH53.top0 rfl (i := kc) rfl (r := [(.s (txt tp)), (.i .i64 ((0 : Nat) : Int))]) (co_get (x := (tp, 0)) (by rw [hkn]; exact co_last)) (by decide)) fun v65 hv64 => ?_
    obtain ⟨rb66, ro67, rfl, hrg68, hrt69, hrb70, hput71, hqs72⟩ := hv64
    refine O_p (.p (some (rb66, (ro67 + 1)))) (r_fadd' rfl rfl) ?_
    refine O_store (vs := [(.i .i64 (((0 : Nat) : Int) + 1))]) (c' := (putAt c44 (ro67 + 1) [(.i .i64 (((0 : Nat) : Int) + 1))])) rfl (by rfl) hrg68 rfl (List.cons_ne_nil _ _) (by have := hrb70; show _ + 1 ≤ _; omega) rfl fun H73 hW74 => ?_
    have hH76 := Hs.cong0 (Hs.wr0 (Hs.cong0 hH53 (hqs72 _)) hW74) (hqs72 _).symm
    have hSq75 := hput71 1 [(.i .i64 (((0 : Nat) : Int) + 1))] [(.s (txt tp)), (.i .i64 (((0 : Nat) : Int) + 1))] (Nat.le_of_ble_eq_true rfl) rfl
    refine O_nil ?_
    refine C_seq ?_
    refine C_region ?_
    refine O_p (.i .i64 0) (r_mv rfl) ?_
    refine O_nil ?_
    refine C_seq ?_
    refine C_seq ?_
    refine C_region ?_
    refine O_p (.i .i64 0) (r_mv rfl) ?_
    refine O_nil ?_
    refine C_block ?_
    have hH77 := (hH76.sub1)
    have hH78 := (((((hH77.top1).top4).top2).top4).top4)
    refine C_while (fun m79 T80 H81 => ∃ qs : List Rp, ∃ tk : Nat, ∃ k : Nat, m79 = ps.length - k ∧ k ≤ ps.length ∧ qs.map Rp.a = (pubN i room (⟨tp, ((i : Nat) : Int), (((cget cs tp).getD 0 : Nat) : Int), tx, dd⟩ : It) (ps.map Rp.a) k).1 ∧ tk = (pubN i room (⟨tp, ((i : Nat) : Int), (((cget cs tp).getD 0 : Nat) : Int), tx, dd⟩ : It) (ps.map Rp.a) k).2 ∧ (∀ p ∈ qs, p.ok B) ∧ qs.length = ps.length ∧ tk ≤ k ∧ Hs H81 ([(F, some (.cells ([(.sl (some (Pb, 0)) ps.length ps.length 0), (.i .i64 ((room : Nat) : Int)), (.sl qa47 ql48 qc49 qg50)]) true))] ++ ([(Pb, some (.cells ((qs.map Rp.row).flatten) true))] ++ ((qseg (.sl qa47 ql48 qc49 qg50) (putAt c44 (ro67 + 1) [(.i .i64 (((0 : Nat) : Int) + 1))])) ++ ((qs.flatMap Rp.seg) ++ ([(n10, some (.cells ([(.s (txt tp)), (.i .i64 ((i : Nat) : Int)), (.i .i64 (((cget cs tp).getD 0 : Nat) : Int)), (.b tx), (.sl da dd.length dc dg)]) true))] ++ (R)))))) ∧ T80.get 0 = (.p (some (F, 0))) ∧ T80.get 1 = (.i .i64 ((i : Nat) : Int)) ∧ T80.get 12 = (.p (some (n10, 0))) ∧ T80.get 14 = (.i .i64 (((tk : Nat)) : Int)) ∧ T80.get 15 = (.i .i64 (((k : Nat)) : Int))) (fun m79 T80 H81 hI82 => ?_) ps.length _ _ ⟨ps, 0, 0, rfl, Nat.zero_le _, rfl, rfl, hok, rfl, Nat.le_refl _, hH78, hT23, hT24, hT26, rfl, rfl⟩
    obtain ⟨qs, tk, k, hm83, hp84, hp85, hp86, hp87, hp88, hp89, hH95, hT90, hT91, hT92, hT93, hT94⟩ := hI82
    refine C_seq ?_
    refine C_seq ?_
    refine C_region ?_
    refine O_p (.i .i64 (((k : Nat)) : Int)) (r_mv hT94) ?_
    refine O_p (.p (some (F, 0))) (r_mv hT90) ?_
    refine O_p (.p (some (F, 0))) (r_nilc rfl) ?_
    refine O_p (.p (some (F, 0))) (r_fadd' rfl rfl) ?_
    refine O_p (.sl (some (Pb, 0)) ps.length ps.length 0) (r_ld rfl hH95.get0 rfl) ?_
    refine O_p (.i .i64 (((ps.length : Nat)) : Int)) (r_len rfl) ?_
    refine O_p (.b (decide ((((k : Nat)) : Int) < (((ps.length : Nat)) : Int)))) (r_lss rfl rfl) ?_
    refine O_nil ?_
    refine C_cond (x := (decide ((((k : Nat)) : Int) < (((ps.length : Nat)) : Int)))) rfl (fun hc96 => ?_) (fun hc96 => ?_)
    ·
      try simp only [decide_eq_true_eq, decide_eq_false_iff_not, Bool.not_eq_true', Bool.not_eq_false', Bool.and_eq_true, Bool.or_eq_true, Bool.or_eq_false_iff, Bool.not_not, Bool.and_eq_false_iff] at hc96
      refine C_skip ?_
      refine C_seq ?_
      refine C_block ?_
      refine C_seq ?_
      by_cases hkn : k = i
      ·
        have hkl : k < ps.length := by omega
        refine C_draw fun b97 H98 hbase99 hA100 => ?_
        have hH101 := hH95.keep (by have := hA100.1; omega) (fun q _ => hA100.2 q) ((hH95.old).aside hA100).ok
        refine D_l (v := (.i .i64 (((k : Nat)) : Int))) rfl rfl rfl (r_mv hT94) ?_
        refine D_l (v := (.i .i64 ((i : Nat) : Int))) rfl rfl rfl (r_mv hT91) ?_
        refine D_l (v := (.b false)) rfl rfl rfl (by exact (by rw [r_neq rfl rfl, decide_eq_true (by omega)]; rfl)) ?_
        refine D_l (v := (.b false)) rfl rfl rfl (r_mv rfl) ?_
        refine D_gf rfl ?_
        refine D_gf rfl ?_
        refine D_gf rfl ?_
        refine D_gf rfl ?_
        refine D_gf rfl ?_
        refine D_gf rfl ?_
        refine D_gf rfl ?_
        refine D_gf rfl ?_
        refine D_l (v := (.b false)) rfl rfl rfl (r_pick_f rfl rfl) ?_
        refine D_l (v := (.b false)) rfl rfl rfl (r_mv rfl) ?_
        refine D_gf rfl ?_
        refine D_gf rfl ?_
        refine D_gf rfl ?_
        refine D_gf rfl ?_
        refine D_gf rfl ?_
        refine D_gf rfl ?_
        refine D_gf rfl ?_
        refine D_gf rfl ?_
        refine D_gf rfl ?_
        refine D_gf rfl ?_
        refine D_gf rfl ?_
        refine D_gf rfl ?_
        refine D_l (v := (.b false)) rfl rfl rfl (r_pick_f rfl rfl) ?_
        refine D_nil ?_
        refine C_cond (x := false) rfl (fun h => by cases h) (fun _ => ?_)
        refine C_skip ?_
        refine C_region ?_
        refine O_p (.i .i64 (((k : Nat)) : Int)) (r_mv hT94) ?_
        refine O_p (.i .i64 ((((k : Nat)) : Int) + 1)) (by exact (r_addi rfl rfl (wrap_i64 (by omega) (by omega)))) ?_
        refine O_p (.i .i64 ((((k : Nat)) : Int) + 1)) (r_mv rfl) ?_
        refine O_nil ?_
        have hH102 := (((((hH101.top4).top4).top4).top4).top4)
        exact ⟨ps.length - (k + 1), by omega, qs, tk, (k + 1), rfl, by omega, by rw [pubN_eq hkn]; exact hp85, by rw [pubN_eq hkn]; exact hp86, hp87, hp88, by omega, hH102, hT90, hT91, hT92, hT93, rfl⟩
      ·
        have hkl : k < ps.length := by omega
        obtain ⟨pk, hpk⟩ : ∃ p, qs[k]? = some p := ⟨_, List.getElem?_eq_getElem (by omega)⟩
        have hpa := getElem_map_r hp85 hpk
        have hpinv : pk.a.inv room n ∧ pk.a.sb.length ≤ 1000000 := by have e := hpa; rw [pubN_get (Nat.le_refl k), List.getElem?_map] at e; cases hz : ps[k]? with
          | none => rw [hz] at e; cases e
          | some z => rw [hz] at e; simp only [Option.map_some, Option.some.injEq] at e; rw [← e]; exact ⟨hinv z (List.mem_of_getElem? hz), hsb z (List.mem_of_getElem? hz)⟩
        have hH103 := ((hH95.top3).top2)
        have hH104 := Rp.out hpk hH103
        by_cases hon : pk.a.on = true
        ·
          refine C_draw fun b105 H106 hbase107 hA108 => ?_
          have hH109 := hH104.keep (by have := hA108.1; omega) (fun q _ => hA108.2 q) ((hH104.old).aside hA108).ok
          refine D_l (v := (.i .i64 (((k : Nat)) : Int))) rfl rfl rfl (r_mv hT94) ?_
          refine D_l (v := (.i .i64 ((i : Nat) : Int))) rfl rfl rfl (r_mv hT91) ?_
          refine D_l (v := (.b true)) rfl rfl rfl (by exact (by rw [r_neq rfl rfl, decide_eq_false (by omega)]; rfl)) ?_
          refine D_l (v := (.b true)) rfl rfl rfl (r_mv rfl) ?_
          refine D_gk rfl ?_
          refine D_l (v := (.p (some (F, 0)))) rfl rfl rfl (r_mv hT90) ?_
          refine D_gk rfl ?_
          refine D_l (v := (.p (some (F, 0)))) rfl rfl rfl (r_nilc rfl) ?_
          refine D_gk rfl ?_
          refine D_l (v := (.p (some (F, 0)))) rfl rfl rfl (r_fadd' rfl rfl) ?_
          refine D_gk rfl ?_
          refine D_l (v := (.i .i64 (((k : Nat)) : Int))) rfl rfl rfl (r_mv hT94) ?_
          refine D_gk rfl ?_
          refine D_r (v := (.sl (some (Pb, 0)) ps.length ps.length 0)) rfl rfl rfl (r_ld rfl hH109.get3 rfl) ?_
          refine D_gk rfl ?_
          refine D_l (v := (.p (some (Pb, (k * 4 + 0))))) rfl rfl rfl (by exact (r_islr (b := Pb) (k := k) (len := ps.length) (cap := ps.length) (g := 0) rfl rfl (by omega))) ?_
          refine D_gk rfl ?_
          refine D_l (v := (.p (some (Pb, (k * 4 + 0))))) rfl rfl rfl (r_fadd' rfl rfl) ?_
          refine D_gk rfl ?_
          refine D_r (v := (.b true)) rfl rfl rfl (by exact (((r_ld rfl hH109.get0 ((foc_get (rows_rp qs) (by rw [List.length_map]; omega) rfl (by decide)).trans rfl))).trans (by rw [hon]))) ?_
          refine D_l (v := (.b true)) rfl rfl rfl (r_pick_t rfl rfl) ?_
          refine D_l (v := (.b true)) rfl rfl rfl (r_mv rfl) ?_
          refine D_gk rfl ?_
          refine D_l (v := (.p (some (F, 0)))) rfl rfl rfl (r_mv hT90) ?_
          refine D_gk rfl ?_
          refine D_l (v := (.p (some (F, 0)))) rfl rfl rfl (r_nilc rfl) ?_
          refine D_gk rfl ?_
          refine D_l (v := (.p (some (F, 0)))) rfl rfl rfl (r_fadd' rfl rfl) ?_
          refine D_gk rfl ?_
          refine D_l (v := (.i .i64 (((k : Nat)) : Int))) rfl rfl rfl (r_mv hT94) ?_
          refine D_gk rfl ?_
          refine D_l (v := (.p (some (F, 0)))) rfl rfl rfl (r_mv hT90) ?_
          refine D_gk rfl ?_
          refine D_l (v := (.p (some (F, 0)))) rfl rfl rfl (r_nilc rfl) ?_
          refine D_gk rfl ?_
          refine D_l (v := (.p (some (F, 1)))) rfl rfl rfl (r_fadd' rfl rfl) ?_
          refine D_gk rfl ?_
          refine D_r (v := (.sl (some (Pb, 0)) ps.length ps.length 0)) rfl rfl rfl (r_ld rfl hH109.get3 rfl) ?_
          refine D_gk rfl ?_
          refine D_l (v := (.p (some (Pb, (k * 4 + 0))))) rfl rfl rfl (by exact (r_islr (b := Pb) (k := k) (len := ps.length) (cap := ps.length) (g := 0) rfl rfl (by omega))) ?_
          refine D_gk rfl ?_
          refine D_r (v := (.agg [(.s (txt tp)), (.i .i64 ((i : Nat) : Int)), (.i .i64 (((cget cs tp).getD 0 : Nat) : Int)), (.b tx), (.sl da dd.length dc dg)])) rfl rfl rfl (r_ldA hT92 hH109.get5 rfl) ?_
          refine D_gk rfl ?_
          refine D_r (v := (.i .i64 ((room : Nat) : Int))) rfl rfl rfl (r_ld rfl hH109.get3 rfl) ?_
          refine D_gk rfl ?_
          have hH110 := (((hH109.top2).top2).top2)
          refine D_call (Ev.mono (rhandP_ev (i := k) (rws := qs.map Rp.row) (D := B) (x := (⟨tp, ((i : Nat) : Int), (((cget cs tp).getD 0 : Nat) : Int), tx, dd⟩ : It)) (n := n) (rows_rp qs) (by rw [List.length_map]; omega) (hp87 pk (List.mem_of_getElem? hpk)) hpinv.1 hpinv.2 hon hroom hn6 ⟨_, _, _, rfl, hdg, hdc, hdm, hdb⟩ hH110) fun v111 H112 hq113 => ?_)
          obtain ⟨q2, rfl, hqa, hqok, hh2⟩ := hq113
          have hH114 := Rp.back hpk hh2
          refine And.intro (And.intro (Or.inl rfl) (And.intro (Or.inl rfl) (And.intro (Or.inl rfl) (And.intro (Or.inl rfl) (And.intro (Or.inl rfl) True.intro))))) ?_
          refine D_l (v := (.b (pk.a.hand room (⟨tp, ((i : Nat) : Int), (((cget cs tp).getD 0 : Nat) : Int), tx, dd⟩ : It)).2)) rfl rfl rfl (r_pick_t rfl rfl) ?_
          refine D_nil ?_
          refine C_cond (x := (pk.a.hand room (⟨tp, ((i : Nat) : Int), (((cget cs tp).getD 0 : Nat) : Int), tx, dd⟩ : It)).2) rfl (fun hc115 => ?_) (fun hc115 => ?_)
          ·
            try simp only [decide_eq_true_eq, decide_eq_false_iff_not, Bool.not_eq_true', Bool.not_eq_false', Bool.and_eq_true, Bool.or_eq_true, Bool.or_eq_false_iff, Bool.not_not, Bool.and_eq_false_iff] at hc115
            have htk : (pk.a.hand room (⟨tp, ((i : Nat) : Int), (((cget cs tp).getD 0 : Nat) : Int), tx, dd⟩ : It)).2 = true := by simpa using hc115
            refine C_region ?_
            refine O_p (.i .i64 (((tk : Nat)) : Int)) (r_mv hT93) ?_
            refine O_p (.i .i64 ((((tk : Nat)) : Int) + 1)) (by exact (r_addi rfl rfl (wrap_i64 (by omega) (by omega)))) ?_
            refine O_p (.i .i64 ((((tk : Nat)) : Int) + 1)) (r_mv rfl) ?_
            refine O_nil ?_
            refine C_region ?_
            refine O_p (.i .i64 (((k : Nat)) : Int)) (r_mv hT94) ?_
            refine O_p (.i .i64 ((((k : Nat)) : Int) + 1)) (by exact (r_addi rfl rfl (wrap_i64 (by omega) (by omega)))) ?_
            refine O_p (.i .i64 ((((k : Nat)) : Int) + 1)) (r_mv rfl) ?_
            refine O_nil ?_
            have hH116 := (((((hH114.top4).top2).top4).top3).top4)
            exact ⟨ps.length - (k + 1), by omega, (qs.set k q2), (tk + 1), (k + 1), rfl, by omega, by rw [pubN_ne hkn hpa, List.map_set, hqa, hp85], by rw [pubN_ne hkn hpa, htk, hp86]; rfl, rp_set hp87 hqok, by rw [List.length_set]; exact hp88, by omega, hH116, hT90, hT91, hT92, rfl, rfl⟩
          ·
            try simp only [decide_eq_true_eq, decide_eq_false_iff_not, Bool.not_eq_true', Bool.not_eq_false', Bool.and_eq_true, Bool.or_eq_true, Bool.or_eq_false_iff, Bool.not_not, Bool.and_eq_false_iff] at hc115
            have htk : (pk.a.hand room (⟨tp, ((i : Nat) : Int), (((cget cs tp).getD 0 : Nat) : Int), tx, dd⟩ : It)).2 = false := by simpa using hc115
            refine C_skip ?_
            refine C_region ?_
            refine O_p (.i .i64 (((k : Nat)) : Int)) (r_mv hT94) ?_
            refine O_p (.i .i64 ((((k : Nat)) : Int) + 1)) (by exact (r_addi rfl rfl (wrap_i64 (by omega) (by omega)))) ?_
            refine O_p (.i .i64 ((((k : Nat)) : Int) + 1)) (r_mv rfl) ?_
            refine O_nil ?_
            have hH117 := (((((hH114.top4).top2).top4).top3).top4)
            exact ⟨ps.length - (k + 1), by omega, (qs.set k q2), tk, (k + 1), rfl, by omega, by rw [pubN_ne hkn hpa, List.map_set, hqa, hp85], by rw [pubN_ne hkn hpa, htk, hp86]; rfl, rp_set hp87 hqok, by rw [List.length_set]; exact hp88, by omega, hH117, hT90, hT91, hT92, hT93, rfl⟩
        ·
          have hon : pk.a.on = false := by simpa using hon
          refine C_draw fun b118 H119 hbase120 hA121 => ?_
          have hH122 := hH104.keep (by have := hA121.1; omega) (fun q _ => hA121.2 q) ((hH104.old).aside hA121).ok
          refine D_l (v := (.i .i64 (((k : Nat)) : Int))) rfl rfl rfl (r_mv hT94) ?_
          refine D_l (v := (.i .i64 ((i : Nat) : Int))) rfl rfl rfl (r_mv hT91) ?_
          refine D_l (v := (.b true)) rfl rfl rfl (by exact (by rw [r_neq rfl rfl, decide_eq_false (by omega)]; rfl)) ?_
          refine D_l (v := (.b true)) rfl rfl rfl (r_mv rfl) ?_
          refine D_gk rfl ?_
          refine D_l (v := (.p (some (F, 0)))) rfl rfl rfl (r_mv hT90) ?_
          refine D_gk rfl ?_
          refine D_l (v := (.p (some (F, 0)))) rfl rfl rfl (r_nilc rfl) ?_
          refine D_gk rfl ?_
          refine D_l (v := (.p (some (F, 0)))) rfl rfl rfl (r_fadd' rfl rfl) ?_
          refine D_gk rfl ?_
          refine D_l (v := (.i .i64 (((k : Nat)) : Int))) rfl rfl rfl (r_mv hT94) ?_
          refine D_gk rfl ?_
          refine D_r (v := (.sl (some (Pb, 0)) ps.length ps.length 0)) rfl rfl rfl (r_ld rfl hH122.get3 rfl) ?_
          refine D_gk rfl ?_
          refine D_l (v := (.p (some (Pb, (k * 4 + 0))))) rfl rfl rfl (by exact (r_islr (b := Pb) (k := k) (len := ps.length) (cap := ps.length) (g := 0) rfl rfl (by omega))) ?_
          refine D_gk rfl ?_
          refine D_l (v := (.p (some (Pb, (k * 4 + 0))))) rfl rfl rfl (r_fadd' rfl rfl) ?_
          refine D_gk rfl ?_
          refine D_r (v := (.b false)) rfl rfl rfl (by exact (((r_ld rfl hH122.get0 ((foc_get (rows_rp qs) (by rw [List.length_map]; omega) rfl (by decide)).trans rfl))).trans (by rw [hon]))) ?_
          refine D_l (v := (.b false)) rfl rfl rfl (r_pick_t rfl rfl) ?_
          refine D_l (v := (.b false)) rfl rfl rfl (r_mv rfl) ?_
          refine D_gf rfl ?_
          refine D_gf rfl ?_
          refine D_gf rfl ?_
          refine D_gf rfl ?_
          refine D_gf rfl ?_
          refine D_gf rfl ?_
          refine D_gf rfl ?_
          refine D_gf rfl ?_
          refine D_gf rfl ?_
          refine D_gf rfl ?_
          refine D_gf rfl ?_
          refine D_gf rfl ?_
          refine D_l (v := (.b false)) rfl rfl rfl (r_pick_f rfl rfl) ?_
          refine D_nil ?_
          refine C_cond (x := false) rfl (fun h => by cases h) (fun _ => ?_)
          refine C_skip ?_
          refine C_region ?_
          refine O_p (.i .i64 (((k : Nat)) : Int)) (r_mv hT94) ?_
          refine O_p (.i .i64 ((((k : Nat)) : Int) + 1)) (by exact (r_addi rfl rfl (wrap_i64 (by omega) (by omega)))) ?_
          refine O_p (.i .i64 ((((k : Nat)) : Int) + 1)) (r_mv rfl) ?_
          refine O_nil ?_
          have hH123 := (((hH122.top2).top2).top2)
          have hH124 := Rp.back0 hpk hH123
          have hH125 := (((((hH124.top4).top2).top4).top3).top4)
          exact ⟨ps.length - (k + 1), by omega, qs, tk, (k + 1), rfl, by omega, by rw [pubN_off hkn hpa hon]; exact hp85, by rw [pubN_off hkn hpa hon]; exact hp86, hp87, hp88, by omega, hH125, hT90, hT91, hT92, hT93, rfl⟩
    ·
      try simp only [decide_eq_true_eq, decide_eq_false_iff_not, Bool.not_eq_true', Bool.not_eq_false', Bool.and_eq_true, Bool.or_eq_true, Bool.or_eq_false_iff, Bool.not_not, Bool.and_eq_false_iff] at hc96
      refine C_exit ?_
      refine nx_exit ?_
      refine nx_exit ?_
      refine bk_hit ?_
      refine C_seq ?_
      refine C_region ?_
      refine O_p (.i .i64 (((tk : Nat)) : Int)) (r_mv hT93) ?_
      refine O_p (.i .i64 (((tk : Nat)) : Int)) (r_mv rfl) ?_
      refine O_p (.i .i64 0) (r_mv rfl) ?_
      refine O_nil ?_
      refine C_ret ?_
      have hH126 := (hH95.sub4)
      have hH127 := ((((hH126.top3).top3).top3).top3)
      have hkl : k = ps.length := by omega
      exact ⟨.inr rfl, _, resL_cons (r_tmp (v := (.i .i64 (((tk : Nat)) : Int))) rfl) (resL_one (r_tmp (v := .i .i64 0) rfl)), qs, (.sl qa47 ql48 qc49 qg50), (putAt c44 (ro67 + 1) [(.i .i64 (((0 : Nat) : Int) + 1))]), by rw [hp86, hkl]; rfl, by rw [hp85, hkl], hp87, hp88, by rw [← co_set_none hcg hkn]; exact hSq75, hH127⟩
set_option maxRecDepth 100000 in
set_option maxHeartbeats 2000000 in
theorem rpubP_some {H : AH} {R B : HL} {F Pb room i n n0 : Nat} {cv : AV} {cc : List AV} {cs : List (List UInt8 × Nat)} {ps : List Rp} {p0 : Rp} {tp dd : List UInt8} {tx : Bool} {da : Option (Nat × Nat)} {dc dg : Nat} (hip : i < ps.length) (hps : ps.length ≤ 16) (hrd : ∀ H' R', Hs H' ([(Pb, some (.cells ((ps.map Rp.row).flatten) true))] ++ R') → ∃ c mu, H'.get Pb = some (.cells c mu) ∧ takeAt c (i * 4) 4 = some [.b true, p0.sv, p0.wv, .i .i64 ((p0.a.lost : Nat) : Int)]) (hok : ∀ p ∈ ps, p.ok B) (hinv : ∀ p ∈ ps, p.a.inv room n) (hsb : ∀ p ∈ ps, p.a.sb.length ≤ 1000000) (hroom : 1 ≤ room ∧ room ≤ 64) (hn6 : n ≤ 1000000) (hcs : Sq 2 cv cc (cs.map coRow).flatten) (hcl : cs.length ≤ 1000000) (hcg : cget cs tp = some n0) (hn0 : n0 ≤ 1000000) (htp : 0 < tp.length ∧ tp.length ≤ 256) (hdl : dd.length ≤ 16384) (hdg : dg = 0 ∨ dg = 1) (hdc : dd.length ≤ dc) (hdm : dc ≤ 9223372036854775807) (hdb : ∀ H', Hs H' B → Bs H' (.sl da dd.length dc dg) dd) (hH0 : Hs H ([(F, some (.cells ([(.sl (some (Pb, 0)) ps.length ps.length 0), (.i .i64 ((room : Nat) : Int)), cv]) true))] ++ ([(Pb, some (.cells ((ps.map Rp.row).flatten) true))] ++ ((qseg cv cc) ++ ((ps.flatMap Rp.seg) ++ (R)))))) : Ev tabA spA (.fn (.func 39) [] []) [.p (some (F, 0)), .i .i64 ((i : Nat) : Int), .s (txt tp), .b tx, .sl da dd.length dc dg] H (fun r H' => ∃ (qs : List Rp) (v' : AV) (c' : List AV), r = .tup [.i .i64 (((pubN i room (⟨tp, ((i : Nat) : Int), (((cget cs tp).getD 0 : Nat) : Int), tx, dd⟩ : It) (ps.map Rp.a) ps.length).2 : Nat) : Int), .i .i64 0] ∧ qs.map Rp.a = (pubN i room (⟨tp, ((i : Nat) : Int), (((cget cs tp).getD 0 : Nat) : Int), tx, dd⟩ : It) (ps.map Rp.a) ps.length).1 ∧ (∀ p ∈ qs, p.ok B) ∧ qs.length = ps.length ∧ Sq 2 v' c' ((cset cs tp ((cget cs tp).getD 0 + 1)).map coRow).flatten ∧ Hs H' ([(F, some (.cells ([(.sl (some (Pb, 0)) ps.length ps.length 0), (.i .i64 ((room : Nat) : Int)), v']) true))] ++ ([(Pb, some (.cells ((qs.map Rp.row).flatten) true))] ++ ((qseg v' c') ++ ((qs.flatMap Rp.seg) ++ (R)))))) := by
  refine Ev_C (F := x39) rfl ?_
  obtain ⟨kk, hkk⟩ : ∃ k, cs.findIdx (cfP tp) = k := ⟨_, rfl⟩
  have hcs0 := cget_some hcg
  rw [hkk] at hcs0
  have hkl0 : kk < cs.length := (List.getElem?_eq_some_iff.1 hcs0).1
  refine C_seq ?_
  refine C_region ?_
  refine O_p (.i .i64 0) (r_mv rfl) ?_
  refine O_p (.i .i64 0) (r_mv rfl) ?_
  refine O_nil ?_
  refine C_seq ?_
  refine C_seq ?_
  refine C_region ?_
  refine O_p (.p (some (F, 0))) (r_mv rfl) ?_
  refine O_p (.i .i64 ((i : Nat) : Int)) (r_mv rfl) ?_
  refine O_call (Ev.mono (there_yes ⟨by omega, by omega⟩ hH0) fun v1 H2 hq3 => ?_)
  obtain ⟨rfl, hH4⟩ := hq3
  refine O_p (.b false) (r_un rfl rfl) ?_
  refine O_p (.b false) (r_mv rfl) ?_
  refine O_gk rfl ?_
  refine O_p (.s (txt tp)) (r_mv rfl) ?_
  refine O_gk rfl ?_
  refine O_p (.b false) (by exact (by rw [r_eqt (b := ([] : List UInt8)) rfl rfl, decide_eq_false (by intro h; rw [h] at htp; exact absurd htp.1 (by decide))])) ?_
  refine O_p (.b false) (r_pick_f rfl rfl) ?_
  refine O_nil ?_
  refine C_cond (x := false) rfl (fun h => by cases h) (fun _ => ?_)
  refine C_skip ?_
  refine C_seq ?_
  refine C_seq ?_
  refine C_region ?_
  refine O_p (.s (txt tp)) (r_mv rfl) ?_
  refine O_p (.i .i64 ((((tp).length : Nat)) : Int)) (r_lent (l := tp) rfl) ?_
  refine O_p (.b false) (by exact (by rw [r_gtr rfl rfl, decide_eq_false (by omega)])) ?_
  refine O_p (.b false) (r_mv rfl) ?_
  refine O_gk rfl ?_
  refine O_p (.sl da dd.length dc dg) (r_mv rfl) ?_
  refine O_gk rfl ?_
  refine O_p (.i .i64 (((dd.length : Nat)) : Int)) (r_len rfl) ?_
  refine O_gk rfl ?_
  refine O_p (.b false) (by exact (by rw [r_gtr rfl rfl, decide_eq_false (by omega)])) ?_
  refine O_p (.b false) (r_pick_f rfl rfl) ?_
  refine O_nil ?_
  refine C_cond (x := false) rfl (fun h => by cases h) (fun _ => ?_)
  refine C_skip ?_
  refine C_seq ?_
  refine C_seq ?_
  refine C_region ?_
  refine O_p (.p (some (F, 0))) (r_mv rfl) ?_
  refine O_p (.p (some (F, 0))) (r_nilc rfl) ?_
  refine O_p (.p (some (F, 0))) (r_fadd' rfl rfl) ?_
  refine O_p (.sl (some (Pb, 0)) ps.length ps.length 0) (r_ld rfl hH4.get0 rfl) ?_
  refine O_p (.i .i64 ((i : Nat) : Int)) (r_mv rfl) ?_
  refine O_p (.p (some (Pb, (i * 4 + 0)))) (by exact (r_islr (b := Pb) (k := i) (len := ps.length) (cap := ps.length) (g := 0) rfl rfl (by omega))) ?_
  refine O_p (.p (some (Pb, (i * 4 + 0)))) (r_fadd' rfl rfl) ?_
  refine O_p (.b true) (r_ldR (q := 0) rfl (hrd _ _ hH4.top1) rfl) ?_
  refine O_p (.b false) (r_un rfl rfl) ?_
  refine O_nil ?_
  refine C_cond (x := false) rfl (fun h => by cases h) (fun _ => ?_)
  refine C_skip ?_
  refine C_seq ?_
  refine C_region ?_
  refine O_p (.s (txt tp)) (r_mv rfl) ?_
  refine O_p (.i .i64 ((i : Nat) : Int)) (r_mv rfl) ?_
  refine O_p (.p (some (F, 0))) (r_mv rfl) ?_
  refine O_p (.s (txt tp)) (r_mv rfl) ?_
  have hH5 := ((hH4.top2).top1)
  refine O_call (Ev.mono (rcount_ev hcs hcl hH5) fun v6 H7 hq8 => ?_)
  obtain ⟨rfl, hH9⟩ := hq8
  refine O_p (.b tx) (r_mv rfl) ?_
  refine O_p (.sl da dd.length dc dg) (r_mv rfl) ?_
  refine O_p (.agg [(.s (txt tp)), (.i .i64 ((i : Nat) : Int)), (.i .i64 (((cget cs tp).getD 0 : Nat) : Int)), (.b tx), (.sl da dd.length dc dg)]) (r_build rfl) ?_
  refine O_alloc fun n10 H11 hN12 => ?_
  have hH13 := hH9.new hN12
  refine O_store (vs := [(.s (txt tp)), (.i .i64 ((i : Nat) : Int)), (.i .i64 (((cget cs tp).getD 0 : Nat) : Int)), (.b tx), (.sl da dd.length dc dg)]) (c' := [(.s (txt tp)), (.i .i64 ((i : Nat) : Int)), (.i .i64 (((cget cs tp).getD 0 : Nat) : Int)), (.b tx), (.sl da dd.length dc dg)]) rfl (by rfl) hH13.get0 rfl (List.cons_ne_nil _ _) (Nat.le_of_ble_eq_true rfl) rfl fun H14 hW15 => ?_
  have hH16 := hH13.wr0 hW15
  refine O_nil ?_
  refine C_seq ?_
  refine C_region ?_
  refine O_p (.i .i64 0) (r_mv rfl) ?_
  refine O_nil ?_
  refine C_seq ?_
  refine C_block ?_
  refine C_while (fun m17 T18 H19 => ∃ kc : Nat, m17 = kk - kc ∧ kc ≤ kk ∧ Hs H19 ([(n10, some (.cells ([(.s (txt tp)), (.i .i64 ((i : Nat) : Int)), (.i .i64 (((cget cs tp).getD 0 : Nat) : Int)), (.b tx), (.sl da dd.length dc dg)]) true))] ++ ([(F, some (.cells ([(.sl (some (Pb, 0)) ps.length ps.length 0), (.i .i64 ((room : Nat) : Int)), cv]) true))] ++ ((qseg cv cc) ++ ([(Pb, some (.cells ((ps.map Rp.row).flatten) true))] ++ ((ps.flatMap Rp.seg) ++ (R)))))) ∧ T18.get 0 = (.p (some (F, 0))) ∧ T18.get 1 = (.i .i64 ((i : Nat) : Int)) ∧ T18.get 2 = (.s (txt tp)) ∧ T18.get 12 = (.p (some (n10, 0))) ∧ T18.get 13 = (.i .i64 (((kc : Nat)) : Int))) (fun m17 T18 H19 hI20 => ?_) kk _ _ ⟨0, rfl, Nat.zero_le _, hH16, rfl, rfl, rfl, rfl, rfl⟩
  obtain ⟨kc, hm21, hp22, hH28, hT23, hT24, hT25, hT26, hT27⟩ := hI20
  refine C_seq ?_
  refine C_seq ?_
  by_cases hc0 : kc < kk
  ·
    refine C_region ?_
    obtain ⟨co, hci⟩ : ∃ x, cs[kc]? = some x := ⟨_, List.getElem?_eq_getElem (by omega)⟩
    have hP : co.1 ≠ tp := of_decide_eq_false (fx_ne (P := cfP tp) (by omega) hci)
    refine O_p (.i .i64 (((kc : Nat)) : Int)) (r_mv hT27) ?_
    refine O_p (.p (some (F, 0))) (r_mv hT23) ?_
    refine O_p (.p (some (F, 0))) (r_nilc rfl) ?_
    refine O_p (.p (some (F, 2))) (r_fadd' rfl rfl) ?_
    refine O_p cv (r_ld rfl hH28.get1 rfl) ?_
    refine O_p (.i .i64 (((cs.length : Nat)) : Int)) (by exact (by exact r_lenOf rfl (hcs.lenOf ((flat_len (co_lens cs)).trans (by rw [List.length_map])) (by decide)) hcs.isSl)) ?_
    refine O_p (.b true) (by exact (by rw [r_lss rfl rfl, decide_eq_true (by omega)])) ?_
    refine O_p (.b true) (r_mv rfl) ?_
    refine O_gk rfl ?_
    refine O_p (.p (some (F, 0))) (r_mv hT23) ?_
    refine O_gk rfl ?_
    refine O_p (.p (some (F, 0))) (r_nilc rfl) ?_
    refine O_gk rfl ?_
    refine O_p (.p (some (F, 2))) (r_fadd' rfl rfl) ?_
    refine O_gk rfl ?_
    refine O_p cv (r_ld rfl hH28.get1 rfl) ?_
    refine O_gk rfl ?_
    refine O_p (.i .i64 (((kc : Nat)) : Int)) (r_mv hT27) ?_
    refine O_gk rfl ?_
    refine O_q (by exact Sq.cell hcs (co_lens cs) hH28.top2 rfl (i := kc) rfl (r := [(.s (txt co.1)), (.i .i64 (((co.2 : Nat)) : Int))]) (co_get hci) (by decide)) fun v30 hv29 => ?_
    obtain ⟨rb31, ro32, rfl, hrg33, hrt34, hrb35, hput36, hqs37⟩ := hv29
    refine O_gk rfl ?_
    refine O_p (.p (some (rb31, (ro32 + 0)))) (r_fadd' rfl rfl) ?_
    refine O_gk rfl ?_
    refine O_p (.s (txt co.1)) (r_ldR (q := 0) rfl ⟨_, _, hrg33, hrt34⟩ rfl) ?_
    refine O_gk rfl ?_
    refine O_p (.s (txt tp)) (r_mv hT25) ?_
    refine O_gk rfl ?_
    refine O_p (.b true) (by exact (by rw [r_eqtn rfl rfl, decide_eq_false hP]; rfl)) ?_
    refine O_p (.b true) (r_pick_t rfl rfl) ?_
    refine O_nil ?_
    refine C_cond (x := true) rfl (fun _ => ?_) (fun h => by cases h)
    refine C_skip ?_
    refine C_block ?_
    refine C_region ?_
    refine O_p (.i .i64 (((kc : Nat)) : Int)) (r_mv hT27) ?_
    refine O_p (.i .i64 ((((kc : Nat)) : Int) + 1)) (by exact (r_addi rfl rfl (wrap_i64 (by omega) (by omega)))) ?_
    refine O_p (.i .i64 ((((kc : Nat)) : Int) + 1)) (r_mv rfl) ?_
    refine O_nil ?_
    exact ⟨kk - (kc + 1), by omega, (kc + 1), rfl, by omega, hH28, hT23, hT24, hT25, hT26, rfl⟩
  ·
    refine C_region ?_
    have hkn : kc = kk := by omega
    have hci : cs[kc]? = some (tp, n0) := by rw [hkn]; exact hcs0
    refine O_p (.i .i64 (((kc : Nat)) : Int)) (r_mv hT27) ?_
    refine O_p (.p (some (F, 0))) (r_mv hT23) ?_
    refine O_p (.p (some (F, 0))) (r_nilc rfl) ?_
    refine O_p (.p (some (F, 2))) (r_fadd' rfl rfl) ?_
    refine O_p cv (r_ld rfl hH28.get1 rfl) ?_
    refine O_p (.i .i64 (((cs.length : Nat)) : Int)) (by exact (by exact r_lenOf rfl (hcs.lenOf ((flat_len (co_lens cs)).trans (by rw [List.length_map])) (by decide)) hcs.isSl)) ?_
    refine O_p (.b true) (by exact (by rw [r_lss rfl rfl, decide_eq_true (by omega)])) ?_
    refine O_p (.b true) (r_mv rfl) ?_
    refine O_gk rfl ?_
    refine O_p (.p (some (F, 0))) (r_mv hT23) ?_
    refine O_gk rfl ?_
    refine O_p (.p (some (F, 0))) (r_nilc rfl) ?_
    refine O_gk rfl ?_
    refine O_p (.p (some (F, 2))) (r_fadd' rfl rfl) ?_
    refine O_gk rfl ?_
    refine O_p cv (r_ld rfl hH28.get1 rfl) ?_
    refine O_gk rfl ?_
    refine O_p (.i .i64 (((kc : Nat)) : Int)) (r_mv hT27) ?_
    refine O_gk rfl ?_
    refine O_q (by exact Sq.cell hcs (co_lens cs) hH28.top2 rfl (i := kc) rfl (r := [(.s (txt tp)), (.i .i64 (((n0 : Nat)) : Int))]) (co_get hci) (by decide)) fun v39 hv38 => ?_
    obtain ⟨rb40, ro41, rfl, hrg42, hrt43, hrb44, hput45, hqs46⟩ := hv38
    refine O_gk rfl ?_
    refine O_p (.p (some (rb40, (ro41 + 0)))) (r_fadd' rfl rfl) ?_
    refine O_gk rfl ?_
    refine O_p (.s (txt tp)) (r_ldR (q := 0) rfl ⟨_, _, hrg42, hrt43⟩ rfl) ?_
    refine O_gk rfl ?_
    refine O_p (.s (txt tp)) (r_mv hT25) ?_
    refine O_gk rfl ?_
    refine O_p (.b false) (by exact (by rw [r_eqtn (a := tp) (b := tp) rfl rfl, decide_eq_true rfl]; rfl)) ?_
    refine O_p (.b false) (r_pick_t rfl rfl) ?_
    refine O_nil ?_
    refine C_cond (x := false) rfl (fun h => by cases h) (fun _ => ?_)
    refine C_exit ?_
    refine nx_exit ?_
    refine nx_exit ?_
    refine bk_hit ?_
    refine C_seq ?_
    refine C_seq ?_
    refine C_region ?_
    refine O_p (.i .i64 (((kc : Nat)) : Int)) (r_mv hT27) ?_
    refine O_p (.p (some (F, 0))) (r_mv hT23) ?_
    refine O_p (.p (some (F, 0))) (r_nilc rfl) ?_
    refine O_p (.p (some (F, 2))) (r_fadd' rfl rfl) ?_
    refine O_p cv (r_ld rfl hH28.get1 rfl) ?_
    refine O_p (.i .i64 (((cs.length : Nat)) : Int)) (by exact (by exact r_lenOf rfl (hcs.lenOf ((flat_len (co_lens cs)).trans (by rw [List.length_map])) (by decide)) hcs.isSl)) ?_
    refine O_p (.b false) (by exact (by rw [r_eql rfl rfl, decide_eq_false (by omega)])) ?_
    refine O_nil ?_
    refine C_cond (x := false) rfl (fun h => by cases h) (fun _ => ?_)
    refine C_skip ?_
    refine C_seq ?_
    refine C_region ?_
    refine O_p (.p (some (F, 0))) (r_mv hT23) ?_
    refine O_p (.p (some (F, 0))) (r_nilc rfl) ?_
    refine O_p (.p (some (F, 2))) (r_fadd' rfl rfl) ?_
    refine O_p cv (r_ld rfl hH28.get1 rfl) ?_
    refine O_p (.i .i64 (((kc : Nat)) : Int)) (r_mv hT27) ?_
    refine O_q (by exact Sq.cell hcs (co_lens cs) hH28.top2 rfl (i := kc) rfl (r := [(.s (txt tp)), (.i .i64 (((n0 : Nat)) : Int))]) (co_get hci) (by decide)) fun v48 hv47 => ?_
    obtain ⟨rb49, ro50, rfl, hrg51, hrt52, hrb53, hput54, hqs55⟩ := hv47
    refine O_p (.p (some (rb49, (ro50 + 1)))) (r_fadd' rfl rfl) ?_
    refine O_p (.i .i64 (((n0 : Nat)) : Int)) (r_ldR (q := 1) rfl ⟨_, _, hrg51, hrt52⟩ rfl) ?_
    refine O_p (.i .i64 ((((n0 : Nat)) : Int) + 1)) (by exact (r_addi rfl rfl (wrap_i64 (by omega) (by omega)))) ?_
    refine O_q (by exact Sq.cell hcs (co_lens cs) hH28.top2 rfl (i := kc) rfl (r := [(.s (txt tp)), (.i .i64 (((n0 : Nat)) : Int))]) (co_get hci) (by decide)) fun v57 hv56 => ?_
    obtain ⟨rb58, ro59, rfl, hrg60, hrt61, hrb62, hput63, hqs64⟩ := hv56
    refine O_p (.p (some (rb58, (ro59 + 1)))) (r_fadd' rfl rfl) ?_
    refine O_store (vs := [(.i .i64 ((((n0 : Nat)) : Int) + 1))]) (c' := (putAt cc (ro59 + 1) [(.i .i64 ((((n0 : Nat)) : Int) + 1))])) rfl (by rfl) hrg60 rfl (List.cons_ne_nil _ _) (by have := hrb62; show _ + 1 ≤ _; omega) rfl fun H65 hW66 => ?_
    have hH68 := Hs.cong2 (Hs.wr2 (Hs.cong2 hH28 (hqs64 _)) hW66) (hqs64 _).symm
    have hSq67 := hput63 1 [(.i .i64 ((((n0 : Nat)) : Int) + 1))] [(.s (txt tp)), (.i .i64 ((((n0 : Nat)) : Int) + 1))] (Nat.le_of_ble_eq_true rfl) rfl
    refine O_nil ?_
    refine C_seq ?_
    refine C_region ?_
    refine O_p (.i .i64 0) (r_mv rfl) ?_
    refine O_nil ?_
    refine C_seq ?_
    refine C_seq ?_
    refine C_region ?_
    refine O_p (.i .i64 0) (r_mv rfl) ?_
    refine O_nil ?_
    refine C_block ?_
    have hH69 := ((((hH68.top4).top3).top4).top4)
    refine C_while (fun m70 T71 H72 => ∃ qs : List Rp, ∃ tk : Nat, ∃ k : Nat, m70 = ps.length - k ∧ k ≤ ps.length ∧ qs.map Rp.a = (pubN i room (⟨tp, ((i : Nat) : Int), (((cget cs tp).getD 0 : Nat) : Int), tx, dd⟩ : It) (ps.map Rp.a) k).1 ∧ tk = (pubN i room (⟨tp, ((i : Nat) : Int), (((cget cs tp).getD 0 : Nat) : Int), tx, dd⟩ : It) (ps.map Rp.a) k).2 ∧ (∀ p ∈ qs, p.ok B) ∧ qs.length = ps.length ∧ tk ≤ k ∧ Hs H72 ([(F, some (.cells ([(.sl (some (Pb, 0)) ps.length ps.length 0), (.i .i64 ((room : Nat) : Int)), cv]) true))] ++ ([(Pb, some (.cells ((qs.map Rp.row).flatten) true))] ++ ((qseg cv (putAt cc (ro59 + 1) [(.i .i64 ((((n0 : Nat)) : Int) + 1))])) ++ ((qs.flatMap Rp.seg) ++ ([(n10, some (.cells ([(.s (txt tp)), (.i .i64 ((i : Nat) : Int)), (.i .i64 (((cget cs tp).getD 0 : Nat) : Int)), (.b tx), (.sl da dd.length dc dg)]) true))] ++ (R)))))) ∧ T71.get 0 = (.p (some (F, 0))) ∧ T71.get 1 = (.i .i64 ((i : Nat) : Int)) ∧ T71.get 12 = (.p (some (n10, 0))) ∧ T71.get 14 = (.i .i64 (((tk : Nat)) : Int)) ∧ T71.get 15 = (.i .i64 (((k : Nat)) : Int))) (fun m70 T71 H72 hI73 => ?_) ps.length _ _ ⟨ps, 0, 0, rfl, Nat.zero_le _, rfl, rfl, hok, rfl, Nat.le_refl _, hH69, hT23, hT24, hT26, rfl, rfl⟩
    obtain ⟨qs, tk, k, hm74, hp75, hp76, hp77, hp78, hp79, hp80, hH86, hT81, hT82, hT83, hT84, hT85⟩ := hI73
    refine C_seq ?_
    refine C_seq ?_
    refine C_region ?_
    refine O_p (.i .i64 (((k : Nat)) : Int)) (r_mv hT85) ?_
    refine O_p (.p (some (F, 0))) (r_mv hT81) ?_
    refine O_p (.p (some (F, 0))) (r_nilc rfl) ?_
    refine O_p (.p (some (F, 0))) (r_fadd' rfl rfl) ?_
    refine O_p (.sl (some (Pb, 0)) ps.length ps.length 0) (r_ld rfl hH86.get0 rfl) ?_
    refine O_p (.i .i64 (((ps.length : Nat)) : Int)) (r_len rfl) ?_
    refine O_p (.b (decide ((((k : Nat)) : Int) < (((ps.length : Nat)) : Int)))) (r_lss rfl rfl) ?_
    refine O_nil ?_
    refine C_cond (x := (decide ((((k : Nat)) : Int) < (((ps.length : Nat)) : Int)))) rfl (fun hc87 => ?_) (fun hc87 => ?_)
    ·
      try simp only [decide_eq_true_eq, decide_eq_false_iff_not, Bool.not_eq_true', Bool.not_eq_false', Bool.and_eq_true, Bool.or_eq_true, Bool.or_eq_false_iff, Bool.not_not, Bool.and_eq_false_iff] at hc87
      refine C_skip ?_
      refine C_seq ?_
      refine C_block ?_
      refine C_seq ?_
      by_cases hkn : k = i
      ·
        have hkl : k < ps.length := by omega
        refine C_draw fun b88 H89 hbase90 hA91 => ?_
        have hH92 := hH86.keep (by have := hA91.1; omega) (fun q _ => hA91.2 q) ((hH86.old).aside hA91).ok
        refine D_l (v := (.i .i64 (((k : Nat)) : Int))) rfl rfl rfl (r_mv hT85) ?_
        refine D_l (v := (.i .i64 ((i : Nat) : Int))) rfl rfl rfl (r_mv hT82) ?_
        refine D_l (v := (.b false)) rfl rfl rfl (by exact (by rw [r_neq rfl rfl, decide_eq_true (by omega)]; rfl)) ?_
        refine D_l (v := (.b false)) rfl rfl rfl (r_mv rfl) ?_
        refine D_gf rfl ?_
        refine D_gf rfl ?_
        refine D_gf rfl ?_
        refine D_gf rfl ?_
        refine D_gf rfl ?_
        refine D_gf rfl ?_
        refine D_gf rfl ?_
        refine D_gf rfl ?_
        refine D_l (v := (.b false)) rfl rfl rfl (r_pick_f rfl rfl) ?_
        refine D_l (v := (.b false)) rfl rfl rfl (r_mv rfl) ?_
        refine D_gf rfl ?_
        refine D_gf rfl ?_
        refine D_gf rfl ?_
        refine D_gf rfl ?_
        refine D_gf rfl ?_
        refine D_gf rfl ?_
        refine D_gf rfl ?_
        refine D_gf rfl ?_
        refine D_gf rfl ?_
        refine D_gf rfl ?_
        refine D_gf rfl ?_
        refine D_gf rfl ?_
        refine D_l (v := (.b false)) rfl rfl rfl (r_pick_f rfl rfl) ?_
        refine D_nil ?_
        refine C_cond (x := false) rfl (fun h => by cases h) (fun _ => ?_)
        refine C_skip ?_
        refine C_region ?_
        refine O_p (.i .i64 (((k : Nat)) : Int)) (r_mv hT85) ?_
        refine O_p (.i .i64 ((((k : Nat)) : Int) + 1)) (by exact (r_addi rfl rfl (wrap_i64 (by omega) (by omega)))) ?_
        refine O_p (.i .i64 ((((k : Nat)) : Int) + 1)) (r_mv rfl) ?_
        refine O_nil ?_
        have hH93 := (((((hH92.top4).top4).top4).top4).top4)
        exact ⟨ps.length - (k + 1), by omega, qs, tk, (k + 1), rfl, by omega, by rw [pubN_eq hkn]; exact hp76, by rw [pubN_eq hkn]; exact hp77, hp78, hp79, by omega, hH93, hT81, hT82, hT83, hT84, rfl⟩
      ·
        have hkl : k < ps.length := by omega
        obtain ⟨pk, hpk⟩ : ∃ p, qs[k]? = some p := ⟨_, List.getElem?_eq_getElem (by omega)⟩
        have hpa := getElem_map_r hp76 hpk
        have hpinv : pk.a.inv room n ∧ pk.a.sb.length ≤ 1000000 := by have e := hpa; rw [pubN_get (Nat.le_refl k), List.getElem?_map] at e; cases hz : ps[k]? with
          | none => rw [hz] at e; cases e
          | some z => rw [hz] at e; simp only [Option.map_some, Option.some.injEq] at e; rw [← e]; exact ⟨hinv z (List.mem_of_getElem? hz), hsb z (List.mem_of_getElem? hz)⟩
        have hH94 := ((hH86.top3).top2)
        have hH95 := Rp.out hpk hH94
        by_cases hon : pk.a.on = true
        ·
          refine C_draw fun b96 H97 hbase98 hA99 => ?_
          have hH100 := hH95.keep (by have := hA99.1; omega) (fun q _ => hA99.2 q) ((hH95.old).aside hA99).ok
          refine D_l (v := (.i .i64 (((k : Nat)) : Int))) rfl rfl rfl (r_mv hT85) ?_
          refine D_l (v := (.i .i64 ((i : Nat) : Int))) rfl rfl rfl (r_mv hT82) ?_
          refine D_l (v := (.b true)) rfl rfl rfl (by exact (by rw [r_neq rfl rfl, decide_eq_false (by omega)]; rfl)) ?_
          refine D_l (v := (.b true)) rfl rfl rfl (r_mv rfl) ?_
          refine D_gk rfl ?_
          refine D_l (v := (.p (some (F, 0)))) rfl rfl rfl (r_mv hT81) ?_
          refine D_gk rfl ?_
          refine D_l (v := (.p (some (F, 0)))) rfl rfl rfl (r_nilc rfl) ?_
          refine D_gk rfl ?_
          refine D_l (v := (.p (some (F, 0)))) rfl rfl rfl (r_fadd' rfl rfl) ?_
          refine D_gk rfl ?_
          refine D_l (v := (.i .i64 (((k : Nat)) : Int))) rfl rfl rfl (r_mv hT85) ?_
          refine D_gk rfl ?_
          refine D_r (v := (.sl (some (Pb, 0)) ps.length ps.length 0)) rfl rfl rfl (r_ld rfl hH100.get3 rfl) ?_
          refine D_gk rfl ?_
          refine D_l (v := (.p (some (Pb, (k * 4 + 0))))) rfl rfl rfl (by exact (r_islr (b := Pb) (k := k) (len := ps.length) (cap := ps.length) (g := 0) rfl rfl (by omega))) ?_
          refine D_gk rfl ?_
          refine D_l (v := (.p (some (Pb, (k * 4 + 0))))) rfl rfl rfl (r_fadd' rfl rfl) ?_
          refine D_gk rfl ?_
          refine D_r (v := (.b true)) rfl rfl rfl (by exact (((r_ld rfl hH100.get0 ((foc_get (rows_rp qs) (by rw [List.length_map]; omega) rfl (by decide)).trans rfl))).trans (by rw [hon]))) ?_
          refine D_l (v := (.b true)) rfl rfl rfl (r_pick_t rfl rfl) ?_
          refine D_l (v := (.b true)) rfl rfl rfl (r_mv rfl) ?_
          refine D_gk rfl ?_
          refine D_l (v := (.p (some (F, 0)))) rfl rfl rfl (r_mv hT81) ?_
          refine D_gk rfl ?_
          refine D_l (v := (.p (some (F, 0)))) rfl rfl rfl (r_nilc rfl) ?_
          refine D_gk rfl ?_
          refine D_l (v := (.p (some (F, 0)))) rfl rfl rfl (r_fadd' rfl rfl) ?_
          refine D_gk rfl ?_
          refine D_l (v := (.i .i64 (((k : Nat)) : Int))) rfl rfl rfl (r_mv hT85) ?_
          refine D_gk rfl ?_
          refine D_l (v := (.p (some (F, 0)))) rfl rfl rfl (r_mv hT81) ?_
          refine D_gk rfl ?_
          refine D_l (v := (.p (some (F, 0)))) rfl rfl rfl (r_nilc rfl) ?_
          refine D_gk rfl ?_
          refine D_l (v := (.p (some (F, 1)))) rfl rfl rfl (r_fadd' rfl rfl) ?_
          refine D_gk rfl ?_
          refine D_r (v := (.sl (some (Pb, 0)) ps.length ps.length 0)) rfl rfl rfl (r_ld rfl hH100.get3 rfl) ?_
          refine D_gk rfl ?_
          refine D_l (v := (.p (some (Pb, (k * 4 + 0))))) rfl rfl rfl (by exact (r_islr (b := Pb) (k := k) (len := ps.length) (cap := ps.length) (g := 0) rfl rfl (by omega))) ?_
          refine D_gk rfl ?_
          refine D_r (v := (.agg [(.s (txt tp)), (.i .i64 ((i : Nat) : Int)), (.i .i64 (((cget cs tp).getD 0 : Nat) : Int)), (.b tx), (.sl da dd.length dc dg)])) rfl rfl rfl (r_ldA hT83 hH100.get5 rfl) ?_
          refine D_gk rfl ?_
          refine D_r (v := (.i .i64 ((room : Nat) : Int))) rfl rfl rfl (r_ld rfl hH100.get3 rfl) ?_
          refine D_gk rfl ?_
          have hH101 := (((hH100.top2).top2).top2)
          refine D_call (Ev.mono (rhandP_ev (i := k) (rws := qs.map Rp.row) (D := B) (x := (⟨tp, ((i : Nat) : Int), (((cget cs tp).getD 0 : Nat) : Int), tx, dd⟩ : It)) (n := n) (rows_rp qs) (by rw [List.length_map]; omega) (hp78 pk (List.mem_of_getElem? hpk)) hpinv.1 hpinv.2 hon hroom hn6 ⟨_, _, _, rfl, hdg, hdc, hdm, hdb⟩ hH101) fun v102 H103 hq104 => ?_)
          obtain ⟨q2, rfl, hqa, hqok, hh2⟩ := hq104
          have hH105 := Rp.back hpk hh2
          refine And.intro (And.intro (Or.inl rfl) (And.intro (Or.inl rfl) (And.intro (Or.inl rfl) (And.intro (Or.inl rfl) (And.intro (Or.inl rfl) True.intro))))) ?_
          refine D_l (v := (.b (pk.a.hand room (⟨tp, ((i : Nat) : Int), (((cget cs tp).getD 0 : Nat) : Int), tx, dd⟩ : It)).2)) rfl rfl rfl (r_pick_t rfl rfl) ?_
          refine D_nil ?_
          refine C_cond (x := (pk.a.hand room (⟨tp, ((i : Nat) : Int), (((cget cs tp).getD 0 : Nat) : Int), tx, dd⟩ : It)).2) rfl (fun hc106 => ?_) (fun hc106 => ?_)
          ·
            try simp only [decide_eq_true_eq, decide_eq_false_iff_not, Bool.not_eq_true', Bool.not_eq_false', Bool.and_eq_true, Bool.or_eq_true, Bool.or_eq_false_iff, Bool.not_not, Bool.and_eq_false_iff] at hc106
            have htk : (pk.a.hand room (⟨tp, ((i : Nat) : Int), (((cget cs tp).getD 0 : Nat) : Int), tx, dd⟩ : It)).2 = true := by simpa using hc106
            refine C_region ?_
            refine O_p (.i .i64 (((tk : Nat)) : Int)) (r_mv hT84) ?_
            refine O_p (.i .i64 ((((tk : Nat)) : Int) + 1)) (by exact (r_addi rfl rfl (wrap_i64 (by omega) (by omega)))) ?_
            refine O_p (.i .i64 ((((tk : Nat)) : Int) + 1)) (r_mv rfl) ?_
            refine O_nil ?_
            refine C_region ?_
            refine O_p (.i .i64 (((k : Nat)) : Int)) (r_mv hT85) ?_
            refine O_p (.i .i64 ((((k : Nat)) : Int) + 1)) (by exact (r_addi rfl rfl (wrap_i64 (by omega) (by omega)))) ?_
            refine O_p (.i .i64 ((((k : Nat)) : Int) + 1)) (r_mv rfl) ?_
            refine O_nil ?_
            have hH107 := (((((hH105.top4).top2).top4).top3).top4)
            exact ⟨ps.length - (k + 1), by omega, (qs.set k q2), (tk + 1), (k + 1), rfl, by omega, by rw [pubN_ne hkn hpa, List.map_set, hqa, hp76], by rw [pubN_ne hkn hpa, htk, hp77]; rfl, rp_set hp78 hqok, by rw [List.length_set]; exact hp79, by omega, hH107, hT81, hT82, hT83, rfl, rfl⟩
          ·
            try simp only [decide_eq_true_eq, decide_eq_false_iff_not, Bool.not_eq_true', Bool.not_eq_false', Bool.and_eq_true, Bool.or_eq_true, Bool.or_eq_false_iff, Bool.not_not, Bool.and_eq_false_iff] at hc106
            have htk : (pk.a.hand room (⟨tp, ((i : Nat) : Int), (((cget cs tp).getD 0 : Nat) : Int), tx, dd⟩ : It)).2 = false := by simpa using hc106
            refine C_skip ?_
            refine C_region ?_
            refine O_p (.i .i64 (((k : Nat)) : Int)) (r_mv hT85) ?_
            refine O_p (.i .i64 ((((k : Nat)) : Int) + 1)) (by exact (r_addi rfl rfl (wrap_i64 (by omega) (by omega)))) ?_
            refine O_p (.i .i64 ((((k : Nat)) : Int) + 1)) (r_mv rfl) ?_
            refine O_nil ?_
            have hH108 := (((((hH105.top4).top2).top4).top3).top4)
            exact ⟨ps.length - (k + 1), by omega, (qs.set k q2), tk, (k + 1), rfl, by omega, by rw [pubN_ne hkn hpa, List.map_set, hqa, hp76], by rw [pubN_ne hkn hpa, htk, hp77]; rfl, rp_set hp78 hqok, by rw [List.length_set]; exact hp79, by omega, hH108, hT81, hT82, hT83, hT84, rfl⟩
        ·
          have hon : pk.a.on = false := by simpa using hon
          refine C_draw fun b109 H110 hbase111 hA112 => ?_
          have hH113 := hH95.keep (by have := hA112.1; omega) (fun q _ => hA112.2 q) ((hH95.old).aside hA112).ok
          refine D_l (v := (.i .i64 (((k : Nat)) : Int))) rfl rfl rfl (r_mv hT85) ?_
          refine D_l (v := (.i .i64 ((i : Nat) : Int))) rfl rfl rfl (r_mv hT82) ?_
          refine D_l (v := (.b true)) rfl rfl rfl (by exact (by rw [r_neq rfl rfl, decide_eq_false (by omega)]; rfl)) ?_
          refine D_l (v := (.b true)) rfl rfl rfl (r_mv rfl) ?_
          refine D_gk rfl ?_
          refine D_l (v := (.p (some (F, 0)))) rfl rfl rfl (r_mv hT81) ?_
          refine D_gk rfl ?_
          refine D_l (v := (.p (some (F, 0)))) rfl rfl rfl (r_nilc rfl) ?_
          refine D_gk rfl ?_
          refine D_l (v := (.p (some (F, 0)))) rfl rfl rfl (r_fadd' rfl rfl) ?_
          refine D_gk rfl ?_
          refine D_l (v := (.i .i64 (((k : Nat)) : Int))) rfl rfl rfl (r_mv hT85) ?_
          refine D_gk rfl ?_
          refine D_r (v := (.sl (some (Pb, 0)) ps.length ps.length 0)) rfl rfl rfl (r_ld rfl hH113.get3 rfl) ?_
          refine D_gk rfl ?_
          refine D_l (v := (.p (some (Pb, (k * 4 + 0))))) rfl rfl rfl (by exact (r_islr (b := Pb) (k := k) (len := ps.length) (cap := ps.length) (g := 0) rfl rfl (by omega))) ?_
          refine D_gk rfl ?_
          refine D_l (v := (.p (some (Pb, (k * 4 + 0))))) rfl rfl rfl (r_fadd' rfl rfl) ?_
          refine D_gk rfl ?_
          refine D_r (v := (.b false)) rfl rfl rfl (by exact (((r_ld rfl hH113.get0 ((foc_get (rows_rp qs) (by rw [List.length_map]; omega) rfl (by decide)).trans rfl))).trans (by rw [hon]))) ?_
          refine D_l (v := (.b false)) rfl rfl rfl (r_pick_t rfl rfl) ?_
          refine D_l (v := (.b false)) rfl rfl rfl (r_mv rfl) ?_
          refine D_gf rfl ?_
          refine D_gf rfl ?_
          refine D_gf rfl ?_
          refine D_gf rfl ?_
          refine D_gf rfl ?_
          refine D_gf rfl ?_
          refine D_gf rfl ?_
          refine D_gf rfl ?_
          refine D_gf rfl ?_
          refine D_gf rfl ?_
          refine D_gf rfl ?_
          refine D_gf rfl ?_
          refine D_l (v := (.b false)) rfl rfl rfl (r_pick_f rfl rfl) ?_
          refine D_nil ?_
          refine C_cond (x := false) rfl (fun h => by cases h) (fun _ => ?_)
          refine C_skip ?_
          refine C_region ?_
          refine O_p (.i .i64 (((k : Nat)) : Int)) (r_mv hT85) ?_
          refine O_p (.i .i64 ((((k : Nat)) : Int) + 1)) (by exact (r_addi rfl rfl (wrap_i64 (by omega) (by omega)))) ?_
          refine O_p (.i .i64 ((((k : Nat)) : Int) + 1)) (r_mv rfl) ?_
          refine O_nil ?_
          have hH114 := (((hH113.top2).top2).top2)
          have hH115 := Rp.back0 hpk hH114
          have hH116 := (((((hH115.top4).top2).top4).top3).top4)
          exact ⟨ps.length - (k + 1), by omega, qs, tk, (k + 1), rfl, by omega, by rw [pubN_off hkn hpa hon]; exact hp76, by rw [pubN_off hkn hpa hon]; exact hp77, hp78, hp79, by omega, hH116, hT81, hT82, hT83, hT84, rfl⟩
    ·
      try simp only [decide_eq_true_eq, decide_eq_false_iff_not, Bool.not_eq_true', Bool.not_eq_false', Bool.and_eq_true, Bool.or_eq_true, Bool.or_eq_false_iff, Bool.not_not, Bool.and_eq_false_iff] at hc87
      refine C_exit ?_
      refine nx_exit ?_
      refine nx_exit ?_
      refine bk_hit ?_
      refine C_seq ?_
      refine C_region ?_
      refine O_p (.i .i64 (((tk : Nat)) : Int)) (r_mv hT84) ?_
      refine O_p (.i .i64 (((tk : Nat)) : Int)) (r_mv rfl) ?_
      refine O_p (.i .i64 0) (r_mv rfl) ?_
      refine O_nil ?_
      refine C_ret ?_
      have hH117 := (hH86.sub4)
      have hH118 := ((((hH117.top3).top3).top3).top3)
      have hkl : k = ps.length := by omega
      exact ⟨.inr rfl, _, resL_cons (r_tmp (v := (.i .i64 (((tk : Nat)) : Int))) rfl) (resL_one (r_tmp (v := .i .i64 0) rfl)), qs, cv, (putAt cc (ro59 + 1) [(.i .i64 ((((n0 : Nat)) : Int) + 1))]), by rw [hp77, hkl]; rfl, by rw [hp76, hkl], hp78, hp79, by rw [← co_set_some hcg hkk, ← hkn]; exact hSq67, hH118⟩


set_option linter.unusedVariables false
set_option linter.unusedSimpArgs false
def Rr (F : Nat) (s : Re) (B L : HL) : Prop := ∃ (Pb : Nat) (cv : AV) (cc : List AV) (ps : List Rp), ps.map Rp.a = s.ps ∧ (∀ p ∈ ps, p.ok B) ∧ Sq 2 cv cc (s.cs.map coRow).flatten ∧ L = [(F, some (.cells [.sl (some (Pb, 0)) ps.length ps.length 0, .i .i64 ((s.room : Nat) : Int), cv] true))] ++ ([(Pb, some (.cells (ps.map Rp.row).flatten true))] ++ (qseg cv cc ++ ps.flatMap Rp.seg))
structure Re.okS (N : Nat) (s : Re) : Prop where
  sb : ∀ a ∈ s.ps, Sdn a.sb ∧ a.sb.length ≤ 64
  cs : s.cs.length ≤ N
theorem Rp.seg2 {H : AH} {A B R : HL} {p : Rp} : Hs H (A ++ (B ++ (p.seg ++ R))) ↔ Hs H (A ++ (B ++ (qseg p.sv p.sc ++ (qseg p.wv p.wc ++ R)))) := by
  unfold Rp.seg
  rw [List.append_assoc]
section
variable {F : Nat} {s : Re} {B L R : HL} {n : Int} {H : AH}
theorem Rr.nilc (h : Rr F s B L) (hn : s.at? n = none) : ∃ Pb np cv Rx, ¬ (0 ≤ n ∧ n < ((np : Nat) : Int)) ∧ L = [(F, some (.cells [.sl (some (Pb, 0)) np np 0, .i .i64 ((s.room : Nat) : Int), cv] true))] ++ Rx := by
  obtain ⟨Pb, cv, cc, ps, hps, hok, hm, rfl⟩ := h
  have := at_none hn
  rw [← hps, List.length_map] at this
  exact ⟨Pb, ps.length, cv, _, this, rfl⟩
theorem Rr.open (h : Rr F s B L) {i : Nat} {a : Pa} (hi : s.ps[i]? = some a) : ∃ (Pb np : Nat) (cv : AV) (rws : List (List AV)) (p : Rp) (Rx : HL), i < np ∧ i < rws.length ∧ (∀ x ∈ rws, x.length = 4) ∧ p.ok B ∧ p.a = a ∧
    (∀ H R, Hs H (L ++ R) → Hs H ([(F, some (.cells [.sl (some (Pb, 0)) np np 0, .i .i64 ((s.room : Nat) : Int), cv] true))] ++ ([(Pb, some (.cells (rws.set i p.row).flatten true))] ++ (p.seg ++ (Rx ++ R))))) ∧
    (∀ H R, Hs H ([(F, some (.cells [.sl (some (Pb, 0)) np np 0, .i .i64 ((s.room : Nat) : Int), cv] true))] ++ ([(Pb, some (.cells (rws.set i p.row).flatten true))] ++ (p.seg ++ (Rx ++ R)))) → Hs H (L ++ R)) ∧
    (∀ q : Rp, q.ok B → ∃ L', Rr F (s.upd i q.a) B L' ∧ ∀ H R, Hs H ([(F, some (.cells [.sl (some (Pb, 0)) np np 0, .i .i64 ((s.room : Nat) : Int), cv] true))] ++ ([(Pb, some (.cells (rws.set i q.row).flatten true))] ++ (q.seg ++ (Rx ++ R)))) → Hs H (L' ++ R)) := by
  obtain ⟨Pb, cv, cc, ps, hps, hok, hm, rfl⟩ := h
  rw [← hps, List.getElem?_map] at hi
  cases hp : ps[i]? with
  | none => rw [hp] at hi; cases hi
  | some p =>
    rw [hp] at hi
    simp only [Option.map_some, Option.some.injEq] at hi
    have hlt := (List.getElem?_eq_some_iff.1 hp).1
    have back : ∀ (q : Rp) (H : AH) (R : HL), Hs H ([(F, some (.cells [.sl (some (Pb, 0)) ps.length ps.length 0, .i .i64 ((s.room : Nat) : Int), cv] true))] ++ ([(Pb, some (.cells ((ps.map Rp.row).set i q.row).flatten true))] ++ (q.seg ++ ((qseg cv cc ++ (ps.eraseIdx i).flatMap Rp.seg) ++ R)))) → Hs H (([(F, some (.cells [.sl (some (Pb, 0)) (ps.set i q).length (ps.set i q).length 0, .i .i64 ((s.room : Nat) : Int), cv] true))] ++ ([(Pb, some (.cells ((ps.set i q).map Rp.row).flatten true))] ++ (qseg cv cc ++ (ps.set i q).flatMap Rp.seg))) ++ R) := fun q H R hh => by
      rw [List.length_set, List.append_assoc, List.append_assoc, List.append_assoc]
      rw [List.append_assoc] at hh
      exact ((Rp.back hp (hh.top4.top3.top3)).top1.top3.top2.top3)
    refine ⟨Pb, ps.length, cv, ps.map Rp.row, p, qseg cv cc ++ (ps.eraseIdx i).flatMap Rp.seg, hlt, by rw [List.length_map]; exact hlt, rows_rp ps, hok p (List.mem_of_getElem? hp), hi, fun H R hh => ?_, fun H R hh => ?_, fun q hq => ⟨_, ⟨Pb, cv, cc, ps.set i q, by rw [List.map_set, hps]; rfl, rp_set hok hq, hm, rfl⟩, back q⟩⟩
    · rw [List.append_assoc, List.append_assoc, List.append_assoc] at hh
      rw [List.append_assoc]
      exact ((Rp.out hp (hh.top3.top2)).top2.top4.top3.top3.top4)
    · have := back p H R hh
      rw [rows_same hp] at this; exact this
end
theorem rr_join {F : Nat} {s : Re} {B L R : HL} {n : Int} {H : AH}  (h : Rr F s B L)  (hH : Hs H (L ++ R)) : Ev tabA spA (.fn (.func 35) [] []) [.p (some (F, 0)), .i .i64 n] H (fun r H' => ∃ L', r = .i .i64 (s.join n).2 ∧ Rr F (s.join n).1 B L' ∧ Hs H' (L' ++ R)) := by
  unfold Re.join
  cases hat : s.at? n with
  | none =>
    obtain ⟨Pb, np, cv, Rx, hk, rfl⟩ := h.nilc hat
    rw [List.append_assoc] at hH
    refine Ev.mono (rjoin_nil hk hH) fun r H2 hq => ?_
    obtain ⟨rfl, hh⟩ := hq
    exact ⟨_, rfl, h, by rw [List.append_assoc]; exact hh⟩
  | some q =>
    obtain ⟨i, a⟩ := q
    have hat0 := hat
    obtain ⟨rfl, hi⟩ := at_some hat
    obtain ⟨Pb, np, cv, rws, p, Rx, hip, hir, hrw, hok, rfl, hop, hsame, hcl⟩ := h.open hi
    have hH1 := hop _ _ hH
    obtain ⟨sv, sc, wv, wc, rows, on, sb, w, lost⟩ := p
    obtain ⟨hss, hsq, hits⟩ := hok
    dsimp only at hss hits hsq ⊢
    have hH2 := (Rp.seg2 (p := ⟨sv, sc, wv, wc, rows, on, sb, w, lost⟩)).1 hH1
    cases on with
    | true =>
      refine Ev.mono (rjoin_on hip hrw hir hH1) fun r H2 hq => ?_
      obtain ⟨rfl, hh⟩ := hq
      exact ⟨L, rfl, h, hsame _ _ hh⟩
    | false =>
      refine Ev.mono (rjoin_off hip hrw hir hH1) fun r H2 hq => ?_
      obtain ⟨rfl, hh⟩ := hq
      obtain ⟨L', h', hb⟩ := hcl ⟨.sl none 0 0 0, [], .sl none 0 0 0, [], [], ⟨true, [], [], 0⟩⟩ ⟨Sq.nil, Sq.nil, ItsR.nil⟩
      exact ⟨L', rfl, h', hb _ _ hh.sub2⟩
theorem rr_leave {F : Nat} {s : Re} {B L R : HL} {n : Int} {H : AH}  (h : Rr F s B L)  (hH : Hs H (L ++ R)) : Ev tabA spA (.fn (.func 36) [] []) [.p (some (F, 0)), .i .i64 n] H (fun r H' => ∃ L', r = .i .i64 (s.leave n).2 ∧ Rr F (s.leave n).1 B L' ∧ Hs H' (L' ++ R)) := by
  unfold Re.leave
  cases hat : s.at? n with
  | none =>
    obtain ⟨Pb, np, cv, Rx, hk, rfl⟩ := h.nilc hat
    rw [List.append_assoc] at hH
    refine Ev.mono (rleave_nil hk hH) fun r H2 hq => ?_
    obtain ⟨rfl, hh⟩ := hq
    exact ⟨_, rfl, h, by rw [List.append_assoc]; exact hh⟩
  | some q =>
    obtain ⟨i, a⟩ := q
    have hat0 := hat
    obtain ⟨rfl, hi⟩ := at_some hat
    obtain ⟨Pb, np, cv, rws, p, Rx, hip, hir, hrw, hok, rfl, hop, hsame, hcl⟩ := h.open hi
    have hH1 := hop _ _ hH
    obtain ⟨sv, sc, wv, wc, rows, on, sb, w, lost⟩ := p
    obtain ⟨hss, hsq, hits⟩ := hok
    dsimp only at hss hits hsq ⊢
    have hH2 := (Rp.seg2 (p := ⟨sv, sc, wv, wc, rows, on, sb, w, lost⟩)).1 hH1
    cases on with
    | false =>
      refine Ev.mono (rleave_off hip hrw hir hH1) fun r H2 hq => ?_
      obtain ⟨rfl, hh⟩ := hq
      exact ⟨L, rfl, h, hsame _ _ hh⟩
    | true =>
      refine Ev.mono (rleave_on hip hrw hir hH1) fun r H2 hq => ?_
      obtain ⟨rfl, hh⟩ := hq
      obtain ⟨L', h', hb⟩ := hcl rp0 (rp0_ok B)
      exact ⟨L', rfl, h', hb _ _ hh.sub2⟩
theorem rr_subs {F : Nat} {s : Re} {B L R : HL} {n : Int} {H : AH} {tp : List UInt8} {mode : Int} {N : Nat} (h : Rr F s B L) (hs : s.okS N) (hH : Hs H (L ++ R)) : Ev tabA spA (.fn (.func 37) [] []) [.p (some (F, 0)), .i .i64 n, .s (txt tp), .i .i64 mode] H (fun r H' => ∃ L', r = .i .i64 (s.subs n tp mode).2 ∧ Rr F (s.subs n tp mode).1 B L' ∧ Hs H' (L' ++ R)) := by
  unfold Re.subs
  cases hat : s.at? n with
  | none =>
    obtain ⟨Pb, np, cv, Rx, hk, rfl⟩ := h.nilc hat
    rw [List.append_assoc] at hH
    refine Ev.mono (rsub_nil hk hH) fun r H2 hq => ?_
    obtain ⟨rfl, hh⟩ := hq
    exact ⟨_, rfl, h, by rw [List.append_assoc]; exact hh⟩
  | some q =>
    obtain ⟨i, a⟩ := q
    have hat0 := hat
    obtain ⟨rfl, hi⟩ := at_some hat
    obtain ⟨Pb, np, cv, rws, p, Rx, hip, hir, hrw, hok, rfl, hop, hsame, hcl⟩ := h.open hi
    have hH1 := hop _ _ hH
    obtain ⟨sv, sc, wv, wc, rows, on, sb, w, lost⟩ := p
    obtain ⟨hss, hsq, hits⟩ := hok
    dsimp only at hss hits hsq ⊢
    have hH2 := (Rp.seg2 (p := ⟨sv, sc, wv, wc, rows, on, sb, w, lost⟩)).1 hH1
    have hsb := hs.sb _ (List.mem_of_getElem? hi)
    obtain ⟨hdn, hsl⟩ := hsb
    dsimp only at hdn hsl
    by_cases h1 : mode < 0
    · rw [if_pos h1]
      refine Ev.mono (rsub_neg hip hrw hir h1 hH1) fun r H2 hq => ?_
      obtain ⟨rfl, hh⟩ := hq
      exact ⟨L, rfl, h, hsame _ _ hh⟩
    rw [if_neg h1]
    by_cases h2 : 2 < mode
    · rw [if_pos h2]
      refine Ev.mono (rsub_pos hip hrw hir h2 hH1) fun r H2 hq => ?_
      obtain ⟨rfl, hh⟩ := hq
      exact ⟨L, rfl, h, hsame _ _ hh⟩
    rw [if_neg h2]
    have hm : 0 ≤ mode ∧ mode ≤ 2 := ⟨by omega, by omega⟩
    by_cases h3 : tp.length = 0
    · rw [if_pos h3]
      refine Ev.mono (rsub_emp hip hrw hir hm (List.length_eq_zero_iff.1 h3) hH1) fun r H2 hq => ?_
      obtain ⟨rfl, hh⟩ := hq
      exact ⟨L, rfl, h, hsame _ _ hh⟩
    rw [if_neg h3]
    by_cases h4 : 256 < tp.length
    · rw [if_pos h4]
      refine Ev.mono (rsub_big hip hrw hir hm ⟨by omega, h4⟩ hH1) fun r H2 hq => ?_
      obtain ⟨rfl, hh⟩ := hq
      exact ⟨L, rfl, h, hsame _ _ hh⟩
    rw [if_neg h4]
    have htp : 0 < tp.length ∧ tp.length ≤ 256 := ⟨by omega, by omega⟩
    cases on with
    | false =>
      refine Ev.mono (rsub_off hip hrw hir hm htp hH1) fun r H2 hq => ?_
      obtain ⟨rfl, hh⟩ := hq
      exact ⟨L, rfl, h, hsame _ _ hh⟩
    | true =>
      have hdl := sdel_eq (tp := tp) (l := sb)
      have hdn2 := sget_del (tp := tp) hdn
      cases hg : sget sb tp with
      | none =>
        have hnd : sdel sb tp = sb := by
          rw [hdl, List.eraseIdx_of_length_le (sget_none hg)]
        dsimp only
        rw [hnd]
        by_cases hc : 64 ≤ sb.length
        · rw [if_pos hc]
          refine Ev.mono (rsub_none_full (md := 0) (k := 0) hip hrw hir hss (by omega) hg hc hm htp hH2) fun r H2 hq => ?_
          obtain ⟨rfl, hh⟩ := hq
          obtain ⟨L', h', hb⟩ := hcl ⟨sv, sc, wv, wc, rows, true, sb, w, lost⟩ ⟨hss, hsq, hits⟩
          exact ⟨L', rfl, h', hb _ _ (Rp.seg2.2 hh)⟩
        · rw [if_neg hc, sset_new hg]
          refine Ev.mono (rsub_none_ok (md := 0) (k := 0) hip hrw hir hss (by omega) hg (by omega) hm htp hH2) fun r H2 hq => ?_
          obtain ⟨rfl, v2, c2, hs2, hh⟩ := hq
          obtain ⟨L', h', hb⟩ := hcl ⟨v2, c2, wv, wc, rows, true, sb ++ [⟨tp, mode, false⟩], w, lost⟩ ⟨hs2, hsq, hits⟩
          exact ⟨L', rfl, h', hb _ _ (Rp.seg2.2 hh)⟩
      | some q =>
        obtain ⟨md, fl⟩ := q
        have hsi := sget_some hg
        have hkl := (List.getElem?_eq_some_iff.1 hsi).1
        cases fl with
        | false =>
          refine Ev.mono (rsub_dup hip hrw hir hss (by omega) rfl hsi hm htp hH2) fun r H2 hq => ?_
          obtain ⟨rfl, hh⟩ := hq
          exact ⟨L, rfl, h, hsame _ _ (Rp.seg2.2 hh)⟩
        | true =>
          have hel : (sdel sb tp).length = sb.length - 1 := by rw [hdl]; exact List.length_eraseIdx_of_lt hkl
          dsimp only
          by_cases hc : 64 ≤ (sdel sb tp).length
          · rw [if_pos hc]
            refine Ev.mono (rsub_fail_full hip hrw hir hss (by omega) rfl hsi (by omega) hm htp hH2) fun r H2 hq => ?_
            obtain ⟨rfl, v2, c2, hs2, hh⟩ := hq
            rw [← hdl] at hs2
            obtain ⟨L', h', hb⟩ := hcl ⟨v2, c2, wv, wc, rows, true, sdel sb tp, w, lost⟩ ⟨hs2, hsq, hits⟩
            exact ⟨L', rfl, h', hb _ _ (Rp.seg2.2 hh)⟩
          · rw [if_neg hc, sset_new hdn2]
            refine Ev.mono (rsub_fail_ok hip hrw hir hss (by omega) rfl hsi (by omega) hm htp hH2) fun r H2 hq => ?_
            obtain ⟨rfl, v2, c2, hs2, hh⟩ := hq
            rw [← hdl] at hs2
            obtain ⟨L', h', hb⟩ := hcl ⟨v2, c2, wv, wc, rows, true, sdel sb tp ++ [⟨tp, mode, false⟩], w, lost⟩ ⟨hs2, hsq, hits⟩
            exact ⟨L', rfl, h', hb _ _ (Rp.seg2.2 hh)⟩
theorem rr_drop {F : Nat} {s : Re} {B L R : HL} {n : Int} {H : AH} {tp : List UInt8} {N : Nat} (h : Rr F s B L) (hs : s.okS N) (hw : ∀ a ∈ s.ps, a.w.length ≤ 1000000) (hH : Hs H (L ++ R)) : Ev tabA spA (.fn (.func 38) [] []) [.p (some (F, 0)), .i .i64 n, .s (txt tp)] H (fun r H' => ∃ L', r = .i .i64 (s.drop n tp).2 ∧ Rr F (s.drop n tp).1 B L' ∧ Hs H' (L' ++ R)) := by
  unfold Re.drop
  cases hat : s.at? n with
  | none =>
    obtain ⟨Pb, np, cv, Rx, hk, rfl⟩ := h.nilc hat
    rw [List.append_assoc] at hH
    refine Ev.mono (rdrop_nil hk hH) fun r H2 hq => ?_
    obtain ⟨rfl, hh⟩ := hq
    exact ⟨_, rfl, h, by rw [List.append_assoc]; exact hh⟩
  | some q =>
    obtain ⟨i, a⟩ := q
    have hat0 := hat
    obtain ⟨rfl, hi⟩ := at_some hat
    obtain ⟨Pb, np, cv, rws, p, Rx, hip, hir, hrw, hok, rfl, hop, hsame, hcl⟩ := h.open hi
    have hH1 := hop _ _ hH
    obtain ⟨sv, sc, wv, wc, rows, on, sb, w, lost⟩ := p
    obtain ⟨hss, hsq, hits⟩ := hok
    dsimp only at hss hits hsq ⊢
    have hH2 := (Rp.seg2 (p := ⟨sv, sc, wv, wc, rows, on, sb, w, lost⟩)).1 hH1
    have hsl := (hs.sb _ (List.mem_of_getElem? hi)).2
    have hwl := hw _ (List.mem_of_getElem? hi)
    dsimp only at hsl hwl
    cases on with
    | false =>
      refine Ev.mono (rdrop_off hip hrw hir hH1) fun r H2 hq => ?_
      obtain ⟨rfl, hh⟩ := hq
      exact ⟨L, rfl, h, hsame _ _ hh⟩
    | true =>
      dsimp only
      cases hg : sget sb tp with
      | none =>
        refine Ev.mono (rdrop_none (md := 0) (k := 0) (mode := 0) hip hrw hir hss (by omega) hg hH2) fun r H2 hq => ?_
        obtain ⟨rfl, hh⟩ := hq
        exact ⟨L, rfl, h, hsame _ _ (Rp.seg2.2 hh)⟩
      | some q =>
        obtain ⟨md, fl⟩ := q
        have hsi := sget_some hg
        have hdl := sdel_eq (tp := tp) (l := sb)
        refine Ev.mono (rdropg_ev hip hrw hir hss (by omega) rfl hsi hsq hits.lens hits (by rw [hits.1]; exact hwl) hH2) fun r H2 hq => ?_
        obtain ⟨v2, c2, u2, d2, rows2, rfl, hs2, hq2, hi2, hh⟩ := hq
        rw [← hdl] at hs2
        obtain ⟨L', h', hb⟩ := hcl ⟨v2, c2, u2, d2, rows2, true, sdel sb tp, w.filter fun y => !(decide (y.tp = tp)), lost⟩ ⟨hs2, hq2, hi2⟩
        exact ⟨L', rfl, h', hb _ _ (Rp.seg2.2 hh)⟩
theorem rr_failed {F : Nat} {s : Re} {B L R : HL} {n : Int} {H : AH} {tp : List UInt8} {N : Nat} (h : Rr F s B L) (hs : s.okS N) (hH : Hs H (L ++ R)) : Ev tabA spA (.fn (.func 26) [] []) [.p (some (F, 0)), .i .i64 n, .s (txt tp)] H (fun r H' => ∃ L', r = .b (s.failed n tp) ∧ Rr F s B L' ∧ Hs H' (L' ++ R)) := by
  unfold Re.failed
  cases hat : s.at? n with
  | none =>
    obtain ⟨Pb, np, cv, Rx, hk, rfl⟩ := h.nilc hat
    rw [List.append_assoc] at hH
    refine Ev.mono (rfailed_nil hk hH) fun r H2 hq => ?_
    obtain ⟨rfl, hh⟩ := hq
    exact ⟨_, rfl, h, by rw [List.append_assoc]; exact hh⟩
  | some q =>
    obtain ⟨i, a⟩ := q
    have hat0 := hat
    obtain ⟨rfl, hi⟩ := at_some hat
    obtain ⟨Pb, np, cv, rws, p, Rx, hip, hir, hrw, hok, rfl, hop, hsame, hcl⟩ := h.open hi
    have hH1 := hop _ _ hH
    obtain ⟨sv, sc, wv, wc, rows, on, sb, w, lost⟩ := p
    obtain ⟨hss, hsq, hits⟩ := hok
    dsimp only at hss hits hsq ⊢
    have hH2 := (Rp.seg2 (p := ⟨sv, sc, wv, wc, rows, on, sb, w, lost⟩)).1 hH1
    have hsl := (hs.sb _ (List.mem_of_getElem? hi)).2
    dsimp only at hsl
    cases hg : sget sb tp with
    | none =>
      refine Ev.mono (rfailed_no hip hrw hir hss (by omega) hg hH2) fun r H2 hq => ?_
      obtain ⟨rfl, hh⟩ := hq
      exact ⟨L, rfl, h, hsame _ _ (Rp.seg2.2 hh)⟩
    | some q =>
      obtain ⟨md, fl⟩ := q
      have hsi := sget_some hg
      refine Ev.mono (rfailed_is hip hrw hir hss (by omega) rfl hsi hH2) fun r H2 hq => ?_
      obtain ⟨rfl, hh⟩ := hq
      exact ⟨L, rfl, h, hsame _ _ (Rp.seg2.2 hh)⟩

theorem rr_of {F : Nat} {s : Re} {B L R : HL} {n : Int} {H : AH} (h : Rr F s B L) (hH : Hs H (L ++ R)) : Ev tabA spA (.fn (.func 25) [] []) [.p (some (F, 0)), .i .i64 n] H (fun r H' => ∃ (on : Bool) (sv wv : AV), r = .agg [.b on, sv, wv, .i .i64 ((s.lostOf n : Nat) : Int)] ∧ lenOfA wv = some (s.waiting n) ∧ (∃ a len cap g, wv = .sl a len cap g) ∧ (∃ a len cap g, sv = .sl a len cap g) ∧ Hs H' (L ++ R)) := by
  unfold Re.lostOf Re.waiting
  cases hat : s.at? n with
  | none =>
    obtain ⟨Pb, np, cv, Rx, hk, rfl⟩ := h.nilc hat
    rw [List.append_assoc] at hH
    refine Ev.mono (rof_nil hk hH) fun r H2 hq => ?_
    obtain ⟨rfl, hh⟩ := hq
    exact ⟨false, .sl none 0 0 0, .sl none 0 0 0, rfl, rfl, ⟨_, _, _, _, rfl⟩, ⟨_, _, _, _, rfl⟩, by rw [List.append_assoc]; exact hh⟩
  | some q =>
    obtain ⟨i, a⟩ := q
    obtain ⟨rfl, hi⟩ := at_some hat
    obtain ⟨Pb, np, cv, rws, p, Rx, hip, hir, hrw, hok, rfl, hop, hsame, hcl⟩ := h.open hi
    have hH1 := hop _ _ hH
    obtain ⟨sv, sc, wv, wc, rows, on, sb, w, lost⟩ := p
    obtain ⟨hss, hsq, hits⟩ := hok
    dsimp only at hss hits hsq ⊢
    refine Ev.mono (rof_ev hip hrw hir hH1) fun r H2 hq => ?_
    obtain ⟨rfl, hh⟩ := hq
    exact ⟨on, sv, wv, rfl, by rw [← hits.1]; exact hsq.lenOf (flat_len hits.lens) (by decide), hsq.isSl, hss.isSl, hsame _ _ hh⟩
theorem rr_count {F : Nat} {s : Re} {B L R : HL} {H : AH} {tp : List UInt8} {N : Nat} (h : Rr F s B L) (hs : s.okS N) (hN : N ≤ 100000) (hH : Hs H (L ++ R)) : Ev tabA spA (.fn (.func 27) [] []) [.p (some (F, 0)), .s (txt tp)] H (fun r H' => r = .i .i64 ((s.count tp : Nat) : Int) ∧ Hs H' (L ++ R)) := by
  obtain ⟨Pb, cv, cc, ps, hps, hok, hm, rfl⟩ := h
  rw [List.append_assoc, List.append_assoc, List.append_assoc] at hH
  have hcs := hs.cs
  refine Ev.mono (rcount_ev hm (by omega) hH.top2.top1) fun r H2 hq => ?_
  obtain ⟨rfl, hh⟩ := hq
  exact ⟨rfl, by rw [List.append_assoc, List.append_assoc, List.append_assoc]; exact hh.top1.top2.top2⟩
def it0 : It := ⟨[], 0, 0, false, []⟩
def Re.pullx (s : Re) (n : Int) : It × Bool := match (s.pull n).2 with
  | none => (it0, false)
  | some x => (x, true)
theorem it0_row (B : HL) : ItRow B [.s (txt []), .i .i64 0, .i .i64 0, .b false, .sl none 0 0 0] it0 := ⟨none, 0, 0, rfl, .inl rfl, Nat.le_refl _, by decide, fun H' _ => Bs.nil⟩
theorem rl_pullx {F : Nat} {s : Re} {D L R : HL} {n : Int} {H : AH} (h : Rl F s D L) (hH : Hs H (L ++ R)) : Ev tabA spA (.fn (.func 16) [] []) [.p (some (F, 0)), .i .i64 n] H (fun r H' => ∃ L' rw, r = .tup [.agg rw, .b (s.pullx n).2] ∧ ItRow D rw (s.pullx n).1 ∧ Rl F (s.pull n).1 D L' ∧ Hs H' (L' ++ R)) := by
  refine Ev.mono (rl_pull h hH) fun r H2 hq => ?_
  obtain ⟨L', hr, h2, hh⟩ := hq
  unfold Re.pullx
  revert hr
  cases (s.pull n).2 with
  | none => intro hr; exact ⟨L', _, hr, it0_row D, h2, hh⟩
  | some x => intro hr; obtain ⟨rw, hi, hr⟩ := hr; exact ⟨L', rw, hr, hi, h2, hh⟩
theorem rr_pull {F : Nat} {s : Re} {B L R : HL} {n : Int} {H : AH} (h : Rr F s B L) (hH : Hs H (L ++ R)) : Ev tabA spA (.fn (.func 40) [] []) [.p (some (F, 0)), .i .i64 n] H (fun r H' => ∃ L' rw, r = .tup [.agg rw, .b (s.pullx n).2] ∧ ItRow B rw (s.pullx n).1 ∧ Rr F (s.pull n).1 B L' ∧ Hs H' (L' ++ R)) := by
  unfold Re.pullx Re.pull
  cases hat : s.at? n with
  | none =>
    obtain ⟨Pb, np, cv, Rx, hk, rfl⟩ := h.nilc hat
    rw [List.append_assoc] at hH
    refine Ev.mono (rpull_nil hk hH) fun r H2 hq => ?_
    obtain ⟨rfl, hh⟩ := hq
    exact ⟨_, _, rfl, it0_row B, h, by rw [List.append_assoc]; exact hh⟩
  | some q =>
    obtain ⟨i, a⟩ := q
    obtain ⟨rfl, hi⟩ := at_some hat
    obtain ⟨Pb, np, cv, rws, p, Rx, hip, hir, hrw, hok, rfl, hop, hsame, hcl⟩ := h.open hi
    have hH1 := hop _ _ hH
    obtain ⟨sv, sc, wv, wc, rows, on, sb, w, lost⟩ := p
    obtain ⟨hss, hsq, hits⟩ := hok
    dsimp only at hss hits hsq ⊢
    have hH2 := ((Rp.seg2 (p := ⟨sv, sc, wv, wc, rows, on, sb, w, lost⟩)).1 hH1).top3.top2.top2
    cases w with
    | nil =>
      have h0 := hits.1
      obtain rfl : rows = [] := List.length_eq_zero_iff.1 (by simpa using h0)
      refine Ev.mono (rpull0_ev (rows := []) (tp := []) (frm := 0) (num := 0) (tx := true) (dv := .b true) hip hrw hir hsq (fun x hx => by cases hx) hH2) fun r H2 hq => ?_
      obtain ⟨rfl, hh⟩ := hq
      exact ⟨L, _, rfl, it0_row B, h, hsame _ _ (Rp.seg2.2 hh.top3.top2.top2)⟩
    | cons x w =>
      obtain ⟨r0, rz, rfl⟩ : ∃ r rz, rows = r :: rz := by
        cases rows with
        | nil => have := hits.1; simp at this
        | cons r rz => exact ⟨r, rz, rfl⟩
      obtain ⟨rr, hrr, hit⟩ := hits.2 0 x rfl
      simp only [List.getElem?_cons_zero, Option.some.injEq] at hrr
      subst hrr
      have hit2 := hit
      have hl5 := hits.lens
      obtain ⟨ka, kc, kg, rfl, _⟩ := hit2
      refine Ev.mono (rpull_ev hip hrw hir hsq hl5 hH2) fun r H2 hq => ?_
      obtain ⟨v2, rfl, hs2, hh⟩ := hq
      obtain ⟨L', h', hb⟩ := hcl ⟨sv, sc, v2, wc, rz, on, sb, w, lost⟩ ⟨hss, hs2, hits.tail⟩
      exact ⟨L', _, rfl, hit, h', hb _ _ (Rp.seg2.2 hh.top3.top2.top2)⟩
theorem rr_pub {F : Nat} {s : Re} {L R B : HL} {n : Int} {N : Nat} {H : AH} {tp dd : List UInt8} {tx : Bool} {da : Option (Nat × Nat)} {dc dg : Nat} (h : Rr F s B L) (hinv : s.inv N) (hs : s.okS N) (hN : N ≤ 100000) (hdg : dg = 0 ∨ dg = 1) (hdc : dd.length ≤ dc) (hdm : dc ≤ 9223372036854775807) (hdb : ∀ H', Hs H' B → Bs H' (.sl da dd.length dc dg) dd) (hH : Hs H (L ++ R)) : Ev tabA spA (.fn (.func 39) [] []) [.p (some (F, 0)), .i .i64 n, .s (txt tp), .b tx, .sl da dd.length dc dg] H (fun r H' => ∃ L', r = .tup [.i .i64 (((s.pub n tp tx dd).2.1 : Nat) : Int), .i .i64 (s.pub n tp tx dd).2.2] ∧ Rr F (s.pub n tp tx dd).1 B L' ∧ Hs H' (L' ++ R)) := by
  unfold Re.pub
  cases hat : s.at? n with
  | none =>
    obtain ⟨Pb, np, cv, Rx, hk, rfl⟩ := h.nilc hat
    rw [List.append_assoc] at hH
    refine Ev.mono (rpub_nil hk hH) fun r H2 hq => ?_
    obtain ⟨rfl, hh⟩ := hq
    exact ⟨_, rfl, h, by rw [List.append_assoc]; exact hh⟩
  | some q =>
    obtain ⟨i, a⟩ := q
    have hget := hinv.get hat
    obtain ⟨rfl, hi⟩ := at_some hat
    obtain ⟨Pb, np, cv, rws, p, Rx, hip, hir, hrw, hok, rfl, hop, hsame, hcl⟩ := h.open hi
    have hH1 := hop _ _ hH
    obtain ⟨sv, sc, wv, wc, rows, on, sb, w, lost⟩ := p
    obtain ⟨hss, hsq, hits⟩ := hok
    dsimp only at hss hits hsq ⊢
    by_cases h3 : tp.length = 0
    · rw [if_pos h3]
      refine Ev.mono (rpub_emp hip hrw hir (List.length_eq_zero_iff.1 h3) hH1) fun r H2 hq => ?_
      obtain ⟨rfl, hh⟩ := hq
      exact ⟨L, rfl, h, hsame _ _ hh⟩
    rw [if_neg h3]
    by_cases h4 : 256 < tp.length
    · rw [if_pos h4]
      refine Ev.mono (rpub_big hip hrw hir ⟨by omega, h4⟩ hH1) fun r H2 hq => ?_
      obtain ⟨rfl, hh⟩ := hq
      exact ⟨L, rfl, h, hsame _ _ hh⟩
    rw [if_neg h4]
    have htp : 0 < tp.length ∧ tp.length ≤ 256 := ⟨by omega, by omega⟩
    by_cases h5 : 16384 < dd.length
    · rw [if_pos h5]
      refine Ev.mono (rpub_large hip hrw hir htp h5 hH1) fun r H2 hq => ?_
      obtain ⟨rfl, hh⟩ := hq
      exact ⟨L, rfl, h, hsame _ _ hh⟩
    rw [if_neg h5]
    cases on with
    | false =>
      refine Ev.mono (rpub_off hip hrw hir htp (by omega) hH1) fun r H2 hq => ?_
      obtain ⟨rfl, hh⟩ := hq
      exact ⟨L, rfl, h, hsame _ _ hh⟩
    | true =>
      clear hsame hcl hop hH1 hrw hir hip
      obtain ⟨Pb, cv, cc, ps, hps, hpk, hm, rfl⟩ := h
      rw [List.append_assoc, List.append_assoc, List.append_assoc] at hH
      have hlen : s.ps.length = ps.length := by rw [← hps, List.length_map]
      have hip : i < ps.length := by rw [← hlen]; exact (List.getElem?_eq_some_iff.1 hi).1
      have hgi : ps[i]? = some ps[i] := List.getElem?_eq_getElem hip
      have hai : ps[i].a = ⟨true, sb, w, lost⟩ := by
        have e := getElem_map_r hps hgi
        rw [hi] at e
        simp only [Option.some.injEq] at e
        exact e.symm
      have hinv2 : ∀ p ∈ ps, p.a.inv s.room N := fun p hp => hinv.pa _ (by rw [← hps]; exact List.mem_map_of_mem hp)
      have hsb2 : ∀ p ∈ ps, p.a.sb.length ≤ 1000000 := fun p hp => by
        have := (hs.sb p.a (by rw [← hps]; exact List.mem_map_of_mem hp)).2
        omega
      have hrd : ∀ H' R', Hs H' ([(Pb, some (.cells (ps.map Rp.row).flatten true))] ++ R') → ∃ c mu, H'.get Pb = some (.cells c mu) ∧ takeAt c (i * 4) 4 = some [.b true, ps[i].sv, ps[i].wv, .i .i64 ((ps[i].a.lost : Nat) : Int)] := fun H' R' hh => by
        have e := Rp.rd hgi hh
        have e2 : ps[i].row = [.b true, ps[i].sv, ps[i].wv, .i .i64 ((ps[i].a.lost : Nat) : Int)] := by unfold Rp.row rrow; rw [hai]
        rw [e2] at e; exact e
      have hcl := cgetD_le (tp := tp) hinv.cs
      have hcn := hs.cs
      dsimp only
      cases hg : cget s.cs tp with
      | none =>
        refine Ev.mono (rpubP_none (n0 := 0) (p0 := ps[i]) hip (by rw [← hlen]; exact hinv.len) hrd hpk hinv2 hsb2 hinv.room (by omega) hm (by omega) hg (Nat.zero_le _) htp (by omega) hdg hdc hdm hdb hH) fun r H2 hq => ?_
        obtain ⟨qs, v2, c2, rfl, hqa, hqk, hql, hm2, hh⟩ := hq
        rw [hg] at hqa hm2
        refine ⟨_, by rw [hps, hlen, hg], ⟨Pb, v2, c2, qs, by rw [hqa, hps, hlen], hqk, hm2, rfl⟩, ?_⟩
        rw [List.append_assoc, List.append_assoc, List.append_assoc, hql]; exact hh
      | some c0 =>
        rw [hg] at hcl
        simp only [Option.getD_some] at hcl
        refine Ev.mono (rpubP_some (n0 := c0) (p0 := ps[i]) hip (by rw [← hlen]; exact hinv.len) hrd hpk hinv2 hsb2 hinv.room (by omega) hm (by omega) hg (by omega) htp (by omega) hdg hdc hdm hdb hH) fun r H2 hq => ?_
        obtain ⟨qs, v2, c2, rfl, hqa, hqk, hql, hm2, hh⟩ := hq
        rw [hg] at hqa hm2
        refine ⟨_, by rw [hps, hlen, hg], ⟨Pb, v2, c2, qs, by rw [hqa, hps, hlen], hqk, hm2, rfl⟩, ?_⟩
        rw [List.append_assoc, List.append_assoc, List.append_assoc, hql]; exact hh
/-! ### What else holds of any relay -/
theorem Sdn.nil : Sdn [] := List.nodup_nil
theorem sset_len {tp : List UInt8} {m : Int} {f : Bool} {l : List Su} {q : Int × Bool} (h : sget l tp = some q) : (sset l tp m f).length = l.length := by
  obtain ⟨m0, f0⟩ := q
  have e := congrArg List.length (sset_keys (m := m) (f := f) h)
  rw [List.length_map, List.length_map] at e; exact e
theorem cset_len {tp : List UInt8} {n : Nat} : ∀ {l : List (List UInt8 × Nat)}, (cset l tp n).length ≤ l.length + 1
  | [] => Nat.le_refl _
  | x :: l => by
    unfold cset
    split
    · simp
    · have := cset_len (tp := tp) (n := n) (l := l)
      simp only [List.length_cons]; omega
theorem Re.okS.mono {N M : Nat} {s : Re} (h : s.okS N) (hm : N ≤ M) : s.okS M := ⟨h.sb, Nat.le_trans h.cs hm⟩
theorem Re.okS.upd {N : Nat} {s : Re} {i : Nat} {a : Pa} (h : s.okS N) (ha : Sdn a.sb ∧ a.sb.length ≤ 64) : (s.upd i a).okS N := ⟨fun b hb => by
    rcases List.mem_or_eq_of_mem_set hb with h1 | rfl
    · exact h.sb b h1
    · exact ha, h.cs⟩
theorem Re.okS.get {N : Nat} {s : Re} {n : Int} {i : Nat} {a : Pa} (h : s.okS N) (hat : s.at? n = some (i, a)) : Sdn a.sb ∧ a.sb.length ≤ 64 := h.sb a (List.mem_of_getElem? (at_some hat).2)
theorem Re.okS.join {N : Nat} {s : Re} {n : Int} (h : s.okS N) : (s.join n).1.okS N := by
  unfold Re.join
  split
  · exact h
  · exact h
  · exact h.upd ⟨Sdn.nil, Nat.zero_le _⟩
theorem Re.okS.leave {N : Nat} {s : Re} {n : Int} (h : s.okS N) : (s.leave n).1.okS N := by
  unfold Re.leave
  split
  · exact h
  · exact h.upd ⟨Sdn.nil, Nat.zero_le _⟩
  · exact h
theorem sdel_len {tp : List UInt8} {l : List Su} : (sdel l tp).length ≤ l.length := sdel_sub.length_le
theorem Re.okS.subs {N : Nat} {s : Re} {n : Int} {tp : List UInt8} {mode : Int} (h : s.okS N) : (s.subs n tp mode).1.okS N := by
  unfold Re.subs
  split
  · exact h
  · rename_i i on sb w lost hat
    obtain ⟨h1, h2⟩ := h.get hat
    dsimp only at h1 h2
    have h3 := sdel_len (tp := tp) (l := sb)
    split
    · exact h
    · split
      · exact h
      · split
        · exact h
        · split
          · exact h
          · split
            · exact h
            · split
              · exact h
              · split
                · exact h.upd ⟨h1.del, by show (sdel sb tp).length ≤ 64; omega⟩
                · refine h.upd ⟨h1.del.set, ?_⟩
                  show (sset (sdel sb tp) tp mode false).length ≤ 64
                  rw [sset_new (sget_del h1), List.length_append]
                  simp only [List.length_cons, List.length_nil]; omega
theorem Re.okS.drop {N : Nat} {s : Re} {n : Int} {tp : List UInt8} (h : s.okS N) : (s.drop n tp).1.okS N := by
  unfold Re.drop
  split
  · exact h
  · exact h
  · rename_i i sb w lost hat
    obtain ⟨h1, h2⟩ := h.get hat
    dsimp only at h1 h2
    have h3 := sdel_len (tp := tp) (l := sb)
    split
    · exact h
    · exact h.upd ⟨h1.del, by show (sdel sb tp).length ≤ 64; omega⟩
theorem Re.okS.pull {N : Nat} {s : Re} {n : Int} (h : s.okS N) : (s.pull n).1.okS N := by
  unfold Re.pull
  split
  · exact h
  · exact h
  · rename_i i on sb x w lost hat
    have h1 := h.get hat
    exact h.upd h1
theorem hand_okS {room : Nat} {p : Pa} {x : It} (h : Sdn p.sb ∧ p.sb.length ≤ 64) : Sdn (p.hand room x).1.sb ∧ (p.hand room x).1.sb.length ≤ 64 := by
  unfold Pa.hand
  split
  · exact h
  · exact h
  · rename_i mode he
    split
    · exact h
    · split
      · refine ⟨Sdn.set h.1, ?_⟩
        show (sset p.sb x.tp 0 true).length ≤ 64
        have he2 : ∃ q, sget p.sb x.tp = some q := by
          split at he
          · exact ⟨_, he⟩
          · cases he
        obtain ⟨q, he2⟩ := he2
        rw [sset_len he2]; exact h.2
      · split
        · exact h
        · exact h
theorem pubN_okS {n room : Nat} {x : It} {ps : List Pa} (h : ∀ a ∈ ps, Sdn a.sb ∧ a.sb.length ≤ 64) : ∀ k, ∀ a ∈ (pubN n room x ps k).1, Sdn a.sb ∧ a.sb.length ≤ 64
  | 0, a, ha => h a ha
  | k + 1, a, ha => by
    by_cases he : k = n
    · rw [pubN_eq he] at ha; exact pubN_okS h k a ha
    · cases hp : (pubN n room x ps k).1[k]? with
      | none =>
        have e : pubN n room x ps (k + 1) = pubN n room x ps k := by show (if k = n then _ else _) = _; rw [if_neg he, hp]
        rw [e] at ha; exact pubN_okS h k a ha
      | some p =>
        rw [pubN_ne he hp] at ha
        have hp2 := hp
        rw [pubN_get (Nat.le_refl k)] at hp2
        rcases List.mem_or_eq_of_mem_set ha with h1 | rfl
        · exact pubN_okS h k a h1
        · exact hand_okS (h p (List.mem_of_getElem? hp2))
theorem Re.okS.pub {N : Nat} {s : Re} {n : Int} {tp d : List UInt8} {tx : Bool} (h : s.okS N) : (s.pub n tp tx d).1.okS (N + 1) := by
  have hm := h.mono (Nat.le_succ N)
  unfold Re.pub
  split
  · exact hm
  · split
    · exact hm
    · split
      · exact hm
      · split
        · exact hm
        · split
          · exact hm
          · exact ⟨pubN_okS h.sb _, Nat.le_trans cset_len (Nat.succ_le_succ h.cs)⟩
end Go.Proofs.Ytnkpmidfefilbaa.E
