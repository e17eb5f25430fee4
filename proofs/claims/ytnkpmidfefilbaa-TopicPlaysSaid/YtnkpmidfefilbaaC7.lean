/- Topics: a step of both relays. It bears no condition. -/
import Derived.Test.YtnkpmidfefilbaaCC2
namespace Go.Proofs.Ytnkpmidfefilbaa.E
set_option linter.unusedVariables false
set_option linter.unusedSimpArgs false
structure Op9 where
  what : Int
  p : Int
  mode : Int
  tp : List UInt8
  tx : Bool
  d : List UInt8
def OpRow (B : HL) (r : List AV) (o : Op9) : Prop := ∃ (a : Option (Nat × Nat)) (cap : Nat), r = [.i .i64 o.what, .i .i64 o.p, .i .i64 o.mode, .s (txt o.tp), .b o.tx, .sl a o.d.length cap 0] ∧ o.d.length ≤ cap ∧ cap ≤ 9223372036854775807 ∧ ∀ H', Hs H' B → Bs H' (.sl a o.d.length cap 0) o.d
def OpsR (B : HL) (rows : List (List AV)) (l : List Op9) : Prop := rows.length = l.length ∧ ∀ (i : Nat) (o : Op9), l[i]? = some o → ∃ r, rows[i]? = some r ∧ OpRow B r o
theorem OpsR.get {B : HL} {rows : List (List AV)} {l : List Op9} (h : OpsR B rows l) {i : Nat} (hi : i < l.length) : ∃ o r, l[i]? = some o ∧ rows[i]? = some r ∧ OpRow B r o := by
  obtain ⟨r, h1, h2⟩ := h.2 i _ (List.getElem?_eq_getElem hi)
  exact ⟨_, r, List.getElem?_eq_getElem hi, h1, h2⟩
theorem ops_ex {B : HL} : ∀ {rows : List (List AV)}, (∀ (i : Nat) (r : List AV), rows[i]? = some r → ∃ o, OpRow B r o) → ∃ l : List Op9, OpsR B rows l
  | [], _ => ⟨[], rfl, fun i o h => by simp at h⟩
  | r :: rows, h => by
    obtain ⟨o, ho⟩ := h 0 r rfl
    obtain ⟨l, hl, h2⟩ := ops_ex (rows := rows) fun i r hi => h (i + 1) r (by simpa using hi)
    refine ⟨o :: l, by simp [hl], fun i x hx => ?_⟩
    cases i with
    | zero => simp only [List.getElem?_cons_zero, Option.some.injEq] at hx; subst hx; exact ⟨r, rfl, ho⟩
    | succ i => simp only [List.getElem?_cons_succ] at hx ⊢; exact h2 i x hx
theorem alike_ev {H : AH} {R D B : HL} {x : It} {r1 r2 : List AV} (h1 : ItRow D r1 x) (h2 : ItRow B r2 x) (hH0 : Hs H (D ++ (B ++ R))) : Ev tabA spA (.fn (.func 41) [] []) [.agg r1, .agg r2] H (fun r H' => r = .b true ∧ Hs H' (D ++ (B ++ R))) := by
  refine Ev_C (F := x41) rfl ?_
  obtain ⟨a1, c1, g1, rfl, _, _, _, hb1⟩ := h1
  obtain ⟨a2, c2, g2, rfl, _, _, _, hb2⟩ := h2
  refine C_seq ?_
  refine C_region ?_
  refine O_box (z := [(.s (txt x.tp)), (.i .i64 x.frm), (.i .i64 x.num), (.b x.tx), (.sl a1 x.d.length c1 g1)]) rfl fun n1 H2 hN3 => ?_
  have hH4 := hH0.new hN3
  refine O_box (z := [(.s (txt x.tp)), (.i .i64 x.frm), (.i .i64 x.num), (.b x.tx), (.sl a2 x.d.length c2 g2)]) rfl fun n5 H6 hN7 => ?_
  have hH8 := hH4.new hN7
  refine O_p (.b false) (r_mv rfl) ?_
  refine O_nil ?_
  refine C_seq ?_
  refine C_region ?_
  refine O_p (.p (some (n1, 0))) (r_fadd' rfl rfl) ?_
  refine O_p (.s (txt x.tp)) (r_ld rfl hH8.get1 rfl) ?_
  refine O_p (.p (some (n5, 0))) (r_fadd' rfl rfl) ?_
  refine O_p (.s (txt x.tp)) (r_ld rfl hH8.get0 rfl) ?_
  refine O_p (.b true) (by exact (by rw [r_eqt (a := x.tp) (b := x.tp) rfl rfl, decide_eq_true rfl])) ?_
  refine O_p (.b true) (r_mv rfl) ?_
  refine O_gk rfl ?_
  refine O_p (.p (some (n1, 1))) (r_fadd' rfl rfl) ?_
  refine O_gk rfl ?_
  refine O_p (.i .i64 x.frm) (r_ld rfl hH8.get1 rfl) ?_
  refine O_gk rfl ?_
  refine O_p (.p (some (n5, 1))) (r_fadd' rfl rfl) ?_
  refine O_gk rfl ?_
  refine O_p (.i .i64 x.frm) (r_ld rfl hH8.get0 rfl) ?_
  refine O_gk rfl ?_
  refine O_p (.b true) (r_eqq rfl rfl) ?_
  refine O_p (.b true) (r_pick_t rfl rfl) ?_
  refine O_p (.b true) (r_mv rfl) ?_
  refine O_gk rfl ?_
  refine O_p (.p (some (n1, 2))) (r_fadd' rfl rfl) ?_
  refine O_gk rfl ?_
  refine O_p (.i .i64 x.num) (r_ld rfl hH8.get1 rfl) ?_
  refine O_gk rfl ?_
  refine O_p (.p (some (n5, 2))) (r_fadd' rfl rfl) ?_
  refine O_gk rfl ?_
  refine O_p (.i .i64 x.num) (r_ld rfl hH8.get0 rfl) ?_
  refine O_gk rfl ?_
  refine O_p (.b true) (r_eqq rfl rfl) ?_
  refine O_p (.b true) (r_pick_t rfl rfl) ?_
  refine O_p (.b true) (r_mv rfl) ?_
  refine O_gk rfl ?_
  refine O_p (.p (some (n1, 3))) (r_fadd' rfl rfl) ?_
  refine O_gk rfl ?_
  refine O_p (.b x.tx) (r_ld rfl hH8.get1 rfl) ?_
  refine O_gk rfl ?_
  refine O_p (.p (some (n5, 3))) (r_fadd' rfl rfl) ?_
  refine O_gk rfl ?_
  refine O_p (.b x.tx) (r_ld rfl hH8.get0 rfl) ?_
  refine O_gk rfl ?_
  refine O_p (.b true) (r_beqq rfl rfl) ?_
  refine O_p (.b true) (r_pick_t rfl rfl) ?_
  refine O_p (.b true) (r_mv rfl) ?_
  refine O_gk rfl ?_
  refine O_p (.p (some (n1, 4))) (r_fadd' rfl rfl) ?_
  refine O_gk rfl ?_
  refine O_p (.sl a1 x.d.length c1 g1) (r_ld rfl hH8.get1 rfl) ?_
  refine O_gk rfl ?_
  refine O_p (.s (txt x.d)) ((hb1 _ hH8.top2.fst).text rfl) ?_
  refine O_gk rfl ?_
  refine O_p (.p (some (n5, 4))) (r_fadd' rfl rfl) ?_
  refine O_gk rfl ?_
  refine O_p (.sl a2 x.d.length c2 g2) (r_ld rfl hH8.get0 rfl) ?_
  refine O_gk rfl ?_
  refine O_p (.s (txt x.d)) ((hb2 _ hH8.top3.fst).text rfl) ?_
  refine O_gk rfl ?_
  refine O_p (.b true) (by exact (by rw [r_eqt (a := x.d) (b := x.d) rfl rfl, decide_eq_true rfl])) ?_
  refine O_p (.b true) (r_pick_t rfl rfl) ?_
  refine O_p (.b true) (r_mv rfl) ?_
  refine O_nil ?_
  refine C_ret ?_
  have hH9 := ((hH8.sub0).sub0)
  have hH10 := ((hH9.top1).top1)
  exact ⟨.inr rfl, _, resL_one (r_tmp (v := (.b true)) rfl), rfl, hH10⟩
set_option maxHeartbeats 1000000 in
theorem fewO_ev {H : AH} {R : HL} {H0 : AH} {v : AV} {rows : List (List AV)} {ol : List Op9} (hv : ∀ H', Hs H' (allL H0) → Rw 6 H' v rows) (hops : OpsR (allL H0) rows ol) (hH0 : Hs H ((allL H0) ++ R)) : Ev tabA spA (.fn (.func 22) [] []) [v] H (fun r H' => ∃ b : Bool, r = .b b ∧ (b = true → ol.length ≤ 150) ∧ Hs H' ((allL H0) ++ R)) := by
  refine Ev_C (F := x22) rfl ?_
  refine C_seq ?_
  refine C_region ?_
  refine O_p (.b false) (r_mv rfl) ?_
  refine O_nil ?_
  refine C_seq ?_
  refine C_seq ?_
  refine C_region ?_
  refine O_p v (r_mv rfl) ?_
  refine O_p (.i .i64 (((ol.length : Nat)) : Int)) (r_lenOf (v := v) (n := ol.length) rfl ((hv _ hH0.top0.fst).lenOf hops.1) (hv _ hH0.top0.fst).isSl) ?_
  refine O_p (.b (decide (150 < (((ol.length : Nat)) : Int)))) (r_gtr rfl rfl) ?_
  refine O_nil ?_
  refine C_cond (x := (decide (150 < (((ol.length : Nat)) : Int)))) rfl (fun hc1 => ?_) (fun hc1 => ?_)
  ·
    try simp only [decide_eq_true_eq, decide_eq_false_iff_not, Bool.not_eq_true', Bool.not_eq_false', Bool.and_eq_true, Bool.or_eq_true, Bool.or_eq_false_iff, Bool.not_not, Bool.and_eq_false_iff] at hc1
    refine C_seq ?_
    refine C_region ?_
    refine O_p (.b false) (r_mv rfl) ?_
    refine O_nil ?_
    refine C_ret ?_
    refine nx_ret ?_
    exact ⟨.inr rfl, _, resL_one (r_tmp (v := (.b false)) rfl), false, rfl, (fun h => by cases h), hH0⟩
  ·
    try simp only [decide_eq_true_eq, decide_eq_false_iff_not, Bool.not_eq_true', Bool.not_eq_false', Bool.and_eq_true, Bool.or_eq_true, Bool.or_eq_false_iff, Bool.not_not, Bool.and_eq_false_iff] at hc1
    refine C_skip ?_
    refine C_seq ?_
    refine C_seq ?_
    refine C_region ?_
    refine O_p (.i .i64 0) (r_mv rfl) ?_
    refine O_nil ?_
    refine C_block ?_
    refine C_while (fun m2 T3 H4 => ∃ i : Nat, m2 = ol.length - i ∧ i ≤ ol.length ∧ ol.length ≤ 150 ∧ Hs H4 ((allL H0) ++ (R)) ∧ T3.get 0 = v ∧ T3.get 3 = (.i .i64 (((i : Nat)) : Int))) (fun m2 T3 H4 hI5 => ?_) ol.length _ _ ⟨0, rfl, Nat.zero_le _, by omega, hH0, rfl, rfl⟩
    obtain ⟨i, hm6, hp7, hp8, hH11, hT9, hT10⟩ := hI5
    refine C_seq ?_
    refine C_seq ?_
    refine C_region ?_
    refine O_p (.i .i64 (((i : Nat)) : Int)) (r_mv hT10) ?_
    refine O_p v (r_mv hT9) ?_
    refine O_p (.i .i64 (((ol.length : Nat)) : Int)) (r_lenOf (v := v) (n := ol.length) rfl ((hv _ hH11.top0.fst).lenOf hops.1) (hv _ hH11.top0.fst).isSl) ?_
    refine O_p (.b (decide ((((i : Nat)) : Int) < (((ol.length : Nat)) : Int)))) (r_lss rfl rfl) ?_
    refine O_nil ?_
    refine C_cond (x := (decide ((((i : Nat)) : Int) < (((ol.length : Nat)) : Int)))) rfl (fun hc12 => ?_) (fun hc12 => ?_)
    ·
      try simp only [decide_eq_true_eq, decide_eq_false_iff_not, Bool.not_eq_true', Bool.not_eq_false', Bool.and_eq_true, Bool.or_eq_true, Bool.or_eq_false_iff, Bool.not_not, Bool.and_eq_false_iff] at hc12
      refine C_skip ?_
      refine C_seq ?_
      refine C_block ?_
      refine C_seq ?_
      have hil : i < ol.length := by omega
      obtain ⟨o, ri, hoi, hri, hor⟩ := hops.get hil
      obtain ⟨oa, oc, rfl, hoc, hom, hob⟩ := hor
      by_cases htl : 300 < o.tp.length
      ·
        refine C_region ?_
        refine O_p v (r_mv hT9) ?_
        refine O_p (.i .i64 (((i : Nat)) : Int)) (r_mv hT10) ?_
        refine O_q (by exact Rw.row (hv _ hH11.top0.fst) rfl (i := i) rfl (r := [(.i .i64 o.what), (.i .i64 o.p), (.i .i64 o.mode), (.s (txt o.tp)), (.b o.tx), (.sl oa o.d.length oc 0)]) hri) fun v14 hv13 => ?_
        obtain ⟨rb15, ro16, rfl, hr17⟩ := hv13
        refine O_p (.p (some (rb15, (ro16 + 3)))) (r_fadd' rfl rfl) ?_
        refine O_p (.s (txt o.tp)) (r_ldR (q := 3) rfl (hr17 _ (hv _ hH11.top0.fst)) rfl) ?_
        refine O_p (.i .i64 ((((o.tp).length : Nat)) : Int)) (r_lent (l := o.tp) rfl) ?_
        refine O_p (.b true) (by exact (by rw [r_gtr rfl rfl, decide_eq_true (by omega)])) ?_
        refine O_p (.b true) (r_mv rfl) ?_
        refine O_gf rfl ?_
        refine O_gf rfl ?_
        refine O_gf rfl ?_
        refine O_gf rfl ?_
        refine O_gf rfl ?_
        refine O_gf rfl ?_
        refine O_gf rfl ?_
        refine O_gf rfl ?_
        refine O_gu rfl ?_
        refine O_gu rfl ?_
        refine O_gu rfl ?_
        refine O_gu rfl ?_
        refine O_gu rfl ?_
        refine O_gu rfl ?_
        refine O_gu rfl ?_
        refine O_gf rfl ?_
        refine O_p (.b true) (r_pick_t rfl rfl) ?_
        refine O_nil ?_
        refine C_cond (x := true) rfl (fun _ => ?_) (fun h => by cases h)
        refine C_seq ?_
        refine C_region ?_
        refine O_p (.b false) (r_mv rfl) ?_
        refine O_nil ?_
        refine C_ret ?_
        refine bk_ret ?_
        refine nx_ret ?_
        refine nx_ret ?_
        refine bk_ret ?_
        refine nx_ret ?_
        exact ⟨.inr rfl, _, resL_one (r_tmp (v := (.b false)) rfl), false, rfl, (fun h => by cases h), hH11⟩
      ·
        by_cases hdl : 500 < o.d.length
        ·
          refine C_region ?_
          refine O_p v (r_mv hT9) ?_
          refine O_p (.i .i64 (((i : Nat)) : Int)) (r_mv hT10) ?_
          refine O_q (by exact Rw.row (hv _ hH11.top0.fst) rfl (i := i) rfl (r := [(.i .i64 o.what), (.i .i64 o.p), (.i .i64 o.mode), (.s (txt o.tp)), (.b o.tx), (.sl oa o.d.length oc 0)]) hri) fun v19 hv18 => ?_
          obtain ⟨rb20, ro21, rfl, hr22⟩ := hv18
          refine O_p (.p (some (rb20, (ro21 + 3)))) (r_fadd' rfl rfl) ?_
          refine O_p (.s (txt o.tp)) (r_ldR (q := 3) rfl (hr22 _ (hv _ hH11.top0.fst)) rfl) ?_
          refine O_p (.i .i64 ((((o.tp).length : Nat)) : Int)) (r_lent (l := o.tp) rfl) ?_
          refine O_p (.b false) (by exact (by rw [r_gtr rfl rfl, decide_eq_false (by omega)])) ?_
          refine O_p (.b false) (r_mv rfl) ?_
          refine O_gk rfl ?_
          refine O_p v (r_mv hT9) ?_
          refine O_gk rfl ?_
          refine O_p (.i .i64 (((i : Nat)) : Int)) (r_mv hT10) ?_
          refine O_gk rfl ?_
          refine O_q (by exact Rw.row (hv _ hH11.top0.fst) rfl (i := i) rfl (r := [(.i .i64 o.what), (.i .i64 o.p), (.i .i64 o.mode), (.s (txt o.tp)), (.b o.tx), (.sl oa o.d.length oc 0)]) hri) fun v24 hv23 => ?_
          obtain ⟨rb25, ro26, rfl, hr27⟩ := hv23
          refine O_gk rfl ?_
          refine O_p (.p (some (rb25, (ro26 + 5)))) (r_fadd' rfl rfl) ?_
          refine O_gk rfl ?_
          refine O_p (.sl oa o.d.length oc 0) (r_ldR (q := 5) rfl (hr27 _ (hv _ hH11.top0.fst)) rfl) ?_
          refine O_gk rfl ?_
          refine O_p (.i .i64 (((o.d.length : Nat)) : Int)) (r_len rfl) ?_
          refine O_gk rfl ?_
          refine O_p (.b true) (by exact (by rw [r_gtr rfl rfl, decide_eq_true (by omega)])) ?_
          refine O_gk rfl ?_
          refine O_p (.b true) (r_mv rfl) ?_
          refine O_gk rfl ?_
          refine O_p v (r_mv hT9) ?_
          refine O_gk rfl ?_
          refine O_p (.i .i64 (((i : Nat)) : Int)) (r_mv hT10) ?_
          refine O_gk rfl ?_
          refine O_q (by exact Rw.row (hv _ hH11.top0.fst) rfl (i := i) rfl (r := [(.i .i64 o.what), (.i .i64 o.p), (.i .i64 o.mode), (.s (txt o.tp)), (.b o.tx), (.sl oa o.d.length oc 0)]) hri) fun v29 hv28 => ?_
          obtain ⟨rb30, ro31, rfl, hr32⟩ := hv28
          refine O_gk rfl ?_
          refine O_p (.p (some (rb30, (ro31 + 5)))) (r_fadd' rfl rfl) ?_
          refine O_gk rfl ?_
          refine O_p (.sl oa o.d.length oc 0) (r_ldR (q := 5) rfl (hr32 _ (hv _ hH11.top0.fst)) rfl) ?_
          refine O_gk rfl ?_
          refine O_p (.i .i64 (((o.d.length : Nat)) : Int)) (r_len rfl) ?_
          refine O_gk rfl ?_
          refine O_p (.b (decide ((((o.d.length : Nat)) : Int) ≤ 16384))) (r_leq rfl rfl) ?_
          refine O_gk rfl ?_
          refine O_p (.b (decide ((((o.d.length : Nat)) : Int) ≤ 16384))) (r_pick_t rfl rfl) ?_
          refine O_p (.b (decide ((((o.d.length : Nat)) : Int) ≤ 16384))) (r_pick_f rfl rfl) ?_
          refine O_nil ?_
          refine C_cond (x := (decide ((((o.d.length : Nat)) : Int) ≤ 16384))) rfl (fun hc33 => ?_) (fun hc33 => ?_)
          ·
            try simp only [decide_eq_true_eq, decide_eq_false_iff_not, Bool.not_eq_true', Bool.not_eq_false', Bool.and_eq_true, Bool.or_eq_true, Bool.or_eq_false_iff, Bool.not_not, Bool.and_eq_false_iff] at hc33
            refine C_seq ?_
            refine C_region ?_
            refine O_p (.b false) (r_mv rfl) ?_
            refine O_nil ?_
            refine C_ret ?_
            refine bk_ret ?_
            refine nx_ret ?_
            refine nx_ret ?_
            refine bk_ret ?_
            refine nx_ret ?_
            exact ⟨.inr rfl, _, resL_one (r_tmp (v := (.b false)) rfl), false, rfl, (fun h => by cases h), hH11⟩
          ·
            try simp only [decide_eq_true_eq, decide_eq_false_iff_not, Bool.not_eq_true', Bool.not_eq_false', Bool.and_eq_true, Bool.or_eq_true, Bool.or_eq_false_iff, Bool.not_not, Bool.and_eq_false_iff] at hc33
            refine C_skip ?_
            refine C_region ?_
            refine O_p (.i .i64 (((i : Nat)) : Int)) (r_mv hT10) ?_
            refine O_p (.i .i64 ((((i : Nat)) : Int) + 1)) (by exact (r_addi rfl rfl (wrap_i64 (by omega) (by omega)))) ?_
            refine O_p (.i .i64 ((((i : Nat)) : Int) + 1)) (r_mv rfl) ?_
            refine O_nil ?_
            exact ⟨ol.length - (i + 1), by omega, (i + 1), rfl, by omega, hp8, hH11, hT9, rfl⟩
        ·
          refine C_region ?_
          refine O_p v (r_mv hT9) ?_
          refine O_p (.i .i64 (((i : Nat)) : Int)) (r_mv hT10) ?_
          refine O_q (by exact Rw.row (hv _ hH11.top0.fst) rfl (i := i) rfl (r := [(.i .i64 o.what), (.i .i64 o.p), (.i .i64 o.mode), (.s (txt o.tp)), (.b o.tx), (.sl oa o.d.length oc 0)]) hri) fun v35 hv34 => ?_
          obtain ⟨rb36, ro37, rfl, hr38⟩ := hv34
          refine O_p (.p (some (rb36, (ro37 + 3)))) (r_fadd' rfl rfl) ?_
          refine O_p (.s (txt o.tp)) (r_ldR (q := 3) rfl (hr38 _ (hv _ hH11.top0.fst)) rfl) ?_
          refine O_p (.i .i64 ((((o.tp).length : Nat)) : Int)) (r_lent (l := o.tp) rfl) ?_
          refine O_p (.b false) (by exact (by rw [r_gtr rfl rfl, decide_eq_false (by omega)])) ?_
          refine O_p (.b false) (r_mv rfl) ?_
          refine O_gk rfl ?_
          refine O_p v (r_mv hT9) ?_
          refine O_gk rfl ?_
          refine O_p (.i .i64 (((i : Nat)) : Int)) (r_mv hT10) ?_
          refine O_gk rfl ?_
          refine O_q (by exact Rw.row (hv _ hH11.top0.fst) rfl (i := i) rfl (r := [(.i .i64 o.what), (.i .i64 o.p), (.i .i64 o.mode), (.s (txt o.tp)), (.b o.tx), (.sl oa o.d.length oc 0)]) hri) fun v40 hv39 => ?_
          obtain ⟨rb41, ro42, rfl, hr43⟩ := hv39
          refine O_gk rfl ?_
          refine O_p (.p (some (rb41, (ro42 + 5)))) (r_fadd' rfl rfl) ?_
          refine O_gk rfl ?_
          refine O_p (.sl oa o.d.length oc 0) (r_ldR (q := 5) rfl (hr43 _ (hv _ hH11.top0.fst)) rfl) ?_
          refine O_gk rfl ?_
          refine O_p (.i .i64 (((o.d.length : Nat)) : Int)) (r_len rfl) ?_
          refine O_gk rfl ?_
          refine O_p (.b false) (by exact (by rw [r_gtr rfl rfl, decide_eq_false (by omega)])) ?_
          refine O_gk rfl ?_
          refine O_p (.b false) (r_mv rfl) ?_
          refine O_gf rfl ?_
          refine O_gf rfl ?_
          refine O_gf rfl ?_
          refine O_gf rfl ?_
          refine O_gf rfl ?_
          refine O_gf rfl ?_
          refine O_gf rfl ?_
          refine O_gk rfl ?_
          refine O_p (.b false) (r_pick_f rfl rfl) ?_
          refine O_p (.b false) (r_pick_f rfl rfl) ?_
          refine O_nil ?_
          refine C_cond (x := false) rfl (fun h => by cases h) (fun _ => ?_)
          refine C_skip ?_
          refine C_region ?_
          refine O_p (.i .i64 (((i : Nat)) : Int)) (r_mv hT10) ?_
          refine O_p (.i .i64 ((((i : Nat)) : Int) + 1)) (by exact (r_addi rfl rfl (wrap_i64 (by omega) (by omega)))) ?_
          refine O_p (.i .i64 ((((i : Nat)) : Int) + 1)) (r_mv rfl) ?_
          refine O_nil ?_
          exact ⟨ol.length - (i + 1), by omega, (i + 1), rfl, by omega, hp8, hH11, hT9, rfl⟩
    ·
      try simp only [decide_eq_true_eq, decide_eq_false_iff_not, Bool.not_eq_true', Bool.not_eq_false', Bool.and_eq_true, Bool.or_eq_true, Bool.or_eq_false_iff, Bool.not_not, Bool.and_eq_false_iff] at hc12
      refine C_exit ?_
      refine nx_exit ?_
      refine nx_exit ?_
      refine bk_hit ?_
      refine C_seq ?_
      refine C_region ?_
      refine O_p (.b true) (r_mv rfl) ?_
      refine O_nil ?_
      refine C_ret ?_
      exact ⟨.inr rfl, _, resL_one (r_tmp (v := (.b true)) rfl), true, rfl, fun _ => hp8, hH11⟩
def Re.step (s : Re) (o : Op9) : Re :=
  if o.what = 0 then (s.join o.p).1 else if o.what = 1 then (s.leave o.p).1 else if o.what = 2 then (s.subs o.p o.tp o.mode).1 else if o.what = 3 then (s.drop o.p o.tp).1 else if o.what = 4 then (s.pub o.p o.tp o.tx o.d).1 else (s.pull o.p).1
theorem Re.inv.step {N : Nat} {s : Re} {o : Op9} (h : s.inv N) : (s.step o).inv (N + 1) := by
  have hm := h.mono (Nat.le_succ N)
  unfold Re.step
  repeat' split
  · exact hm.join
  · exact hm.leave
  · exact hm.subs
  · exact hm.drop
  · exact h.pub
  · exact hm.pull
theorem Re.okS.step {N : Nat} {s : Re} {o : Op9} (h : s.okS N) : (s.step o).okS (N + 1) := by
  have hm := h.mono (Nat.le_succ N)
  unfold Re.step
  repeat' split
  · exact hm.join
  · exact hm.leave
  · exact hm.subs
  · exact hm.drop
  · exact h.pub
  · exact hm.pull
theorem r_bneqq {x y : XO} {T : Tm} {H : AH} {c : CallF} {a : Bool} (hx : x.ev T = .b a) (hy : y.ev T = .b a) : (XOp.beq true x y).run c T H = some (.b false, H) := by rw [r_beq hx hy]; simp
theorem flatMap_nil {α β : Type} {f : α → List β} {a : α} (h : f a = []) : ∀ n, (List.replicate n a).flatMap f = []
  | 0 => rfl
  | n + 1 => by rw [List.replicate_succ, List.flatMap_cons, h, flatMap_nil h n]; rfl
theorem rl_new {F Lb cm n room : Nat} {R : HL} {H : AH} (hH : Hs H ([(F, some (.cells [.sl (some (Lb, 0)) n n 0, .i .i64 ((room : Nat) : Int), .m (some cm)] true))] ++ ([(Lb, some (.cells (List.replicate n zrow).flatten true))] ++ ([(cm, some (.map [] 0))] ++ R)))) : ∃ L, Rl F ⟨List.replicate n pa0, room, []⟩ [] L ∧ Hs H (L ++ R) := by
  refine ⟨_, ⟨Lb, cm, _, List.replicate n pc0, by rw [List.map_replicate]; rfl, fun p hp => by rw [List.eq_of_mem_replicate hp]; exact pc0_ok _, Mb.nil, rfl⟩, ?_⟩
  rw [List.length_replicate, List.map_replicate, flatMap_nil (f := Pc.seg) (a := pc0) rfl, List.append_assoc, List.append_assoc, List.append_assoc]
  exact hH
theorem rr_new {F Pb n room : Nat} {B R : HL} {H : AH} (hH : Hs H ([(F, some (.cells [.sl (some (Pb, 0)) n n 0, .i .i64 ((room : Nat) : Int), .sl none 0 0 0] true))] ++ ([(Pb, some (.cells (List.replicate n (rrow false (.sl none 0 0 0) (.sl none 0 0 0) 0)).flatten true))] ++ R))) : ∃ L, Rr F ⟨List.replicate n pa0, room, []⟩ B L ∧ Hs H (L ++ R) := by
  refine ⟨_, ⟨Pb, .sl none 0 0 0, [], List.replicate n rp0, by rw [List.map_replicate]; rfl, fun p hp => by rw [List.eq_of_mem_replicate hp]; exact rp0_ok _, Sq.nil, rfl⟩, ?_⟩
  rw [List.length_replicate, List.map_replicate, flatMap_nil (f := Rp.seg) (a := rp0) rfl, List.append_assoc, List.append_assoc, List.append_assoc]
  exact hH

set_option maxHeartbeats 4000000 in
theorem step_ev {H : AH} {H0 : AH} {R L D T : HL} {F Ft N : Nat} {s : Re} {o : Op9} {ri : List AV} (hR : Rl F s D L) (hT : Rr Ft s (allL H0) T) (hI : s.inv N) (hS : s.okS N) (hN : N ≤ 10000) (hor : OpRow (allL H0) ri o) (hH0 : Hs H (L ++ (D ++ (T ++ ((allL H0) ++ R))))) : Ev tabA spA (.fn (.func 24) [] []) [.p (some (F, 0)), .p (some (Ft, 0)), .agg ri] H (fun r H' => ∃ L' D' T', r = .b true ∧ Rl F (s.step o) D' L' ∧ Rr Ft (s.step o) (allL H0) T' ∧ Hs H' (L' ++ (D' ++ (T' ++ ((allL H0) ++ R))))) := by
  refine Ev_C (F := x24) rfl ?_
  obtain ⟨oa, oc, rfl, hoc, hom, hob⟩ := hor
  refine C_seq ?_
  refine C_region ?_
  refine O_box (z := [(.i .i64 o.what), (.i .i64 o.p), (.i .i64 o.mode), (.s (txt o.tp)), (.b o.tx), (.sl oa o.d.length oc 0)]) rfl fun n1 H2 hN3 => ?_
  have hH4 := hH0.new hN3
  refine O_p (.b false) (r_mv rfl) ?_
  refine O_nil ?_
  refine C_seq ?_
  refine C_seq ?_
  refine C_region ?_
  refine O_p (.p (some (n1, 0))) (r_fadd' rfl rfl) ?_
  refine O_p (.i .i64 o.what) (r_ld rfl hH4.get0 rfl) ?_
  refine O_nil ?_
  refine C_block ?_
  refine C_seq ?_
  refine C_region ?_
  refine O_p (.b (decide (o.what = 0))) (r_eql rfl rfl) ?_
  refine O_p (.b (decide (o.what = 0))) (r_mv rfl) ?_
  refine O_nil ?_
  refine C_cond (x := (decide (o.what = 0))) rfl (fun hc5 => ?_) (fun hc5 => ?_)
  ·
    try simp only [decide_eq_true_eq, decide_eq_false_iff_not, Bool.not_eq_true', Bool.not_eq_false', Bool.and_eq_true, Bool.or_eq_true, Bool.or_eq_false_iff, Bool.not_not, Bool.and_eq_false_iff] at hc5
    refine C_seq ?_
    refine C_draw fun b6 H7 hbase8 hA9 => ?_
    have hH10 := hH4.keep (by have := hA9.1; omega) (fun q _ => hA9.2 q) ((hH4.old).aside hA9).ok
    refine D_l (v := (.p (some (F, 0)))) rfl rfl rfl (r_mv rfl) ?_
    refine D_l (v := (.p (some (n1, 1)))) rfl rfl rfl (r_fadd' rfl rfl) ?_
    refine D_l (v := (.p (some (Ft, 0)))) rfl rfl rfl (r_mv rfl) ?_
    refine D_l (v := (.p (some (n1, 1)))) rfl rfl rfl (r_fadd' rfl rfl) ?_
    refine D_r (v := (.i .i64 o.p)) rfl rfl rfl (r_ld rfl hH10.get0 rfl) ?_
    refine D_r (v := (.i .i64 o.p)) rfl rfl rfl (r_ld rfl hH10.get0 rfl) ?_
    have hH11 := (hH10.top1)
    refine D_call (Ev.mono (rl_join hR hH11) fun v12 H13 hq14 => ?_)
    obtain ⟨L15, rfl, hR16, hH17⟩ := hq14
    refine And.intro (And.intro (Or.inr (look_run rfl rfl (r_ld rfl hH17.get1 rfl))) (And.intro (Or.inl rfl) True.intro)) ?_
    have hH18 := (hH17.top3)
    refine D_call (Ev.mono (rr_join hT  hH18) fun v19 H20 hq21 => ?_)
    obtain ⟨T22, rfl, hT23, hH24⟩ := hq21
    refine And.intro (And.intro (Or.inl rfl) True.intro) ?_
    refine D_l (v := (.b true)) rfl rfl rfl (r_eqq rfl rfl) ?_
    refine D_l (v := (.b true)) rfl rfl rfl (r_mv rfl) ?_
    refine D_nil ?_
    refine C_ret ?_
    refine bk_ret ?_
    refine nx_ret ?_
    have hH25 := (hH24.sub2)
    have hH26 := ((((hH25.top3).top1).top3).top3)
    have hes : Re.step s o = (s.join o.p).1 := by unfold Re.step; rw [if_pos hc5]
    exact ⟨.inr rfl, _, resL_one (r_tmp (v := (.b true)) rfl), L15, D, T22, rfl, by rw [hes]; exact hR16, by rw [hes]; exact hT23, hH26⟩
  ·
    try simp only [decide_eq_true_eq, decide_eq_false_iff_not, Bool.not_eq_true', Bool.not_eq_false', Bool.and_eq_true, Bool.or_eq_true, Bool.or_eq_false_iff, Bool.not_not, Bool.and_eq_false_iff] at hc5
    refine C_seq ?_
    refine C_region ?_
    refine O_p (.b (decide (o.what = 1))) (r_eql rfl rfl) ?_
    refine O_p (.b (decide (o.what = 1))) (r_mv rfl) ?_
    refine O_nil ?_
    refine C_cond (x := (decide (o.what = 1))) rfl (fun hc27 => ?_) (fun hc27 => ?_)
    ·
      try simp only [decide_eq_true_eq, decide_eq_false_iff_not, Bool.not_eq_true', Bool.not_eq_false', Bool.and_eq_true, Bool.or_eq_true, Bool.or_eq_false_iff, Bool.not_not, Bool.and_eq_false_iff] at hc27
      refine C_seq ?_
      refine C_draw fun b28 H29 hbase30 hA31 => ?_
      have hH32 := hH4.keep (by have := hA31.1; omega) (fun q _ => hA31.2 q) ((hH4.old).aside hA31).ok
      refine D_l (v := (.p (some (F, 0)))) rfl rfl rfl (r_mv rfl) ?_
      refine D_l (v := (.p (some (n1, 1)))) rfl rfl rfl (r_fadd' rfl rfl) ?_
      refine D_l (v := (.p (some (Ft, 0)))) rfl rfl rfl (r_mv rfl) ?_
      refine D_l (v := (.p (some (n1, 1)))) rfl rfl rfl (r_fadd' rfl rfl) ?_
      refine D_r (v := (.i .i64 o.p)) rfl rfl rfl (r_ld rfl hH32.get0 rfl) ?_
      refine D_r (v := (.i .i64 o.p)) rfl rfl rfl (r_ld rfl hH32.get0 rfl) ?_
      have hH33 := (hH32.top1)
      refine D_call (Ev.mono (rl_leave hR hH33) fun v34 H35 hq36 => ?_)
      obtain ⟨L37, rfl, hR38, hH39⟩ := hq36
      refine And.intro (And.intro (Or.inr (look_run rfl rfl (r_ld rfl hH39.get1 rfl))) (And.intro (Or.inl rfl) True.intro)) ?_
      have hH40 := (hH39.top3)
      refine D_call (Ev.mono (rr_leave hT  hH40) fun v41 H42 hq43 => ?_)
      obtain ⟨T44, rfl, hT45, hH46⟩ := hq43
      refine And.intro (And.intro (Or.inl rfl) True.intro) ?_
      refine D_l (v := (.b true)) rfl rfl rfl (r_eqq rfl rfl) ?_
      refine D_l (v := (.b true)) rfl rfl rfl (r_mv rfl) ?_
      refine D_nil ?_
      refine C_ret ?_
      refine bk_ret ?_
      refine nx_ret ?_
      have hH47 := (hH46.sub2)
      have hH48 := ((((hH47.top3).top1).top3).top3)
      have hes : Re.step s o = (s.leave o.p).1 := by unfold Re.step; rw [if_neg hc5, if_pos hc27]
      exact ⟨.inr rfl, _, resL_one (r_tmp (v := (.b true)) rfl), L37, D, T44, rfl, by rw [hes]; exact hR38, by rw [hes]; exact hT45, hH48⟩
    ·
      try simp only [decide_eq_true_eq, decide_eq_false_iff_not, Bool.not_eq_true', Bool.not_eq_false', Bool.and_eq_true, Bool.or_eq_true, Bool.or_eq_false_iff, Bool.not_not, Bool.and_eq_false_iff] at hc27
      refine C_seq ?_
      refine C_region ?_
      refine O_p (.b (decide (o.what = 2))) (r_eql rfl rfl) ?_
      refine O_p (.b (decide (o.what = 2))) (r_mv rfl) ?_
      refine O_nil ?_
      refine C_cond (x := (decide (o.what = 2))) rfl (fun hc49 => ?_) (fun hc49 => ?_)
      ·
        try simp only [decide_eq_true_eq, decide_eq_false_iff_not, Bool.not_eq_true', Bool.not_eq_false', Bool.and_eq_true, Bool.or_eq_true, Bool.or_eq_false_iff, Bool.not_not, Bool.and_eq_false_iff] at hc49
        refine C_seq ?_
        refine C_draw fun b50 H51 hbase52 hA53 => ?_
        have hH54 := hH4.keep (by have := hA53.1; omega) (fun q _ => hA53.2 q) ((hH4.old).aside hA53).ok
        refine D_l (v := (.p (some (F, 0)))) rfl rfl rfl (r_mv rfl) ?_
        refine D_l (v := (.p (some (n1, 1)))) rfl rfl rfl (r_fadd' rfl rfl) ?_
        refine D_l (v := (.p (some (n1, 3)))) rfl rfl rfl (r_fadd' rfl rfl) ?_
        refine D_l (v := (.p (some (n1, 2)))) rfl rfl rfl (r_fadd' rfl rfl) ?_
        refine D_l (v := (.p (some (Ft, 0)))) rfl rfl rfl (r_mv rfl) ?_
        refine D_l (v := (.p (some (n1, 1)))) rfl rfl rfl (r_fadd' rfl rfl) ?_
        refine D_l (v := (.p (some (n1, 3)))) rfl rfl rfl (r_fadd' rfl rfl) ?_
        refine D_l (v := (.p (some (n1, 2)))) rfl rfl rfl (r_fadd' rfl rfl) ?_
        refine D_r (v := (.i .i64 o.p)) rfl rfl rfl (r_ld rfl hH54.get0 rfl) ?_
        refine D_r (v := (.s (txt o.tp))) rfl rfl rfl (r_ld rfl hH54.get0 rfl) ?_
        refine D_r (v := (.i .i64 o.mode)) rfl rfl rfl (r_ld rfl hH54.get0 rfl) ?_
        refine D_r (v := (.i .i64 o.p)) rfl rfl rfl (r_ld rfl hH54.get0 rfl) ?_
        refine D_r (v := (.s (txt o.tp))) rfl rfl rfl (r_ld rfl hH54.get0 rfl) ?_
        refine D_r (v := (.i .i64 o.mode)) rfl rfl rfl (r_ld rfl hH54.get0 rfl) ?_
        have hH55 := (hH54.top1)
        refine D_call (Ev.mono (rl_subs hR hH55) fun v56 H57 hq58 => ?_)
        obtain ⟨L59, rfl, hR60, hH61⟩ := hq58
        refine And.intro (And.intro (Or.inr (look_run rfl rfl (r_ld rfl hH61.get1 rfl))) (And.intro (Or.inr (look_run rfl rfl (r_ld rfl hH61.get1 rfl))) (And.intro (Or.inr (look_run rfl rfl (r_ld rfl hH61.get1 rfl))) (And.intro (Or.inl rfl) (And.intro (Or.inl rfl) (And.intro (Or.inl rfl) True.intro)))))) ?_
        have hH62 := (hH61.top3)
        refine D_call (Ev.mono (rr_subs hT hS hH62) fun v63 H64 hq65 => ?_)
        obtain ⟨T66, rfl, hT67, hH68⟩ := hq65
        refine And.intro (And.intro (Or.inl rfl) (And.intro (Or.inl rfl) (And.intro (Or.inl rfl) True.intro))) ?_
        refine D_l (v := (.b true)) rfl rfl rfl (r_eqq rfl rfl) ?_
        refine D_l (v := (.b true)) rfl rfl rfl (r_mv rfl) ?_
        refine D_nil ?_
        refine C_ret ?_
        refine bk_ret ?_
        refine nx_ret ?_
        have hH69 := (hH68.sub2)
        have hH70 := ((((hH69.top3).top1).top3).top3)
        have hes : Re.step s o = (s.subs o.p o.tp o.mode).1 := by unfold Re.step; rw [if_neg hc5, if_neg hc27, if_pos hc49]
        exact ⟨.inr rfl, _, resL_one (r_tmp (v := (.b true)) rfl), L59, D, T66, rfl, by rw [hes]; exact hR60, by rw [hes]; exact hT67, hH70⟩
      ·
        try simp only [decide_eq_true_eq, decide_eq_false_iff_not, Bool.not_eq_true', Bool.not_eq_false', Bool.and_eq_true, Bool.or_eq_true, Bool.or_eq_false_iff, Bool.not_not, Bool.and_eq_false_iff] at hc49
        refine C_seq ?_
        refine C_region ?_
        refine O_p (.b (decide (o.what = 3))) (r_eql rfl rfl) ?_
        refine O_p (.b (decide (o.what = 3))) (r_mv rfl) ?_
        refine O_nil ?_
        refine C_cond (x := (decide (o.what = 3))) rfl (fun hc71 => ?_) (fun hc71 => ?_)
        ·
          try simp only [decide_eq_true_eq, decide_eq_false_iff_not, Bool.not_eq_true', Bool.not_eq_false', Bool.and_eq_true, Bool.or_eq_true, Bool.or_eq_false_iff, Bool.not_not, Bool.and_eq_false_iff] at hc71
          refine C_seq ?_
          refine C_draw fun b72 H73 hbase74 hA75 => ?_
          have hH76 := hH4.keep (by have := hA75.1; omega) (fun q _ => hA75.2 q) ((hH4.old).aside hA75).ok
          refine D_l (v := (.p (some (F, 0)))) rfl rfl rfl (r_mv rfl) ?_
          refine D_l (v := (.p (some (n1, 1)))) rfl rfl rfl (r_fadd' rfl rfl) ?_
          refine D_l (v := (.p (some (n1, 3)))) rfl rfl rfl (r_fadd' rfl rfl) ?_
          refine D_l (v := (.p (some (Ft, 0)))) rfl rfl rfl (r_mv rfl) ?_
          refine D_l (v := (.p (some (n1, 1)))) rfl rfl rfl (r_fadd' rfl rfl) ?_
          refine D_l (v := (.p (some (n1, 3)))) rfl rfl rfl (r_fadd' rfl rfl) ?_
          refine D_r (v := (.i .i64 o.p)) rfl rfl rfl (r_ld rfl hH76.get0 rfl) ?_
          refine D_r (v := (.s (txt o.tp))) rfl rfl rfl (r_ld rfl hH76.get0 rfl) ?_
          refine D_r (v := (.i .i64 o.p)) rfl rfl rfl (r_ld rfl hH76.get0 rfl) ?_
          refine D_r (v := (.s (txt o.tp))) rfl rfl rfl (r_ld rfl hH76.get0 rfl) ?_
          have hH77 := (hH76.top1)
          refine D_call (Ev.mono (rl_drop hR (fun a ha => Nat.le_trans (hI.pa a ha).w (Nat.le_trans hI.room.2 (by decide))) hH77) fun v78 H79 hq80 => ?_)
          obtain ⟨L81, rfl, hR82, hH83⟩ := hq80
          refine And.intro (And.intro (Or.inr (look_run rfl rfl (r_ld rfl hH83.get1 rfl))) (And.intro (Or.inr (look_run rfl rfl (r_ld rfl hH83.get1 rfl))) (And.intro (Or.inl rfl) (And.intro (Or.inl rfl) True.intro)))) ?_
          have hH84 := (hH83.top3)
          refine D_call (Ev.mono (rr_drop hT hS (fun a ha => Nat.le_trans (hI.pa a ha).w (Nat.le_trans hI.room.2 (by decide))) hH84) fun v85 H86 hq87 => ?_)
          obtain ⟨T88, rfl, hT89, hH90⟩ := hq87
          refine And.intro (And.intro (Or.inl rfl) (And.intro (Or.inl rfl) True.intro)) ?_
          refine D_l (v := (.b true)) rfl rfl rfl (r_eqq rfl rfl) ?_
          refine D_l (v := (.b true)) rfl rfl rfl (r_mv rfl) ?_
          refine D_nil ?_
          refine C_ret ?_
          refine bk_ret ?_
          refine nx_ret ?_
          have hH91 := (hH90.sub2)
          have hH92 := ((((hH91.top3).top1).top3).top3)
          have hes : Re.step s o = (s.drop o.p o.tp).1 := by unfold Re.step; rw [if_neg hc5, if_neg hc27, if_neg hc49, if_pos hc71]
          exact ⟨.inr rfl, _, resL_one (r_tmp (v := (.b true)) rfl), L81, D, T88, rfl, by rw [hes]; exact hR82, by rw [hes]; exact hT89, hH92⟩
        ·
          try simp only [decide_eq_true_eq, decide_eq_false_iff_not, Bool.not_eq_true', Bool.not_eq_false', Bool.and_eq_true, Bool.or_eq_true, Bool.or_eq_false_iff, Bool.not_not, Bool.and_eq_false_iff] at hc71
          refine C_seq ?_
          refine C_region ?_
          refine O_p (.b (decide (o.what = 4))) (r_eql rfl rfl) ?_
          refine O_p (.b (decide (o.what = 4))) (r_mv rfl) ?_
          refine O_nil ?_
          refine C_cond (x := (decide (o.what = 4))) rfl (fun hc93 => ?_) (fun hc93 => ?_)
          ·
            try simp only [decide_eq_true_eq, decide_eq_false_iff_not, Bool.not_eq_true', Bool.not_eq_false', Bool.and_eq_true, Bool.or_eq_true, Bool.or_eq_false_iff, Bool.not_not, Bool.and_eq_false_iff] at hc93
            refine C_seq ?_
            refine C_region ?_
            refine O_p (.p (some (F, 0))) (r_mv rfl) ?_
            refine O_p (.p (some (n1, 1))) (r_fadd' rfl rfl) ?_
            refine O_p (.i .i64 o.p) (r_ld rfl hH4.get0 rfl) ?_
            refine O_p (.p (some (n1, 3))) (r_fadd' rfl rfl) ?_
            refine O_p (.s (txt o.tp)) (r_ld rfl hH4.get0 rfl) ?_
            refine O_p (.p (some (n1, 4))) (r_fadd' rfl rfl) ?_
            refine O_p (.b o.tx) (r_ld rfl hH4.get0 rfl) ?_
            refine O_p (.p (some (n1, 5))) (r_fadd' rfl rfl) ?_
            refine O_p (.sl oa o.d.length oc 0) (r_ld rfl hH4.get0 rfl) ?_
            have hH94 := (((hH4.top4).top3).top3)
            have hH95 := (((hH94.top2).top2).top2)
            refine O_call (Ev.mono (rl_pub (N := N) (B := (allL H0)) (dd := o.d) hR hI (by omega) (.inl rfl) hoc hom hob hH95) fun v96 H97 hq98 => ?_)
            obtain ⟨L99, D100, rfl, hR101, hmon102, hH103⟩ := hq98
            refine O_p (.tup [(.i .i64 ((((s.pub o.p o.tp o.tx o.d).2.1 : Nat)) : Int)), (.i .i64 (s.pub o.p o.tp o.tx o.d).2.2)]) (r_mv rfl) ?_
            refine O_p (.i .i64 ((((s.pub o.p o.tp o.tx o.d).2.1 : Nat)) : Int)) (r_ext rfl rfl) ?_
            refine O_p (.i .i64 (s.pub o.p o.tp o.tx o.d).2.2) (r_ext rfl rfl) ?_
            refine O_p (.i .i64 ((((s.pub o.p o.tp o.tx o.d).2.1 : Nat)) : Int)) (r_mv rfl) ?_
            refine O_p (.i .i64 (s.pub o.p o.tp o.tx o.d).2.2) (r_mv rfl) ?_
            refine O_nil ?_
            refine C_seq ?_
            refine C_region ?_
            refine O_p (.p (some (Ft, 0))) (r_mv rfl) ?_
            refine O_p (.p (some (n1, 1))) (r_fadd' rfl rfl) ?_
            refine O_p (.i .i64 o.p) (r_ld rfl hH103.get3 rfl) ?_
            refine O_p (.p (some (n1, 3))) (r_fadd' rfl rfl) ?_
            refine O_p (.s (txt o.tp)) (r_ld rfl hH103.get3 rfl) ?_
            refine O_p (.p (some (n1, 4))) (r_fadd' rfl rfl) ?_
            refine O_p (.b o.tx) (r_ld rfl hH103.get3 rfl) ?_
            refine O_p (.p (some (n1, 5))) (r_fadd' rfl rfl) ?_
            refine O_p (.sl oa o.d.length oc 0) (r_ld rfl hH103.get3 rfl) ?_
            have hH104 := (hH103.top4)
            refine O_call (Ev.mono (rr_pub (N := N) (B := (allL H0)) (dd := o.d) hT hI hS (by omega) (.inl rfl) hoc hom hob hH104) fun v105 H106 hq107 => ?_)
            obtain ⟨T108, rfl, hT109, hH110⟩ := hq107
            refine O_p (.tup [(.i .i64 ((((s.pub o.p o.tp o.tx o.d).2.1 : Nat)) : Int)), (.i .i64 (s.pub o.p o.tp o.tx o.d).2.2)]) (r_mv rfl) ?_
            refine O_p (.i .i64 ((((s.pub o.p o.tp o.tx o.d).2.1 : Nat)) : Int)) (r_ext rfl rfl) ?_
            refine O_p (.i .i64 (s.pub o.p o.tp o.tx o.d).2.2) (r_ext rfl rfl) ?_
            refine O_p (.i .i64 ((((s.pub o.p o.tp o.tx o.d).2.1 : Nat)) : Int)) (r_mv rfl) ?_
            refine O_p (.i .i64 (s.pub o.p o.tp o.tx o.d).2.2) (r_mv rfl) ?_
            refine O_nil ?_
            refine C_seq ?_
            refine C_region ?_
            refine O_p (.i .i64 ((((s.pub o.p o.tp o.tx o.d).2.1 : Nat)) : Int)) (r_mv rfl) ?_
            refine O_p (.i .i64 ((((s.pub o.p o.tp o.tx o.d).2.1 : Nat)) : Int)) (r_mv rfl) ?_
            refine O_p (.b true) (r_eqq rfl rfl) ?_
            refine O_p (.b true) (r_mv rfl) ?_
            refine O_gk rfl ?_
            refine O_p (.i .i64 (s.pub o.p o.tp o.tx o.d).2.2) (r_mv rfl) ?_
            refine O_gk rfl ?_
            refine O_p (.i .i64 (s.pub o.p o.tp o.tx o.d).2.2) (r_mv rfl) ?_
            refine O_gk rfl ?_
            refine O_p (.b true) (r_eqq rfl rfl) ?_
            refine O_p (.b true) (r_pick_t rfl rfl) ?_
            refine O_p (.b true) (r_mv rfl) ?_
            refine O_nil ?_
            refine C_ret ?_
            refine bk_ret ?_
            refine nx_ret ?_
            have hH111 := (hH110.sub4)
            have hH112 := ((((hH111.top3).top1).top3).top3)
            have hes : Re.step s o = (s.pub o.p o.tp o.tx o.d).1 := by unfold Re.step; rw [if_neg hc5, if_neg hc27, if_neg hc49, if_neg hc71, if_pos hc93]
            exact ⟨.inr rfl, _, resL_one (r_tmp (v := (.b true)) rfl), L99, D100, T108, rfl, by rw [hes]; exact hR101, by rw [hes]; exact hT109, hH112⟩
          ·
            try simp only [decide_eq_true_eq, decide_eq_false_iff_not, Bool.not_eq_true', Bool.not_eq_false', Bool.and_eq_true, Bool.or_eq_true, Bool.or_eq_false_iff, Bool.not_not, Bool.and_eq_false_iff] at hc93
            refine C_skip ?_
            refine C_seq ?_
            refine C_region ?_
            refine O_p (.p (some (F, 0))) (r_mv rfl) ?_
            refine O_p (.p (some (n1, 1))) (r_fadd' rfl rfl) ?_
            refine O_p (.i .i64 o.p) (r_ld rfl hH4.get0 rfl) ?_
            have hH113 := (hH4.top1)
            refine O_call (Ev.mono (rl_pullx hR hH113) fun v114 H115 hq116 => ?_)
            obtain ⟨L117, rw120, rfl, hit1, hR118, hH119⟩ := hq116
            have hitb1 := hit1
            obtain ⟨ia1, ic1, ig1, rfl, _⟩ := hitb1
            refine O_p (.tup [(.agg [(.s (txt (s.pullx o.p).1.tp)), (.i .i64 (s.pullx o.p).1.frm), (.i .i64 (s.pullx o.p).1.num), (.b (s.pullx o.p).1.tx), (.sl ia1 (s.pullx o.p).1.d.length ic1 ig1)]), (.b (s.pullx o.p).2)]) (r_mv rfl) ?_
            refine O_p (.agg [(.s (txt (s.pullx o.p).1.tp)), (.i .i64 (s.pullx o.p).1.frm), (.i .i64 (s.pullx o.p).1.num), (.b (s.pullx o.p).1.tx), (.sl ia1 (s.pullx o.p).1.d.length ic1 ig1)]) (r_ext rfl rfl) ?_
            refine O_p (.b (s.pullx o.p).2) (r_ext rfl rfl) ?_
            refine O_alloc fun n121 H122 hN123 => ?_
            have hH124 := hH119.new hN123
            refine O_store (vs := [(.s (txt (s.pullx o.p).1.tp)), (.i .i64 (s.pullx o.p).1.frm), (.i .i64 (s.pullx o.p).1.num), (.b (s.pullx o.p).1.tx), (.sl ia1 (s.pullx o.p).1.d.length ic1 ig1)]) (c' := [(.s (txt (s.pullx o.p).1.tp)), (.i .i64 (s.pullx o.p).1.frm), (.i .i64 (s.pullx o.p).1.num), (.b (s.pullx o.p).1.tx), (.sl ia1 (s.pullx o.p).1.d.length ic1 ig1)]) rfl (by rfl) hH124.get0 rfl (List.cons_ne_nil _ _) (Nat.le_of_ble_eq_true rfl) rfl fun H125 hW126 => ?_
            have hH127 := hH124.wr0 hW126
            refine O_p (.b (s.pullx o.p).2) (r_mv rfl) ?_
            refine O_nil ?_
            refine C_seq ?_
            refine C_region ?_
            refine O_p (.p (some (Ft, 0))) (r_mv rfl) ?_
            refine O_p (.p (some (n1, 1))) (r_fadd' rfl rfl) ?_
            refine O_p (.i .i64 o.p) (r_ld rfl hH127.get2 rfl) ?_
            have hH128 := (hH127.top4)
            refine O_call (Ev.mono (rr_pull hT hH128) fun v129 H130 hq131 => ?_)
            obtain ⟨L132, rw135, rfl, hit2, hR133, hH134⟩ := hq131
            have hitb2 := hit2
            obtain ⟨ia2, ic2, ig2, rfl, _⟩ := hitb2
            refine O_p (.tup [(.agg [(.s (txt (s.pullx o.p).1.tp)), (.i .i64 (s.pullx o.p).1.frm), (.i .i64 (s.pullx o.p).1.num), (.b (s.pullx o.p).1.tx), (.sl ia2 (s.pullx o.p).1.d.length ic2 ig2)]), (.b (s.pullx o.p).2)]) (r_mv rfl) ?_
            refine O_p (.agg [(.s (txt (s.pullx o.p).1.tp)), (.i .i64 (s.pullx o.p).1.frm), (.i .i64 (s.pullx o.p).1.num), (.b (s.pullx o.p).1.tx), (.sl ia2 (s.pullx o.p).1.d.length ic2 ig2)]) (r_ext rfl rfl) ?_
            refine O_p (.b (s.pullx o.p).2) (r_ext rfl rfl) ?_
            refine O_alloc fun n136 H137 hN138 => ?_
            have hH139 := hH134.new hN138
            refine O_store (vs := [(.s (txt (s.pullx o.p).1.tp)), (.i .i64 (s.pullx o.p).1.frm), (.i .i64 (s.pullx o.p).1.num), (.b (s.pullx o.p).1.tx), (.sl ia2 (s.pullx o.p).1.d.length ic2 ig2)]) (c' := [(.s (txt (s.pullx o.p).1.tp)), (.i .i64 (s.pullx o.p).1.frm), (.i .i64 (s.pullx o.p).1.num), (.b (s.pullx o.p).1.tx), (.sl ia2 (s.pullx o.p).1.d.length ic2 ig2)]) rfl (by rfl) hH139.get0 rfl (List.cons_ne_nil _ _) (Nat.le_of_ble_eq_true rfl) rfl fun H140 hW141 => ?_
            have hH142 := hH139.wr0 hW141
            refine O_p (.b (s.pullx o.p).2) (r_mv rfl) ?_
            refine O_nil ?_
            refine C_seq ?_
            refine C_region ?_
            refine O_p (.agg [(.s (txt (s.pullx o.p).1.tp)), (.i .i64 (s.pullx o.p).1.frm), (.i .i64 (s.pullx o.p).1.num), (.b (s.pullx o.p).1.tx), (.sl ia1 (s.pullx o.p).1.d.length ic1 ig1)]) (r_ldA rfl hH142.get2 rfl) ?_
            refine O_p (.agg [(.s (txt (s.pullx o.p).1.tp)), (.i .i64 (s.pullx o.p).1.frm), (.i .i64 (s.pullx o.p).1.num), (.b (s.pullx o.p).1.tx), (.sl ia2 (s.pullx o.p).1.d.length ic2 ig2)]) (r_ldA rfl hH142.get0 rfl) ?_
            have hH143 := ((hH142.top6).top6)
            have hH144 := ((hH143.top1).top1)
            refine O_call (Ev.mono (alike_ev hit1 hit2 hH144) fun v145 H146 hq147 => ?_)
            obtain ⟨rfl, hH148⟩ := hq147
            refine O_p (.b true) (r_mv rfl) ?_
            refine O_gk rfl ?_
            refine O_p (.b (s.pullx o.p).2) (r_mv rfl) ?_
            refine O_gk rfl ?_
            refine O_p (.b (s.pullx o.p).2) (r_mv rfl) ?_
            refine O_gk rfl ?_
            refine O_p (.b true) (r_beqq rfl rfl) ?_
            refine O_p (.b true) (r_pick_t rfl rfl) ?_
            refine O_p (.b true) (r_mv rfl) ?_
            refine O_nil ?_
            refine C_ret ?_
            have hH149 := (((hH148.sub2).sub3).sub4)
            have hH150 := ((((hH149.top1).top2).top2).top3)
            have hes : Re.step s o = (s.pull o.p).1 := by unfold Re.step; rw [if_neg hc5, if_neg hc27, if_neg hc49, if_neg hc71, if_neg hc93]
            exact ⟨.inr rfl, _, resL_one (r_tmp (v := (.b true)) rfl), L117, D, L132, rfl, by rw [hes]; exact hR118, by rw [hes]; exact hR133, hH150⟩
end Go.Proofs.Ytnkpmidfefilbaa.E
