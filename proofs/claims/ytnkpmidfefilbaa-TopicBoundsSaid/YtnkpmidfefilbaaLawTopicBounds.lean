/- TopicBounds, for every input, without conditions. -/
import Derived.Test.YtnkpmidfefilbaaAA
import Derived.Test.YtnkpmidfefilbaaRows
import Derived.ProofKit
import Derived.OpenShut
namespace Go.Proofs.Ytnkpmidfefilbaa.E
open Go.RowKit (Below)
set_option linter.unusedVariables false
set_option linter.unusedSimpArgs false
structure Op9 where
  what : Int
  p : Int
  mode : Int
  tp : List UInt8
  tx : Bool
  d : List UInt8
def OpRow (B : HL) (r : List AV) (o : Op9) : Prop := ∃ (a : Option (Nat × Nat)) (cap : Nat), r = [.i .i64 o.what, .i .i64 o.p, .i .i64 o.mode, .s (txt o.tp), .b o.tx, .sl a o.d.length cap 0] ∧ o.d.length ≤ cap ∧ cap ≤ 9223372036854775807 ∧ ∀ H', Hs H' B → Bs H' (.sl a o.d.length cap 0) o.d
def OpsR (B : HL) (rows : List (List AV)) (l : List Op9) : Prop := rows.length = l.length ∧ ∀ (i : Nat) (o : Op9), l[i]? = some o → ∃ r, rows[i]? = some r ∧ OpRow B r o
theorem OpsR.get {B : HL} {rows : List (List AV)} {l : List Op9} (h : OpsR B rows l) {i : Nat} (hi : i < l.length) : ∃ o r, l[i]? = some o ∧ rows[i]? = some r ∧ OpRow B r o := by
  obtain ⟨r, h1, h2⟩ := h.2 i _ (List.getElem?_eq_getElem hi)
  exact ⟨_, r, List.getElem?_eq_getElem hi, h1, h2⟩
theorem ops_ex {B : HL} : ∀ {rows : List (List AV)}, (∀ (i : Nat) (r : List AV), rows[i]? = some r → ∃ o, OpRow B r o) → ∃ l : List Op9, OpsR B rows l
  | [], _ => ⟨[], rfl, fun i o h => by simp at h⟩
  | r :: rows, h => by
    obtain ⟨o, ho⟩ := h 0 r rfl
    obtain ⟨l, hl, h2⟩ := ops_ex (rows := rows) fun i r hi => h (i + 1) r (by simpa using hi)
    refine ⟨o :: l, by simp [hl], fun i x hx => ?_⟩
    cases i with
    | zero => simp only [List.getElem?_cons_zero, Option.some.injEq] at hx; subst hx; exact ⟨r, rfl, ho⟩
    | succ i => simp only [List.getElem?_cons_succ] at hx ⊢; exact h2 i x hx
set_option maxHeartbeats 1000000 in
theorem fewO_ev {H : AH} {R : HL} {H0 : AH} {v : AV} {rows : List (List AV)} {ol : List Op9} (hv : ∀ H', Hs H' (allL H0) → Rw 6 H' v rows) (hops : OpsR (allL H0) rows ol) (hH0 : Hs H ((allL H0) ++ R)) : Ev tabA spA (.fn (.func 22) [] []) [v] H (fun r H' => ∃ b : Bool, r = .b b ∧ (b = true → ol.length ≤ 150) ∧ Hs H' ((allL H0) ++ R)) := by
  refine Ev_C (F := x22) rfl ?_
  refine C_seq ?_
  refine C_region ?_
  refine O_p (.b false) (r_mv rfl) ?_
  refine O_nil ?_
  refine C_seq ?_
  refine C_seq ?_
  refine C_region ?_
  refine O_p v (r_mv rfl) ?_
  refine O_p (.i .i64 (((ol.length : Nat)) : Int)) (r_lenOf (v := v) (n := ol.length) rfl ((hv _ hH0.top0.fst).lenOf hops.1) (hv _ hH0.top0.fst).isSl) ?_
  refine O_p (.b (decide (150 < (((ol.length : Nat)) : Int)))) (r_gtr rfl rfl) ?_
  refine O_nil ?_
  refine C_cond (x := (decide (150 < (((ol.length : Nat)) : Int)))) rfl (fun hc1 => ?_) (fun hc1 => ?_)
  ·
    try simp only [decide_eq_true_eq, decide_eq_false_iff_not, Bool.not_eq_true', Bool.not_eq_false', Bool.and_eq_true, Bool.or_eq_true, Bool.or_eq_false_iff, Bool.not_not, Bool.and_eq_false_iff] at hc1
    refine C_seq ?_
    refine C_region ?_
    refine O_p (.b false) (r_mv rfl) ?_
    refine O_nil ?_
    refine C_ret ?_
    refine nx_ret ?_
    exact ⟨.inr rfl, _, resL_one (r_tmp (v := (.b false)) rfl), false, rfl, (fun h => by cases h), hH0⟩
  ·
    try simp only [decide_eq_true_eq, decide_eq_false_iff_not, Bool.not_eq_true', Bool.not_eq_false', Bool.and_eq_true, Bool.or_eq_true, Bool.or_eq_false_iff, Bool.not_not, Bool.and_eq_false_iff] at hc1
    refine C_skip ?_
    refine C_seq ?_
    refine C_seq ?_
    refine C_region ?_
    refine O_p (.i .i64 0) (r_mv rfl) ?_
    refine O_nil ?_
    refine C_block ?_
    refine C_while (fun m2 T3 H4 => ∃ i : Nat, m2 = ol.length - i ∧ i ≤ ol.length ∧ ol.length ≤ 150 ∧ Hs H4 ((allL H0) ++ (R)) ∧ T3.get 0 = v ∧ T3.get 3 = (.i .i64 (((i : Nat)) : Int))) (fun m2 T3 H4 hI5 => ?_) ol.length _ _ ⟨0, rfl, Nat.zero_le _, by omega, hH0, rfl, rfl⟩
    obtain ⟨i, hm6, hp7, hp8, hH11, hT9, hT10⟩ := hI5
    refine C_seq ?_
    refine C_seq ?_
    refine C_region ?_
    refine O_p (.i .i64 (((i : Nat)) : Int)) (r_mv hT10) ?_
    refine O_p v (r_mv hT9) ?_
    refine O_p (.i .i64 (((ol.length : Nat)) : Int)) (r_lenOf (v := v) (n := ol.length) rfl ((hv _ hH11.top0.fst).lenOf hops.1) (hv _ hH11.top0.fst).isSl) ?_
    refine O_p (.b (decide ((((i : Nat)) : Int) < (((ol.length : Nat)) : Int)))) (r_lss rfl rfl) ?_
    refine O_nil ?_
    refine C_cond (x := (decide ((((i : Nat)) : Int) < (((ol.length : Nat)) : Int)))) rfl (fun hc12 => ?_) (fun hc12 => ?_)
    ·
      try simp only [decide_eq_true_eq, decide_eq_false_iff_not, Bool.not_eq_true', Bool.not_eq_false', Bool.and_eq_true, Bool.or_eq_true, Bool.or_eq_false_iff, Bool.not_not, Bool.and_eq_false_iff] at hc12
      refine C_skip ?_
      refine C_seq ?_
      refine C_block ?_
      refine C_seq ?_
      have hil : i < ol.length := by omega
      obtain ⟨o, ri, hoi, hri, hor⟩ := hops.get hil
      obtain ⟨oa, oc, rfl, hoc, hom, hob⟩ := hor
      by_cases htl : 300 < o.tp.length
      ·
        refine C_region ?_
        refine O_p v (r_mv hT9) ?_
        refine O_p (.i .i64 (((i : Nat)) : Int)) (r_mv hT10) ?_
        refine O_q (by exact Rw.row (hv _ hH11.top0.fst) rfl (i := i) rfl (r := [(.i .i64 o.what), (.i .i64 o.p), (.i .i64 o.mode), (.s (txt o.tp)), (.b o.tx), (.sl oa o.d.length oc 0)]) hri) fun v14 hv13 => ?_
        obtain ⟨rb15, ro16, rfl, hr17⟩ := hv13
        refine O_p (.p (some (rb15, (ro16 + 3)))) (r_fadd' rfl rfl) ?_
        refine O_p (.s (txt o.tp)) (r_ldR (q := 3) rfl (hr17 _ (hv _ hH11.top0.fst)) rfl) ?_
        refine O_p (.i .i64 ((((o.tp).length : Nat)) : Int)) (r_lent (l := o.tp) rfl) ?_
        refine O_p (.b true) (by exact (by rw [r_gtr rfl rfl, decide_eq_true (by omega)])) ?_
        refine O_p (.b true) (r_mv rfl) ?_
        refine O_gf rfl ?_
        refine O_gf rfl ?_
        refine O_gf rfl ?_
        refine O_gf rfl ?_
        refine O_gf rfl ?_
        refine O_gf rfl ?_
        refine O_gf rfl ?_
        refine O_gf rfl ?_
        refine O_gu rfl ?_
        refine O_gu rfl ?_
        refine O_gu rfl ?_
        refine O_gu rfl ?_
        refine O_gu rfl ?_
        refine O_gu rfl ?_
        refine O_gu rfl ?_
        refine O_gf rfl ?_
        refine O_p (.b true) (r_pick_t rfl rfl) ?_
        refine O_nil ?_
        refine C_cond (x := true) rfl (fun _ => ?_) (fun h => by cases h)
        refine C_seq ?_
        refine C_region ?_
        refine O_p (.b false) (r_mv rfl) ?_
        refine O_nil ?_
        refine C_ret ?_
        refine bk_ret ?_
        refine nx_ret ?_
        refine nx_ret ?_
        refine bk_ret ?_
        refine nx_ret ?_
        exact ⟨.inr rfl, _, resL_one (r_tmp (v := (.b false)) rfl), false, rfl, (fun h => by cases h), hH11⟩
      ·
        by_cases hdl : 500 < o.d.length
        ·
          refine C_region ?_
          refine O_p v (r_mv hT9) ?_
          refine O_p (.i .i64 (((i : Nat)) : Int)) (r_mv hT10) ?_
          refine O_q (by exact Rw.row (hv _ hH11.top0.fst) rfl (i := i) rfl (r := [(.i .i64 o.what), (.i .i64 o.p), (.i .i64 o.mode), (.s (txt o.tp)), (.b o.tx), (.sl oa o.d.length oc 0)]) hri) fun v19 hv18 => ?_
          obtain ⟨rb20, ro21, rfl, hr22⟩ := hv18
          refine O_p (.p (some (rb20, (ro21 + 3)))) (r_fadd' rfl rfl) ?_
          refine O_p (.s (txt o.tp)) (r_ldR (q := 3) rfl (hr22 _ (hv _ hH11.top0.fst)) rfl) ?_
          refine O_p (.i .i64 ((((o.tp).length : Nat)) : Int)) (r_lent (l := o.tp) rfl) ?_
          refine O_p (.b false) (by exact (by rw [r_gtr rfl rfl, decide_eq_false (by omega)])) ?_
          refine O_p (.b false) (r_mv rfl) ?_
          refine O_gk rfl ?_
          refine O_p v (r_mv hT9) ?_
          refine O_gk rfl ?_
          refine O_p (.i .i64 (((i : Nat)) : Int)) (r_mv hT10) ?_
          refine O_gk rfl ?_
          refine O_q (by exact Rw.row (hv _ hH11.top0.fst) rfl (i := i) rfl (r := [(.i .i64 o.what), (.i .i64 o.p), (.i .i64 o.mode), (.s (txt o.tp)), (.b o.tx), (.sl oa o.d.length oc 0)]) hri) fun v24 hv23 => ?_
          obtain ⟨rb25, ro26, rfl, hr27⟩ := hv23
          refine O_gk rfl ?_
          refine O_p (.p (some (rb25, (ro26 + 5)))) (r_fadd' rfl rfl) ?_
          refine O_gk rfl ?_
          refine O_p (.sl oa o.d.length oc 0) (r_ldR (q := 5) rfl (hr27 _ (hv _ hH11.top0.fst)) rfl) ?_
          refine O_gk rfl ?_
          refine O_p (.i .i64 (((o.d.length : Nat)) : Int)) (r_len rfl) ?_
          refine O_gk rfl ?_
          refine O_p (.b true) (by exact (by rw [r_gtr rfl rfl, decide_eq_true (by omega)])) ?_
          refine O_gk rfl ?_
          refine O_p (.b true) (r_mv rfl) ?_
          refine O_gk rfl ?_
          refine O_p v (r_mv hT9) ?_
          refine O_gk rfl ?_
          refine O_p (.i .i64 (((i : Nat)) : Int)) (r_mv hT10) ?_
          refine O_gk rfl ?_
          refine O_q (by exact Rw.row (hv _ hH11.top0.fst) rfl (i := i) rfl (r := [(.i .i64 o.what), (.i .i64 o.p), (.i .i64 o.mode), (.s (txt o.tp)), (.b o.tx), (.sl oa o.d.length oc 0)]) hri) fun v29 hv28 => ?_
          obtain ⟨rb30, ro31, rfl, hr32⟩ := hv28
          refine O_gk rfl ?_
          refine O_p (.p (some (rb30, (ro31 + 5)))) (r_fadd' rfl rfl) ?_
          refine O_gk rfl ?_
          refine O_p (.sl oa o.d.length oc 0) (r_ldR (q := 5) rfl (hr32 _ (hv _ hH11.top0.fst)) rfl) ?_
          refine O_gk rfl ?_
          refine O_p (.i .i64 (((o.d.length : Nat)) : Int)) (r_len rfl) ?_
          refine O_gk rfl ?_
          refine O_p (.b (decide ((((o.d.length : Nat)) : Int) ≤ 16384))) (r_leq rfl rfl) ?_
          refine O_gk rfl ?_
          refine O_p (.b (decide ((((o.d.length : Nat)) : Int) ≤ 16384))) (r_pick_t rfl rfl) ?_
          refine O_p (.b (decide ((((o.d.length : Nat)) : Int) ≤ 16384))) (r_pick_f rfl rfl) ?_
          refine O_nil ?_
          refine C_cond (x := (decide ((((o.d.length : Nat)) : Int) ≤ 16384))) rfl (fun hc33 => ?_) (fun hc33 => ?_)
          ·
            try simp only [decide_eq_true_eq, decide_eq_false_iff_not, Bool.not_eq_true', Bool.not_eq_false', Bool.and_eq_true, Bool.or_eq_true, Bool.or_eq_false_iff, Bool.not_not, Bool.and_eq_false_iff] at hc33
            refine C_seq ?_
            refine C_region ?_
            refine O_p (.b false) (r_mv rfl) ?_
            refine O_nil ?_
            refine C_ret ?_
            refine bk_ret ?_
            refine nx_ret ?_
            refine nx_ret ?_
            refine bk_ret ?_
            refine nx_ret ?_
            exact ⟨.inr rfl, _, resL_one (r_tmp (v := (.b false)) rfl), false, rfl, (fun h => by cases h), hH11⟩
          ·
            try simp only [decide_eq_true_eq, decide_eq_false_iff_not, Bool.not_eq_true', Bool.not_eq_false', Bool.and_eq_true, Bool.or_eq_true, Bool.or_eq_false_iff, Bool.not_not, Bool.and_eq_false_iff] at hc33
            refine C_skip ?_
            refine C_region ?_
            refine O_p (.i .i64 (((i : Nat)) : Int)) (r_mv hT10) ?_
            refine O_p (.i .i64 ((((i : Nat)) : Int) + 1)) (by exact (r_addi rfl rfl (wrap_i64 (by omega) (by omega)))) ?_
            refine O_p (.i .i64 ((((i : Nat)) : Int) + 1)) (r_mv rfl) ?_
            refine O_nil ?_
            exact ⟨ol.length - (i + 1), by omega, (i + 1), rfl, by omega, hp8, hH11, hT9, rfl⟩
        ·
          refine C_region ?_
          refine O_p v (r_mv hT9) ?_
          refine O_p (.i .i64 (((i : Nat)) : Int)) (r_mv hT10) ?_
          refine O_q (by exact Rw.row (hv _ hH11.top0.fst) rfl (i := i) rfl (r := [(.i .i64 o.what), (.i .i64 o.p), (.i .i64 o.mode), (.s (txt o.tp)), (.b o.tx), (.sl oa o.d.length oc 0)]) hri) fun v35 hv34 => ?_
          obtain ⟨rb36, ro37, rfl, hr38⟩ := hv34
          refine O_p (.p (some (rb36, (ro37 + 3)))) (r_fadd' rfl rfl) ?_
          refine O_p (.s (txt o.tp)) (r_ldR (q := 3) rfl (hr38 _ (hv _ hH11.top0.fst)) rfl) ?_
          refine O_p (.i .i64 ((((o.tp).length : Nat)) : Int)) (r_lent (l := o.tp) rfl) ?_
          refine O_p (.b false) (by exact (by rw [r_gtr rfl rfl, decide_eq_false (by omega)])) ?_
          refine O_p (.b false) (r_mv rfl) ?_
          refine O_gk rfl ?_
          refine O_p v (r_mv hT9) ?_
          refine O_gk rfl ?_
          refine O_p (.i .i64 (((i : Nat)) : Int)) (r_mv hT10) ?_
          refine O_gk rfl ?_
          refine O_q (by exact Rw.row (hv _ hH11.top0.fst) rfl (i := i) rfl (r := [(.i .i64 o.what), (.i .i64 o.p), (.i .i64 o.mode), (.s (txt o.tp)), (.b o.tx), (.sl oa o.d.length oc 0)]) hri) fun v40 hv39 => ?_
          obtain ⟨rb41, ro42, rfl, hr43⟩ := hv39
          refine O_gk rfl ?_
          refine O_p (.p (some (rb41, (ro42 + 5)))) (r_fadd' rfl rfl) ?_
          refine O_gk rfl ?_
          refine O_p (.sl oa o.d.length oc 0) (r_ldR (q := 5) rfl (hr43 _ (hv _ hH11.top0.fst)) rfl) ?_
          refine O_gk rfl ?_
          refine O_p (.i .i64 (((o.d.length : Nat)) : Int)) (r_len rfl) ?_
          refine O_gk rfl ?_
          refine O_p (.b false) (by exact (by rw [r_gtr rfl rfl, decide_eq_false (by omega)])) ?_
          refine O_gk rfl ?_
          refine O_p (.b false) (r_mv rfl) ?_
          refine O_gf rfl ?_
          refine O_gf rfl ?_
          refine O_gf rfl ?_
          refine O_gf rfl ?_
          refine O_gf rfl ?_
          refine O_gf rfl ?_
          refine O_gf rfl ?_
          refine O_gk rfl ?_
          refine O_p (.b false) (r_pick_f rfl rfl) ?_
          refine O_p (.b false) (r_pick_f rfl rfl) ?_
          refine O_nil ?_
          refine C_cond (x := false) rfl (fun h => by cases h) (fun _ => ?_)
          refine C_skip ?_
          refine C_region ?_
          refine O_p (.i .i64 (((i : Nat)) : Int)) (r_mv hT10) ?_
          refine O_p (.i .i64 ((((i : Nat)) : Int) + 1)) (by exact (r_addi rfl rfl (wrap_i64 (by omega) (by omega)))) ?_
          refine O_p (.i .i64 ((((i : Nat)) : Int) + 1)) (r_mv rfl) ?_
          refine O_nil ?_
          exact ⟨ol.length - (i + 1), by omega, (i + 1), rfl, by omega, hp8, hH11, hT9, rfl⟩
    ·
      try simp only [decide_eq_true_eq, decide_eq_false_iff_not, Bool.not_eq_true', Bool.not_eq_false', Bool.and_eq_true, Bool.or_eq_true, Bool.or_eq_false_iff, Bool.not_not, Bool.and_eq_false_iff] at hc12
      refine C_exit ?_
      refine nx_exit ?_
      refine nx_exit ?_
      refine bk_hit ?_
      refine C_seq ?_
      refine C_region ?_
      refine O_p (.b true) (r_mv rfl) ?_
      refine O_nil ?_
      refine C_ret ?_
      exact ⟨.inr rfl, _, resL_one (r_tmp (v := (.b true)) rfl), true, rfl, fun _ => hp8, hH11⟩
theorem new4_ev {H : AH} {R : HL} {room : Int} (hH0 : Hs H R) : Ev tabA spA (.fn (.func 11) [] []) [.i .i64 4, .i .i64 room] H (fun r H' => ∃ F Lb cm, r = .p (some (F, 0)) ∧ Hs H' ([(F, some (.cells [.sl (some (Lb, 0)) 4 4 0, .i .i64 ((clampR room : Nat) : Int), .m (some cm)] true))] ++ ([(Lb, some (.cells (List.replicate 4 zrow).flatten true))] ++ ([(cm, some (.map [] 0))] ++ R)))) := by
  refine Ev_C (F := x11) rfl ?_
  refine C_seq ?_
  refine C_region ?_
  refine O_p (.p none) (r_mv rfl) ?_
  refine O_nil ?_
  refine C_seq ?_
  refine C_draw fun b1 H2 hbase3 hA4 => ?_
  have hH5 : Hs H2 (asideL b1 [2, 5, 7] ++ _) := hH0.aside hA4 [2, 5, 7] hbase3 rfl (by decide)
  have hH6 : Hs H2 ([(b1 + 2, none)] ++ ([(b1 + 5, none)] ++ ([(b1 + 7, none)] ++ _))) := hH5
  refine D_l (v := (.i .i64 4)) rfl rfl rfl (r_mv rfl) ?_
  refine D_l (v := (.i .i64 room)) rfl rfl rfl (r_mv rfl) ?_
  refine D_call (Ev.mono (clamp_in (n := 4) (most := 16) (by omega) hH6) fun v7 H8 hq9 => ?_)
  obtain ⟨rfl, hH10⟩ := hq9
  refine And.intro True.intro ?_
  refine D_call (Ev.mono (clamp_room (n := room) hH10) fun v11 H12 hq13 => ?_)
  obtain ⟨rfl, hH14⟩ := hq13
  refine And.intro True.intro ?_
  refine D_m (f := fun n => (.sl (some (n, 0)) 4 4 0, .cells (List.replicate 4 zrow).flatten true)) rfl rfl fun H16 hW17 => ?_
  have hH19 := hH14.wr0 hW17
  generalize hn18 : b1 + 2 = n15 at hW17 hH19 ⊢
  refine And.intro True.intro ?_
  refine D_m (f := fun n => ((.m (some n)), .map [] 0)) rfl rfl fun H21 hW22 => ?_
  have hH24 := hH19.wr1 hW22
  generalize hn23 : b1 + 5 = n20 at hW22 hH24 ⊢
  refine And.intro True.intro ?_
  refine D_l (v := (.agg [(.sl (some (n15, 0)) 4 4 0), (.i .i64 ((clampR room : Nat) : Int)), (.m (some n20))])) rfl rfl rfl (r_build rfl) ?_
  refine D_m (f := fun n => ((.p (some (n, 0))), .cells [(.sl (some (n15, 0)) 4 4 0), (.i .i64 ((clampR room : Nat) : Int)), (.m (some n20))] true)) rfl rfl fun H26 hW27 => ?_
  have hH29 := hH24.wr2 hW27
  generalize hn28 : b1 + 7 = n25 at hW27 hH29 ⊢
  refine And.intro True.intro ?_
  refine D_l (v := (.p (some (n25, 0)))) rfl rfl rfl (r_mv rfl) ?_
  refine D_nil ?_
  refine C_ret ?_
  have hH30 := (((hH29.top1).top1).top2)
  exact ⟨.inr rfl, _, resL_one (r_tmp (v := (.p (some (n25, 0)))) rfl), n25, n15, n20, rfl, hH30⟩
set_option maxRecDepth 100000 in
set_option maxHeartbeats 4000000 in
theorem run7 (H0 : AH) (hok0 : H0.Ok) (room : Int) (v : AV) (rows : List (List AV)) (ol : List Op9) (hv : ∀ H', Hs H' (allL H0) → Rw 6 H' v rows) (hops : OpsR (allL H0) rows ol) : Ev tabA spA (.fn (.func 7) [] []) [.i .i64 room, v] H0 (fun v _ => v = .b true) := by
  have hH0 := allL_hs hok0
  refine Ev_C (F := x7) rfl ?_
  refine C_seq ?_
  refine C_region ?_
  refine O_p (.b false) (r_mv rfl) ?_
  refine O_nil ?_
  refine C_seq ?_
  refine C_region ?_
  refine O_call (Ev_sp (v := (.b true)) rfl rfl ?_)
  refine O_p (.b true) (r_mv rfl) ?_
  refine O_nil ?_
  refine C_seq ?_
  refine C_seq ?_
  refine C_region ?_
  refine O_p v (r_mv rfl) ?_
  refine O_call (Ev.mono (fewO_ev hv hops hH0) fun v1 H2 hq3 => ?_)
  obtain ⟨fb, rfl, hfw, hH4⟩ := hq3
  refine O_p (.b (!fb)) (r_not rfl) ?_
  refine O_nil ?_
  refine C_cond (x := (!fb)) rfl (fun hc5 => ?_) (fun hc5 => ?_)
  ·
    try simp only [decide_eq_true_eq, decide_eq_false_iff_not, Bool.not_eq_true', Bool.not_eq_false', Bool.and_eq_true, Bool.or_eq_true, Bool.or_eq_false_iff, Bool.not_not, Bool.and_eq_false_iff] at hc5
    have hfb : fb = false := by simpa using hc5
    subst hfb
    refine C_seq ?_
    refine C_region ?_
    refine O_p (.b true) (r_mv rfl) ?_
    refine O_p (.b true) (r_mv rfl) ?_
    refine O_nil ?_
    refine C_ret ?_
    refine nx_ret ?_
    exact ⟨.inr rfl, _, resL_one (r_tmp (v := .b true) rfl), rfl⟩
  ·
    try simp only [decide_eq_true_eq, decide_eq_false_iff_not, Bool.not_eq_true', Bool.not_eq_false', Bool.and_eq_true, Bool.or_eq_true, Bool.or_eq_false_iff, Bool.not_not, Bool.and_eq_false_iff] at hc5
    have hfb : fb = true := by simpa using hc5
    subst hfb
    refine C_skip ?_
    refine C_seq ?_
    refine C_region ?_
    refine O_p (.i .i64 room) (r_mv rfl) ?_
    refine O_call (Ev.mono (new4_ev (room := room) hH4) fun v6 H7 hq8 => ?_)
    obtain ⟨F9, Lb10, cm11, rfl, hH12⟩ := hq8
    have hR0 : Rl F9 ⟨List.replicate 4 pa0, clampR room, []⟩ [] ([(F9, some (.cells [.sl (some (Lb10, 0)) 4 4 0, .i .i64 ((clampR room : Nat) : Int), .m (some cm11)] true))] ++ ([(Lb10, some (.cells (List.replicate 4 zrow).flatten true))] ++ ([(cm11, some (.map [] 0))] ++ []))) := ⟨Lb10, cm11, _, List.replicate 4 pc0, rfl, fun p hp => by rw [List.eq_of_mem_replicate hp]; exact pc0_ok _, Mb.nil, rfl⟩
    have hI0 : Re.inv 0 ⟨List.replicate 4 pa0, clampR room, []⟩ := ⟨fun a ha => by rw [List.eq_of_mem_replicate ha]; exact pa0_inv _ _, fun c hc => (by cases hc), clampR_le room, by show 4 ≤ 16; decide⟩
    refine O_p (.p (some (F9, 0))) (r_mv rfl) ?_
    refine O_nil ?_
    refine C_seq ?_
    by_cases hmo : 1 ≤ room ∧ room ≤ 64
    ·
      have hcl : ((clampR room : Nat) : Int) = room := by unfold clampR; rw [if_pos hmo]; omega
      refine C_region ?_
      refine O_p (.i .i64 room) (r_mv rfl) ?_
      refine O_p (.i .i64 room) (r_mv rfl) ?_
      refine O_nil ?_
      refine C_seq ?_
      refine C_seq ?_
      refine C_region ?_
      refine O_p (.i .i64 room) (r_mv rfl) ?_
      refine O_p (.b false) (by exact (by rw [r_lss rfl rfl, decide_eq_false (by omega)])) ?_
      refine O_p (.b false) (r_mv rfl) ?_
      refine O_gk rfl ?_
      refine O_p (.i .i64 room) (r_mv rfl) ?_
      refine O_gk rfl ?_
      refine O_p (.b false) (by exact (by rw [r_gtr rfl rfl, decide_eq_false (by omega)])) ?_
      refine O_p (.b false) (r_pick_f rfl rfl) ?_
      refine O_nil ?_
      refine C_cond (x := false) rfl (fun h => by cases h) (fun _ => ?_)
      refine C_skip ?_
      refine C_seq ?_
      refine C_seq ?_
      refine C_region ?_
      refine O_p (.i .i64 0) (r_mv rfl) ?_
      refine O_nil ?_
      refine C_block ?_
      have hH13 := ((hH12.top1).top1)
      have hH14 := (Hs.addnil hH13 : Hs _ (([] : HL) ++ _))
      have hH15 := (((hH14.top2).top1).top2)
      refine C_while (fun m16 T17 H18 => ∃ s : Re, ∃ L : HL, ∃ D : HL, ∃ i : Nat, m16 = ol.length - i ∧ i ≤ ol.length ∧ Rl F9 s D L ∧ s.inv i ∧ s.room = clampR room ∧ s.ps.length = 4 ∧ ol.length ≤ 150 ∧ Hs H18 (L ++ (D ++ ((allL H0) ++ ([])))) ∧ T17.get 0 = (.i .i64 room) ∧ T17.get 1 = v ∧ T17.get 5 = (.b true) ∧ T17.get 6 = (.p (some (F9, 0))) ∧ T17.get 7 = (.i .i64 ((((clampR room) : Nat)) : Int)) ∧ T17.get 8 = (.i .i64 (((i : Nat)) : Int))) (fun m16 T17 H18 hI19 => ?_) ol.length _ _ ⟨⟨List.replicate 4 pa0, clampR room, []⟩, ([(F9, some (.cells [.sl (some (Lb10, 0)) 4 4 0, .i .i64 ((clampR room : Nat) : Int), .m (some cm11)] true))] ++ ([(Lb10, some (.cells (List.replicate 4 zrow).flatten true))] ++ ([(cm11, some (.map [] 0))] ++ []))), [], 0, rfl, Nat.zero_le _, hR0, hI0, rfl, rfl, hfw rfl, hH15, rfl, rfl, rfl, rfl, (by rw [hcl]; rfl), rfl⟩
      obtain ⟨s, L, D, i, hm20, hp21, hp22, hp23, hp24, hp25, hp26, hH33, hT27, hT28, hT29, hT30, hT31, hT32⟩ := hI19
      refine C_seq ?_
      refine C_seq ?_
      refine C_region ?_
      refine O_p (.i .i64 (((i : Nat)) : Int)) (r_mv hT32) ?_
      refine O_p v (r_mv hT28) ?_
      refine O_p (.i .i64 (((ol.length : Nat)) : Int)) (r_lenOf (v := v) (n := ol.length) rfl ((hv _ hH33.top2.fst).lenOf hops.1) (hv _ hH33.top2.fst).isSl) ?_
      refine O_p (.b (decide ((((i : Nat)) : Int) < (((ol.length : Nat)) : Int)))) (r_lss rfl rfl) ?_
      refine O_nil ?_
      refine C_cond (x := (decide ((((i : Nat)) : Int) < (((ol.length : Nat)) : Int)))) rfl (fun hc34 => ?_) (fun hc34 => ?_)
      ·
        try simp only [decide_eq_true_eq, decide_eq_false_iff_not, Bool.not_eq_true', Bool.not_eq_false', Bool.and_eq_true, Bool.or_eq_true, Bool.or_eq_false_iff, Bool.not_not, Bool.and_eq_false_iff] at hc34
        refine C_skip ?_
        refine C_seq ?_
        refine C_block ?_
        refine C_seq ?_
        refine C_seq ?_
        refine C_region ?_
        have hil : i < ol.length := by omega
        obtain ⟨o, ri, hoi, hri, hor⟩ := hops.get hil
        obtain ⟨oa, oc, rfl, hoc, hom, hob⟩ := hor
        refine O_p v (r_mv hT28) ?_
        refine O_p (.i .i64 (((i : Nat)) : Int)) (r_mv hT32) ?_
        refine O_q (by exact Rw.row (hv _ hH33.top2.fst) rfl (i := i) rfl (r := [(.i .i64 o.what), (.i .i64 o.p), (.i .i64 o.mode), (.s (txt o.tp)), (.b o.tx), (.sl oa o.d.length oc 0)]) hri) fun v36 hv35 => ?_
        obtain ⟨rb37, ro38, rfl, hr39⟩ := hv35
        refine O_p (.p (some (rb37, (ro38 + 0)))) (r_fadd' rfl rfl) ?_
        refine O_p (.i .i64 o.what) (r_ldR (q := 0) rfl (hr39 _ (hv _ hH33.top2.fst)) rfl) ?_
        refine O_nil ?_
        refine C_block ?_
        refine C_seq ?_
        refine C_region ?_
        refine O_p (.b (decide (o.what = 0))) (r_eql rfl rfl) ?_
        refine O_p (.b (decide (o.what = 0))) (r_mv rfl) ?_
        refine O_nil ?_
        refine C_cond (x := (decide (o.what = 0))) rfl (fun hc40 => ?_) (fun hc40 => ?_)
        ·
          try simp only [decide_eq_true_eq, decide_eq_false_iff_not, Bool.not_eq_true', Bool.not_eq_false', Bool.and_eq_true, Bool.or_eq_true, Bool.or_eq_false_iff, Bool.not_not, Bool.and_eq_false_iff] at hc40
          refine C_region ?_
          refine O_p (.p (some (F9, 0))) (r_mv hT30) ?_
          refine O_p v (r_mv hT28) ?_
          refine O_p (.i .i64 (((i : Nat)) : Int)) (r_mv hT32) ?_
          refine O_q (by exact Rw.row (hv _ hH33.top2.fst) rfl (i := i) rfl (r := [(.i .i64 o.what), (.i .i64 o.p), (.i .i64 o.mode), (.s (txt o.tp)), (.b o.tx), (.sl oa o.d.length oc 0)]) hri) fun v42 hv41 => ?_
          obtain ⟨rb43, ro44, rfl, hr45⟩ := hv41
          refine O_p (.p (some (rb43, (ro44 + 1)))) (r_fadd' rfl rfl) ?_
          refine O_p (.i .i64 o.p) (r_ldR (q := 1) rfl (hr45 _ (hv _ hH33.top2.fst)) rfl) ?_
          refine O_call (Ev.mono (rl_join hp22 hH33) fun v46 H47 hq48 => ?_)
          obtain ⟨L49, rfl, hR50, hH51⟩ := hq48
          refine O_nil ?_
          refine C_seq ?_
          refine C_region ?_
          refine O_p (.i .i64 0) (r_mv rfl) ?_
          refine O_nil ?_
          refine C_block ?_
          obtain ⟨s2, hs2⟩ : ∃ z, z = (s.join o.p).1 := ⟨_, rfl⟩
          have hI2 : s2.inv (i + 1) := by rw [hs2]; exact hp23.join.mono (Nat.le_succ _)
          have hrm2 : s2.room = clampR room := by rw [hs2, Re.join_room.1]; exact hp24
          have hln2 : s2.ps.length = 4 := by rw [hs2, Re.join_room.2]; exact hp25
          have hR2 : Rl F9 s2 D L49 := by rw [hs2]; exact hR50
          have hH52 := (((hH51.top2).top2).top2)
          refine C_while (fun m53 T54 H55 => ∃ L3 : HL, ∃ p : Nat, m53 = 4 - p ∧ p ≤ 4 ∧ Rl F9 s2 D L3 ∧ Hs H55 (L3 ++ (D ++ ((allL H0) ++ ([])))) ∧ T54.get 0 = (.i .i64 room) ∧ T54.get 1 = v ∧ T54.get 5 = (.b true) ∧ T54.get 6 = (.p (some (F9, 0))) ∧ T54.get 7 = (.i .i64 ((((clampR room) : Nat)) : Int)) ∧ T54.get 8 = (.i .i64 (((i : Nat)) : Int)) ∧ T54.get 11 = (.i .i64 (((p : Nat)) : Int))) (fun m53 T54 H55 hI56 => ?_) 4 _ _ ⟨L49, 0, rfl, by omega, hR2, hH52, hT27, hT28, hT29, hT30, hT31, hT32, rfl⟩
          obtain ⟨L3, p, hm57, hp58, hp59, hH67, hT60, hT61, hT62, hT63, hT64, hT65, hT66⟩ := hI56
          refine C_seq ?_
          refine C_seq ?_
          refine C_region ?_
          refine O_p (.i .i64 (((p : Nat)) : Int)) (r_mv hT66) ?_
          refine O_p (.b (decide ((((p : Nat)) : Int) < 4))) (r_lss rfl rfl) ?_
          refine O_nil ?_
          refine C_cond (x := (decide ((((p : Nat)) : Int) < 4))) rfl (fun hc68 => ?_) (fun hc68 => ?_)
          ·
            try simp only [decide_eq_true_eq, decide_eq_false_iff_not, Bool.not_eq_true', Bool.not_eq_false', Bool.and_eq_true, Bool.or_eq_true, Bool.or_eq_false_iff, Bool.not_not, Bool.and_eq_false_iff] at hc68
            refine C_skip ?_
            refine C_seq ?_
            refine C_block ?_
            refine C_seq ?_
            refine C_region ?_
            refine O_p (.p (some (F9, 0))) (r_mv hT63) ?_
            refine O_p (.i .i64 (((p : Nat)) : Int)) (r_mv hT66) ?_
            refine O_call (Ev.mono (rl_waiting hp59 hH67) fun v69 H70 hq71 => ?_)
            obtain ⟨L72, rfl, hR73, hH74⟩ := hq71
            have hwt := hI2.wait (n := ((p : Nat) : Int))
            rw [hrm2] at hwt
            refine O_p (.i .i64 ((((clampR room) : Nat)) : Int)) (r_mv hT64) ?_
            refine O_p (.b false) (by exact (by rw [r_gtr rfl rfl, decide_eq_false (by omega)])) ?_
            refine O_p (.b false) (r_mv rfl) ?_
            refine O_gk rfl ?_
            refine O_p (.p (some (F9, 0))) (r_mv hT63) ?_
            refine O_gk rfl ?_
            refine O_p (.i .i64 (((p : Nat)) : Int)) (r_mv hT66) ?_
            refine O_gk rfl ?_
            refine O_call (Ev.mono (rl_lost hR73 hH74) fun v75 H76 hq77 => ?_)
            obtain ⟨L78, rfl, hR79, hH80⟩ := hq77
            refine O_gk rfl ?_
            refine O_p (.b false) (by exact (by rw [r_lss rfl rfl, decide_eq_false (by omega)])) ?_
            refine O_p (.b false) (r_pick_f rfl rfl) ?_
            refine O_nil ?_
            refine C_cond (x := false) rfl (fun h => by cases h) (fun _ => ?_)
            refine C_skip ?_
            refine C_region ?_
            refine O_p (.i .i64 (((p : Nat)) : Int)) (r_mv hT66) ?_
            refine O_p (.i .i64 ((((p : Nat)) : Int) + 1)) (by exact (r_addi rfl rfl (wrap_i64 (by omega) (by omega)))) ?_
            refine O_p (.i .i64 ((((p : Nat)) : Int) + 1)) (r_mv rfl) ?_
            refine O_nil ?_
            have hH81 := (((hH80.top2).top2).top2)
            exact ⟨4 - (p + 1), by omega, L78, (p + 1), rfl, by omega, hR79, hH81, hT60, hT61, hT62, hT63, hT64, hT65, rfl⟩
          ·
            try simp only [decide_eq_true_eq, decide_eq_false_iff_not, Bool.not_eq_true', Bool.not_eq_false', Bool.and_eq_true, Bool.or_eq_true, Bool.or_eq_false_iff, Bool.not_not, Bool.and_eq_false_iff] at hc68
            refine C_exit ?_
            refine nx_exit ?_
            refine nx_exit ?_
            refine bk_hit ?_
            refine C_region ?_
            refine O_p (.i .i64 (((i : Nat)) : Int)) (r_mv hT65) ?_
            refine O_p (.i .i64 ((((i : Nat)) : Int) + 1)) (by exact (r_addi rfl rfl (wrap_i64 (by omega) (by omega)))) ?_
            refine O_p (.i .i64 ((((i : Nat)) : Int) + 1)) (r_mv rfl) ?_
            refine O_nil ?_
            have hH82 := (((hH67.top2).top2).top2)
            exact ⟨ol.length - (i + 1), by omega, s2, L3, D, (i + 1), rfl, by omega, hp59, hI2, hrm2, hln2, hp26, hH82, hT60, hT61, hT62, hT63, hT64, rfl⟩
        ·
          try simp only [decide_eq_true_eq, decide_eq_false_iff_not, Bool.not_eq_true', Bool.not_eq_false', Bool.and_eq_true, Bool.or_eq_true, Bool.or_eq_false_iff, Bool.not_not, Bool.and_eq_false_iff] at hc40
          refine C_seq ?_
          refine C_region ?_
          refine O_p (.b (decide (o.what = 1))) (r_eql rfl rfl) ?_
          refine O_p (.b (decide (o.what = 1))) (r_mv rfl) ?_
          refine O_nil ?_
          refine C_cond (x := (decide (o.what = 1))) rfl (fun hc83 => ?_) (fun hc83 => ?_)
          ·
            try simp only [decide_eq_true_eq, decide_eq_false_iff_not, Bool.not_eq_true', Bool.not_eq_false', Bool.and_eq_true, Bool.or_eq_true, Bool.or_eq_false_iff, Bool.not_not, Bool.and_eq_false_iff] at hc83
            refine C_seq ?_
            by_cases hlv : (s.leave o.p).2 = 0
            ·
              have hlw := Re.leave_wait hlv
              refine C_region ?_
              refine O_p (.p (some (F9, 0))) (r_mv hT30) ?_
              refine O_p v (r_mv hT28) ?_
              refine O_p (.i .i64 (((i : Nat)) : Int)) (r_mv hT32) ?_
              refine O_q (by exact Rw.row (hv _ hH33.top2.fst) rfl (i := i) rfl (r := [(.i .i64 o.what), (.i .i64 o.p), (.i .i64 o.mode), (.s (txt o.tp)), (.b o.tx), (.sl oa o.d.length oc 0)]) hri) fun v85 hv84 => ?_
              obtain ⟨rb86, ro87, rfl, hr88⟩ := hv84
              refine O_p (.p (some (rb86, (ro87 + 1)))) (r_fadd' rfl rfl) ?_
              refine O_p (.i .i64 o.p) (r_ldR (q := 1) rfl (hr88 _ (hv _ hH33.top2.fst)) rfl) ?_
              refine O_call (Ev.mono (rl_leave hp22 hH33) fun v89 H90 hq91 => ?_)
              obtain ⟨L92, rfl, hR93, hH94⟩ := hq91
              refine O_p (.b true) (by exact (by rw [r_eql rfl rfl, decide_eq_true hlv])) ?_
              refine O_p (.b true) (r_mv rfl) ?_
              refine O_gk rfl ?_
              refine O_p (.p (some (F9, 0))) (r_mv hT30) ?_
              refine O_gk rfl ?_
              refine O_p v (r_mv hT28) ?_
              refine O_gk rfl ?_
              refine O_p (.i .i64 (((i : Nat)) : Int)) (r_mv hT32) ?_
              refine O_gk rfl ?_
              refine O_q (by exact Rw.row (hv _ hH94.top2.fst) rfl (i := i) rfl (r := [(.i .i64 o.what), (.i .i64 o.p), (.i .i64 o.mode), (.s (txt o.tp)), (.b o.tx), (.sl oa o.d.length oc 0)]) hri) fun v96 hv95 => ?_
              obtain ⟨rb97, ro98, rfl, hr99⟩ := hv95
              refine O_gk rfl ?_
              refine O_p (.p (some (rb97, (ro98 + 1)))) (r_fadd' rfl rfl) ?_
              refine O_gk rfl ?_
              refine O_p (.i .i64 o.p) (r_ldR (q := 1) rfl (hr99 _ (hv _ hH94.top2.fst)) rfl) ?_
              refine O_gk rfl ?_
              refine O_call (Ev.mono (rl_waiting hR93 hH94) fun v100 H101 hq102 => ?_)
              obtain ⟨L103, rfl, hR104, hH105⟩ := hq102
              refine O_gk rfl ?_
              refine O_p (.b false) (by exact (by rw [r_neq rfl rfl, decide_eq_true (by rw [hlw]; rfl)]; rfl)) ?_
              refine O_p (.b false) (r_pick_t rfl rfl) ?_
              refine O_nil ?_
              refine C_cond (x := false) rfl (fun h => by cases h) (fun _ => ?_)
              refine C_skip ?_
              refine C_seq ?_
              refine C_region ?_
              refine O_p (.i .i64 0) (r_mv rfl) ?_
              refine O_nil ?_
              refine C_block ?_
              obtain ⟨s2, hs2⟩ : ∃ z, z = (s.leave o.p).1 := ⟨_, rfl⟩
              have hI2 : s2.inv (i + 1) := by rw [hs2]; exact hp23.leave.mono (Nat.le_succ _)
              have hrm2 : s2.room = clampR room := by rw [hs2, Re.leave_room.1]; exact hp24
              have hln2 : s2.ps.length = 4 := by rw [hs2, Re.leave_room.2]; exact hp25
              have hR2 : Rl F9 s2 D L103 := by rw [hs2]; exact hR104
              have hH106 := (((hH105.top2).top2).top2)
              refine C_while (fun m107 T108 H109 => ∃ L3 : HL, ∃ p : Nat, m107 = 4 - p ∧ p ≤ 4 ∧ Rl F9 s2 D L3 ∧ Hs H109 (L3 ++ (D ++ ((allL H0) ++ ([])))) ∧ T108.get 0 = (.i .i64 room) ∧ T108.get 1 = v ∧ T108.get 5 = (.b true) ∧ T108.get 6 = (.p (some (F9, 0))) ∧ T108.get 7 = (.i .i64 ((((clampR room) : Nat)) : Int)) ∧ T108.get 8 = (.i .i64 (((i : Nat)) : Int)) ∧ T108.get 11 = (.i .i64 (((p : Nat)) : Int))) (fun m107 T108 H109 hI110 => ?_) 4 _ _ ⟨L103, 0, rfl, by omega, hR2, hH106, hT27, hT28, hT29, hT30, hT31, hT32, rfl⟩
              obtain ⟨L3, p, hm111, hp112, hp113, hH121, hT114, hT115, hT116, hT117, hT118, hT119, hT120⟩ := hI110
              refine C_seq ?_
              refine C_seq ?_
              refine C_region ?_
              refine O_p (.i .i64 (((p : Nat)) : Int)) (r_mv hT120) ?_
              refine O_p (.b (decide ((((p : Nat)) : Int) < 4))) (r_lss rfl rfl) ?_
              refine O_nil ?_
              refine C_cond (x := (decide ((((p : Nat)) : Int) < 4))) rfl (fun hc122 => ?_) (fun hc122 => ?_)
              ·
                try simp only [decide_eq_true_eq, decide_eq_false_iff_not, Bool.not_eq_true', Bool.not_eq_false', Bool.and_eq_true, Bool.or_eq_true, Bool.or_eq_false_iff, Bool.not_not, Bool.and_eq_false_iff] at hc122
                refine C_skip ?_
                refine C_seq ?_
                refine C_block ?_
                refine C_seq ?_
                refine C_region ?_
                refine O_p (.p (some (F9, 0))) (r_mv hT117) ?_
                refine O_p (.i .i64 (((p : Nat)) : Int)) (r_mv hT120) ?_
                refine O_call (Ev.mono (rl_waiting hp113 hH121) fun v123 H124 hq125 => ?_)
                obtain ⟨L126, rfl, hR127, hH128⟩ := hq125
                have hwt := hI2.wait (n := ((p : Nat) : Int))
                rw [hrm2] at hwt
                refine O_p (.i .i64 ((((clampR room) : Nat)) : Int)) (r_mv hT118) ?_
                refine O_p (.b false) (by exact (by rw [r_gtr rfl rfl, decide_eq_false (by omega)])) ?_
                refine O_p (.b false) (r_mv rfl) ?_
                refine O_gk rfl ?_
                refine O_p (.p (some (F9, 0))) (r_mv hT117) ?_
                refine O_gk rfl ?_
                refine O_p (.i .i64 (((p : Nat)) : Int)) (r_mv hT120) ?_
                refine O_gk rfl ?_
                refine O_call (Ev.mono (rl_lost hR127 hH128) fun v129 H130 hq131 => ?_)
                obtain ⟨L132, rfl, hR133, hH134⟩ := hq131
                refine O_gk rfl ?_
                refine O_p (.b false) (by exact (by rw [r_lss rfl rfl, decide_eq_false (by omega)])) ?_
                refine O_p (.b false) (r_pick_f rfl rfl) ?_
                refine O_nil ?_
                refine C_cond (x := false) rfl (fun h => by cases h) (fun _ => ?_)
                refine C_skip ?_
                refine C_region ?_
                refine O_p (.i .i64 (((p : Nat)) : Int)) (r_mv hT120) ?_
                refine O_p (.i .i64 ((((p : Nat)) : Int) + 1)) (by exact (r_addi rfl rfl (wrap_i64 (by omega) (by omega)))) ?_
                refine O_p (.i .i64 ((((p : Nat)) : Int) + 1)) (r_mv rfl) ?_
                refine O_nil ?_
                have hH135 := (((hH134.top2).top2).top2)
                exact ⟨4 - (p + 1), by omega, L132, (p + 1), rfl, by omega, hR133, hH135, hT114, hT115, hT116, hT117, hT118, hT119, rfl⟩
              ·
                try simp only [decide_eq_true_eq, decide_eq_false_iff_not, Bool.not_eq_true', Bool.not_eq_false', Bool.and_eq_true, Bool.or_eq_true, Bool.or_eq_false_iff, Bool.not_not, Bool.and_eq_false_iff] at hc122
                refine C_exit ?_
                refine nx_exit ?_
                refine nx_exit ?_
                refine bk_hit ?_
                refine C_region ?_
                refine O_p (.i .i64 (((i : Nat)) : Int)) (r_mv hT119) ?_
                refine O_p (.i .i64 ((((i : Nat)) : Int) + 1)) (by exact (r_addi rfl rfl (wrap_i64 (by omega) (by omega)))) ?_
                refine O_p (.i .i64 ((((i : Nat)) : Int) + 1)) (r_mv rfl) ?_
                refine O_nil ?_
                have hH136 := (((hH121.top2).top2).top2)
                exact ⟨ol.length - (i + 1), by omega, s2, L3, D, (i + 1), rfl, by omega, hp113, hI2, hrm2, hln2, hp26, hH136, hT114, hT115, hT116, hT117, hT118, rfl⟩
            ·
              refine C_region ?_
              refine O_p (.p (some (F9, 0))) (r_mv hT30) ?_
              refine O_p v (r_mv hT28) ?_
              refine O_p (.i .i64 (((i : Nat)) : Int)) (r_mv hT32) ?_
              refine O_q (by exact Rw.row (hv _ hH33.top2.fst) rfl (i := i) rfl (r := [(.i .i64 o.what), (.i .i64 o.p), (.i .i64 o.mode), (.s (txt o.tp)), (.b o.tx), (.sl oa o.d.length oc 0)]) hri) fun v138 hv137 => ?_
              obtain ⟨rb139, ro140, rfl, hr141⟩ := hv137
              refine O_p (.p (some (rb139, (ro140 + 1)))) (r_fadd' rfl rfl) ?_
              refine O_p (.i .i64 o.p) (r_ldR (q := 1) rfl (hr141 _ (hv _ hH33.top2.fst)) rfl) ?_
              refine O_call (Ev.mono (rl_leave hp22 hH33) fun v142 H143 hq144 => ?_)
              obtain ⟨L145, rfl, hR146, hH147⟩ := hq144
              refine O_p (.b false) (by exact (by rw [r_eql rfl rfl, decide_eq_false hlv])) ?_
              refine O_p (.b false) (r_mv rfl) ?_
              refine O_gf rfl ?_
              refine O_gf rfl ?_
              refine O_gf rfl ?_
              refine O_gf rfl ?_
              refine O_gf rfl ?_
              refine O_gf rfl ?_
              refine O_gf rfl ?_
              refine O_gf rfl ?_
              refine O_p (.b false) (r_pick_f rfl rfl) ?_
              refine O_nil ?_
              refine C_cond (x := false) rfl (fun h => by cases h) (fun _ => ?_)
              refine C_skip ?_
              refine C_seq ?_
              refine C_region ?_
              refine O_p (.i .i64 0) (r_mv rfl) ?_
              refine O_nil ?_
              refine C_block ?_
              obtain ⟨s2, hs2⟩ : ∃ z, z = (s.leave o.p).1 := ⟨_, rfl⟩
              have hI2 : s2.inv (i + 1) := by rw [hs2]; exact hp23.leave.mono (Nat.le_succ _)
              have hrm2 : s2.room = clampR room := by rw [hs2, Re.leave_room.1]; exact hp24
              have hln2 : s2.ps.length = 4 := by rw [hs2, Re.leave_room.2]; exact hp25
              have hR2 : Rl F9 s2 D L145 := by rw [hs2]; exact hR146
              have hH148 := (((hH147.top2).top2).top2)
              refine C_while (fun m149 T150 H151 => ∃ L3 : HL, ∃ p : Nat, m149 = 4 - p ∧ p ≤ 4 ∧ Rl F9 s2 D L3 ∧ Hs H151 (L3 ++ (D ++ ((allL H0) ++ ([])))) ∧ T150.get 0 = (.i .i64 room) ∧ T150.get 1 = v ∧ T150.get 5 = (.b true) ∧ T150.get 6 = (.p (some (F9, 0))) ∧ T150.get 7 = (.i .i64 ((((clampR room) : Nat)) : Int)) ∧ T150.get 8 = (.i .i64 (((i : Nat)) : Int)) ∧ T150.get 11 = (.i .i64 (((p : Nat)) : Int))) (fun m149 T150 H151 hI152 => ?_) 4 _ _ ⟨L145, 0, rfl, by omega, hR2, hH148, hT27, hT28, hT29, hT30, hT31, hT32, rfl⟩
              obtain ⟨L3, p, hm153, hp154, hp155, hH163, hT156, hT157, hT158, hT159, hT160, hT161, hT162⟩ := hI152
              refine C_seq ?_
              refine C_seq ?_
              refine C_region ?_
              refine O_p (.i .i64 (((p : Nat)) : Int)) (r_mv hT162) ?_
              refine O_p (.b (decide ((((p : Nat)) : Int) < 4))) (r_lss rfl rfl) ?_
              refine O_nil ?_
              refine C_cond (x := (decide ((((p : Nat)) : Int) < 4))) rfl (fun hc164 => ?_) (fun hc164 => ?_)
              ·
                try simp only [decide_eq_true_eq, decide_eq_false_iff_not, Bool.not_eq_true', Bool.not_eq_false', Bool.and_eq_true, Bool.or_eq_true, Bool.or_eq_false_iff, Bool.not_not, Bool.and_eq_false_iff] at hc164
                refine C_skip ?_
                refine C_seq ?_
                refine C_block ?_
                refine C_seq ?_
                refine C_region ?_
                refine O_p (.p (some (F9, 0))) (r_mv hT159) ?_
                refine O_p (.i .i64 (((p : Nat)) : Int)) (r_mv hT162) ?_
                refine O_call (Ev.mono (rl_waiting hp155 hH163) fun v165 H166 hq167 => ?_)
                obtain ⟨L168, rfl, hR169, hH170⟩ := hq167
                have hwt := hI2.wait (n := ((p : Nat) : Int))
                rw [hrm2] at hwt
                refine O_p (.i .i64 ((((clampR room) : Nat)) : Int)) (r_mv hT160) ?_
                refine O_p (.b false) (by exact (by rw [r_gtr rfl rfl, decide_eq_false (by omega)])) ?_
                refine O_p (.b false) (r_mv rfl) ?_
                refine O_gk rfl ?_
                refine O_p (.p (some (F9, 0))) (r_mv hT159) ?_
                refine O_gk rfl ?_
                refine O_p (.i .i64 (((p : Nat)) : Int)) (r_mv hT162) ?_
                refine O_gk rfl ?_
                refine O_call (Ev.mono (rl_lost hR169 hH170) fun v171 H172 hq173 => ?_)
                obtain ⟨L174, rfl, hR175, hH176⟩ := hq173
                refine O_gk rfl ?_
                refine O_p (.b false) (by exact (by rw [r_lss rfl rfl, decide_eq_false (by omega)])) ?_
                refine O_p (.b false) (r_pick_f rfl rfl) ?_
                refine O_nil ?_
                refine C_cond (x := false) rfl (fun h => by cases h) (fun _ => ?_)
                refine C_skip ?_
                refine C_region ?_
                refine O_p (.i .i64 (((p : Nat)) : Int)) (r_mv hT162) ?_
                refine O_p (.i .i64 ((((p : Nat)) : Int) + 1)) (by exact (r_addi rfl rfl (wrap_i64 (by omega) (by omega)))) ?_
                refine O_p (.i .i64 ((((p : Nat)) : Int) + 1)) (r_mv rfl) ?_
                refine O_nil ?_
                have hH177 := (((hH176.top2).top2).top2)
                exact ⟨4 - (p + 1), by omega, L174, (p + 1), rfl, by omega, hR175, hH177, hT156, hT157, hT158, hT159, hT160, hT161, rfl⟩
              ·
                try simp only [decide_eq_true_eq, decide_eq_false_iff_not, Bool.not_eq_true', Bool.not_eq_false', Bool.and_eq_true, Bool.or_eq_true, Bool.or_eq_false_iff, Bool.not_not, Bool.and_eq_false_iff] at hc164
                refine C_exit ?_
                refine nx_exit ?_
                refine nx_exit ?_
                refine bk_hit ?_
                refine C_region ?_
                refine O_p (.i .i64 (((i : Nat)) : Int)) (r_mv hT161) ?_
                refine O_p (.i .i64 ((((i : Nat)) : Int) + 1)) (by exact (r_addi rfl rfl (wrap_i64 (by omega) (by omega)))) ?_
                refine O_p (.i .i64 ((((i : Nat)) : Int) + 1)) (r_mv rfl) ?_
                refine O_nil ?_
                have hH178 := (((hH163.top2).top2).top2)
                exact ⟨ol.length - (i + 1), by omega, s2, L3, D, (i + 1), rfl, by omega, hp155, hI2, hrm2, hln2, hp26, hH178, hT156, hT157, hT158, hT159, hT160, rfl⟩
          ·
            try simp only [decide_eq_true_eq, decide_eq_false_iff_not, Bool.not_eq_true', Bool.not_eq_false', Bool.and_eq_true, Bool.or_eq_true, Bool.or_eq_false_iff, Bool.not_not, Bool.and_eq_false_iff] at hc83
            refine C_seq ?_
            refine C_region ?_
            refine O_p (.b (decide (o.what = 2))) (r_eql rfl rfl) ?_
            refine O_p (.b (decide (o.what = 2))) (r_mv rfl) ?_
            refine O_nil ?_
            refine C_cond (x := (decide (o.what = 2))) rfl (fun hc179 => ?_) (fun hc179 => ?_)
            ·
              try simp only [decide_eq_true_eq, decide_eq_false_iff_not, Bool.not_eq_true', Bool.not_eq_false', Bool.and_eq_true, Bool.or_eq_true, Bool.or_eq_false_iff, Bool.not_not, Bool.and_eq_false_iff] at hc179
              refine C_draw fun b180 H181 hbase182 hA183 => ?_
              have hH184 := hH33.keep (by have := hA183.1; omega) (fun q _ => hA183.2 q) ((hH33.old).aside hA183).ok
              refine D_l (v := (.p (some (F9, 0)))) rfl rfl rfl (r_mv hT30) ?_
              refine D_l (v := v) rfl rfl rfl (r_mv hT28) ?_
              refine D_l (v := (.i .i64 (((i : Nat)) : Int))) rfl rfl rfl (r_mv hT32) ?_
              refine D_q rfl rfl rfl (by exact Rw.row (hv _ hH184.top2.fst) rfl (i := i) rfl (r := [(.i .i64 o.what), (.i .i64 o.p), (.i .i64 o.mode), (.s (txt o.tp)), (.b o.tx), (.sl oa o.d.length oc 0)]) hri) fun v186 hv185 => ?_
              obtain ⟨rb187, ro188, rfl, hr189⟩ := hv185
              refine D_l (v := (.p (some (rb187, (ro188 + 1))))) rfl rfl rfl (r_fadd' rfl rfl) ?_
              refine D_l (v := v) rfl rfl rfl (r_mv hT28) ?_
              refine D_l (v := (.i .i64 (((i : Nat)) : Int))) rfl rfl rfl (r_mv hT32) ?_
              refine D_q rfl rfl rfl (by exact Rw.row (hv _ hH184.top2.fst) rfl (i := i) rfl (r := [(.i .i64 o.what), (.i .i64 o.p), (.i .i64 o.mode), (.s (txt o.tp)), (.b o.tx), (.sl oa o.d.length oc 0)]) hri) fun v191 hv190 => ?_
              obtain ⟨rb192, ro193, rfl, hr194⟩ := hv190
              refine D_l (v := (.p (some (rb192, (ro193 + 3))))) rfl rfl rfl (r_fadd' rfl rfl) ?_
              refine D_l (v := v) rfl rfl rfl (r_mv hT28) ?_
              refine D_l (v := (.i .i64 (((i : Nat)) : Int))) rfl rfl rfl (r_mv hT32) ?_
              refine D_q rfl rfl rfl (by exact Rw.row (hv _ hH184.top2.fst) rfl (i := i) rfl (r := [(.i .i64 o.what), (.i .i64 o.p), (.i .i64 o.mode), (.s (txt o.tp)), (.b o.tx), (.sl oa o.d.length oc 0)]) hri) fun v196 hv195 => ?_
              obtain ⟨rb197, ro198, rfl, hr199⟩ := hv195
              refine D_l (v := (.p (some (rb197, (ro198 + 2))))) rfl rfl rfl (r_fadd' rfl rfl) ?_
              refine D_r (v := (.i .i64 o.p)) rfl rfl rfl (r_ldR (q := 1) rfl (hr189 _ (hv _ hH184.top2.fst)) rfl) ?_
              refine D_r (v := (.s (txt o.tp))) rfl rfl rfl (r_ldR (q := 3) rfl (hr194 _ (hv _ hH184.top2.fst)) rfl) ?_
              refine D_r (v := (.i .i64 o.mode)) rfl rfl rfl (r_ldR (q := 2) rfl (hr199 _ (hv _ hH184.top2.fst)) rfl) ?_
              refine D_call (Ev.mono (rl_subs hp22 hH184) fun v200 H201 hq202 => ?_)
              obtain ⟨L203, rfl, hR204, hH205⟩ := hq202
              refine And.intro (And.intro (Or.inl rfl) (And.intro (Or.inl rfl) (And.intro (Or.inl rfl) True.intro))) ?_
              refine D_nil ?_
              refine C_seq ?_
              refine C_region ?_
              refine O_p (.i .i64 0) (r_mv rfl) ?_
              refine O_nil ?_
              refine C_block ?_
              obtain ⟨s2, hs2⟩ : ∃ z, z = (s.subs o.p o.tp o.mode).1 := ⟨_, rfl⟩
              have hI2 : s2.inv (i + 1) := by rw [hs2]; exact hp23.subs.mono (Nat.le_succ _)
              have hrm2 : s2.room = clampR room := by rw [hs2, Re.subs_room.1]; exact hp24
              have hln2 : s2.ps.length = 4 := by rw [hs2, Re.subs_room.2]; exact hp25
              have hR2 : Rl F9 s2 D L203 := by rw [hs2]; exact hR204
              have hH206 := (((hH205.top2).top2).top2)
              refine C_while (fun m207 T208 H209 => ∃ L3 : HL, ∃ p : Nat, m207 = 4 - p ∧ p ≤ 4 ∧ Rl F9 s2 D L3 ∧ Hs H209 (L3 ++ (D ++ ((allL H0) ++ ([])))) ∧ T208.get 0 = (.i .i64 room) ∧ T208.get 1 = v ∧ T208.get 5 = (.b true) ∧ T208.get 6 = (.p (some (F9, 0))) ∧ T208.get 7 = (.i .i64 ((((clampR room) : Nat)) : Int)) ∧ T208.get 8 = (.i .i64 (((i : Nat)) : Int)) ∧ T208.get 11 = (.i .i64 (((p : Nat)) : Int))) (fun m207 T208 H209 hI210 => ?_) 4 _ _ ⟨L203, 0, rfl, by omega, hR2, hH206, hT27, hT28, hT29, hT30, hT31, hT32, rfl⟩
              obtain ⟨L3, p, hm211, hp212, hp213, hH221, hT214, hT215, hT216, hT217, hT218, hT219, hT220⟩ := hI210
              refine C_seq ?_
              refine C_seq ?_
              refine C_region ?_
              refine O_p (.i .i64 (((p : Nat)) : Int)) (r_mv hT220) ?_
              refine O_p (.b (decide ((((p : Nat)) : Int) < 4))) (r_lss rfl rfl) ?_
              refine O_nil ?_
              refine C_cond (x := (decide ((((p : Nat)) : Int) < 4))) rfl (fun hc222 => ?_) (fun hc222 => ?_)
              ·
                try simp only [decide_eq_true_eq, decide_eq_false_iff_not, Bool.not_eq_true', Bool.not_eq_false', Bool.and_eq_true, Bool.or_eq_true, Bool.or_eq_false_iff, Bool.not_not, Bool.and_eq_false_iff] at hc222
                refine C_skip ?_
                refine C_seq ?_
                refine C_block ?_
                refine C_seq ?_
                refine C_region ?_
                refine O_p (.p (some (F9, 0))) (r_mv hT217) ?_
                refine O_p (.i .i64 (((p : Nat)) : Int)) (r_mv hT220) ?_
                refine O_call (Ev.mono (rl_waiting hp213 hH221) fun v223 H224 hq225 => ?_)
                obtain ⟨L226, rfl, hR227, hH228⟩ := hq225
                have hwt := hI2.wait (n := ((p : Nat) : Int))
                rw [hrm2] at hwt
                refine O_p (.i .i64 ((((clampR room) : Nat)) : Int)) (r_mv hT218) ?_
                refine O_p (.b false) (by exact (by rw [r_gtr rfl rfl, decide_eq_false (by omega)])) ?_
                refine O_p (.b false) (r_mv rfl) ?_
                refine O_gk rfl ?_
                refine O_p (.p (some (F9, 0))) (r_mv hT217) ?_
                refine O_gk rfl ?_
                refine O_p (.i .i64 (((p : Nat)) : Int)) (r_mv hT220) ?_
                refine O_gk rfl ?_
                refine O_call (Ev.mono (rl_lost hR227 hH228) fun v229 H230 hq231 => ?_)
                obtain ⟨L232, rfl, hR233, hH234⟩ := hq231
                refine O_gk rfl ?_
                refine O_p (.b false) (by exact (by rw [r_lss rfl rfl, decide_eq_false (by omega)])) ?_
                refine O_p (.b false) (r_pick_f rfl rfl) ?_
                refine O_nil ?_
                refine C_cond (x := false) rfl (fun h => by cases h) (fun _ => ?_)
                refine C_skip ?_
                refine C_region ?_
                refine O_p (.i .i64 (((p : Nat)) : Int)) (r_mv hT220) ?_
                refine O_p (.i .i64 ((((p : Nat)) : Int) + 1)) (by exact (r_addi rfl rfl (wrap_i64 (by omega) (by omega)))) ?_
                refine O_p (.i .i64 ((((p : Nat)) : Int) + 1)) (r_mv rfl) ?_
                refine O_nil ?_
                have hH235 := (((hH234.top2).top2).top2)
                exact ⟨4 - (p + 1), by omega, L232, (p + 1), rfl, by omega, hR233, hH235, hT214, hT215, hT216, hT217, hT218, hT219, rfl⟩
              ·
                try simp only [decide_eq_true_eq, decide_eq_false_iff_not, Bool.not_eq_true', Bool.not_eq_false', Bool.and_eq_true, Bool.or_eq_true, Bool.or_eq_false_iff, Bool.not_not, Bool.and_eq_false_iff] at hc222
                refine C_exit ?_
                refine nx_exit ?_
                refine nx_exit ?_
                refine bk_hit ?_
                refine C_region ?_
                refine O_p (.i .i64 (((i : Nat)) : Int)) (r_mv hT219) ?_
                refine O_p (.i .i64 ((((i : Nat)) : Int) + 1)) (by exact (r_addi rfl rfl (wrap_i64 (by omega) (by omega)))) ?_
                refine O_p (.i .i64 ((((i : Nat)) : Int) + 1)) (r_mv rfl) ?_
                refine O_nil ?_
                have hH236 := (((hH221.top2).top2).top2)
                exact ⟨ol.length - (i + 1), by omega, s2, L3, D, (i + 1), rfl, by omega, hp213, hI2, hrm2, hln2, hp26, hH236, hT214, hT215, hT216, hT217, hT218, rfl⟩
            ·
              try simp only [decide_eq_true_eq, decide_eq_false_iff_not, Bool.not_eq_true', Bool.not_eq_false', Bool.and_eq_true, Bool.or_eq_true, Bool.or_eq_false_iff, Bool.not_not, Bool.and_eq_false_iff] at hc179
              refine C_seq ?_
              refine C_region ?_
              refine O_p (.b (decide (o.what = 3))) (r_eql rfl rfl) ?_
              refine O_p (.b (decide (o.what = 3))) (r_mv rfl) ?_
              refine O_nil ?_
              refine C_cond (x := (decide (o.what = 3))) rfl (fun hc237 => ?_) (fun hc237 => ?_)
              ·
                try simp only [decide_eq_true_eq, decide_eq_false_iff_not, Bool.not_eq_true', Bool.not_eq_false', Bool.and_eq_true, Bool.or_eq_true, Bool.or_eq_false_iff, Bool.not_not, Bool.and_eq_false_iff] at hc237
                refine C_draw fun b238 H239 hbase240 hA241 => ?_
                have hH242 := hH33.keep (by have := hA241.1; omega) (fun q _ => hA241.2 q) ((hH33.old).aside hA241).ok
                refine D_l (v := (.p (some (F9, 0)))) rfl rfl rfl (r_mv hT30) ?_
                refine D_l (v := v) rfl rfl rfl (r_mv hT28) ?_
                refine D_l (v := (.i .i64 (((i : Nat)) : Int))) rfl rfl rfl (r_mv hT32) ?_
                refine D_q rfl rfl rfl (by exact Rw.row (hv _ hH242.top2.fst) rfl (i := i) rfl (r := [(.i .i64 o.what), (.i .i64 o.p), (.i .i64 o.mode), (.s (txt o.tp)), (.b o.tx), (.sl oa o.d.length oc 0)]) hri) fun v244 hv243 => ?_
                obtain ⟨rb245, ro246, rfl, hr247⟩ := hv243
                refine D_l (v := (.p (some (rb245, (ro246 + 1))))) rfl rfl rfl (r_fadd' rfl rfl) ?_
                refine D_l (v := v) rfl rfl rfl (r_mv hT28) ?_
                refine D_l (v := (.i .i64 (((i : Nat)) : Int))) rfl rfl rfl (r_mv hT32) ?_
                refine D_q rfl rfl rfl (by exact Rw.row (hv _ hH242.top2.fst) rfl (i := i) rfl (r := [(.i .i64 o.what), (.i .i64 o.p), (.i .i64 o.mode), (.s (txt o.tp)), (.b o.tx), (.sl oa o.d.length oc 0)]) hri) fun v249 hv248 => ?_
                obtain ⟨rb250, ro251, rfl, hr252⟩ := hv248
                refine D_l (v := (.p (some (rb250, (ro251 + 3))))) rfl rfl rfl (r_fadd' rfl rfl) ?_
                refine D_r (v := (.i .i64 o.p)) rfl rfl rfl (r_ldR (q := 1) rfl (hr247 _ (hv _ hH242.top2.fst)) rfl) ?_
                refine D_r (v := (.s (txt o.tp))) rfl rfl rfl (r_ldR (q := 3) rfl (hr252 _ (hv _ hH242.top2.fst)) rfl) ?_
                refine D_call (Ev.mono (rl_drop hp22 (fun a ha => Nat.le_trans (hp23.pa a ha).w (Nat.le_trans hp23.room.2 (by decide))) hH242) fun v253 H254 hq255 => ?_)
                obtain ⟨L256, rfl, hR257, hH258⟩ := hq255
                refine And.intro (And.intro (Or.inl rfl) (And.intro (Or.inl rfl) True.intro)) ?_
                refine D_nil ?_
                refine C_seq ?_
                refine C_region ?_
                refine O_p (.i .i64 0) (r_mv rfl) ?_
                refine O_nil ?_
                refine C_block ?_
                obtain ⟨s2, hs2⟩ : ∃ z, z = (s.drop o.p o.tp).1 := ⟨_, rfl⟩
                have hI2 : s2.inv (i + 1) := by rw [hs2]; exact hp23.drop.mono (Nat.le_succ _)
                have hrm2 : s2.room = clampR room := by rw [hs2, Re.drop_room.1]; exact hp24
                have hln2 : s2.ps.length = 4 := by rw [hs2, Re.drop_room.2]; exact hp25
                have hR2 : Rl F9 s2 D L256 := by rw [hs2]; exact hR257
                have hH259 := (((hH258.top2).top2).top2)
                refine C_while (fun m260 T261 H262 => ∃ L3 : HL, ∃ p : Nat, m260 = 4 - p ∧ p ≤ 4 ∧ Rl F9 s2 D L3 ∧ Hs H262 (L3 ++ (D ++ ((allL H0) ++ ([])))) ∧ T261.get 0 = (.i .i64 room) ∧ T261.get 1 = v ∧ T261.get 5 = (.b true) ∧ T261.get 6 = (.p (some (F9, 0))) ∧ T261.get 7 = (.i .i64 ((((clampR room) : Nat)) : Int)) ∧ T261.get 8 = (.i .i64 (((i : Nat)) : Int)) ∧ T261.get 11 = (.i .i64 (((p : Nat)) : Int))) (fun m260 T261 H262 hI263 => ?_) 4 _ _ ⟨L256, 0, rfl, by omega, hR2, hH259, hT27, hT28, hT29, hT30, hT31, hT32, rfl⟩
                obtain ⟨L3, p, hm264, hp265, hp266, hH274, hT267, hT268, hT269, hT270, hT271, hT272, hT273⟩ := hI263
                refine C_seq ?_
                refine C_seq ?_
                refine C_region ?_
                refine O_p (.i .i64 (((p : Nat)) : Int)) (r_mv hT273) ?_
                refine O_p (.b (decide ((((p : Nat)) : Int) < 4))) (r_lss rfl rfl) ?_
                refine O_nil ?_
                refine C_cond (x := (decide ((((p : Nat)) : Int) < 4))) rfl (fun hc275 => ?_) (fun hc275 => ?_)
                ·
                  try simp only [decide_eq_true_eq, decide_eq_false_iff_not, Bool.not_eq_true', Bool.not_eq_false', Bool.and_eq_true, Bool.or_eq_true, Bool.or_eq_false_iff, Bool.not_not, Bool.and_eq_false_iff] at hc275
                  refine C_skip ?_
                  refine C_seq ?_
                  refine C_block ?_
                  refine C_seq ?_
                  refine C_region ?_
                  refine O_p (.p (some (F9, 0))) (r_mv hT270) ?_
                  refine O_p (.i .i64 (((p : Nat)) : Int)) (r_mv hT273) ?_
                  refine O_call (Ev.mono (rl_waiting hp266 hH274) fun v276 H277 hq278 => ?_)
                  obtain ⟨L279, rfl, hR280, hH281⟩ := hq278
                  have hwt := hI2.wait (n := ((p : Nat) : Int))
                  rw [hrm2] at hwt
                  refine O_p (.i .i64 ((((clampR room) : Nat)) : Int)) (r_mv hT271) ?_
                  refine O_p (.b false) (by exact (by rw [r_gtr rfl rfl, decide_eq_false (by omega)])) ?_
                  refine O_p (.b false) (r_mv rfl) ?_
                  refine O_gk rfl ?_
                  refine O_p (.p (some (F9, 0))) (r_mv hT270) ?_
                  refine O_gk rfl ?_
                  refine O_p (.i .i64 (((p : Nat)) : Int)) (r_mv hT273) ?_
                  refine O_gk rfl ?_
                  refine O_call (Ev.mono (rl_lost hR280 hH281) fun v282 H283 hq284 => ?_)
                  obtain ⟨L285, rfl, hR286, hH287⟩ := hq284
                  refine O_gk rfl ?_
                  refine O_p (.b false) (by exact (by rw [r_lss rfl rfl, decide_eq_false (by omega)])) ?_
                  refine O_p (.b false) (r_pick_f rfl rfl) ?_
                  refine O_nil ?_
                  refine C_cond (x := false) rfl (fun h => by cases h) (fun _ => ?_)
                  refine C_skip ?_
                  refine C_region ?_
                  refine O_p (.i .i64 (((p : Nat)) : Int)) (r_mv hT273) ?_
                  refine O_p (.i .i64 ((((p : Nat)) : Int) + 1)) (by exact (r_addi rfl rfl (wrap_i64 (by omega) (by omega)))) ?_
                  refine O_p (.i .i64 ((((p : Nat)) : Int) + 1)) (r_mv rfl) ?_
                  refine O_nil ?_
                  have hH288 := (((hH287.top2).top2).top2)
                  exact ⟨4 - (p + 1), by omega, L285, (p + 1), rfl, by omega, hR286, hH288, hT267, hT268, hT269, hT270, hT271, hT272, rfl⟩
                ·
                  try simp only [decide_eq_true_eq, decide_eq_false_iff_not, Bool.not_eq_true', Bool.not_eq_false', Bool.and_eq_true, Bool.or_eq_true, Bool.or_eq_false_iff, Bool.not_not, Bool.and_eq_false_iff] at hc275
                  refine C_exit ?_
                  refine nx_exit ?_
                  refine nx_exit ?_
                  refine bk_hit ?_
                  refine C_region ?_
                  refine O_p (.i .i64 (((i : Nat)) : Int)) (r_mv hT272) ?_
                  refine O_p (.i .i64 ((((i : Nat)) : Int) + 1)) (by exact (r_addi rfl rfl (wrap_i64 (by omega) (by omega)))) ?_
                  refine O_p (.i .i64 ((((i : Nat)) : Int) + 1)) (r_mv rfl) ?_
                  refine O_nil ?_
                  have hH289 := (((hH274.top2).top2).top2)
                  exact ⟨ol.length - (i + 1), by omega, s2, L3, D, (i + 1), rfl, by omega, hp266, hI2, hrm2, hln2, hp26, hH289, hT267, hT268, hT269, hT270, hT271, rfl⟩
              ·
                try simp only [decide_eq_true_eq, decide_eq_false_iff_not, Bool.not_eq_true', Bool.not_eq_false', Bool.and_eq_true, Bool.or_eq_true, Bool.or_eq_false_iff, Bool.not_not, Bool.and_eq_false_iff] at hc237
                refine C_seq ?_
                refine C_region ?_
                refine O_p (.b (decide (o.what = 4))) (r_eql rfl rfl) ?_
                refine O_p (.b (decide (o.what = 4))) (r_mv rfl) ?_
                refine O_nil ?_
                refine C_cond (x := (decide (o.what = 4))) rfl (fun hc290 => ?_) (fun hc290 => ?_)
                ·
                  try simp only [decide_eq_true_eq, decide_eq_false_iff_not, Bool.not_eq_true', Bool.not_eq_false', Bool.and_eq_true, Bool.or_eq_true, Bool.or_eq_false_iff, Bool.not_not, Bool.and_eq_false_iff] at hc290
                  refine C_seq ?_
                  refine C_draw fun b291 H292 hbase293 hA294 => ?_
                  have hH295 := hH33.keep (by have := hA294.1; omega) (fun q _ => hA294.2 q) ((hH33.old).aside hA294).ok
                  refine D_l (v := (.p (some (F9, 0)))) rfl rfl rfl (r_mv hT30) ?_
                  refine D_l (v := v) rfl rfl rfl (r_mv hT28) ?_
                  refine D_l (v := (.i .i64 (((i : Nat)) : Int))) rfl rfl rfl (r_mv hT32) ?_
                  refine D_q rfl rfl rfl (by exact Rw.row (hv _ hH295.top2.fst) rfl (i := i) rfl (r := [(.i .i64 o.what), (.i .i64 o.p), (.i .i64 o.mode), (.s (txt o.tp)), (.b o.tx), (.sl oa o.d.length oc 0)]) hri) fun v297 hv296 => ?_
                  obtain ⟨rb298, ro299, rfl, hr300⟩ := hv296
                  refine D_l (v := (.p (some (rb298, (ro299 + 1))))) rfl rfl rfl (r_fadd' rfl rfl) ?_
                  refine D_l (v := v) rfl rfl rfl (r_mv hT28) ?_
                  refine D_l (v := (.i .i64 (((i : Nat)) : Int))) rfl rfl rfl (r_mv hT32) ?_
                  refine D_q rfl rfl rfl (by exact Rw.row (hv _ hH295.top2.fst) rfl (i := i) rfl (r := [(.i .i64 o.what), (.i .i64 o.p), (.i .i64 o.mode), (.s (txt o.tp)), (.b o.tx), (.sl oa o.d.length oc 0)]) hri) fun v302 hv301 => ?_
                  obtain ⟨rb303, ro304, rfl, hr305⟩ := hv301
                  refine D_l (v := (.p (some (rb303, (ro304 + 3))))) rfl rfl rfl (r_fadd' rfl rfl) ?_
                  refine D_l (v := v) rfl rfl rfl (r_mv hT28) ?_
                  refine D_l (v := (.i .i64 (((i : Nat)) : Int))) rfl rfl rfl (r_mv hT32) ?_
                  refine D_q rfl rfl rfl (by exact Rw.row (hv _ hH295.top2.fst) rfl (i := i) rfl (r := [(.i .i64 o.what), (.i .i64 o.p), (.i .i64 o.mode), (.s (txt o.tp)), (.b o.tx), (.sl oa o.d.length oc 0)]) hri) fun v307 hv306 => ?_
                  obtain ⟨rb308, ro309, rfl, hr310⟩ := hv306
                  refine D_l (v := (.p (some (rb308, (ro309 + 4))))) rfl rfl rfl (r_fadd' rfl rfl) ?_
                  refine D_l (v := v) rfl rfl rfl (r_mv hT28) ?_
                  refine D_l (v := (.i .i64 (((i : Nat)) : Int))) rfl rfl rfl (r_mv hT32) ?_
                  refine D_q rfl rfl rfl (by exact Rw.row (hv _ hH295.top2.fst) rfl (i := i) rfl (r := [(.i .i64 o.what), (.i .i64 o.p), (.i .i64 o.mode), (.s (txt o.tp)), (.b o.tx), (.sl oa o.d.length oc 0)]) hri) fun v312 hv311 => ?_
                  obtain ⟨rb313, ro314, rfl, hr315⟩ := hv311
                  refine D_l (v := (.p (some (rb313, (ro314 + 5))))) rfl rfl rfl (r_fadd' rfl rfl) ?_
                  refine D_r (v := (.i .i64 o.p)) rfl rfl rfl (r_ldR (q := 1) rfl (hr300 _ (hv _ hH295.top2.fst)) rfl) ?_
                  refine D_r (v := (.s (txt o.tp))) rfl rfl rfl (r_ldR (q := 3) rfl (hr305 _ (hv _ hH295.top2.fst)) rfl) ?_
                  refine D_r (v := (.b o.tx)) rfl rfl rfl (r_ldR (q := 4) rfl (hr310 _ (hv _ hH295.top2.fst)) rfl) ?_
                  refine D_r (v := (.sl oa o.d.length oc 0)) rfl rfl rfl (r_ldR (q := 5) rfl (hr315 _ (hv _ hH295.top2.fst)) rfl) ?_
                  have hH316 := (((hH295.top2).top2).top2)
                  have hH317 := (((hH316.top2).top2).top2)
                  refine D_call (Ev.mono (rl_pub (N := i) (B := (allL H0)) (dd := o.d) hp22 hp23 (by omega) (.inl rfl) hoc hom hob hH317) fun v318 H319 hq320 => ?_)
                  obtain ⟨L321, D322, rfl, hR323, hmon324, hH325⟩ := hq320
                  refine And.intro (And.intro (Or.inl rfl) (And.intro (Or.inl rfl) (And.intro (Or.inl rfl) (And.intro (Or.inl rfl) True.intro)))) ?_
                  refine D_l (v := (.tup [(.i .i64 ((((s.pub o.p o.tp o.tx o.d).2.1 : Nat)) : Int)), (.i .i64 (s.pub o.p o.tp o.tx o.d).2.2)])) rfl rfl rfl (r_mv rfl) ?_
                  refine D_l (v := (.i .i64 ((((s.pub o.p o.tp o.tx o.d).2.1 : Nat)) : Int))) rfl rfl rfl (r_ext rfl rfl) ?_
                  refine D_l (v := (.i .i64 (s.pub o.p o.tp o.tx o.d).2.2)) rfl rfl rfl (r_ext rfl rfl) ?_
                  refine D_l (v := (.i .i64 ((((s.pub o.p o.tp o.tx o.d).2.1 : Nat)) : Int))) rfl rfl rfl (r_mv rfl) ?_
                  refine D_l (v := (.i .i64 (s.pub o.p o.tp o.tx o.d).2.2)) rfl rfl rfl (r_mv rfl) ?_
                  refine D_nil ?_
                  refine C_seq ?_
                  by_cases hpe : (s.pub o.p o.tp o.tx o.d).2.2 = 0
                  ·
                    have hpf := (Re.pub_few (s := s) (n := o.p) (tp := o.tp) (d := o.d) (tx := o.tx)).1
                    rw [hp25] at hpf
                    refine C_region ?_
                    refine O_p (.i .i64 ((((s.pub o.p o.tp o.tx o.d).2.1 : Nat)) : Int)) (r_mv rfl) ?_
                    refine O_p (.b false) (by exact (by rw [r_lss rfl rfl, decide_eq_false (by omega)])) ?_
                    refine O_p (.b false) (r_mv rfl) ?_
                    refine O_gk rfl ?_
                    refine O_p (.i .i64 ((((s.pub o.p o.tp o.tx o.d).2.1 : Nat)) : Int)) (r_mv rfl) ?_
                    refine O_gk rfl ?_
                    refine O_p (.b false) (by exact (by rw [r_gtr rfl rfl, decide_eq_false (by omega)])) ?_
                    refine O_p (.b false) (r_pick_f rfl rfl) ?_
                    refine O_p (.b false) (r_mv rfl) ?_
                    refine O_gk rfl ?_
                    refine O_p (.i .i64 (s.pub o.p o.tp o.tx o.d).2.2) (r_mv rfl) ?_
                    refine O_gk rfl ?_
                    refine O_p (.b false) (by exact (by rw [r_neq rfl rfl, decide_eq_true hpe]; rfl)) ?_
                    refine O_gk rfl ?_
                    refine O_p (.b false) (r_mv rfl) ?_
                    refine O_gf rfl ?_
                    refine O_gf rfl ?_
                    refine O_gk rfl ?_
                    refine O_p (.b false) (r_pick_f rfl rfl) ?_
                    refine O_p (.b false) (r_pick_f rfl rfl) ?_
                    refine O_nil ?_
                    refine C_cond (x := false) rfl (fun h => by cases h) (fun _ => ?_)
                    refine C_skip ?_
                    refine C_seq ?_
                    refine C_region ?_
                    refine O_p (.i .i64 0) (r_mv rfl) ?_
                    refine O_nil ?_
                    refine C_block ?_
                    obtain ⟨s2, hs2⟩ : ∃ z, z = (s.pub o.p o.tp o.tx o.d).1 := ⟨_, rfl⟩
                    have hI2 : s2.inv (i + 1) := by rw [hs2]; exact hp23.pub
                    have hrm2 : s2.room = clampR room := by rw [hs2, Re.pub_room.1]; exact hp24
                    have hln2 : s2.ps.length = 4 := by rw [hs2, Re.pub_room.2]; exact hp25
                    have hR2 : Rl F9 s2 D322 L321 := by rw [hs2]; exact hR323
                    have hH326 := (((hH325.top2).top2).top2)
                    refine C_while (fun m327 T328 H329 => ∃ L3 : HL, ∃ p : Nat, m327 = 4 - p ∧ p ≤ 4 ∧ Rl F9 s2 D322 L3 ∧ Hs H329 (L3 ++ (D322 ++ ((allL H0) ++ ([])))) ∧ T328.get 0 = (.i .i64 room) ∧ T328.get 1 = v ∧ T328.get 5 = (.b true) ∧ T328.get 6 = (.p (some (F9, 0))) ∧ T328.get 7 = (.i .i64 ((((clampR room) : Nat)) : Int)) ∧ T328.get 8 = (.i .i64 (((i : Nat)) : Int)) ∧ T328.get 11 = (.i .i64 (((p : Nat)) : Int))) (fun m327 T328 H329 hI330 => ?_) 4 _ _ ⟨L321, 0, rfl, by omega, hR2, hH326, hT27, hT28, hT29, hT30, hT31, hT32, rfl⟩
                    obtain ⟨L3, p, hm331, hp332, hp333, hH341, hT334, hT335, hT336, hT337, hT338, hT339, hT340⟩ := hI330
                    refine C_seq ?_
                    refine C_seq ?_
                    refine C_region ?_
                    refine O_p (.i .i64 (((p : Nat)) : Int)) (r_mv hT340) ?_
                    refine O_p (.b (decide ((((p : Nat)) : Int) < 4))) (r_lss rfl rfl) ?_
                    refine O_nil ?_
                    refine C_cond (x := (decide ((((p : Nat)) : Int) < 4))) rfl (fun hc342 => ?_) (fun hc342 => ?_)
                    ·
                      try simp only [decide_eq_true_eq, decide_eq_false_iff_not, Bool.not_eq_true', Bool.not_eq_false', Bool.and_eq_true, Bool.or_eq_true, Bool.or_eq_false_iff, Bool.not_not, Bool.and_eq_false_iff] at hc342
                      refine C_skip ?_
                      refine C_seq ?_
                      refine C_block ?_
                      refine C_seq ?_
                      refine C_region ?_
                      refine O_p (.p (some (F9, 0))) (r_mv hT337) ?_
                      refine O_p (.i .i64 (((p : Nat)) : Int)) (r_mv hT340) ?_
                      refine O_call (Ev.mono (rl_waiting hp333 hH341) fun v343 H344 hq345 => ?_)
                      obtain ⟨L346, rfl, hR347, hH348⟩ := hq345
                      have hwt := hI2.wait (n := ((p : Nat) : Int))
                      rw [hrm2] at hwt
                      refine O_p (.i .i64 ((((clampR room) : Nat)) : Int)) (r_mv hT338) ?_
                      refine O_p (.b false) (by exact (by rw [r_gtr rfl rfl, decide_eq_false (by omega)])) ?_
                      refine O_p (.b false) (r_mv rfl) ?_
                      refine O_gk rfl ?_
                      refine O_p (.p (some (F9, 0))) (r_mv hT337) ?_
                      refine O_gk rfl ?_
                      refine O_p (.i .i64 (((p : Nat)) : Int)) (r_mv hT340) ?_
                      refine O_gk rfl ?_
                      refine O_call (Ev.mono (rl_lost hR347 hH348) fun v349 H350 hq351 => ?_)
                      obtain ⟨L352, rfl, hR353, hH354⟩ := hq351
                      refine O_gk rfl ?_
                      refine O_p (.b false) (by exact (by rw [r_lss rfl rfl, decide_eq_false (by omega)])) ?_
                      refine O_p (.b false) (r_pick_f rfl rfl) ?_
                      refine O_nil ?_
                      refine C_cond (x := false) rfl (fun h => by cases h) (fun _ => ?_)
                      refine C_skip ?_
                      refine C_region ?_
                      refine O_p (.i .i64 (((p : Nat)) : Int)) (r_mv hT340) ?_
                      refine O_p (.i .i64 ((((p : Nat)) : Int) + 1)) (by exact (r_addi rfl rfl (wrap_i64 (by omega) (by omega)))) ?_
                      refine O_p (.i .i64 ((((p : Nat)) : Int) + 1)) (r_mv rfl) ?_
                      refine O_nil ?_
                      have hH355 := (((hH354.top2).top2).top2)
                      exact ⟨4 - (p + 1), by omega, L352, (p + 1), rfl, by omega, hR353, hH355, hT334, hT335, hT336, hT337, hT338, hT339, rfl⟩
                    ·
                      try simp only [decide_eq_true_eq, decide_eq_false_iff_not, Bool.not_eq_true', Bool.not_eq_false', Bool.and_eq_true, Bool.or_eq_true, Bool.or_eq_false_iff, Bool.not_not, Bool.and_eq_false_iff] at hc342
                      refine C_exit ?_
                      refine nx_exit ?_
                      refine nx_exit ?_
                      refine bk_hit ?_
                      refine C_region ?_
                      refine O_p (.i .i64 (((i : Nat)) : Int)) (r_mv hT339) ?_
                      refine O_p (.i .i64 ((((i : Nat)) : Int) + 1)) (by exact (r_addi rfl rfl (wrap_i64 (by omega) (by omega)))) ?_
                      refine O_p (.i .i64 ((((i : Nat)) : Int) + 1)) (r_mv rfl) ?_
                      refine O_nil ?_
                      have hH356 := (((hH341.top2).top2).top2)
                      exact ⟨ol.length - (i + 1), by omega, s2, L3, D322, (i + 1), rfl, by omega, hp333, hI2, hrm2, hln2, hp26, hH356, hT334, hT335, hT336, hT337, hT338, rfl⟩
                  ·
                    have hpf := (Re.pub_few (s := s) (n := o.p) (tp := o.tp) (d := o.d) (tx := o.tx)).1
                    rw [hp25] at hpf
                    have hpz := (Re.pub_few (s := s) (n := o.p) (tp := o.tp) (d := o.d) (tx := o.tx)).2 hpe
                    refine C_region ?_
                    refine O_p (.i .i64 ((((s.pub o.p o.tp o.tx o.d).2.1 : Nat)) : Int)) (r_mv rfl) ?_
                    refine O_p (.b false) (by exact (by rw [r_lss rfl rfl, decide_eq_false (by omega)])) ?_
                    refine O_p (.b false) (r_mv rfl) ?_
                    refine O_gk rfl ?_
                    refine O_p (.i .i64 ((((s.pub o.p o.tp o.tx o.d).2.1 : Nat)) : Int)) (r_mv rfl) ?_
                    refine O_gk rfl ?_
                    refine O_p (.b false) (by exact (by rw [r_gtr rfl rfl, decide_eq_false (by omega)])) ?_
                    refine O_p (.b false) (r_pick_f rfl rfl) ?_
                    refine O_p (.b false) (r_mv rfl) ?_
                    refine O_gk rfl ?_
                    refine O_p (.i .i64 (s.pub o.p o.tp o.tx o.d).2.2) (r_mv rfl) ?_
                    refine O_gk rfl ?_
                    refine O_p (.b true) (by exact (by rw [r_neq rfl rfl, decide_eq_false hpe]; rfl)) ?_
                    refine O_gk rfl ?_
                    refine O_p (.b true) (r_mv rfl) ?_
                    refine O_gk rfl ?_
                    refine O_p (.i .i64 ((((s.pub o.p o.tp o.tx o.d).2.1 : Nat)) : Int)) (r_mv rfl) ?_
                    refine O_gk rfl ?_
                    refine O_p (.b false) (by exact (by rw [r_gtr rfl rfl, decide_eq_false (by omega)])) ?_
                    refine O_gk rfl ?_
                    refine O_p (.b false) (r_pick_t rfl rfl) ?_
                    refine O_p (.b false) (r_pick_f rfl rfl) ?_
                    refine O_nil ?_
                    refine C_cond (x := false) rfl (fun h => by cases h) (fun _ => ?_)
                    refine C_skip ?_
                    refine C_seq ?_
                    refine C_region ?_
                    refine O_p (.i .i64 0) (r_mv rfl) ?_
                    refine O_nil ?_
                    refine C_block ?_
                    obtain ⟨s2, hs2⟩ : ∃ z, z = (s.pub o.p o.tp o.tx o.d).1 := ⟨_, rfl⟩
                    have hI2 : s2.inv (i + 1) := by rw [hs2]; exact hp23.pub
                    have hrm2 : s2.room = clampR room := by rw [hs2, Re.pub_room.1]; exact hp24
                    have hln2 : s2.ps.length = 4 := by rw [hs2, Re.pub_room.2]; exact hp25
                    have hR2 : Rl F9 s2 D322 L321 := by rw [hs2]; exact hR323
                    have hH357 := (((hH325.top2).top2).top2)
                    refine C_while (fun m358 T359 H360 => ∃ L3 : HL, ∃ p : Nat, m358 = 4 - p ∧ p ≤ 4 ∧ Rl F9 s2 D322 L3 ∧ Hs H360 (L3 ++ (D322 ++ ((allL H0) ++ ([])))) ∧ T359.get 0 = (.i .i64 room) ∧ T359.get 1 = v ∧ T359.get 5 = (.b true) ∧ T359.get 6 = (.p (some (F9, 0))) ∧ T359.get 7 = (.i .i64 ((((clampR room) : Nat)) : Int)) ∧ T359.get 8 = (.i .i64 (((i : Nat)) : Int)) ∧ T359.get 11 = (.i .i64 (((p : Nat)) : Int))) (fun m358 T359 H360 hI361 => ?_) 4 _ _ ⟨L321, 0, rfl, by omega, hR2, hH357, hT27, hT28, hT29, hT30, hT31, hT32, rfl⟩
                    obtain ⟨L3, p, hm362, hp363, hp364, hH372, hT365, hT366, hT367, hT368, hT369, hT370, hT371⟩ := hI361
                    refine C_seq ?_
                    refine C_seq ?_
                    refine C_region ?_
                    refine O_p (.i .i64 (((p : Nat)) : Int)) (r_mv hT371) ?_
                    refine O_p (.b (decide ((((p : Nat)) : Int) < 4))) (r_lss rfl rfl) ?_
                    refine O_nil ?_
                    refine C_cond (x := (decide ((((p : Nat)) : Int) < 4))) rfl (fun hc373 => ?_) (fun hc373 => ?_)
                    ·
                      try simp only [decide_eq_true_eq, decide_eq_false_iff_not, Bool.not_eq_true', Bool.not_eq_false', Bool.and_eq_true, Bool.or_eq_true, Bool.or_eq_false_iff, Bool.not_not, Bool.and_eq_false_iff] at hc373
                      refine C_skip ?_
                      refine C_seq ?_
                      refine C_block ?_
                      refine C_seq ?_
                      refine C_region ?_
                      refine O_p (.p (some (F9, 0))) (r_mv hT368) ?_
                      refine O_p (.i .i64 (((p : Nat)) : Int)) (r_mv hT371) ?_
                      refine O_call (Ev.mono (rl_waiting hp364 hH372) fun v374 H375 hq376 => ?_)
                      obtain ⟨L377, rfl, hR378, hH379⟩ := hq376
                      have hwt := hI2.wait (n := ((p : Nat) : Int))
                      rw [hrm2] at hwt
                      refine O_p (.i .i64 ((((clampR room) : Nat)) : Int)) (r_mv hT369) ?_
                      refine O_p (.b false) (by exact (by rw [r_gtr rfl rfl, decide_eq_false (by omega)])) ?_
                      refine O_p (.b false) (r_mv rfl) ?_
                      refine O_gk rfl ?_
                      refine O_p (.p (some (F9, 0))) (r_mv hT368) ?_
                      refine O_gk rfl ?_
                      refine O_p (.i .i64 (((p : Nat)) : Int)) (r_mv hT371) ?_
                      refine O_gk rfl ?_
                      refine O_call (Ev.mono (rl_lost hR378 hH379) fun v380 H381 hq382 => ?_)
                      obtain ⟨L383, rfl, hR384, hH385⟩ := hq382
                      refine O_gk rfl ?_
                      refine O_p (.b false) (by exact (by rw [r_lss rfl rfl, decide_eq_false (by omega)])) ?_
                      refine O_p (.b false) (r_pick_f rfl rfl) ?_
                      refine O_nil ?_
                      refine C_cond (x := false) rfl (fun h => by cases h) (fun _ => ?_)
                      refine C_skip ?_
                      refine C_region ?_
                      refine O_p (.i .i64 (((p : Nat)) : Int)) (r_mv hT371) ?_
                      refine O_p (.i .i64 ((((p : Nat)) : Int) + 1)) (by exact (r_addi rfl rfl (wrap_i64 (by omega) (by omega)))) ?_
                      refine O_p (.i .i64 ((((p : Nat)) : Int) + 1)) (r_mv rfl) ?_
                      refine O_nil ?_
                      have hH386 := (((hH385.top2).top2).top2)
                      exact ⟨4 - (p + 1), by omega, L383, (p + 1), rfl, by omega, hR384, hH386, hT365, hT366, hT367, hT368, hT369, hT370, rfl⟩
                    ·
                      try simp only [decide_eq_true_eq, decide_eq_false_iff_not, Bool.not_eq_true', Bool.not_eq_false', Bool.and_eq_true, Bool.or_eq_true, Bool.or_eq_false_iff, Bool.not_not, Bool.and_eq_false_iff] at hc373
                      refine C_exit ?_
                      refine nx_exit ?_
                      refine nx_exit ?_
                      refine bk_hit ?_
                      refine C_region ?_
                      refine O_p (.i .i64 (((i : Nat)) : Int)) (r_mv hT370) ?_
                      refine O_p (.i .i64 ((((i : Nat)) : Int) + 1)) (by exact (r_addi rfl rfl (wrap_i64 (by omega) (by omega)))) ?_
                      refine O_p (.i .i64 ((((i : Nat)) : Int) + 1)) (r_mv rfl) ?_
                      refine O_nil ?_
                      have hH387 := (((hH372.top2).top2).top2)
                      exact ⟨ol.length - (i + 1), by omega, s2, L3, D322, (i + 1), rfl, by omega, hp364, hI2, hrm2, hln2, hp26, hH387, hT365, hT366, hT367, hT368, hT369, rfl⟩
                ·
                  try simp only [decide_eq_true_eq, decide_eq_false_iff_not, Bool.not_eq_true', Bool.not_eq_false', Bool.and_eq_true, Bool.or_eq_true, Bool.or_eq_false_iff, Bool.not_not, Bool.and_eq_false_iff] at hc290
                  refine C_region ?_
                  refine O_p (.p (some (F9, 0))) (r_mv hT30) ?_
                  refine O_p v (r_mv hT28) ?_
                  refine O_p (.i .i64 (((i : Nat)) : Int)) (r_mv hT32) ?_
                  refine O_q (by exact Rw.row (hv _ hH33.top2.fst) rfl (i := i) rfl (r := [(.i .i64 o.what), (.i .i64 o.p), (.i .i64 o.mode), (.s (txt o.tp)), (.b o.tx), (.sl oa o.d.length oc 0)]) hri) fun v389 hv388 => ?_
                  obtain ⟨rb390, ro391, rfl, hr392⟩ := hv388
                  refine O_p (.p (some (rb390, (ro391 + 1)))) (r_fadd' rfl rfl) ?_
                  refine O_p (.i .i64 o.p) (r_ldR (q := 1) rfl (hr392 _ (hv _ hH33.top2.fst)) rfl) ?_
                  refine O_call (Ev.mono (rl_pull hp22 hH33) fun v393 H394 hq395 => ?_)
                  obtain ⟨L396, hr397, hR398, hH399⟩ := hq395
                  refine O_nil ?_
                  refine C_seq ?_
                  refine C_region ?_
                  refine O_p (.i .i64 0) (r_mv rfl) ?_
                  refine O_nil ?_
                  refine C_block ?_
                  obtain ⟨s2, hs2⟩ : ∃ z, z = (s.pull o.p).1 := ⟨_, rfl⟩
                  have hI2 : s2.inv (i + 1) := by rw [hs2]; exact hp23.pull.mono (Nat.le_succ _)
                  have hrm2 : s2.room = clampR room := by rw [hs2, Re.pull_room.1]; exact hp24
                  have hln2 : s2.ps.length = 4 := by rw [hs2, Re.pull_room.2]; exact hp25
                  have hR2 : Rl F9 s2 D L396 := by rw [hs2]; exact hR398
                  have hH400 := (((hH399.top2).top2).top2)
                  refine C_while (fun m401 T402 H403 => ∃ L3 : HL, ∃ p : Nat, m401 = 4 - p ∧ p ≤ 4 ∧ Rl F9 s2 D L3 ∧ Hs H403 (L3 ++ (D ++ ((allL H0) ++ ([])))) ∧ T402.get 0 = (.i .i64 room) ∧ T402.get 1 = v ∧ T402.get 5 = (.b true) ∧ T402.get 6 = (.p (some (F9, 0))) ∧ T402.get 7 = (.i .i64 ((((clampR room) : Nat)) : Int)) ∧ T402.get 8 = (.i .i64 (((i : Nat)) : Int)) ∧ T402.get 11 = (.i .i64 (((p : Nat)) : Int))) (fun m401 T402 H403 hI404 => ?_) 4 _ _ ⟨L396, 0, rfl, by omega, hR2, hH400, hT27, hT28, hT29, hT30, hT31, hT32, rfl⟩
                  obtain ⟨L3, p, hm405, hp406, hp407, hH415, hT408, hT409, hT410, hT411, hT412, hT413, hT414⟩ := hI404
                  refine C_seq ?_
                  refine C_seq ?_
                  refine C_region ?_
                  refine O_p (.i .i64 (((p : Nat)) : Int)) (r_mv hT414) ?_
                  refine O_p (.b (decide ((((p : Nat)) : Int) < 4))) (r_lss rfl rfl) ?_
                  refine O_nil ?_
                  refine C_cond (x := (decide ((((p : Nat)) : Int) < 4))) rfl (fun hc416 => ?_) (fun hc416 => ?_)
                  ·
                    try simp only [decide_eq_true_eq, decide_eq_false_iff_not, Bool.not_eq_true', Bool.not_eq_false', Bool.and_eq_true, Bool.or_eq_true, Bool.or_eq_false_iff, Bool.not_not, Bool.and_eq_false_iff] at hc416
                    refine C_skip ?_
                    refine C_seq ?_
                    refine C_block ?_
                    refine C_seq ?_
                    refine C_region ?_
                    refine O_p (.p (some (F9, 0))) (r_mv hT411) ?_
                    refine O_p (.i .i64 (((p : Nat)) : Int)) (r_mv hT414) ?_
                    refine O_call (Ev.mono (rl_waiting hp407 hH415) fun v417 H418 hq419 => ?_)
                    obtain ⟨L420, rfl, hR421, hH422⟩ := hq419
                    have hwt := hI2.wait (n := ((p : Nat) : Int))
                    rw [hrm2] at hwt
                    refine O_p (.i .i64 ((((clampR room) : Nat)) : Int)) (r_mv hT412) ?_
                    refine O_p (.b false) (by exact (by rw [r_gtr rfl rfl, decide_eq_false (by omega)])) ?_
                    refine O_p (.b false) (r_mv rfl) ?_
                    refine O_gk rfl ?_
                    refine O_p (.p (some (F9, 0))) (r_mv hT411) ?_
                    refine O_gk rfl ?_
                    refine O_p (.i .i64 (((p : Nat)) : Int)) (r_mv hT414) ?_
                    refine O_gk rfl ?_
                    refine O_call (Ev.mono (rl_lost hR421 hH422) fun v423 H424 hq425 => ?_)
                    obtain ⟨L426, rfl, hR427, hH428⟩ := hq425
                    refine O_gk rfl ?_
                    refine O_p (.b false) (by exact (by rw [r_lss rfl rfl, decide_eq_false (by omega)])) ?_
                    refine O_p (.b false) (r_pick_f rfl rfl) ?_
                    refine O_nil ?_
                    refine C_cond (x := false) rfl (fun h => by cases h) (fun _ => ?_)
                    refine C_skip ?_
                    refine C_region ?_
                    refine O_p (.i .i64 (((p : Nat)) : Int)) (r_mv hT414) ?_
                    refine O_p (.i .i64 ((((p : Nat)) : Int) + 1)) (by exact (r_addi rfl rfl (wrap_i64 (by omega) (by omega)))) ?_
                    refine O_p (.i .i64 ((((p : Nat)) : Int) + 1)) (r_mv rfl) ?_
                    refine O_nil ?_
                    have hH429 := (((hH428.top2).top2).top2)
                    exact ⟨4 - (p + 1), by omega, L426, (p + 1), rfl, by omega, hR427, hH429, hT408, hT409, hT410, hT411, hT412, hT413, rfl⟩
                  ·
                    try simp only [decide_eq_true_eq, decide_eq_false_iff_not, Bool.not_eq_true', Bool.not_eq_false', Bool.and_eq_true, Bool.or_eq_true, Bool.or_eq_false_iff, Bool.not_not, Bool.and_eq_false_iff] at hc416
                    refine C_exit ?_
                    refine nx_exit ?_
                    refine nx_exit ?_
                    refine bk_hit ?_
                    refine C_region ?_
                    refine O_p (.i .i64 (((i : Nat)) : Int)) (r_mv hT413) ?_
                    refine O_p (.i .i64 ((((i : Nat)) : Int) + 1)) (by exact (r_addi rfl rfl (wrap_i64 (by omega) (by omega)))) ?_
                    refine O_p (.i .i64 ((((i : Nat)) : Int) + 1)) (r_mv rfl) ?_
                    refine O_nil ?_
                    have hH430 := (((hH415.top2).top2).top2)
                    exact ⟨ol.length - (i + 1), by omega, s2, L3, D, (i + 1), rfl, by omega, hp407, hI2, hrm2, hln2, hp26, hH430, hT408, hT409, hT410, hT411, hT412, rfl⟩
      ·
        try simp only [decide_eq_true_eq, decide_eq_false_iff_not, Bool.not_eq_true', Bool.not_eq_false', Bool.and_eq_true, Bool.or_eq_true, Bool.or_eq_false_iff, Bool.not_not, Bool.and_eq_false_iff] at hc34
        refine C_exit ?_
        refine nx_exit ?_
        refine nx_exit ?_
        refine bk_hit ?_
        refine C_seq ?_
        refine C_region ?_
        refine O_p (.b true) (r_mv hT29) ?_
        refine O_p (.b true) (r_mv rfl) ?_
        refine O_nil ?_
        refine C_ret ?_
        exact ⟨.inr rfl, _, resL_one (r_tmp (v := .b true) rfl), rfl⟩
    ·
      have hcl : ((clampR room : Nat) : Int) = 64 := by unfold clampR; rw [if_neg hmo]; rfl
      refine C_region ?_
      refine O_p (.i .i64 room) (r_mv rfl) ?_
      refine O_p (.i .i64 room) (r_mv rfl) ?_
      refine O_nil ?_
      refine C_seq ?_
      refine C_seq ?_
      refine C_region ?_
      refine O_p (.i .i64 room) (r_mv rfl) ?_
      refine O_p (.b (decide (room < 1))) (r_lss rfl rfl) ?_
      refine O_p (.b (decide (room < 1))) (r_mv rfl) ?_
      refine O_gx (e := (!(decide (room < 1)))) (v := (.i .i64 room)) (wf rfl) (fun he => (r_mv rfl)) ?_
      refine O_gx (e := (!(decide (room < 1)))) (v := (.b (decide (64 < room)))) (wf rfl) (fun he => (r_gtr (cond_pos he) rfl)) ?_
      refine O_p (.b ((decide (room < 1)) || (decide (64 < room)))) (r_pick_or rfl rfl rfl rfl) ?_
      refine O_nil ?_
      refine C_cond (x := ((decide (room < 1)) || (decide (64 < room)))) rfl (fun hc431 => ?_) (fun hc431 => ?_)
      ·
        try simp only [decide_eq_true_eq, decide_eq_false_iff_not, Bool.not_eq_true', Bool.not_eq_false', Bool.and_eq_true, Bool.or_eq_true, Bool.or_eq_false_iff, Bool.not_not, Bool.and_eq_false_iff] at hc431
        refine C_region ?_
        refine O_p (.i .i64 64) (r_mv rfl) ?_
        refine O_nil ?_
        refine C_seq ?_
        refine C_seq ?_
        refine C_region ?_
        refine O_p (.i .i64 0) (r_mv rfl) ?_
        refine O_nil ?_
        refine C_block ?_
        have hH432 := ((hH12.top1).top1)
        have hH433 := (Hs.addnil hH432 : Hs _ (([] : HL) ++ _))
        have hH434 := (((hH433.top2).top1).top2)
        refine C_while (fun m435 T436 H437 => ∃ s : Re, ∃ L : HL, ∃ D : HL, ∃ i : Nat, m435 = ol.length - i ∧ i ≤ ol.length ∧ Rl F9 s D L ∧ s.inv i ∧ s.room = clampR room ∧ s.ps.length = 4 ∧ ol.length ≤ 150 ∧ Hs H437 (L ++ (D ++ ((allL H0) ++ ([])))) ∧ T436.get 0 = (.i .i64 room) ∧ T436.get 1 = v ∧ T436.get 5 = (.b true) ∧ T436.get 6 = (.p (some (F9, 0))) ∧ T436.get 7 = (.i .i64 ((((clampR room) : Nat)) : Int)) ∧ T436.get 8 = (.i .i64 (((i : Nat)) : Int))) (fun m435 T436 H437 hI438 => ?_) ol.length _ _ ⟨⟨List.replicate 4 pa0, clampR room, []⟩, ([(F9, some (.cells [.sl (some (Lb10, 0)) 4 4 0, .i .i64 ((clampR room : Nat) : Int), .m (some cm11)] true))] ++ ([(Lb10, some (.cells (List.replicate 4 zrow).flatten true))] ++ ([(cm11, some (.map [] 0))] ++ []))), [], 0, rfl, Nat.zero_le _, hR0, hI0, rfl, rfl, hfw rfl, hH434, rfl, rfl, rfl, rfl, (by rw [hcl]; rfl), rfl⟩
        obtain ⟨s, L, D, i, hm439, hp440, hp441, hp442, hp443, hp444, hp445, hH452, hT446, hT447, hT448, hT449, hT450, hT451⟩ := hI438
        refine C_seq ?_
        refine C_seq ?_
        refine C_region ?_
        refine O_p (.i .i64 (((i : Nat)) : Int)) (r_mv hT451) ?_
        refine O_p v (r_mv hT447) ?_
        refine O_p (.i .i64 (((ol.length : Nat)) : Int)) (r_lenOf (v := v) (n := ol.length) rfl ((hv _ hH452.top2.fst).lenOf hops.1) (hv _ hH452.top2.fst).isSl) ?_
        refine O_p (.b (decide ((((i : Nat)) : Int) < (((ol.length : Nat)) : Int)))) (r_lss rfl rfl) ?_
        refine O_nil ?_
        refine C_cond (x := (decide ((((i : Nat)) : Int) < (((ol.length : Nat)) : Int)))) rfl (fun hc453 => ?_) (fun hc453 => ?_)
        ·
          try simp only [decide_eq_true_eq, decide_eq_false_iff_not, Bool.not_eq_true', Bool.not_eq_false', Bool.and_eq_true, Bool.or_eq_true, Bool.or_eq_false_iff, Bool.not_not, Bool.and_eq_false_iff] at hc453
          refine C_skip ?_
          refine C_seq ?_
          refine C_block ?_
          refine C_seq ?_
          refine C_seq ?_
          refine C_region ?_
          have hil : i < ol.length := by omega
          obtain ⟨o, ri, hoi, hri, hor⟩ := hops.get hil
          obtain ⟨oa, oc, rfl, hoc, hom, hob⟩ := hor
          refine O_p v (r_mv hT447) ?_
          refine O_p (.i .i64 (((i : Nat)) : Int)) (r_mv hT451) ?_
          refine O_q (by exact Rw.row (hv _ hH452.top2.fst) rfl (i := i) rfl (r := [(.i .i64 o.what), (.i .i64 o.p), (.i .i64 o.mode), (.s (txt o.tp)), (.b o.tx), (.sl oa o.d.length oc 0)]) hri) fun v455 hv454 => ?_
          obtain ⟨rb456, ro457, rfl, hr458⟩ := hv454
          refine O_p (.p (some (rb456, (ro457 + 0)))) (r_fadd' rfl rfl) ?_
          refine O_p (.i .i64 o.what) (r_ldR (q := 0) rfl (hr458 _ (hv _ hH452.top2.fst)) rfl) ?_
          refine O_nil ?_
          refine C_block ?_
          refine C_seq ?_
          refine C_region ?_
          refine O_p (.b (decide (o.what = 0))) (r_eql rfl rfl) ?_
          refine O_p (.b (decide (o.what = 0))) (r_mv rfl) ?_
          refine O_nil ?_
          refine C_cond (x := (decide (o.what = 0))) rfl (fun hc459 => ?_) (fun hc459 => ?_)
          ·
            try simp only [decide_eq_true_eq, decide_eq_false_iff_not, Bool.not_eq_true', Bool.not_eq_false', Bool.and_eq_true, Bool.or_eq_true, Bool.or_eq_false_iff, Bool.not_not, Bool.and_eq_false_iff] at hc459
            refine C_region ?_
            refine O_p (.p (some (F9, 0))) (r_mv hT449) ?_
            refine O_p v (r_mv hT447) ?_
            refine O_p (.i .i64 (((i : Nat)) : Int)) (r_mv hT451) ?_
            refine O_q (by exact Rw.row (hv _ hH452.top2.fst) rfl (i := i) rfl (r := [(.i .i64 o.what), (.i .i64 o.p), (.i .i64 o.mode), (.s (txt o.tp)), (.b o.tx), (.sl oa o.d.length oc 0)]) hri) fun v461 hv460 => ?_
            obtain ⟨rb462, ro463, rfl, hr464⟩ := hv460
            refine O_p (.p (some (rb462, (ro463 + 1)))) (r_fadd' rfl rfl) ?_
            refine O_p (.i .i64 o.p) (r_ldR (q := 1) rfl (hr464 _ (hv _ hH452.top2.fst)) rfl) ?_
            refine O_call (Ev.mono (rl_join hp441 hH452) fun v465 H466 hq467 => ?_)
            obtain ⟨L468, rfl, hR469, hH470⟩ := hq467
            refine O_nil ?_
            refine C_seq ?_
            refine C_region ?_
            refine O_p (.i .i64 0) (r_mv rfl) ?_
            refine O_nil ?_
            refine C_block ?_
            obtain ⟨s2, hs2⟩ : ∃ z, z = (s.join o.p).1 := ⟨_, rfl⟩
            have hI2 : s2.inv (i + 1) := by rw [hs2]; exact hp442.join.mono (Nat.le_succ _)
            have hrm2 : s2.room = clampR room := by rw [hs2, Re.join_room.1]; exact hp443
            have hln2 : s2.ps.length = 4 := by rw [hs2, Re.join_room.2]; exact hp444
            have hR2 : Rl F9 s2 D L468 := by rw [hs2]; exact hR469
            have hH471 := (((hH470.top2).top2).top2)
            refine C_while (fun m472 T473 H474 => ∃ L3 : HL, ∃ p : Nat, m472 = 4 - p ∧ p ≤ 4 ∧ Rl F9 s2 D L3 ∧ Hs H474 (L3 ++ (D ++ ((allL H0) ++ ([])))) ∧ T473.get 0 = (.i .i64 room) ∧ T473.get 1 = v ∧ T473.get 5 = (.b true) ∧ T473.get 6 = (.p (some (F9, 0))) ∧ T473.get 7 = (.i .i64 ((((clampR room) : Nat)) : Int)) ∧ T473.get 8 = (.i .i64 (((i : Nat)) : Int)) ∧ T473.get 11 = (.i .i64 (((p : Nat)) : Int))) (fun m472 T473 H474 hI475 => ?_) 4 _ _ ⟨L468, 0, rfl, by omega, hR2, hH471, hT446, hT447, hT448, hT449, hT450, hT451, rfl⟩
            obtain ⟨L3, p, hm476, hp477, hp478, hH486, hT479, hT480, hT481, hT482, hT483, hT484, hT485⟩ := hI475
            refine C_seq ?_
            refine C_seq ?_
            refine C_region ?_
            refine O_p (.i .i64 (((p : Nat)) : Int)) (r_mv hT485) ?_
            refine O_p (.b (decide ((((p : Nat)) : Int) < 4))) (r_lss rfl rfl) ?_
            refine O_nil ?_
            refine C_cond (x := (decide ((((p : Nat)) : Int) < 4))) rfl (fun hc487 => ?_) (fun hc487 => ?_)
            ·
              try simp only [decide_eq_true_eq, decide_eq_false_iff_not, Bool.not_eq_true', Bool.not_eq_false', Bool.and_eq_true, Bool.or_eq_true, Bool.or_eq_false_iff, Bool.not_not, Bool.and_eq_false_iff] at hc487
              refine C_skip ?_
              refine C_seq ?_
              refine C_block ?_
              refine C_seq ?_
              refine C_region ?_
              refine O_p (.p (some (F9, 0))) (r_mv hT482) ?_
              refine O_p (.i .i64 (((p : Nat)) : Int)) (r_mv hT485) ?_
              refine O_call (Ev.mono (rl_waiting hp478 hH486) fun v488 H489 hq490 => ?_)
              obtain ⟨L491, rfl, hR492, hH493⟩ := hq490
              have hwt := hI2.wait (n := ((p : Nat) : Int))
              rw [hrm2] at hwt
              refine O_p (.i .i64 ((((clampR room) : Nat)) : Int)) (r_mv hT483) ?_
              refine O_p (.b false) (by exact (by rw [r_gtr rfl rfl, decide_eq_false (by omega)])) ?_
              refine O_p (.b false) (r_mv rfl) ?_
              refine O_gk rfl ?_
              refine O_p (.p (some (F9, 0))) (r_mv hT482) ?_
              refine O_gk rfl ?_
              refine O_p (.i .i64 (((p : Nat)) : Int)) (r_mv hT485) ?_
              refine O_gk rfl ?_
              refine O_call (Ev.mono (rl_lost hR492 hH493) fun v494 H495 hq496 => ?_)
              obtain ⟨L497, rfl, hR498, hH499⟩ := hq496
              refine O_gk rfl ?_
              refine O_p (.b false) (by exact (by rw [r_lss rfl rfl, decide_eq_false (by omega)])) ?_
              refine O_p (.b false) (r_pick_f rfl rfl) ?_
              refine O_nil ?_
              refine C_cond (x := false) rfl (fun h => by cases h) (fun _ => ?_)
              refine C_skip ?_
              refine C_region ?_
              refine O_p (.i .i64 (((p : Nat)) : Int)) (r_mv hT485) ?_
              refine O_p (.i .i64 ((((p : Nat)) : Int) + 1)) (by exact (r_addi rfl rfl (wrap_i64 (by omega) (by omega)))) ?_
              refine O_p (.i .i64 ((((p : Nat)) : Int) + 1)) (r_mv rfl) ?_
              refine O_nil ?_
              have hH500 := (((hH499.top2).top2).top2)
              exact ⟨4 - (p + 1), by omega, L497, (p + 1), rfl, by omega, hR498, hH500, hT479, hT480, hT481, hT482, hT483, hT484, rfl⟩
            ·
              try simp only [decide_eq_true_eq, decide_eq_false_iff_not, Bool.not_eq_true', Bool.not_eq_false', Bool.and_eq_true, Bool.or_eq_true, Bool.or_eq_false_iff, Bool.not_not, Bool.and_eq_false_iff] at hc487
              refine C_exit ?_
              refine nx_exit ?_
              refine nx_exit ?_
              refine bk_hit ?_
              refine C_region ?_
              refine O_p (.i .i64 (((i : Nat)) : Int)) (r_mv hT484) ?_
              refine O_p (.i .i64 ((((i : Nat)) : Int) + 1)) (by exact (r_addi rfl rfl (wrap_i64 (by omega) (by omega)))) ?_
              refine O_p (.i .i64 ((((i : Nat)) : Int) + 1)) (r_mv rfl) ?_
              refine O_nil ?_
              have hH501 := (((hH486.top2).top2).top2)
              exact ⟨ol.length - (i + 1), by omega, s2, L3, D, (i + 1), rfl, by omega, hp478, hI2, hrm2, hln2, hp445, hH501, hT479, hT480, hT481, hT482, hT483, rfl⟩
          ·
            try simp only [decide_eq_true_eq, decide_eq_false_iff_not, Bool.not_eq_true', Bool.not_eq_false', Bool.and_eq_true, Bool.or_eq_true, Bool.or_eq_false_iff, Bool.not_not, Bool.and_eq_false_iff] at hc459
            refine C_seq ?_
            refine C_region ?_
            refine O_p (.b (decide (o.what = 1))) (r_eql rfl rfl) ?_
            refine O_p (.b (decide (o.what = 1))) (r_mv rfl) ?_
            refine O_nil ?_
            refine C_cond (x := (decide (o.what = 1))) rfl (fun hc502 => ?_) (fun hc502 => ?_)
            ·
              try simp only [decide_eq_true_eq, decide_eq_false_iff_not, Bool.not_eq_true', Bool.not_eq_false', Bool.and_eq_true, Bool.or_eq_true, Bool.or_eq_false_iff, Bool.not_not, Bool.and_eq_false_iff] at hc502
              refine C_seq ?_
              by_cases hlv : (s.leave o.p).2 = 0
              ·
                have hlw := Re.leave_wait hlv
                refine C_region ?_
                refine O_p (.p (some (F9, 0))) (r_mv hT449) ?_
                refine O_p v (r_mv hT447) ?_
                refine O_p (.i .i64 (((i : Nat)) : Int)) (r_mv hT451) ?_
                refine O_q (by exact Rw.row (hv _ hH452.top2.fst) rfl (i := i) rfl (r := [(.i .i64 o.what), (.i .i64 o.p), (.i .i64 o.mode), (.s (txt o.tp)), (.b o.tx), (.sl oa o.d.length oc 0)]) hri) fun v504 hv503 => ?_
                obtain ⟨rb505, ro506, rfl, hr507⟩ := hv503
                refine O_p (.p (some (rb505, (ro506 + 1)))) (r_fadd' rfl rfl) ?_
                refine O_p (.i .i64 o.p) (r_ldR (q := 1) rfl (hr507 _ (hv _ hH452.top2.fst)) rfl) ?_
                refine O_call (Ev.mono (rl_leave hp441 hH452) fun v508 H509 hq510 => ?_)
                obtain ⟨L511, rfl, hR512, hH513⟩ := hq510
                refine O_p (.b true) (by exact (by rw [r_eql rfl rfl, decide_eq_true hlv])) ?_
                refine O_p (.b true) (r_mv rfl) ?_
                refine O_gk rfl ?_
                refine O_p (.p (some (F9, 0))) (r_mv hT449) ?_
                refine O_gk rfl ?_
                refine O_p v (r_mv hT447) ?_
                refine O_gk rfl ?_
                refine O_p (.i .i64 (((i : Nat)) : Int)) (r_mv hT451) ?_
                refine O_gk rfl ?_
                refine O_q (by exact Rw.row (hv _ hH513.top2.fst) rfl (i := i) rfl (r := [(.i .i64 o.what), (.i .i64 o.p), (.i .i64 o.mode), (.s (txt o.tp)), (.b o.tx), (.sl oa o.d.length oc 0)]) hri) fun v515 hv514 => ?_
                obtain ⟨rb516, ro517, rfl, hr518⟩ := hv514
                refine O_gk rfl ?_
                refine O_p (.p (some (rb516, (ro517 + 1)))) (r_fadd' rfl rfl) ?_
                refine O_gk rfl ?_
                refine O_p (.i .i64 o.p) (r_ldR (q := 1) rfl (hr518 _ (hv _ hH513.top2.fst)) rfl) ?_
                refine O_gk rfl ?_
                refine O_call (Ev.mono (rl_waiting hR512 hH513) fun v519 H520 hq521 => ?_)
                obtain ⟨L522, rfl, hR523, hH524⟩ := hq521
                refine O_gk rfl ?_
                refine O_p (.b false) (by exact (by rw [r_neq rfl rfl, decide_eq_true (by rw [hlw]; rfl)]; rfl)) ?_
                refine O_p (.b false) (r_pick_t rfl rfl) ?_
                refine O_nil ?_
                refine C_cond (x := false) rfl (fun h => by cases h) (fun _ => ?_)
                refine C_skip ?_
                refine C_seq ?_
                refine C_region ?_
                refine O_p (.i .i64 0) (r_mv rfl) ?_
                refine O_nil ?_
                refine C_block ?_
                obtain ⟨s2, hs2⟩ : ∃ z, z = (s.leave o.p).1 := ⟨_, rfl⟩
                have hI2 : s2.inv (i + 1) := by rw [hs2]; exact hp442.leave.mono (Nat.le_succ _)
                have hrm2 : s2.room = clampR room := by rw [hs2, Re.leave_room.1]; exact hp443
                have hln2 : s2.ps.length = 4 := by rw [hs2, Re.leave_room.2]; exact hp444
                have hR2 : Rl F9 s2 D L522 := by rw [hs2]; exact hR523
                have hH525 := (((hH524.top2).top2).top2)
                refine C_while (fun m526 T527 H528 => ∃ L3 : HL, ∃ p : Nat, m526 = 4 - p ∧ p ≤ 4 ∧ Rl F9 s2 D L3 ∧ Hs H528 (L3 ++ (D ++ ((allL H0) ++ ([])))) ∧ T527.get 0 = (.i .i64 room) ∧ T527.get 1 = v ∧ T527.get 5 = (.b true) ∧ T527.get 6 = (.p (some (F9, 0))) ∧ T527.get 7 = (.i .i64 ((((clampR room) : Nat)) : Int)) ∧ T527.get 8 = (.i .i64 (((i : Nat)) : Int)) ∧ T527.get 11 = (.i .i64 (((p : Nat)) : Int))) (fun m526 T527 H528 hI529 => ?_) 4 _ _ ⟨L522, 0, rfl, by omega, hR2, hH525, hT446, hT447, hT448, hT449, hT450, hT451, rfl⟩
                obtain ⟨L3, p, hm530, hp531, hp532, hH540, hT533, hT534, hT535, hT536, hT537, hT538, hT539⟩ := hI529
                refine C_seq ?_
                refine C_seq ?_
                refine C_region ?_
                refine O_p (.i .i64 (((p : Nat)) : Int)) (r_mv hT539) ?_
                refine O_p (.b (decide ((((p : Nat)) : Int) < 4))) (r_lss rfl rfl) ?_
                refine O_nil ?_
                refine C_cond (x := (decide ((((p : Nat)) : Int) < 4))) rfl (fun hc541 => ?_) (fun hc541 => ?_)
                ·
                  try simp only [decide_eq_true_eq, decide_eq_false_iff_not, Bool.not_eq_true', Bool.not_eq_false', Bool.and_eq_true, Bool.or_eq_true, Bool.or_eq_false_iff, Bool.not_not, Bool.and_eq_false_iff] at hc541
                  refine C_skip ?_
                  refine C_seq ?_
                  refine C_block ?_
                  refine C_seq ?_
                  refine C_region ?_
                  refine O_p (.p (some (F9, 0))) (r_mv hT536) ?_
                  refine O_p (.i .i64 (((p : Nat)) : Int)) (r_mv hT539) ?_
                  refine O_call (Ev.mono (rl_waiting hp532 hH540) fun v542 H543 hq544 => ?_)
                  obtain ⟨L545, rfl, hR546, hH547⟩ := hq544
                  have hwt := hI2.wait (n := ((p : Nat) : Int))
                  rw [hrm2] at hwt
                  refine O_p (.i .i64 ((((clampR room) : Nat)) : Int)) (r_mv hT537) ?_
                  refine O_p (.b false) (by exact (by rw [r_gtr rfl rfl, decide_eq_false (by omega)])) ?_
                  refine O_p (.b false) (r_mv rfl) ?_
                  refine O_gk rfl ?_
                  refine O_p (.p (some (F9, 0))) (r_mv hT536) ?_
                  refine O_gk rfl ?_
                  refine O_p (.i .i64 (((p : Nat)) : Int)) (r_mv hT539) ?_
                  refine O_gk rfl ?_
                  refine O_call (Ev.mono (rl_lost hR546 hH547) fun v548 H549 hq550 => ?_)
                  obtain ⟨L551, rfl, hR552, hH553⟩ := hq550
                  refine O_gk rfl ?_
                  refine O_p (.b false) (by exact (by rw [r_lss rfl rfl, decide_eq_false (by omega)])) ?_
                  refine O_p (.b false) (r_pick_f rfl rfl) ?_
                  refine O_nil ?_
                  refine C_cond (x := false) rfl (fun h => by cases h) (fun _ => ?_)
                  refine C_skip ?_
                  refine C_region ?_
                  refine O_p (.i .i64 (((p : Nat)) : Int)) (r_mv hT539) ?_
                  refine O_p (.i .i64 ((((p : Nat)) : Int) + 1)) (by exact (r_addi rfl rfl (wrap_i64 (by omega) (by omega)))) ?_
                  refine O_p (.i .i64 ((((p : Nat)) : Int) + 1)) (r_mv rfl) ?_
                  refine O_nil ?_
                  have hH554 := (((hH553.top2).top2).top2)
                  exact ⟨4 - (p + 1), by omega, L551, (p + 1), rfl, by omega, hR552, hH554, hT533, hT534, hT535, hT536, hT537, hT538, rfl⟩
                ·
                  try simp only [decide_eq_true_eq, decide_eq_false_iff_not, Bool.not_eq_true', Bool.not_eq_false', Bool.and_eq_true, Bool.or_eq_true, Bool.or_eq_false_iff, Bool.not_not, Bool.and_eq_false_iff] at hc541
                  refine C_exit ?_
                  refine nx_exit ?_
                  refine nx_exit ?_
                  refine bk_hit ?_
                  refine C_region ?_
                  refine O_p (.i .i64 (((i : Nat)) : Int)) (r_mv hT538) ?_
                  refine O_p (.i .i64 ((((i : Nat)) : Int) + 1)) (by exact (r_addi rfl rfl (wrap_i64 (by omega) (by omega)))) ?_
                  refine O_p (.i .i64 ((((i : Nat)) : Int) + 1)) (r_mv rfl) ?_
                  refine O_nil ?_
                  have hH555 := (((hH540.top2).top2).top2)
                  exact ⟨ol.length - (i + 1), by omega, s2, L3, D, (i + 1), rfl, by omega, hp532, hI2, hrm2, hln2, hp445, hH555, hT533, hT534, hT535, hT536, hT537, rfl⟩
              ·
                refine C_region ?_
                refine O_p (.p (some (F9, 0))) (r_mv hT449) ?_
                refine O_p v (r_mv hT447) ?_
                refine O_p (.i .i64 (((i : Nat)) : Int)) (r_mv hT451) ?_
                refine O_q (by exact Rw.row (hv _ hH452.top2.fst) rfl (i := i) rfl (r := [(.i .i64 o.what), (.i .i64 o.p), (.i .i64 o.mode), (.s (txt o.tp)), (.b o.tx), (.sl oa o.d.length oc 0)]) hri) fun v557 hv556 => ?_
                obtain ⟨rb558, ro559, rfl, hr560⟩ := hv556
                refine O_p (.p (some (rb558, (ro559 + 1)))) (r_fadd' rfl rfl) ?_
                refine O_p (.i .i64 o.p) (r_ldR (q := 1) rfl (hr560 _ (hv _ hH452.top2.fst)) rfl) ?_
                refine O_call (Ev.mono (rl_leave hp441 hH452) fun v561 H562 hq563 => ?_)
                obtain ⟨L564, rfl, hR565, hH566⟩ := hq563
                refine O_p (.b false) (by exact (by rw [r_eql rfl rfl, decide_eq_false hlv])) ?_
                refine O_p (.b false) (r_mv rfl) ?_
                refine O_gf rfl ?_
                refine O_gf rfl ?_
                refine O_gf rfl ?_
                refine O_gf rfl ?_
                refine O_gf rfl ?_
                refine O_gf rfl ?_
                refine O_gf rfl ?_
                refine O_gf rfl ?_
                refine O_p (.b false) (r_pick_f rfl rfl) ?_
                refine O_nil ?_
                refine C_cond (x := false) rfl (fun h => by cases h) (fun _ => ?_)
                refine C_skip ?_
                refine C_seq ?_
                refine C_region ?_
                refine O_p (.i .i64 0) (r_mv rfl) ?_
                refine O_nil ?_
                refine C_block ?_
                obtain ⟨s2, hs2⟩ : ∃ z, z = (s.leave o.p).1 := ⟨_, rfl⟩
                have hI2 : s2.inv (i + 1) := by rw [hs2]; exact hp442.leave.mono (Nat.le_succ _)
                have hrm2 : s2.room = clampR room := by rw [hs2, Re.leave_room.1]; exact hp443
                have hln2 : s2.ps.length = 4 := by rw [hs2, Re.leave_room.2]; exact hp444
                have hR2 : Rl F9 s2 D L564 := by rw [hs2]; exact hR565
                have hH567 := (((hH566.top2).top2).top2)
                refine C_while (fun m568 T569 H570 => ∃ L3 : HL, ∃ p : Nat, m568 = 4 - p ∧ p ≤ 4 ∧ Rl F9 s2 D L3 ∧ Hs H570 (L3 ++ (D ++ ((allL H0) ++ ([])))) ∧ T569.get 0 = (.i .i64 room) ∧ T569.get 1 = v ∧ T569.get 5 = (.b true) ∧ T569.get 6 = (.p (some (F9, 0))) ∧ T569.get 7 = (.i .i64 ((((clampR room) : Nat)) : Int)) ∧ T569.get 8 = (.i .i64 (((i : Nat)) : Int)) ∧ T569.get 11 = (.i .i64 (((p : Nat)) : Int))) (fun m568 T569 H570 hI571 => ?_) 4 _ _ ⟨L564, 0, rfl, by omega, hR2, hH567, hT446, hT447, hT448, hT449, hT450, hT451, rfl⟩
                obtain ⟨L3, p, hm572, hp573, hp574, hH582, hT575, hT576, hT577, hT578, hT579, hT580, hT581⟩ := hI571
                refine C_seq ?_
                refine C_seq ?_
                refine C_region ?_
                refine O_p (.i .i64 (((p : Nat)) : Int)) (r_mv hT581) ?_
                refine O_p (.b (decide ((((p : Nat)) : Int) < 4))) (r_lss rfl rfl) ?_
                refine O_nil ?_
                refine C_cond (x := (decide ((((p : Nat)) : Int) < 4))) rfl (fun hc583 => ?_) (fun hc583 => ?_)
                ·
                  try simp only [decide_eq_true_eq, decide_eq_false_iff_not, Bool.not_eq_true', Bool.not_eq_false', Bool.and_eq_true, Bool.or_eq_true, Bool.or_eq_false_iff, Bool.not_not, Bool.and_eq_false_iff] at hc583
                  refine C_skip ?_
                  refine C_seq ?_
                  refine C_block ?_
                  refine C_seq ?_
                  refine C_region ?_
                  refine O_p (.p (some (F9, 0))) (r_mv hT578) ?_
                  refine O_p (.i .i64 (((p : Nat)) : Int)) (r_mv hT581) ?_
                  refine O_call (Ev.mono (rl_waiting hp574 hH582) fun v584 H585 hq586 => ?_)
                  obtain ⟨L587, rfl, hR588, hH589⟩ := hq586
                  have hwt := hI2.wait (n := ((p : Nat) : Int))
                  rw [hrm2] at hwt
                  refine O_p (.i .i64 ((((clampR room) : Nat)) : Int)) (r_mv hT579) ?_
                  refine O_p (.b false) (by exact (by rw [r_gtr rfl rfl, decide_eq_false (by omega)])) ?_
                  refine O_p (.b false) (r_mv rfl) ?_
                  refine O_gk rfl ?_
                  refine O_p (.p (some (F9, 0))) (r_mv hT578) ?_
                  refine O_gk rfl ?_
                  refine O_p (.i .i64 (((p : Nat)) : Int)) (r_mv hT581) ?_
                  refine O_gk rfl ?_
                  refine O_call (Ev.mono (rl_lost hR588 hH589) fun v590 H591 hq592 => ?_)
                  obtain ⟨L593, rfl, hR594, hH595⟩ := hq592
                  refine O_gk rfl ?_
                  refine O_p (.b false) (by exact (by rw [r_lss rfl rfl, decide_eq_false (by omega)])) ?_
                  refine O_p (.b false) (r_pick_f rfl rfl) ?_
                  refine O_nil ?_
                  refine C_cond (x := false) rfl (fun h => by cases h) (fun _ => ?_)
                  refine C_skip ?_
                  refine C_region ?_
                  refine O_p (.i .i64 (((p : Nat)) : Int)) (r_mv hT581) ?_
                  refine O_p (.i .i64 ((((p : Nat)) : Int) + 1)) (by exact (r_addi rfl rfl (wrap_i64 (by omega) (by omega)))) ?_
                  refine O_p (.i .i64 ((((p : Nat)) : Int) + 1)) (r_mv rfl) ?_
                  refine O_nil ?_
                  have hH596 := (((hH595.top2).top2).top2)
                  exact ⟨4 - (p + 1), by omega, L593, (p + 1), rfl, by omega, hR594, hH596, hT575, hT576, hT577, hT578, hT579, hT580, rfl⟩
                ·
                  try simp only [decide_eq_true_eq, decide_eq_false_iff_not, Bool.not_eq_true', Bool.not_eq_false', Bool.and_eq_true, Bool.or_eq_true, Bool.or_eq_false_iff, Bool.not_not, Bool.and_eq_false_iff] at hc583
                  refine C_exit ?_
                  refine nx_exit ?_
                  refine nx_exit ?_
                  refine bk_hit ?_
                  refine C_region ?_
                  refine O_p (.i .i64 (((i : Nat)) : Int)) (r_mv hT580) ?_
                  refine O_p (.i .i64 ((((i : Nat)) : Int) + 1)) (by exact (r_addi rfl rfl (wrap_i64 (by omega) (by omega)))) ?_
                  refine O_p (.i .i64 ((((i : Nat)) : Int) + 1)) (r_mv rfl) ?_
                  refine O_nil ?_
                  have hH597 := (((hH582.top2).top2).top2)
                  exact ⟨ol.length - (i + 1), by omega, s2, L3, D, (i + 1), rfl, by omega, hp574, hI2, hrm2, hln2, hp445, hH597, hT575, hT576, hT577, hT578, hT579, rfl⟩
            ·
              try simp only [decide_eq_true_eq, decide_eq_false_iff_not, Bool.not_eq_true', Bool.not_eq_false', Bool.and_eq_true, Bool.or_eq_true, Bool.or_eq_false_iff, Bool.not_not, Bool.and_eq_false_iff] at hc502
              refine C_seq ?_
              refine C_region ?_
              refine O_p (.b (decide (o.what = 2))) (r_eql rfl rfl) ?_
              refine O_p (.b (decide (o.what = 2))) (r_mv rfl) ?_
              refine O_nil ?_
              refine C_cond (x := (decide (o.what = 2))) rfl (fun hc598 => ?_) (fun hc598 => ?_)
              ·
                try simp only [decide_eq_true_eq, decide_eq_false_iff_not, Bool.not_eq_true', Bool.not_eq_false', Bool.and_eq_true, Bool.or_eq_true, Bool.or_eq_false_iff, Bool.not_not, Bool.and_eq_false_iff] at hc598
                refine C_draw fun b599 H600 hbase601 hA602 => ?_
                have hH603 := hH452.keep (by have := hA602.1; omega) (fun q _ => hA602.2 q) ((hH452.old).aside hA602).ok
                refine D_l (v := (.p (some (F9, 0)))) rfl rfl rfl (r_mv hT449) ?_
                refine D_l (v := v) rfl rfl rfl (r_mv hT447) ?_
                refine D_l (v := (.i .i64 (((i : Nat)) : Int))) rfl rfl rfl (r_mv hT451) ?_
                refine D_q rfl rfl rfl (by exact Rw.row (hv _ hH603.top2.fst) rfl (i := i) rfl (r := [(.i .i64 o.what), (.i .i64 o.p), (.i .i64 o.mode), (.s (txt o.tp)), (.b o.tx), (.sl oa o.d.length oc 0)]) hri) fun v605 hv604 => ?_
                obtain ⟨rb606, ro607, rfl, hr608⟩ := hv604
                refine D_l (v := (.p (some (rb606, (ro607 + 1))))) rfl rfl rfl (r_fadd' rfl rfl) ?_
                refine D_l (v := v) rfl rfl rfl (r_mv hT447) ?_
                refine D_l (v := (.i .i64 (((i : Nat)) : Int))) rfl rfl rfl (r_mv hT451) ?_
                refine D_q rfl rfl rfl (by exact Rw.row (hv _ hH603.top2.fst) rfl (i := i) rfl (r := [(.i .i64 o.what), (.i .i64 o.p), (.i .i64 o.mode), (.s (txt o.tp)), (.b o.tx), (.sl oa o.d.length oc 0)]) hri) fun v610 hv609 => ?_
                obtain ⟨rb611, ro612, rfl, hr613⟩ := hv609
                refine D_l (v := (.p (some (rb611, (ro612 + 3))))) rfl rfl rfl (r_fadd' rfl rfl) ?_
                refine D_l (v := v) rfl rfl rfl (r_mv hT447) ?_
                refine D_l (v := (.i .i64 (((i : Nat)) : Int))) rfl rfl rfl (r_mv hT451) ?_
                refine D_q rfl rfl rfl (by exact Rw.row (hv _ hH603.top2.fst) rfl (i := i) rfl (r := [(.i .i64 o.what), (.i .i64 o.p), (.i .i64 o.mode), (.s (txt o.tp)), (.b o.tx), (.sl oa o.d.length oc 0)]) hri) fun v615 hv614 => ?_
                obtain ⟨rb616, ro617, rfl, hr618⟩ := hv614
                refine D_l (v := (.p (some (rb616, (ro617 + 2))))) rfl rfl rfl (r_fadd' rfl rfl) ?_
                refine D_r (v := (.i .i64 o.p)) rfl rfl rfl (r_ldR (q := 1) rfl (hr608 _ (hv _ hH603.top2.fst)) rfl) ?_
                refine D_r (v := (.s (txt o.tp))) rfl rfl rfl (r_ldR (q := 3) rfl (hr613 _ (hv _ hH603.top2.fst)) rfl) ?_
                refine D_r (v := (.i .i64 o.mode)) rfl rfl rfl (r_ldR (q := 2) rfl (hr618 _ (hv _ hH603.top2.fst)) rfl) ?_
                refine D_call (Ev.mono (rl_subs hp441 hH603) fun v619 H620 hq621 => ?_)
                obtain ⟨L622, rfl, hR623, hH624⟩ := hq621
                refine And.intro (And.intro (Or.inl rfl) (And.intro (Or.inl rfl) (And.intro (Or.inl rfl) True.intro))) ?_
                refine D_nil ?_
                refine C_seq ?_
                refine C_region ?_
                refine O_p (.i .i64 0) (r_mv rfl) ?_
                refine O_nil ?_
                refine C_block ?_
                obtain ⟨s2, hs2⟩ : ∃ z, z = (s.subs o.p o.tp o.mode).1 := ⟨_, rfl⟩
                have hI2 : s2.inv (i + 1) := by rw [hs2]; exact hp442.subs.mono (Nat.le_succ _)
                have hrm2 : s2.room = clampR room := by rw [hs2, Re.subs_room.1]; exact hp443
                have hln2 : s2.ps.length = 4 := by rw [hs2, Re.subs_room.2]; exact hp444
                have hR2 : Rl F9 s2 D L622 := by rw [hs2]; exact hR623
                have hH625 := (((hH624.top2).top2).top2)
                refine C_while (fun m626 T627 H628 => ∃ L3 : HL, ∃ p : Nat, m626 = 4 - p ∧ p ≤ 4 ∧ Rl F9 s2 D L3 ∧ Hs H628 (L3 ++ (D ++ ((allL H0) ++ ([])))) ∧ T627.get 0 = (.i .i64 room) ∧ T627.get 1 = v ∧ T627.get 5 = (.b true) ∧ T627.get 6 = (.p (some (F9, 0))) ∧ T627.get 7 = (.i .i64 ((((clampR room) : Nat)) : Int)) ∧ T627.get 8 = (.i .i64 (((i : Nat)) : Int)) ∧ T627.get 11 = (.i .i64 (((p : Nat)) : Int))) (fun m626 T627 H628 hI629 => ?_) 4 _ _ ⟨L622, 0, rfl, by omega, hR2, hH625, hT446, hT447, hT448, hT449, hT450, hT451, rfl⟩
                obtain ⟨L3, p, hm630, hp631, hp632, hH640, hT633, hT634, hT635, hT636, hT637, hT638, hT639⟩ := hI629
                refine C_seq ?_
                refine C_seq ?_
                refine C_region ?_
                refine O_p (.i .i64 (((p : Nat)) : Int)) (r_mv hT639) ?_
                refine O_p (.b (decide ((((p : Nat)) : Int) < 4))) (r_lss rfl rfl) ?_
                refine O_nil ?_
                refine C_cond (x := (decide ((((p : Nat)) : Int) < 4))) rfl (fun hc641 => ?_) (fun hc641 => ?_)
                ·
                  try simp only [decide_eq_true_eq, decide_eq_false_iff_not, Bool.not_eq_true', Bool.not_eq_false', Bool.and_eq_true, Bool.or_eq_true, Bool.or_eq_false_iff, Bool.not_not, Bool.and_eq_false_iff] at hc641
                  refine C_skip ?_
                  refine C_seq ?_
                  refine C_block ?_
                  refine C_seq ?_
                  refine C_region ?_
                  refine O_p (.p (some (F9, 0))) (r_mv hT636) ?_
                  refine O_p (.i .i64 (((p : Nat)) : Int)) (r_mv hT639) ?_
                  refine O_call (Ev.mono (rl_waiting hp632 hH640) fun v642 H643 hq644 => ?_)
                  obtain ⟨L645, rfl, hR646, hH647⟩ := hq644
                  have hwt := hI2.wait (n := ((p : Nat) : Int))
                  rw [hrm2] at hwt
                  refine O_p (.i .i64 ((((clampR room) : Nat)) : Int)) (r_mv hT637) ?_
                  refine O_p (.b false) (by exact (by rw [r_gtr rfl rfl, decide_eq_false (by omega)])) ?_
                  refine O_p (.b false) (r_mv rfl) ?_
                  refine O_gk rfl ?_
                  refine O_p (.p (some (F9, 0))) (r_mv hT636) ?_
                  refine O_gk rfl ?_
                  refine O_p (.i .i64 (((p : Nat)) : Int)) (r_mv hT639) ?_
                  refine O_gk rfl ?_
                  refine O_call (Ev.mono (rl_lost hR646 hH647) fun v648 H649 hq650 => ?_)
                  obtain ⟨L651, rfl, hR652, hH653⟩ := hq650
                  refine O_gk rfl ?_
                  refine O_p (.b false) (by exact (by rw [r_lss rfl rfl, decide_eq_false (by omega)])) ?_
                  refine O_p (.b false) (r_pick_f rfl rfl) ?_
                  refine O_nil ?_
                  refine C_cond (x := false) rfl (fun h => by cases h) (fun _ => ?_)
                  refine C_skip ?_
                  refine C_region ?_
                  refine O_p (.i .i64 (((p : Nat)) : Int)) (r_mv hT639) ?_
                  refine O_p (.i .i64 ((((p : Nat)) : Int) + 1)) (by exact (r_addi rfl rfl (wrap_i64 (by omega) (by omega)))) ?_
                  refine O_p (.i .i64 ((((p : Nat)) : Int) + 1)) (r_mv rfl) ?_
                  refine O_nil ?_
                  have hH654 := (((hH653.top2).top2).top2)
                  exact ⟨4 - (p + 1), by omega, L651, (p + 1), rfl, by omega, hR652, hH654, hT633, hT634, hT635, hT636, hT637, hT638, rfl⟩
                ·
                  try simp only [decide_eq_true_eq, decide_eq_false_iff_not, Bool.not_eq_true', Bool.not_eq_false', Bool.and_eq_true, Bool.or_eq_true, Bool.or_eq_false_iff, Bool.not_not, Bool.and_eq_false_iff] at hc641
                  refine C_exit ?_
                  refine nx_exit ?_
                  refine nx_exit ?_
                  refine bk_hit ?_
                  refine C_region ?_
                  refine O_p (.i .i64 (((i : Nat)) : Int)) (r_mv hT638) ?_
                  refine O_p (.i .i64 ((((i : Nat)) : Int) + 1)) (by exact (r_addi rfl rfl (wrap_i64 (by omega) (by omega)))) ?_
                  refine O_p (.i .i64 ((((i : Nat)) : Int) + 1)) (r_mv rfl) ?_
                  refine O_nil ?_
                  have hH655 := (((hH640.top2).top2).top2)
                  exact ⟨ol.length - (i + 1), by omega, s2, L3, D, (i + 1), rfl, by omega, hp632, hI2, hrm2, hln2, hp445, hH655, hT633, hT634, hT635, hT636, hT637, rfl⟩
              ·
                try simp only [decide_eq_true_eq, decide_eq_false_iff_not, Bool.not_eq_true', Bool.not_eq_false', Bool.and_eq_true, Bool.or_eq_true, Bool.or_eq_false_iff, Bool.not_not, Bool.and_eq_false_iff] at hc598
                refine C_seq ?_
                refine C_region ?_
                refine O_p (.b (decide (o.what = 3))) (r_eql rfl rfl) ?_
                refine O_p (.b (decide (o.what = 3))) (r_mv rfl) ?_
                refine O_nil ?_
                refine C_cond (x := (decide (o.what = 3))) rfl (fun hc656 => ?_) (fun hc656 => ?_)
                ·
                  try simp only [decide_eq_true_eq, decide_eq_false_iff_not, Bool.not_eq_true', Bool.not_eq_false', Bool.and_eq_true, Bool.or_eq_true, Bool.or_eq_false_iff, Bool.not_not, Bool.and_eq_false_iff] at hc656
                  refine C_draw fun b657 H658 hbase659 hA660 => ?_
                  have hH661 := hH452.keep (by have := hA660.1; omega) (fun q _ => hA660.2 q) ((hH452.old).aside hA660).ok
                  refine D_l (v := (.p (some (F9, 0)))) rfl rfl rfl (r_mv hT449) ?_
                  refine D_l (v := v) rfl rfl rfl (r_mv hT447) ?_
                  refine D_l (v := (.i .i64 (((i : Nat)) : Int))) rfl rfl rfl (r_mv hT451) ?_
                  refine D_q rfl rfl rfl (by exact Rw.row (hv _ hH661.top2.fst) rfl (i := i) rfl (r := [(.i .i64 o.what), (.i .i64 o.p), (.i .i64 o.mode), (.s (txt o.tp)), (.b o.tx), (.sl oa o.d.length oc 0)]) hri) fun v663 hv662 => ?_
                  obtain ⟨rb664, ro665, rfl, hr666⟩ := hv662
                  refine D_l (v := (.p (some (rb664, (ro665 + 1))))) rfl rfl rfl (r_fadd' rfl rfl) ?_
                  refine D_l (v := v) rfl rfl rfl (r_mv hT447) ?_
                  refine D_l (v := (.i .i64 (((i : Nat)) : Int))) rfl rfl rfl (r_mv hT451) ?_
                  refine D_q rfl rfl rfl (by exact Rw.row (hv _ hH661.top2.fst) rfl (i := i) rfl (r := [(.i .i64 o.what), (.i .i64 o.p), (.i .i64 o.mode), (.s (txt o.tp)), (.b o.tx), (.sl oa o.d.length oc 0)]) hri) fun v668 hv667 => ?_
                  obtain ⟨rb669, ro670, rfl, hr671⟩ := hv667
                  refine D_l (v := (.p (some (rb669, (ro670 + 3))))) rfl rfl rfl (r_fadd' rfl rfl) ?_
                  refine D_r (v := (.i .i64 o.p)) rfl rfl rfl (r_ldR (q := 1) rfl (hr666 _ (hv _ hH661.top2.fst)) rfl) ?_
                  refine D_r (v := (.s (txt o.tp))) rfl rfl rfl (r_ldR (q := 3) rfl (hr671 _ (hv _ hH661.top2.fst)) rfl) ?_
                  refine D_call (Ev.mono (rl_drop hp441 (fun a ha => Nat.le_trans (hp442.pa a ha).w (Nat.le_trans hp442.room.2 (by decide))) hH661) fun v672 H673 hq674 => ?_)
                  obtain ⟨L675, rfl, hR676, hH677⟩ := hq674
                  refine And.intro (And.intro (Or.inl rfl) (And.intro (Or.inl rfl) True.intro)) ?_
                  refine D_nil ?_
                  refine C_seq ?_
                  refine C_region ?_
                  refine O_p (.i .i64 0) (r_mv rfl) ?_
                  refine O_nil ?_
                  refine C_block ?_
                  obtain ⟨s2, hs2⟩ : ∃ z, z = (s.drop o.p o.tp).1 := ⟨_, rfl⟩
                  have hI2 : s2.inv (i + 1) := by rw [hs2]; exact hp442.drop.mono (Nat.le_succ _)
                  have hrm2 : s2.room = clampR room := by rw [hs2, Re.drop_room.1]; exact hp443
                  have hln2 : s2.ps.length = 4 := by rw [hs2, Re.drop_room.2]; exact hp444
                  have hR2 : Rl F9 s2 D L675 := by rw [hs2]; exact hR676
                  have hH678 := (((hH677.top2).top2).top2)
                  refine C_while (fun m679 T680 H681 => ∃ L3 : HL, ∃ p : Nat, m679 = 4 - p ∧ p ≤ 4 ∧ Rl F9 s2 D L3 ∧ Hs H681 (L3 ++ (D ++ ((allL H0) ++ ([])))) ∧ T680.get 0 = (.i .i64 room) ∧ T680.get 1 = v ∧ T680.get 5 = (.b true) ∧ T680.get 6 = (.p (some (F9, 0))) ∧ T680.get 7 = (.i .i64 ((((clampR room) : Nat)) : Int)) ∧ T680.get 8 = (.i .i64 (((i : Nat)) : Int)) ∧ T680.get 11 = (.i .i64 (((p : Nat)) : Int))) (fun m679 T680 H681 hI682 => ?_) 4 _ _ ⟨L675, 0, rfl, by omega, hR2, hH678, hT446, hT447, hT448, hT449, hT450, hT451, rfl⟩
                  obtain ⟨L3, p, hm683, hp684, hp685, hH693, hT686, hT687, hT688, hT689, hT690, hT691, hT692⟩ := hI682
                  refine C_seq ?_
                  refine C_seq ?_
                  refine C_region ?_
                  refine O_p (.i .i64 (((p : Nat)) : Int)) (r_mv hT692) ?_
                  refine O_p (.b (decide ((((p : Nat)) : Int) < 4))) (r_lss rfl rfl) ?_
                  refine O_nil ?_
                  refine C_cond (x := (decide ((((p : Nat)) : Int) < 4))) rfl (fun hc694 => ?_) (fun hc694 => ?_)
                  ·
                    try simp only [decide_eq_true_eq, decide_eq_false_iff_not, Bool.not_eq_true', Bool.not_eq_false', Bool.and_eq_true, Bool.or_eq_true, Bool.or_eq_false_iff, Bool.not_not, Bool.and_eq_false_iff] at hc694
                    refine C_skip ?_
                    refine C_seq ?_
                    refine C_block ?_
                    refine C_seq ?_
                    refine C_region ?_
                    refine O_p (.p (some (F9, 0))) (r_mv hT689) ?_
                    refine O_p (.i .i64 (((p : Nat)) : Int)) (r_mv hT692) ?_
                    refine O_call (Ev.mono (rl_waiting hp685 hH693) fun v695 H696 hq697 => ?_)
                    obtain ⟨L698, rfl, hR699, hH700⟩ := hq697
                    have hwt := hI2.wait (n := ((p : Nat) : Int))
                    rw [hrm2] at hwt
                    refine O_p (.i .i64 ((((clampR room) : Nat)) : Int)) (r_mv hT690) ?_
                    refine O_p (.b false) (by exact (by rw [r_gtr rfl rfl, decide_eq_false (by omega)])) ?_
                    refine O_p (.b false) (r_mv rfl) ?_
                    refine O_gk rfl ?_
                    refine O_p (.p (some (F9, 0))) (r_mv hT689) ?_
                    refine O_gk rfl ?_
                    refine O_p (.i .i64 (((p : Nat)) : Int)) (r_mv hT692) ?_
                    refine O_gk rfl ?_
                    refine O_call (Ev.mono (rl_lost hR699 hH700) fun v701 H702 hq703 => ?_)
                    obtain ⟨L704, rfl, hR705, hH706⟩ := hq703
                    refine O_gk rfl ?_
                    refine O_p (.b false) (by exact (by rw [r_lss rfl rfl, decide_eq_false (by omega)])) ?_
                    refine O_p (.b false) (r_pick_f rfl rfl) ?_
                    refine O_nil ?_
                    refine C_cond (x := false) rfl (fun h => by cases h) (fun _ => ?_)
                    refine C_skip ?_
                    refine C_region ?_
                    refine O_p (.i .i64 (((p : Nat)) : Int)) (r_mv hT692) ?_
                    refine O_p (.i .i64 ((((p : Nat)) : Int) + 1)) (by exact (r_addi rfl rfl (wrap_i64 (by omega) (by omega)))) ?_
                    refine O_p (.i .i64 ((((p : Nat)) : Int) + 1)) (r_mv rfl) ?_
                    refine O_nil ?_
                    have hH707 := (((hH706.top2).top2).top2)
                    exact ⟨4 - (p + 1), by omega, L704, (p + 1), rfl, by omega, hR705, hH707, hT686, hT687, hT688, hT689, hT690, hT691, rfl⟩
                  ·
                    try simp only [decide_eq_true_eq, decide_eq_false_iff_not, Bool.not_eq_true', Bool.not_eq_false', Bool.and_eq_true, Bool.or_eq_true, Bool.or_eq_false_iff, Bool.not_not, Bool.and_eq_false_iff] at hc694
                    refine C_exit ?_
                    refine nx_exit ?_
                    refine nx_exit ?_
                    refine bk_hit ?_
                    refine C_region ?_
                    refine O_p (.i .i64 (((i : Nat)) : Int)) (r_mv hT691) ?_
                    refine O_p (.i .i64 ((((i : Nat)) : Int) + 1)) (by exact (r_addi rfl rfl (wrap_i64 (by omega) (by omega)))) ?_
                    refine O_p (.i .i64 ((((i : Nat)) : Int) + 1)) (r_mv rfl) ?_
                    refine O_nil ?_
                    have hH708 := (((hH693.top2).top2).top2)
                    exact ⟨ol.length - (i + 1), by omega, s2, L3, D, (i + 1), rfl, by omega, hp685, hI2, hrm2, hln2, hp445, hH708, hT686, hT687, hT688, hT689, hT690, rfl⟩
                ·
                  try simp only [decide_eq_true_eq, decide_eq_false_iff_not, Bool.not_eq_true', Bool.not_eq_false', Bool.and_eq_true, Bool.or_eq_true, Bool.or_eq_false_iff, Bool.not_not, Bool.and_eq_false_iff] at hc656
                  refine C_seq ?_
                  refine C_region ?_
                  refine O_p (.b (decide (o.what = 4))) (r_eql rfl rfl) ?_
                  refine O_p (.b (decide (o.what = 4))) (r_mv rfl) ?_
                  refine O_nil ?_
                  refine C_cond (x := (decide (o.what = 4))) rfl (fun hc709 => ?_) (fun hc709 => ?_)
                  ·
                    try simp only [decide_eq_true_eq, decide_eq_false_iff_not, Bool.not_eq_true', Bool.not_eq_false', Bool.and_eq_true, Bool.or_eq_true, Bool.or_eq_false_iff, Bool.not_not, Bool.and_eq_false_iff] at hc709
                    refine C_seq ?_
                    refine C_draw fun b710 H711 hbase712 hA713 => ?_
                    have hH714 := hH452.keep (by have := hA713.1; omega) (fun q _ => hA713.2 q) ((hH452.old).aside hA713).ok
                    refine D_l (v := (.p (some (F9, 0)))) rfl rfl rfl (r_mv hT449) ?_
                    refine D_l (v := v) rfl rfl rfl (r_mv hT447) ?_
                    refine D_l (v := (.i .i64 (((i : Nat)) : Int))) rfl rfl rfl (r_mv hT451) ?_
                    refine D_q rfl rfl rfl (by exact Rw.row (hv _ hH714.top2.fst) rfl (i := i) rfl (r := [(.i .i64 o.what), (.i .i64 o.p), (.i .i64 o.mode), (.s (txt o.tp)), (.b o.tx), (.sl oa o.d.length oc 0)]) hri) fun v716 hv715 => ?_
                    obtain ⟨rb717, ro718, rfl, hr719⟩ := hv715
                    refine D_l (v := (.p (some (rb717, (ro718 + 1))))) rfl rfl rfl (r_fadd' rfl rfl) ?_
                    refine D_l (v := v) rfl rfl rfl (r_mv hT447) ?_
                    refine D_l (v := (.i .i64 (((i : Nat)) : Int))) rfl rfl rfl (r_mv hT451) ?_
                    refine D_q rfl rfl rfl (by exact Rw.row (hv _ hH714.top2.fst) rfl (i := i) rfl (r := [(.i .i64 o.what), (.i .i64 o.p), (.i .i64 o.mode), (.s (txt o.tp)), (.b o.tx), (.sl oa o.d.length oc 0)]) hri) fun v721 hv720 => ?_
                    obtain ⟨rb722, ro723, rfl, hr724⟩ := hv720
                    refine D_l (v := (.p (some (rb722, (ro723 + 3))))) rfl rfl rfl (r_fadd' rfl rfl) ?_
                    refine D_l (v := v) rfl rfl rfl (r_mv hT447) ?_
                    refine D_l (v := (.i .i64 (((i : Nat)) : Int))) rfl rfl rfl (r_mv hT451) ?_
                    refine D_q rfl rfl rfl (by exact Rw.row (hv _ hH714.top2.fst) rfl (i := i) rfl (r := [(.i .i64 o.what), (.i .i64 o.p), (.i .i64 o.mode), (.s (txt o.tp)), (.b o.tx), (.sl oa o.d.length oc 0)]) hri) fun v726 hv725 => ?_
                    obtain ⟨rb727, ro728, rfl, hr729⟩ := hv725
                    refine D_l (v := (.p (some (rb727, (ro728 + 4))))) rfl rfl rfl (r_fadd' rfl rfl) ?_
                    refine D_l (v := v) rfl rfl rfl (r_mv hT447) ?_
                    refine D_l (v := (.i .i64 (((i : Nat)) : Int))) rfl rfl rfl (r_mv hT451) ?_
                    refine D_q rfl rfl rfl (by exact Rw.row (hv _ hH714.top2.fst) rfl (i := i) rfl (r := [(.i .i64 o.what), (.i .i64 o.p), (.i .i64 o.mode), (.s (txt o.tp)), (.b o.tx), (.sl oa o.d.length oc 0)]) hri) fun v731 hv730 => ?_
                    obtain ⟨rb732, ro733, rfl, hr734⟩ := hv730
                    refine D_l (v := (.p (some (rb732, (ro733 + 5))))) rfl rfl rfl (r_fadd' rfl rfl) ?_
                    refine D_r (v := (.i .i64 o.p)) rfl rfl rfl (r_ldR (q := 1) rfl (hr719 _ (hv _ hH714.top2.fst)) rfl) ?_
                    refine D_r (v := (.s (txt o.tp))) rfl rfl rfl (r_ldR (q := 3) rfl (hr724 _ (hv _ hH714.top2.fst)) rfl) ?_
                    refine D_r (v := (.b o.tx)) rfl rfl rfl (r_ldR (q := 4) rfl (hr729 _ (hv _ hH714.top2.fst)) rfl) ?_
                    refine D_r (v := (.sl oa o.d.length oc 0)) rfl rfl rfl (r_ldR (q := 5) rfl (hr734 _ (hv _ hH714.top2.fst)) rfl) ?_
                    have hH735 := (((hH714.top2).top2).top2)
                    have hH736 := (((hH735.top2).top2).top2)
                    refine D_call (Ev.mono (rl_pub (N := i) (B := (allL H0)) (dd := o.d) hp441 hp442 (by omega) (.inl rfl) hoc hom hob hH736) fun v737 H738 hq739 => ?_)
                    obtain ⟨L740, D741, rfl, hR742, hmon743, hH744⟩ := hq739
                    refine And.intro (And.intro (Or.inl rfl) (And.intro (Or.inl rfl) (And.intro (Or.inl rfl) (And.intro (Or.inl rfl) True.intro)))) ?_
                    refine D_l (v := (.tup [(.i .i64 ((((s.pub o.p o.tp o.tx o.d).2.1 : Nat)) : Int)), (.i .i64 (s.pub o.p o.tp o.tx o.d).2.2)])) rfl rfl rfl (r_mv rfl) ?_
                    refine D_l (v := (.i .i64 ((((s.pub o.p o.tp o.tx o.d).2.1 : Nat)) : Int))) rfl rfl rfl (r_ext rfl rfl) ?_
                    refine D_l (v := (.i .i64 (s.pub o.p o.tp o.tx o.d).2.2)) rfl rfl rfl (r_ext rfl rfl) ?_
                    refine D_l (v := (.i .i64 ((((s.pub o.p o.tp o.tx o.d).2.1 : Nat)) : Int))) rfl rfl rfl (r_mv rfl) ?_
                    refine D_l (v := (.i .i64 (s.pub o.p o.tp o.tx o.d).2.2)) rfl rfl rfl (r_mv rfl) ?_
                    refine D_nil ?_
                    refine C_seq ?_
                    by_cases hpe : (s.pub o.p o.tp o.tx o.d).2.2 = 0
                    ·
                      have hpf := (Re.pub_few (s := s) (n := o.p) (tp := o.tp) (d := o.d) (tx := o.tx)).1
                      rw [hp444] at hpf
                      refine C_region ?_
                      refine O_p (.i .i64 ((((s.pub o.p o.tp o.tx o.d).2.1 : Nat)) : Int)) (r_mv rfl) ?_
                      refine O_p (.b false) (by exact (by rw [r_lss rfl rfl, decide_eq_false (by omega)])) ?_
                      refine O_p (.b false) (r_mv rfl) ?_
                      refine O_gk rfl ?_
                      refine O_p (.i .i64 ((((s.pub o.p o.tp o.tx o.d).2.1 : Nat)) : Int)) (r_mv rfl) ?_
                      refine O_gk rfl ?_
                      refine O_p (.b false) (by exact (by rw [r_gtr rfl rfl, decide_eq_false (by omega)])) ?_
                      refine O_p (.b false) (r_pick_f rfl rfl) ?_
                      refine O_p (.b false) (r_mv rfl) ?_
                      refine O_gk rfl ?_
                      refine O_p (.i .i64 (s.pub o.p o.tp o.tx o.d).2.2) (r_mv rfl) ?_
                      refine O_gk rfl ?_
                      refine O_p (.b false) (by exact (by rw [r_neq rfl rfl, decide_eq_true hpe]; rfl)) ?_
                      refine O_gk rfl ?_
                      refine O_p (.b false) (r_mv rfl) ?_
                      refine O_gf rfl ?_
                      refine O_gf rfl ?_
                      refine O_gk rfl ?_
                      refine O_p (.b false) (r_pick_f rfl rfl) ?_
                      refine O_p (.b false) (r_pick_f rfl rfl) ?_
                      refine O_nil ?_
                      refine C_cond (x := false) rfl (fun h => by cases h) (fun _ => ?_)
                      refine C_skip ?_
                      refine C_seq ?_
                      refine C_region ?_
                      refine O_p (.i .i64 0) (r_mv rfl) ?_
                      refine O_nil ?_
                      refine C_block ?_
                      obtain ⟨s2, hs2⟩ : ∃ z, z = (s.pub o.p o.tp o.tx o.d).1 := ⟨_, rfl⟩
                      have hI2 : s2.inv (i + 1) := by rw [hs2]; exact hp442.pub
                      have hrm2 : s2.room = clampR room := by rw [hs2, Re.pub_room.1]; exact hp443
                      have hln2 : s2.ps.length = 4 := by rw [hs2, Re.pub_room.2]; exact hp444
                      have hR2 : Rl F9 s2 D741 L740 := by rw [hs2]; exact hR742
                      have hH745 := (((hH744.top2).top2).top2)
                      refine C_while (fun m746 T747 H748 => ∃ L3 : HL, ∃ p : Nat, m746 = 4 - p ∧ p ≤ 4 ∧ Rl F9 s2 D741 L3 ∧ Hs H748 (L3 ++ (D741 ++ ((allL H0) ++ ([])))) ∧ T747.get 0 = (.i .i64 room) ∧ T747.get 1 = v ∧ T747.get 5 = (.b true) ∧ T747.get 6 = (.p (some (F9, 0))) ∧ T747.get 7 = (.i .i64 ((((clampR room) : Nat)) : Int)) ∧ T747.get 8 = (.i .i64 (((i : Nat)) : Int)) ∧ T747.get 11 = (.i .i64 (((p : Nat)) : Int))) (fun m746 T747 H748 hI749 => ?_) 4 _ _ ⟨L740, 0, rfl, by omega, hR2, hH745, hT446, hT447, hT448, hT449, hT450, hT451, rfl⟩
                      obtain ⟨L3, p, hm750, hp751, hp752, hH760, hT753, hT754, hT755, hT756, hT757, hT758, hT759⟩ := hI749
                      refine C_seq ?_
                      refine C_seq ?_
                      refine C_region ?_
                      refine O_p (.i .i64 (((p : Nat)) : Int)) (r_mv hT759) ?_
                      refine O_p (.b (decide ((((p : Nat)) : Int) < 4))) (r_lss rfl rfl) ?_
                      refine O_nil ?_
                      refine C_cond (x := (decide ((((p : Nat)) : Int) < 4))) rfl (fun hc761 => ?_) (fun hc761 => ?_)
                      ·
                        try simp only [decide_eq_true_eq, decide_eq_false_iff_not, Bool.not_eq_true', Bool.not_eq_false', Bool.and_eq_true, Bool.or_eq_true, Bool.or_eq_false_iff, Bool.not_not, Bool.and_eq_false_iff] at hc761
                        refine C_skip ?_
                        refine C_seq ?_
                        refine C_block ?_
                        refine C_seq ?_
                        refine C_region ?_
                        refine O_p (.p (some (F9, 0))) (r_mv hT756) ?_
                        refine O_p (.i .i64 (((p : Nat)) : Int)) (r_mv hT759) ?_
                        refine O_call (Ev.mono (rl_waiting hp752 hH760) fun v762 H763 hq764 => ?_)
                        obtain ⟨L765, rfl, hR766, hH767⟩ := hq764
                        have hwt := hI2.wait (n := ((p : Nat) : Int))
                        rw [hrm2] at hwt
                        refine O_p (.i .i64 ((((clampR room) : Nat)) : Int)) (r_mv hT757) ?_
                        refine O_p (.b false) (by exact (by rw [r_gtr rfl rfl, decide_eq_false (by omega)])) ?_
                        refine O_p (.b false) (r_mv rfl) ?_
                        refine O_gk rfl ?_
                        refine O_p (.p (some (F9, 0))) (r_mv hT756) ?_
                        refine O_gk rfl ?_
                        refine O_p (.i .i64 (((p : Nat)) : Int)) (r_mv hT759) ?_
                        refine O_gk rfl ?_
                        refine O_call (Ev.mono (rl_lost hR766 hH767) fun v768 H769 hq770 => ?_)
                        obtain ⟨L771, rfl, hR772, hH773⟩ := hq770
                        refine O_gk rfl ?_
                        refine O_p (.b false) (by exact (by rw [r_lss rfl rfl, decide_eq_false (by omega)])) ?_
                        refine O_p (.b false) (r_pick_f rfl rfl) ?_
                        refine O_nil ?_
                        refine C_cond (x := false) rfl (fun h => by cases h) (fun _ => ?_)
                        refine C_skip ?_
                        refine C_region ?_
                        refine O_p (.i .i64 (((p : Nat)) : Int)) (r_mv hT759) ?_
                        refine O_p (.i .i64 ((((p : Nat)) : Int) + 1)) (by exact (r_addi rfl rfl (wrap_i64 (by omega) (by omega)))) ?_
                        refine O_p (.i .i64 ((((p : Nat)) : Int) + 1)) (r_mv rfl) ?_
                        refine O_nil ?_
                        have hH774 := (((hH773.top2).top2).top2)
                        exact ⟨4 - (p + 1), by omega, L771, (p + 1), rfl, by omega, hR772, hH774, hT753, hT754, hT755, hT756, hT757, hT758, rfl⟩
                      ·
                        try simp only [decide_eq_true_eq, decide_eq_false_iff_not, Bool.not_eq_true', Bool.not_eq_false', Bool.and_eq_true, Bool.or_eq_true, Bool.or_eq_false_iff, Bool.not_not, Bool.and_eq_false_iff] at hc761
                        refine C_exit ?_
                        refine nx_exit ?_
                        refine nx_exit ?_
                        refine bk_hit ?_
                        refine C_region ?_
                        refine O_p (.i .i64 (((i : Nat)) : Int)) (r_mv hT758) ?_
                        refine O_p (.i .i64 ((((i : Nat)) : Int) + 1)) (by exact (r_addi rfl rfl (wrap_i64 (by omega) (by omega)))) ?_
                        refine O_p (.i .i64 ((((i : Nat)) : Int) + 1)) (r_mv rfl) ?_
                        refine O_nil ?_
                        have hH775 := (((hH760.top2).top2).top2)
                        exact ⟨ol.length - (i + 1), by omega, s2, L3, D741, (i + 1), rfl, by omega, hp752, hI2, hrm2, hln2, hp445, hH775, hT753, hT754, hT755, hT756, hT757, rfl⟩
                    ·
                      have hpf := (Re.pub_few (s := s) (n := o.p) (tp := o.tp) (d := o.d) (tx := o.tx)).1
                      rw [hp444] at hpf
                      have hpz := (Re.pub_few (s := s) (n := o.p) (tp := o.tp) (d := o.d) (tx := o.tx)).2 hpe
                      refine C_region ?_
                      refine O_p (.i .i64 ((((s.pub o.p o.tp o.tx o.d).2.1 : Nat)) : Int)) (r_mv rfl) ?_
                      refine O_p (.b false) (by exact (by rw [r_lss rfl rfl, decide_eq_false (by omega)])) ?_
                      refine O_p (.b false) (r_mv rfl) ?_
                      refine O_gk rfl ?_
                      refine O_p (.i .i64 ((((s.pub o.p o.tp o.tx o.d).2.1 : Nat)) : Int)) (r_mv rfl) ?_
                      refine O_gk rfl ?_
                      refine O_p (.b false) (by exact (by rw [r_gtr rfl rfl, decide_eq_false (by omega)])) ?_
                      refine O_p (.b false) (r_pick_f rfl rfl) ?_
                      refine O_p (.b false) (r_mv rfl) ?_
                      refine O_gk rfl ?_
                      refine O_p (.i .i64 (s.pub o.p o.tp o.tx o.d).2.2) (r_mv rfl) ?_
                      refine O_gk rfl ?_
                      refine O_p (.b true) (by exact (by rw [r_neq rfl rfl, decide_eq_false hpe]; rfl)) ?_
                      refine O_gk rfl ?_
                      refine O_p (.b true) (r_mv rfl) ?_
                      refine O_gk rfl ?_
                      refine O_p (.i .i64 ((((s.pub o.p o.tp o.tx o.d).2.1 : Nat)) : Int)) (r_mv rfl) ?_
                      refine O_gk rfl ?_
                      refine O_p (.b false) (by exact (by rw [r_gtr rfl rfl, decide_eq_false (by omega)])) ?_
                      refine O_gk rfl ?_
                      refine O_p (.b false) (r_pick_t rfl rfl) ?_
                      refine O_p (.b false) (r_pick_f rfl rfl) ?_
                      refine O_nil ?_
                      refine C_cond (x := false) rfl (fun h => by cases h) (fun _ => ?_)
                      refine C_skip ?_
                      refine C_seq ?_
                      refine C_region ?_
                      refine O_p (.i .i64 0) (r_mv rfl) ?_
                      refine O_nil ?_
                      refine C_block ?_
                      obtain ⟨s2, hs2⟩ : ∃ z, z = (s.pub o.p o.tp o.tx o.d).1 := ⟨_, rfl⟩
                      have hI2 : s2.inv (i + 1) := by rw [hs2]; exact hp442.pub
                      have hrm2 : s2.room = clampR room := by rw [hs2, Re.pub_room.1]; exact hp443
                      have hln2 : s2.ps.length = 4 := by rw [hs2, Re.pub_room.2]; exact hp444
                      have hR2 : Rl F9 s2 D741 L740 := by rw [hs2]; exact hR742
                      have hH776 := (((hH744.top2).top2).top2)
                      refine C_while (fun m777 T778 H779 => ∃ L3 : HL, ∃ p : Nat, m777 = 4 - p ∧ p ≤ 4 ∧ Rl F9 s2 D741 L3 ∧ Hs H779 (L3 ++ (D741 ++ ((allL H0) ++ ([])))) ∧ T778.get 0 = (.i .i64 room) ∧ T778.get 1 = v ∧ T778.get 5 = (.b true) ∧ T778.get 6 = (.p (some (F9, 0))) ∧ T778.get 7 = (.i .i64 ((((clampR room) : Nat)) : Int)) ∧ T778.get 8 = (.i .i64 (((i : Nat)) : Int)) ∧ T778.get 11 = (.i .i64 (((p : Nat)) : Int))) (fun m777 T778 H779 hI780 => ?_) 4 _ _ ⟨L740, 0, rfl, by omega, hR2, hH776, hT446, hT447, hT448, hT449, hT450, hT451, rfl⟩
                      obtain ⟨L3, p, hm781, hp782, hp783, hH791, hT784, hT785, hT786, hT787, hT788, hT789, hT790⟩ := hI780
                      refine C_seq ?_
                      refine C_seq ?_
                      refine C_region ?_
                      refine O_p (.i .i64 (((p : Nat)) : Int)) (r_mv hT790) ?_
                      refine O_p (.b (decide ((((p : Nat)) : Int) < 4))) (r_lss rfl rfl) ?_
                      refine O_nil ?_
                      refine C_cond (x := (decide ((((p : Nat)) : Int) < 4))) rfl (fun hc792 => ?_) (fun hc792 => ?_)
                      ·
                        try simp only [decide_eq_true_eq, decide_eq_false_iff_not, Bool.not_eq_true', Bool.not_eq_false', Bool.and_eq_true, Bool.or_eq_true, Bool.or_eq_false_iff, Bool.not_not, Bool.and_eq_false_iff] at hc792
                        refine C_skip ?_
                        refine C_seq ?_
                        refine C_block ?_
                        refine C_seq ?_
                        refine C_region ?_
                        refine O_p (.p (some (F9, 0))) (r_mv hT787) ?_
                        refine O_p (.i .i64 (((p : Nat)) : Int)) (r_mv hT790) ?_
                        refine O_call (Ev.mono (rl_waiting hp783 hH791) fun v793 H794 hq795 => ?_)
                        obtain ⟨L796, rfl, hR797, hH798⟩ := hq795
                        have hwt := hI2.wait (n := ((p : Nat) : Int))
                        rw [hrm2] at hwt
                        refine O_p (.i .i64 ((((clampR room) : Nat)) : Int)) (r_mv hT788) ?_
                        refine O_p (.b false) (by exact (by rw [r_gtr rfl rfl, decide_eq_false (by omega)])) ?_
                        refine O_p (.b false) (r_mv rfl) ?_
                        refine O_gk rfl ?_
                        refine O_p (.p (some (F9, 0))) (r_mv hT787) ?_
                        refine O_gk rfl ?_
                        refine O_p (.i .i64 (((p : Nat)) : Int)) (r_mv hT790) ?_
                        refine O_gk rfl ?_
                        refine O_call (Ev.mono (rl_lost hR797 hH798) fun v799 H800 hq801 => ?_)
                        obtain ⟨L802, rfl, hR803, hH804⟩ := hq801
                        refine O_gk rfl ?_
                        refine O_p (.b false) (by exact (by rw [r_lss rfl rfl, decide_eq_false (by omega)])) ?_
                        refine O_p (.b false) (r_pick_f rfl rfl) ?_
                        refine O_nil ?_
                        refine C_cond (x := false) rfl (fun h => by cases h) (fun _ => ?_)
                        refine C_skip ?_
                        refine C_region ?_
                        refine O_p (.i .i64 (((p : Nat)) : Int)) (r_mv hT790) ?_
                        refine O_p (.i .i64 ((((p : Nat)) : Int) + 1)) (by exact (r_addi rfl rfl (wrap_i64 (by omega) (by omega)))) ?_
                        refine O_p (.i .i64 ((((p : Nat)) : Int) + 1)) (r_mv rfl) ?_
                        refine O_nil ?_
                        have hH805 := (((hH804.top2).top2).top2)
                        exact ⟨4 - (p + 1), by omega, L802, (p + 1), rfl, by omega, hR803, hH805, hT784, hT785, hT786, hT787, hT788, hT789, rfl⟩
                      ·
                        try simp only [decide_eq_true_eq, decide_eq_false_iff_not, Bool.not_eq_true', Bool.not_eq_false', Bool.and_eq_true, Bool.or_eq_true, Bool.or_eq_false_iff, Bool.not_not, Bool.and_eq_false_iff] at hc792
                        refine C_exit ?_
                        refine nx_exit ?_
                        refine nx_exit ?_
                        refine bk_hit ?_
                        refine C_region ?_
                        refine O_p (.i .i64 (((i : Nat)) : Int)) (r_mv hT789) ?_
                        refine O_p (.i .i64 ((((i : Nat)) : Int) + 1)) (by exact (r_addi rfl rfl (wrap_i64 (by omega) (by omega)))) ?_
                        refine O_p (.i .i64 ((((i : Nat)) : Int) + 1)) (r_mv rfl) ?_
                        refine O_nil ?_
                        have hH806 := (((hH791.top2).top2).top2)
                        exact ⟨ol.length - (i + 1), by omega, s2, L3, D741, (i + 1), rfl, by omega, hp783, hI2, hrm2, hln2, hp445, hH806, hT784, hT785, hT786, hT787, hT788, rfl⟩
                  ·
                    try simp only [decide_eq_true_eq, decide_eq_false_iff_not, Bool.not_eq_true', Bool.not_eq_false', Bool.and_eq_true, Bool.or_eq_true, Bool.or_eq_false_iff, Bool.not_not, Bool.and_eq_false_iff] at hc709
                    refine C_region ?_
                    refine O_p (.p (some (F9, 0))) (r_mv hT449) ?_
                    refine O_p v (r_mv hT447) ?_
                    refine O_p (.i .i64 (((i : Nat)) : Int)) (r_mv hT451) ?_
                    refine O_q (by exact Rw.row (hv _ hH452.top2.fst) rfl (i := i) rfl (r := [(.i .i64 o.what), (.i .i64 o.p), (.i .i64 o.mode), (.s (txt o.tp)), (.b o.tx), (.sl oa o.d.length oc 0)]) hri) fun v808 hv807 => ?_
                    obtain ⟨rb809, ro810, rfl, hr811⟩ := hv807
                    refine O_p (.p (some (rb809, (ro810 + 1)))) (r_fadd' rfl rfl) ?_
                    refine O_p (.i .i64 o.p) (r_ldR (q := 1) rfl (hr811 _ (hv _ hH452.top2.fst)) rfl) ?_
                    refine O_call (Ev.mono (rl_pull hp441 hH452) fun v812 H813 hq814 => ?_)
                    obtain ⟨L815, hr816, hR817, hH818⟩ := hq814
                    refine O_nil ?_
                    refine C_seq ?_
                    refine C_region ?_
                    refine O_p (.i .i64 0) (r_mv rfl) ?_
                    refine O_nil ?_
                    refine C_block ?_
                    obtain ⟨s2, hs2⟩ : ∃ z, z = (s.pull o.p).1 := ⟨_, rfl⟩
                    have hI2 : s2.inv (i + 1) := by rw [hs2]; exact hp442.pull.mono (Nat.le_succ _)
                    have hrm2 : s2.room = clampR room := by rw [hs2, Re.pull_room.1]; exact hp443
                    have hln2 : s2.ps.length = 4 := by rw [hs2, Re.pull_room.2]; exact hp444
                    have hR2 : Rl F9 s2 D L815 := by rw [hs2]; exact hR817
                    have hH819 := (((hH818.top2).top2).top2)
                    refine C_while (fun m820 T821 H822 => ∃ L3 : HL, ∃ p : Nat, m820 = 4 - p ∧ p ≤ 4 ∧ Rl F9 s2 D L3 ∧ Hs H822 (L3 ++ (D ++ ((allL H0) ++ ([])))) ∧ T821.get 0 = (.i .i64 room) ∧ T821.get 1 = v ∧ T821.get 5 = (.b true) ∧ T821.get 6 = (.p (some (F9, 0))) ∧ T821.get 7 = (.i .i64 ((((clampR room) : Nat)) : Int)) ∧ T821.get 8 = (.i .i64 (((i : Nat)) : Int)) ∧ T821.get 11 = (.i .i64 (((p : Nat)) : Int))) (fun m820 T821 H822 hI823 => ?_) 4 _ _ ⟨L815, 0, rfl, by omega, hR2, hH819, hT446, hT447, hT448, hT449, hT450, hT451, rfl⟩
                    obtain ⟨L3, p, hm824, hp825, hp826, hH834, hT827, hT828, hT829, hT830, hT831, hT832, hT833⟩ := hI823
                    refine C_seq ?_
                    refine C_seq ?_
                    refine C_region ?_
                    refine O_p (.i .i64 (((p : Nat)) : Int)) (r_mv hT833) ?_
                    refine O_p (.b (decide ((((p : Nat)) : Int) < 4))) (r_lss rfl rfl) ?_
                    refine O_nil ?_
                    refine C_cond (x := (decide ((((p : Nat)) : Int) < 4))) rfl (fun hc835 => ?_) (fun hc835 => ?_)
                    ·
                      try simp only [decide_eq_true_eq, decide_eq_false_iff_not, Bool.not_eq_true', Bool.not_eq_false', Bool.and_eq_true, Bool.or_eq_true, Bool.or_eq_false_iff, Bool.not_not, Bool.and_eq_false_iff] at hc835
                      refine C_skip ?_
                      refine C_seq ?_
                      refine C_block ?_
                      refine C_seq ?_
                      refine C_region ?_
                      refine O_p (.p (some (F9, 0))) (r_mv hT830) ?_
                      refine O_p (.i .i64 (((p : Nat)) : Int)) (r_mv hT833) ?_
                      refine O_call (Ev.mono (rl_waiting hp826 hH834) fun v836 H837 hq838 => ?_)
                      obtain ⟨L839, rfl, hR840, hH841⟩ := hq838
                      have hwt := hI2.wait (n := ((p : Nat) : Int))
                      rw [hrm2] at hwt
                      refine O_p (.i .i64 ((((clampR room) : Nat)) : Int)) (r_mv hT831) ?_
                      refine O_p (.b false) (by exact (by rw [r_gtr rfl rfl, decide_eq_false (by omega)])) ?_
                      refine O_p (.b false) (r_mv rfl) ?_
                      refine O_gk rfl ?_
                      refine O_p (.p (some (F9, 0))) (r_mv hT830) ?_
                      refine O_gk rfl ?_
                      refine O_p (.i .i64 (((p : Nat)) : Int)) (r_mv hT833) ?_
                      refine O_gk rfl ?_
                      refine O_call (Ev.mono (rl_lost hR840 hH841) fun v842 H843 hq844 => ?_)
                      obtain ⟨L845, rfl, hR846, hH847⟩ := hq844
                      refine O_gk rfl ?_
                      refine O_p (.b false) (by exact (by rw [r_lss rfl rfl, decide_eq_false (by omega)])) ?_
                      refine O_p (.b false) (r_pick_f rfl rfl) ?_
                      refine O_nil ?_
                      refine C_cond (x := false) rfl (fun h => by cases h) (fun _ => ?_)
                      refine C_skip ?_
                      refine C_region ?_
                      refine O_p (.i .i64 (((p : Nat)) : Int)) (r_mv hT833) ?_
                      refine O_p (.i .i64 ((((p : Nat)) : Int) + 1)) (by exact (r_addi rfl rfl (wrap_i64 (by omega) (by omega)))) ?_
                      refine O_p (.i .i64 ((((p : Nat)) : Int) + 1)) (r_mv rfl) ?_
                      refine O_nil ?_
                      have hH848 := (((hH847.top2).top2).top2)
                      exact ⟨4 - (p + 1), by omega, L845, (p + 1), rfl, by omega, hR846, hH848, hT827, hT828, hT829, hT830, hT831, hT832, rfl⟩
                    ·
                      try simp only [decide_eq_true_eq, decide_eq_false_iff_not, Bool.not_eq_true', Bool.not_eq_false', Bool.and_eq_true, Bool.or_eq_true, Bool.or_eq_false_iff, Bool.not_not, Bool.and_eq_false_iff] at hc835
                      refine C_exit ?_
                      refine nx_exit ?_
                      refine nx_exit ?_
                      refine bk_hit ?_
                      refine C_region ?_
                      refine O_p (.i .i64 (((i : Nat)) : Int)) (r_mv hT832) ?_
                      refine O_p (.i .i64 ((((i : Nat)) : Int) + 1)) (by exact (r_addi rfl rfl (wrap_i64 (by omega) (by omega)))) ?_
                      refine O_p (.i .i64 ((((i : Nat)) : Int) + 1)) (r_mv rfl) ?_
                      refine O_nil ?_
                      have hH849 := (((hH834.top2).top2).top2)
                      exact ⟨ol.length - (i + 1), by omega, s2, L3, D, (i + 1), rfl, by omega, hp826, hI2, hrm2, hln2, hp445, hH849, hT827, hT828, hT829, hT830, hT831, rfl⟩
        ·
          try simp only [decide_eq_true_eq, decide_eq_false_iff_not, Bool.not_eq_true', Bool.not_eq_false', Bool.and_eq_true, Bool.or_eq_true, Bool.or_eq_false_iff, Bool.not_not, Bool.and_eq_false_iff] at hc453
          refine C_exit ?_
          refine nx_exit ?_
          refine nx_exit ?_
          refine bk_hit ?_
          refine C_seq ?_
          refine C_region ?_
          refine O_p (.b true) (r_mv hT448) ?_
          refine O_p (.b true) (r_mv rfl) ?_
          refine O_nil ?_
          refine C_ret ?_
          exact ⟨.inr rfl, _, resL_one (r_tmp (v := .b true) rfl), rfl⟩
      ·
        try simp only [decide_eq_true_eq, decide_eq_false_iff_not, Bool.not_eq_true', Bool.not_eq_false', Bool.and_eq_true, Bool.or_eq_true, Bool.or_eq_false_iff, Bool.not_not, Bool.and_eq_false_iff] at hc431
        exfalso; omega
set_option maxRecDepth 100000 in
theorem opT {H : AH} {k : Nat} (hok : H.Ok) {r : List AV} (h : Typed Try.prog H (k + 3) 48 r) : ∃ o, OpRow (allL H) r o := by
  obtain ⟨hl, hq⟩ := struct_parts (qs := [(3, 0, 1), (3, 1, 1), (3, 2, 1), (9, 3, 1), (4, 4, 1), (30, 5, 1)]) Try.underlying48 h (by kernel_rfl)
  rw [show Try.prog.cellsOf 48 = 6 by kernel_rfl] at hl
  obtain ⟨x0, x1, x2, x3, x4, x5, rfl⟩ : ∃ a b c d e f, r = [a, b, c, d, e, f] := by
    match r, hl with
    | [a, b, c, d, e, f], _ => exact ⟨a, b, c, d, e, f, rfl⟩
  simp only [List.forall_mem_cons, List.drop_zero, List.drop_succ_cons, List.take_succ_cons, List.take_zero] at hq
  obtain ⟨q0, q1, q2, q3, q4, q5, _⟩ := hq
  obtain ⟨n0, e0, _⟩ := typed_int Try.underlying3 q0
  obtain ⟨n1, e1, _⟩ := typed_int Try.underlying3 q1
  obtain ⟨n2, e2, _⟩ := typed_int Try.underlying3 q2
  obtain ⟨st, e3, _⟩ := typed_string Try.underlying9 q3
  obtain ⟨b, e4⟩ := typed_bool Try.underlying4 q4
  cases e0; cases e1; cases e2; cases e3; cases e4
  obtain ⟨tp, rfl⟩ : ∃ a, st = txt a := ⟨_, (txt_of st).symm⟩
  obtain ⟨da, dn, dc, d, rfl, hb, rfl, hc, hm⟩ := typed_bytes Try.underlying30 Try.underlying5 (by kernel_rfl) q5
  exact ⟨⟨n0, n1, n2, tp, b, d⟩, da, dc, rfl, hc, Nat.le_trans hm (by decide), fun H' hh => Bs.ro (R := []) hb hok (by rw [List.append_nil]; exact hh)⟩
set_option maxRecDepth 100000 in
theorem run7T (H : AH) (hok : H.Ok) (room : Int) {v : AV} (h : Typed Try.prog H 9 45 [v]) : Ev tabA spA (.fn (.func 7) [] []) [.i .i64 room, v] H (fun v _ => v = .b true) := by
  obtain ⟨q, n, c, rfl, hnc, _, hr⟩ := typed_recs (z := 6) Try.underlying45 (by kernel_rfl) h
  obtain ⟨rows, hrw, _, hrt⟩ := Rw.given hnc hr
  obtain ⟨ol, hol⟩ := ops_ex fun i r hi => opT (k := 5) hok (hrt i r hi)
  exact run7 H hok room _ rows ol (fun H' hh => hrw.ro (R := []) hok (by rw [List.append_nil]; exact hh)) hol
set_option maxRecDepth 100000 in
theorem law7 (W : World) (ρ : Rho) (H : AH) (xs : List AV) (args : Array Value) (hR : Rel Try.prog W.heap.size W ρ H W) (hro : RO H) (hv : VRL ρ xs args.toList) (ht : TypedVs Try.prog H 9 Try.f7.params.toList xs) :
    Calls Try.prog 7 args W fun e w' => e = .returned (.bool true) ∧ Below W.heap.size W w' := by
  rw [Try.params7] at ht
  obtain ⟨a0, xs, rfl, g0, a1, xs, rfl, g1, rfl⟩ := ht
  obtain ⟨room, rfl, wroom⟩ := typedV_int Try.underlying3 g0
  obtain ⟨k, v, H', hex, rfl⟩ := run7T H hR.aok room (typedV_slice Try.underlying45 g1)
  exact law_of mixed tabA_ok spA_ok hex hR hv
end Go.Proofs.Ytnkpmidfefilbaa.E
namespace Go.Proofs.Ytnkpmidfefilbaa.topicBounds
open Go.ChangeShapes Go.WideShapes Go.RowKit
set_option linter.unusedVariables false
theorem own : ownKnob Try.prog.godebug = none := by kernel_rfl
theorem types : (Try.f7.params.toList.all fun t => E.fit Try.prog 9 t && (Try.prog.readableRec t && decide (t < Try.prog.types.size))) = true := by kernel_rfl
set_option maxRecDepth 100000 in
theorem lifted (os : Os) (started : os.Started) (H : Type) (enc : TypeId × Value → H) :
    ReturnsInHanded {} Try.checked os 7 .any (Rows.topicBoundsSpec.pre6 enc Try.prog Try.f7 Rows.topicBoundsRow.domain false) (Rows.topicBoundsSpec.post enc Try.prog Try.f7 false true false false) :=
  E.law_lifted (C := Try.checked) (k := 9) (tb := 4) E.globals0 E.laid own started (by kernel_rfl) Try.func7
    (ChangeSpec.witness6 (enc := enc) (C := Try.checked) false ⟨#[], #[.int .i64 0, .slice none 0 0], []⟩ 8 (by kernel_rfl) (by kernel_rfl) (by kernel_rfl) (by kernel_rfl))
    rfl rfl Try.underlying4 (fun t ht => by have h := List.all_eq_true.1 types t ht; simp only [Bool.and_eq_true, decide_eq_true_eq] at h; exact h)
    (fun ds hd => by
      rw [Try.params7] at hd
      match ds, hd with
      | [d0, d1], _ => rfl) E.law7
theorem over : Rows.topicBoundsRow.holds Try.pinned (OpenSpec.ofChange Rows.topicBoundsSpec) :=
  OpenClaim.holds_of_wide 7 Try.f7 rfl rfl rfl rfl rfl rfl rfl ⟨rfl, rfl, rfl, rfl, rfl⟩ rfl rfl rfl rfl rfl (by kernel_rfl) Try.func7 (by kernel_rfl)
    (of_decide_eq_true (by kernel_rfl)) (by unfold Func.isWrapper; first | (rw [if_pos (by decide +kernel)]; kernel_rfl) | (rw [if_neg (by decide +kernel)]; exact ⟨rfl, rfl⟩))
    (fun os started H enc _ => lifted os started H enc)
end Go.Proofs.Ytnkpmidfefilbaa.topicBounds
namespace Go.Proofs.Ytnkpmidfefilbaa
/-- The row, under a short name, for the claim. -/
theorem topicBounds_holds : Rows.TopicBoundsSaid := topicBounds.over
#print axioms topicBounds_holds
end Go.Proofs.Ytnkpmidfefilbaa
