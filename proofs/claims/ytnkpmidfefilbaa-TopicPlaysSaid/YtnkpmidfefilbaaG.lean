/- Topics: tests, and what is deleted. It bears no condition. -/
import Derived.Test.YtnkpmidfefilbaaF
namespace Go.Proofs.Ytnkpmidfefilbaa.E
set_option linter.unusedVariables false
set_option linter.unusedSimpArgs false
theorem clone_ev {tab : Nat → Option XFun} {sp : Nat → List AV → AH → Option (AV × AH)} (h30 : tab 30 = some x30) {H : AH} (hok : H.Ok) {ba : Option (Nat × Nat)} {bn bc bg : Nat} (bhg : bg = 0 ∨ bg = 1) {lb : List UInt8} (bhb : Bs H (.sl ba bn bc bg) lb) (bhc : bn ≤ bc) (bhm : bc ≤ 9223372036854775807) (hfit : bn ≤ 1073741824) : Ev tab sp (.fn (.func 30) [] []) [.sl ba bn bc bg] H (fun r H' => Mine H.next 1 H' r (bcells (lb)) ∧ Kp H H') := by
  refine Ev_C (F := x30) h30 ?_
  have bhl := bhb.length
  subst bhl
  have hO0 := Old.refl hok
  refine C_seq ?_
  refine C_region ?_
  refine O_p (.sl none 0 0 0) (r_mv rfl) ?_
  refine O_nil ?_
  refine C_seq ?_
  refine C_seq ?_
  refine C_region ?_
  refine O_p (.sl ba lb.length bc bg) (r_mv rfl) ?_
  refine O_p (.b (if false = true then !ba.isNone else ba.isNone)) (r_nils rfl) ?_
  refine O_nil ?_
  refine C_cond (x := (if false = true then !ba.isNone else ba.isNone)) rfl (fun hc1 => ?_) (fun hc1 => ?_)
  ·
    have hcx := hc1
    refine C_seq ?_
    refine C_region ?_
    refine O_p (.sl none 0 0 0) (r_mv rfl) ?_
    refine O_nil ?_
    refine C_ret ?_
    refine nx_ret ?_
    have hnil : ba = none := by simpa using hcx
    subst hnil
    obtain rfl := bhb.nilof
    exact ⟨.inr rfl, _, resL_one (r_tmp (v := .sl none 0 0 0) rfl), Mine.nil _ _ _, hO0⟩
  ·
    have hcx := hc1
    refine C_skip ?_
    refine C_seq ?_
    refine C_region ?_
    refine O_bslice (c := []) rfl fun n2 H3 hN4 => ?_
    have hF5 := hN4.fr (fun _ => False)
    have hO6 := hO0.new hN4
    have hx_hO6 := hO6.next
    have hnm_n2 : n2 = H.next := hN4.1
    have hnx_H3 : H3.next = H.next + 1 := hN4.2.1
    have hlt_n2 : n2 < H3.next := by omega
    refine O_p (.sl ba lb.length bc bg) (r_mv rfl) ?_
    have hM7 : Mine H.next 1 H3 (.sl (some (n2, 0)) 0 0 0) [] := ⟨.mk (n := 0) hN4.2.2.1 (by omega) (.inl rfl) rfl, fun q hq => by rw [nameOf_sl] at hq; omega⟩
    refine O_qh (by exact r_app (n := 0) (k := lb.length) (new := (bcells lb)) hO6.ok hO6.next hM7 rfl rfl rfl ((bhb.old hok hO6).len) ((bhb.old hok hO6).src) ((bcells_len _).trans (Nat.mul_one _).symm) (by decide) (by decide) (by first | omega | (simp only [List.length_take, List.length_drop, List.length_append, List.length_cons, List.length_nil, beN_len] <;> omega))) fun o8 H9 hA10 => ?_
    have hx_H9 := hA10.2.1
    have hO11 := hA10.old hM7 hO6
    have hx_hO11 := hO11.next
    refine O_p o8 (r_mv rfl) ?_
    refine O_nil ?_
    refine C_ret ?_
    exact ⟨.inr rfl, _, resL_one (r_tmp (v := o8) rfl), by have h := hA10.1; simpa [resV] using h, hO11⟩
set_option maxHeartbeats 1000000 in
theorem delete_ev {H : AH} {R : HL} {v : AV} {c r : List AV} {rows : List (List AV)} (hsq : Sq 5 v c (r :: rows).flatten) (hr6 : ∀ x ∈ r :: rows, x.length = 5) (hH0 : Hs H (qseg v c ++ R)) : Ev tabA spA (.fn (.func 32) [] []) [v, .i .i64 0, .i .i64 1] H (fun q H' => ∃ c', Sq 5 q c' rows.flatten ∧ Hs H' (qseg q c' ++ R)) := by
  refine Ev_C (F := x32) rfl ?_
  obtain ⟨b, o, cap, g, rfl, hg, hl, hnc, hc⟩ := hsq.open (n := rows.length + 1) (by rw [flat_len hr6, List.length_cons]) (by decide) (by omega)
  have hH1 : Hs H ([(b, some (.cells c true))] ++ R) := hH0
  refine C_seq ?_
  refine C_region ?_
  refine O_p (.sl none 0 0 0) (r_mv rfl) ?_
  refine O_nil ?_
  refine C_seq ?_
  refine C_region ?_
  refine O_p (.sl (some (b, o)) (rows.length + 1) cap g) (r_mv rfl) ?_
  refine O_p (.i .i64 0) (r_mv rfl) ?_
  refine O_p (.i .i64 1) (r_mv rfl) ?_
  refine O_p (.sl (some (b, o)) (rows.length + 1) cap g) (r_mv rfl) ?_
  refine O_p (.i .i64 ((((rows.length + 1) : Nat)) : Int)) (r_len rfl) ?_
  refine O_q (by exact sl_tri (i := 0) (j := 1) (m := rows.length + 1) rfl hg rfl rfl rfl (by omega) (by omega) hnc) fun v2 hv1 => ?_
  refine O_nil ?_
  refine C_seq ?_
  refine C_seq ?_
  refine C_region ?_
  refine O_p (.i .i64 0) (r_mv rfl) ?_
  refine O_p (.i .i64 1) (r_mv rfl) ?_
  refine O_p (.b false) (r_bin rfl rfl rfl) ?_
  refine O_nil ?_
  refine C_cond (x := false) rfl (fun h => by cases h) (fun _ => ?_)
  refine C_skip ?_
  refine C_seq ?_
  refine C_region ?_
  refine O_p (.sl (some (b, o)) (rows.length + 1) cap g) (r_mv rfl) ?_
  refine O_p (.i .i64 ((((rows.length + 1) : Nat)) : Int)) (r_len rfl) ?_
  refine O_p (.i .i64 ((((rows.length + 1) : Nat)) : Int)) (r_mv rfl) ?_
  refine O_nil ?_
  refine C_seq ?_
  refine C_draw fun b3 H4 hbase5 hA6 => ?_
  have hH7 := hH1.keep (by have := hA6.1; omega) (fun q _ => hA6.2 q) ((hH1.old).aside hA6).ok
  refine D_l (v := (.sl (some (b, o)) (rows.length + 1) cap g)) rfl rfl rfl (r_mv rfl) ?_
  refine D_l (v := (.i .i64 0)) rfl rfl rfl (r_mv rfl) ?_
  refine D_l (v := (.sl (some (b, o)) 0 cap g)) rfl rfl rfl (sl_zero rfl rfl hg) ?_
  refine D_l (v := (.sl (some (b, o)) (rows.length + 1) cap g)) rfl rfl rfl (r_mv rfl) ?_
  refine D_l (v := (.i .i64 1)) rfl rfl rfl (r_mv rfl) ?_
  refine D_l (v := (.sl (if cap = 1 ∧ g = 0 then some (b, o) else some (b, o + 1 * 5)) (rows.length + 1 - 1) (cap - 1) g)) rfl rfl rfl (by exact (sl_one rfl rfl hg (by omega))) ?_
  refine D_qh rfl rfl (by exact del_app hH7 hr6 hl hnc hc rfl rfl) fun o8 H9 hA10 => ?_
  obtain ⟨rfl, c2, hH11, hl2, hcl⟩ := hA10
  refine And.intro True.intro ?_
  refine D_l (v := (.sl (some (b, o)) (rows.length + 1 - 1) cap g)) rfl rfl rfl (r_mv rfl) ?_
  refine D_nil ?_
  refine C_seq ?_
  refine C_region ?_
  refine O_p (.sl (some (b, o)) (rows.length + 1 - 1) cap g) (r_mv rfl) ?_
  refine O_p (.sl (some (b, o)) (rows.length + 1 - 1) cap g) (r_mv rfl) ?_
  refine O_p (.i .i64 ((((rows.length + 1 - 1) : Nat)) : Int)) (r_len rfl) ?_
  refine O_p (.i .i64 ((((rows.length + 1) : Nat)) : Int)) (r_mv rfl) ?_
  refine O_p (.sl (some (b, o + (rows.length + 1 - 1) * 5)) 1 (cap - (rows.length + 1 - 1)) g) (by exact (sl_last rfl rfl rfl hg (by omega) hnc)) ?_
  have hle : (rows.length + 1) * 5 ≤ cap * 5 := Nat.mul_le_mul_right 5 hnc
  refine O_nh (by exact del_clr (zs := [(.s ⟨#[]⟩), (.i .i64 0), (.i .i64 0), (.b false), (.sl none 0 0 0)]) hH11 rfl (by rw [hcl]; show _ + 5 ≤ _; omega)) fun H12 hH13 => ?_
  refine O_nil ?_
  refine C_seq ?_
  refine C_region ?_
  refine O_p (.sl (some (b, o)) (rows.length + 1 - 1) cap g) (r_mv rfl) ?_
  refine O_p (.sl (some (b, o)) (rows.length + 1 - 1) cap g) (r_mv rfl) ?_
  refine O_nil ?_
  refine C_ret ?_
  have hl3 := take_out (vs := [(.s ⟨#[]⟩), (.i .i64 0), (.i .i64 0), (.b false), (.sl none 0 0 0)]) (q := o + (rows.length + 1 - 1) * 5) hl2 (by omega) (by rw [hcl]; show _ + 5 ≤ _; omega)
  exact ⟨.inr rfl, _, resL_one (r_tmp (v := (.sl (some (b, o)) (rows.length + 1 - 1) cap g)) rfl), _, .mk hg hl3 (by omega) (by rw [putAt_len, hcl]; exact hc), hH13⟩
end Go.Proofs.Ytnkpmidfefilbaa.E
