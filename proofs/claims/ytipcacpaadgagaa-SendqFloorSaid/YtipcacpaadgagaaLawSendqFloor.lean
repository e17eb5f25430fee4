/- SendqFloor, for every input, without conditions. -/
import Derived.Test.YtipcacpaadgagaaQQ3
import Derived.Test.YtipcacpaadgagaaRows
import Derived.ProofKit
import Derived.OpenShut
namespace Go.Proofs.Ytipcacpaadgagaa.E
open Go.RowKit (Below)
set_option linter.unusedVariables false
set_option linter.unusedSimpArgs false
theorem fi_push {H : AH} {i F : Nat} {es : List Ea} {ms : List Nat} {pl : List Po} {nx : Int} {D L R B : HL} {o : Op} (h : Qp F es ms pl nx D L) (hf : Fi i es nx) (hi : i ≤ 40) (hog : OpG B o) (hof : OpF o) (hH : Hs H (L ++ (D ++ (B ++ R)))) :
    Ev tabA spA (.fn (.func 12) [] []) [.p (some (F, 0)), o.lv, .i .i64 o.n, .i .i64 o.m] H (fun r H' => ∃ es2 ms2 pl2 nx2 L2 D2 r0, r = .i .i64 r0 ∧ Qp F es2 ms2 pl2 nx2 D2 L2 ∧ Fi (i + 1) es2 nx2 ∧ floorA nx2 es2.length = floorA nx es.length ∧ Hs H' (L2 ++ (D2 ++ (B ++ R)))) := by
  obtain ⟨rows, hv, hcr⟩ := hog.l
  have hl := hf.len
  have hcl := hof.1
  have hH2 : Hs H (L ++ (B ++ (D ++ R))) := by
    refine Hs.perm hH (List.Perm.append_left L ?_)
    rw [← List.append_assoc, ← List.append_assoc]
    exact List.Perm.append_right R List.perm_append_comm
  have back : ∀ H', Hs H' (L ++ (B ++ (D ++ R))) → Hs H' (L ++ (D ++ (B ++ R))) := fun H' hh => by
    refine Hs.perm hh (List.Perm.append_left L ?_)
    rw [← List.append_assoc, ← List.append_assoc]
    exact List.Perm.append_right R List.perm_append_comm
  by_cases hbad : o.cs.length = 0 ∨ ∃ c ∈ o.cs, bdC c = true
  · exact Ev.mono (qp_pushno h hv hcr (by omega) (by omega) hbad hH2) fun r H' hq => ⟨es, ms, pl, nx, L, D, 1, hq.1, h, hf.mono, rfl, back _ hq.2⟩
  · have hne : 0 < o.cs.length := Nat.pos_of_ne_zero fun h9 => hbad (.inl h9)
    have hgood : ∀ c ∈ o.cs, bdC c = false := fun c hc => by
      cases h9 : bdC c with
      | false => rfl
      | true => exact absurd (.inr ⟨c, hc, h9⟩) hbad
    refine Ev.mono (qp_push h hv hcr hgood hne (by omega) (fun c hc => Nat.le_trans (hof.2.2 c hc) (by decide)) hf.r hH) fun r H' hq => ?_
    obtain ⟨L2, D2, m, h1, h2, _, hh⟩ := hq
    obtain ⟨h3, h4⟩ := hf.push hcl hof.2.2
    exact ⟨_, _, _, _, L2, D2, 0, h1, h2, h3, h4, hh⟩
theorem take2_outs {now room : Int} {es : List Ea} : (take2 now es room).2.length ≤ es.length + es.length := by
  unfold take2
  split
  · exact Nat.le_trans takeL_outs (Nat.le_add_right _ _)
  · show List.length (_ ++ _) ≤ _
    rw [List.length_append]
    have h1 := takeL_outs (s := 2) (now := now) (l := es) (r := room)
    have h2 := takeL_outs (s := 0) (now := now) (l := (takeL 2 now es room).1) (r := (takeL 2 now es room).2.2.1)
    rw [takeL_len] at h2
    omega
set_option maxRecDepth 100000 in
set_option maxHeartbeats 4000000 in
theorem run6 (H0 : AH) (hok0 : H0.Ok) (a0 : Int) (w_a0 : (Lit.int .u32 a0).wf = true) (v : AV) (rows : List (List AV)) (ol : List Op) (hv : ∀ H', Hs H' (allL H0) → Rw 6 H' v rows) (hol : OpsR (allL H0) rows ol) : Ev tabA spA (.fn (.func 6) [] []) [.i .u32 a0, v] H0 (fun v _ => v = .b true) := by
  have hH0 := allL_hs hok0
  refine Ev_C (F := x6) rfl ?_
  have ha0 : 0 ≤ a0 ∧ a0 < 4294967296 := wf_u32 w_a0
  refine C_seq ?_
  refine C_region ?_
  refine O_p (.b false) (r_mv rfl) ?_
  refine O_nil ?_
  refine C_seq ?_
  refine C_region ?_
  refine O_call (Ev_sp (v := (.b true)) rfl rfl ?_)
  refine O_p (.b true) (r_mv rfl) ?_
  refine O_nil ?_
  refine C_seq ?_
  refine C_seq ?_
  refine C_region ?_
  refine O_p v (r_mv rfl) ?_
  refine O_call (Ev.mono (few_ev hv hol hH0) fun v1 H2 hq3 => ?_)
  obtain ⟨fb, rfl, hfw, hH4⟩ := hq3
  refine O_p (.b (!fb)) (r_not rfl) ?_
  refine O_nil ?_
  refine C_cond (x := (!fb)) rfl (fun hc5 => ?_) (fun hc5 => ?_)
  ·
    try simp only [decide_eq_true_eq, decide_eq_false_iff_not, Bool.not_eq_true', Bool.not_eq_false', Bool.and_eq_true, Bool.or_eq_true, Bool.or_eq_false_iff, Bool.not_not, Bool.and_eq_false_iff] at hc5
    have hfb : fb = false := by simpa using hc5
    subst hfb
    refine C_seq ?_
    refine C_region ?_
    refine O_p (.b true) (r_mv rfl) ?_
    refine O_p (.b true) (r_mv rfl) ?_
    refine O_nil ?_
    refine C_ret ?_
    refine nx_ret ?_
    exact ⟨.inr rfl, _, resL_one (r_tmp (v := .b true) rfl), rfl⟩
  ·
    try simp only [decide_eq_true_eq, decide_eq_false_iff_not, Bool.not_eq_true', Bool.not_eq_false', Bool.and_eq_true, Bool.or_eq_true, Bool.or_eq_false_iff, Bool.not_not, Bool.and_eq_false_iff] at hc5
    have hfb : fb = true := by simpa using hc5
    subst hfb
    obtain ⟨hol40, hopf⟩ := hfw rfl
    refine C_skip ?_
    refine C_seq ?_
    refine C_region ?_
    refine O_p (.i .u32 a0) (r_mv rfl) ?_
    refine O_call (Ev.mono (new_ev (a := a0) hH4) fun v6 H7 hq8 => ?_)
    obtain ⟨F9, rfl, hH10⟩ := hq8
    have hH11 : Hs _ (([(F9, some (.cells [.sl none 0 0 0, .i .u32 a0] true))] ++ []) ++ (([] : HL) ++ _)) := hH10
    have hQ0 := qp_new0 (F := F9) a0
    have hF0 : Fi 0 [] a0 := ⟨by decide, ha0, (fun k e he => by cases he), (fun e he => by cases he)⟩
    refine O_p (.p (some (F9, 0))) (r_mv rfl) ?_
    refine O_nil ?_
    refine C_seq ?_
    refine C_seq ?_
    refine C_region ?_
    refine O_p (.i .i64 0) (r_mv rfl) ?_
    refine O_nil ?_
    refine C_block ?_
    have hH12 := (((hH11.top2).top2).top2)
    refine C_while (fun m13 T14 H15 => ∃ es : List Ea, ∃ ms : List Nat, ∃ pl : List Po, ∃ nx : Int, ∃ L : HL, ∃ D : HL, ∃ i : Nat, m13 = ol.length - i ∧ i ≤ ol.length ∧ Qp F9 es ms pl nx D L ∧ Fi i es nx ∧ Hs H15 (L ++ (D ++ ((allL H0) ++ ([])))) ∧ T14.get 0 = (.i .u32 a0) ∧ T14.get 1 = v ∧ T14.get 5 = (.b true) ∧ T14.get 6 = (.p (some (F9, 0))) ∧ T14.get 7 = (.i .i64 (((i : Nat)) : Int))) (fun m13 T14 H15 hI16 => ?_) ol.length _ _ ⟨[], [], [], a0, ([(F9, some (.cells [.sl none 0 0 0, .i .u32 a0] true))] ++ []), ([] : HL), 0, rfl, Nat.zero_le _, hQ0, hF0, hH12, rfl, rfl, rfl, rfl, rfl⟩
    obtain ⟨es, ms, pl, nx, L, D, i, hm17, hp18, hp19, hp20, hH26, hT21, hT22, hT23, hT24, hT25⟩ := hI16
    refine C_seq ?_
    refine C_seq ?_
    refine C_region ?_
    refine O_p (.i .i64 (((i : Nat)) : Int)) (r_mv hT25) ?_
    refine O_p v (r_mv hT22) ?_
    refine O_p (.i .i64 (((ol.length : Nat)) : Int)) (r_lenOf (v := v) (n := ol.length) rfl ((hv _ hH26.top2.fst).lenOf hol.1) (hv _ hH26.top2.fst).isSl) ?_
    refine O_p (.b (decide ((((i : Nat)) : Int) < (((ol.length : Nat)) : Int)))) (r_lss rfl rfl) ?_
    refine O_nil ?_
    refine C_cond (x := (decide ((((i : Nat)) : Int) < (((ol.length : Nat)) : Int)))) rfl (fun hc27 => ?_) (fun hc27 => ?_)
    ·
      try simp only [decide_eq_true_eq, decide_eq_false_iff_not, Bool.not_eq_true', Bool.not_eq_false', Bool.and_eq_true, Bool.or_eq_true, Bool.or_eq_false_iff, Bool.not_not, Bool.and_eq_false_iff] at hc27
      refine C_skip ?_
      refine C_seq ?_
      refine C_block ?_
      refine C_seq ?_
      refine C_region ?_
      have hiol : i < ol.length := by omega
      obtain ⟨o, hoi⟩ : ∃ o, ol[i]? = some o := ⟨_, List.getElem?_eq_getElem hiol⟩
      obtain ⟨hor, hog⟩ := hol.2 _ _ hoi
      obtain ⟨crows, hvl, hcr⟩ := hog.l
      obtain ⟨brows, hvb, hbr⟩ := hog.b
      have hof := hopf o (List.mem_of_getElem? hoi)
      have hfl := hp20.len
      have hfsz := hp20.sz
      have hocs := hof.1
      have hobl := hof.2.1
      refine O_p (.p (some (F9, 0))) (r_mv hT24) ?_
      refine O_call (Ev.mono (qp_floor hp19 hH26) fun v28 H29 hq30 => ?_)
      obtain ⟨rfl, hH31⟩ := hq30
      refine O_p (.i .u32 (floorA nx es.length)) (r_mv rfl) ?_
      refine O_nil ?_
      refine C_seq ?_
      refine C_region ?_
      refine O_p (.p (some (F9, 0))) (r_mv hT24) ?_
      refine O_call (Ev.mono (qp_len hp19 hH31) fun v32 H33 hq34 => ?_)
      obtain ⟨rfl, hH35⟩ := hq34
      refine O_p (.i .i64 (((es.length : Nat)) : Int)) (r_mv rfl) ?_
      refine O_nil ?_
      refine C_seq ?_
      refine C_seq ?_
      refine C_region ?_
      refine O_p v (r_mv hT22) ?_
      refine O_p (.i .i64 (((i : Nat)) : Int)) (r_mv hT25) ?_
      refine O_q (by exact Rw.row (hv _ hH35.top2.fst) rfl (i := i) rfl (r := [(.i .i64 o.w), (.i .i64 o.n), (.i .i64 o.m), o.lv, (.i .u32 o.cu), o.bv]) hor) fun v37 hv36 => ?_
      obtain ⟨rb38, ro39, rfl, hr40⟩ := hv36
      refine O_p (.p (some (rb38, (ro39 + 0)))) (r_fadd' rfl rfl) ?_
      refine O_p (.i .i64 o.w) (r_ldR (q := 0) rfl (hr40 _ (hv _ hH35.top2.fst)) rfl) ?_
      refine O_nil ?_
      refine C_block ?_
      refine C_seq ?_
      refine C_region ?_
      refine O_p (.b (decide (o.w = 0))) (r_eql rfl rfl) ?_
      refine O_p (.b (decide (o.w = 0))) (r_mv rfl) ?_
      refine O_nil ?_
      refine C_cond (x := (decide (o.w = 0))) rfl (fun hc41 => ?_) (fun hc41 => ?_)
      ·
        try simp only [decide_eq_true_eq, decide_eq_false_iff_not, Bool.not_eq_true', Bool.not_eq_false', Bool.and_eq_true, Bool.or_eq_true, Bool.or_eq_false_iff, Bool.not_not, Bool.and_eq_false_iff] at hc41
        refine C_seq ?_
        refine C_draw fun b42 H43 hbase44 hA45 => ?_
        have hH46 := hH35.keep (by have := hA45.1; omega) (fun q _ => hA45.2 q) ((hH35.old).aside hA45).ok
        refine D_l (v := (.p (some (F9, 0)))) rfl rfl rfl (r_mv hT24) ?_
        refine D_l (v := v) rfl rfl rfl (r_mv hT22) ?_
        refine D_l (v := (.i .i64 (((i : Nat)) : Int))) rfl rfl rfl (r_mv hT25) ?_
        refine D_q rfl rfl rfl (by exact Rw.row (hv _ hH46.top2.fst) rfl (i := i) rfl (r := [(.i .i64 o.w), (.i .i64 o.n), (.i .i64 o.m), o.lv, (.i .u32 o.cu), o.bv]) hor) fun v48 hv47 => ?_
        obtain ⟨rb49, ro50, rfl, hr51⟩ := hv47
        refine D_l (v := (.p (some (rb49, (ro50 + 3))))) rfl rfl rfl (r_fadd' rfl rfl) ?_
        refine D_l (v := v) rfl rfl rfl (r_mv hT22) ?_
        refine D_l (v := (.i .i64 (((i : Nat)) : Int))) rfl rfl rfl (r_mv hT25) ?_
        refine D_q rfl rfl rfl (by exact Rw.row (hv _ hH46.top2.fst) rfl (i := i) rfl (r := [(.i .i64 o.w), (.i .i64 o.n), (.i .i64 o.m), o.lv, (.i .u32 o.cu), o.bv]) hor) fun v53 hv52 => ?_
        obtain ⟨rb54, ro55, rfl, hr56⟩ := hv52
        refine D_l (v := (.p (some (rb54, (ro55 + 1))))) rfl rfl rfl (r_fadd' rfl rfl) ?_
        refine D_l (v := v) rfl rfl rfl (r_mv hT22) ?_
        refine D_l (v := (.i .i64 (((i : Nat)) : Int))) rfl rfl rfl (r_mv hT25) ?_
        refine D_q rfl rfl rfl (by exact Rw.row (hv _ hH46.top2.fst) rfl (i := i) rfl (r := [(.i .i64 o.w), (.i .i64 o.n), (.i .i64 o.m), o.lv, (.i .u32 o.cu), o.bv]) hor) fun v58 hv57 => ?_
        obtain ⟨rb59, ro60, rfl, hr61⟩ := hv57
        refine D_l (v := (.p (some (rb59, (ro60 + 2))))) rfl rfl rfl (r_fadd' rfl rfl) ?_
        refine D_r (v := o.lv) rfl rfl rfl (r_ldR (q := 3) rfl (hr51 _ (hv _ hH46.top2.fst)) rfl) ?_
        refine D_r (v := (.i .i64 o.n)) rfl rfl rfl (r_ldR (q := 1) rfl (hr56 _ (hv _ hH46.top2.fst)) rfl) ?_
        refine D_r (v := (.i .i64 o.m)) rfl rfl rfl (r_ldR (q := 2) rfl (hr61 _ (hv _ hH46.top2.fst)) rfl) ?_
        have hH62 := (((hH46.top2).top2).top2)
        have hH63 := (((hH62.top2).top2).top2)
        refine D_call (Ev.mono (fi_push hp19 hp20 (by omega) hog hof hH63) fun v64 H65 hq66 => ?_)
        obtain ⟨es2, ms2, pl2, nx2, L2, D2, r0, rfl, hQ2, hF2, hfe, hH2⟩ := hq66
        have hk9 : w32 (floorA nx2 es2.length - floorA nx es.length) = ((0 : Nat) : Int) := by rw [hfe, Int.sub_self]; rfl
        have hlk : True := trivial
        refine And.intro (And.intro (Or.inl rfl) (And.intro (Or.inl rfl) (And.intro (Or.inl rfl) True.intro))) ?_
        refine D_nil ?_
        refine C_region ?_
        refine O_p (.p (some (F9, 0))) (r_mv hT24) ?_
        refine O_call (Ev.mono (qp_len hQ2 hH2) fun v67 H68 hq69 => ?_)
        obtain ⟨rfl, hH70⟩ := hq69
        refine O_p (.i .i64 (((es2.length : Nat)) : Int)) (r_mv rfl) ?_
        refine O_nil ?_
        refine C_seq ?_
        refine C_region ?_
        refine O_p (.i .u32 (floorA nx es.length)) (r_mv rfl) ?_
        refine O_p (.p (some (F9, 0))) (r_mv hT24) ?_
        refine O_call (Ev.mono (qp_floor hQ2 hH70) fun v71 H72 hq73 => ?_)
        obtain ⟨rfl, hH74⟩ := hq73
        refine O_call (Ev.mono (dist_ev hH74) fun v75 H76 hq77 => ?_)
        obtain ⟨rfl, hH78⟩ := hq77
        refine O_p (.i .i64 0) (by exact (by rw [show ((.i .i64 0) : AV) = .i .i64 (IntKind.i64.wrap ((w32 (floorA nx2 es2.length - floorA nx es.length)))) by rw [hk9, wrap_i64 (by omega) (by omega)]; rfl]; exact r_cint rfl)) ?_
        refine O_p (.i .i64 (((es2.length : Nat)) : Int)) (r_mv rfl) ?_
        refine O_p (.p (some (F9, 0))) (r_mv hT24) ?_
        refine O_call (Ev.mono (qp_len hQ2 hH78) fun v79 H80 hq81 => ?_)
        obtain ⟨rfl, hH82⟩ := hq81
        refine O_p (.i .i64 ((((es2.length : Nat)) : Int) - (((es2.length : Nat)) : Int))) (by exact (r_subi rfl rfl (wrap_i64 (by omega) (by omega)))) ?_
        refine O_p (.b false) (by exact (by rw [r_neq rfl rfl, decide_eq_true (by omega)]; rfl)) ?_
        refine O_p (.b false) (r_mv rfl) ?_
        refine O_gk rfl ?_
        refine O_p (.p (some (F9, 0))) (r_mv hT24) ?_
        refine O_gk rfl ?_
        refine O_call (Ev.mono (qp_flying hQ2 (by have := hF2.len; omega) hF2.sz hH82) fun v83 H84 hq85 => ?_)
        obtain ⟨rfl, hH86⟩ := hq85
        refine O_gk rfl ?_
        refine O_p (.b false) (by exact (by rw [r_lss rfl rfl, decide_eq_false (by omega)])) ?_
        refine O_p (.b false) (r_pick_f rfl rfl) ?_
        refine O_p (.b false) (r_mv rfl) ?_
        refine O_gk rfl ?_
        refine O_p (.p (some (F9, 0))) (r_mv hT24) ?_
        refine O_gk rfl ?_
        refine O_call (Ev.mono (qp_left hQ2 (by have := hF2.len; omega) hF2.sz hH86) fun v87 H88 hq89 => ?_)
        obtain ⟨rfl, hH90⟩ := hq89
        refine O_gk rfl ?_
        refine O_p (.b false) (by exact (by rw [r_lss rfl rfl, decide_eq_false (by omega)])) ?_
        refine O_p (.b false) (r_pick_f rfl rfl) ?_
        refine O_nil ?_
        refine C_cond (x := false) rfl (fun h => by cases h) (fun _ => ?_)
        refine C_skip ?_
        refine C_region ?_
        refine O_p (.i .i64 (((i : Nat)) : Int)) (r_mv hT25) ?_
        refine O_p (.i .i64 ((((i : Nat)) : Int) + 1)) (by exact (r_addi rfl rfl (wrap_i64 (by omega) (by omega)))) ?_
        refine O_p (.i .i64 ((((i : Nat)) : Int) + 1)) (r_mv rfl) ?_
        refine O_nil ?_
        have hH91 := (((hH90.top2).top2).top2)
        exact ⟨ol.length - (i + 1), by omega, es2, ms2, pl2, nx2, L2, D2, (i + 1), rfl, by omega, hQ2, hF2, hH91, hT21, hT22, hT23, hT24, rfl⟩
      ·
        try simp only [decide_eq_true_eq, decide_eq_false_iff_not, Bool.not_eq_true', Bool.not_eq_false', Bool.and_eq_true, Bool.or_eq_true, Bool.or_eq_false_iff, Bool.not_not, Bool.and_eq_false_iff] at hc41
        refine C_seq ?_
        refine C_region ?_
        refine O_p (.b (decide (o.w = 1))) (r_eql rfl rfl) ?_
        refine O_p (.b (decide (o.w = 1))) (r_mv rfl) ?_
        refine O_nil ?_
        refine C_cond (x := (decide (o.w = 1))) rfl (fun hc92 => ?_) (fun hc92 => ?_)
        ·
          try simp only [decide_eq_true_eq, decide_eq_false_iff_not, Bool.not_eq_true', Bool.not_eq_false', Bool.and_eq_true, Bool.or_eq_true, Bool.or_eq_false_iff, Bool.not_not, Bool.and_eq_false_iff] at hc92
          refine C_seq ?_
          refine C_draw fun b93 H94 hbase95 hA96 => ?_
          have hH97 := hH35.keep (by have := hA96.1; omega) (fun q _ => hA96.2 q) ((hH35.old).aside hA96).ok
          refine D_l (v := (.p (some (F9, 0)))) rfl rfl rfl (r_mv hT24) ?_
          refine D_l (v := v) rfl rfl rfl (r_mv hT22) ?_
          refine D_l (v := (.i .i64 (((i : Nat)) : Int))) rfl rfl rfl (r_mv hT25) ?_
          refine D_q rfl rfl rfl (by exact Rw.row (hv _ hH97.top2.fst) rfl (i := i) rfl (r := [(.i .i64 o.w), (.i .i64 o.n), (.i .i64 o.m), o.lv, (.i .u32 o.cu), o.bv]) hor) fun v99 hv98 => ?_
          obtain ⟨rb100, ro101, rfl, hr102⟩ := hv98
          refine D_l (v := (.p (some (rb100, (ro101 + 1))))) rfl rfl rfl (r_fadd' rfl rfl) ?_
          refine D_l (v := v) rfl rfl rfl (r_mv hT22) ?_
          refine D_l (v := (.i .i64 (((i : Nat)) : Int))) rfl rfl rfl (r_mv hT25) ?_
          refine D_q rfl rfl rfl (by exact Rw.row (hv _ hH97.top2.fst) rfl (i := i) rfl (r := [(.i .i64 o.w), (.i .i64 o.n), (.i .i64 o.m), o.lv, (.i .u32 o.cu), o.bv]) hor) fun v104 hv103 => ?_
          obtain ⟨rb105, ro106, rfl, hr107⟩ := hv103
          refine D_l (v := (.p (some (rb105, (ro106 + 2))))) rfl rfl rfl (r_fadd' rfl rfl) ?_
          refine D_r (v := (.i .i64 o.n)) rfl rfl rfl (r_ldR (q := 1) rfl (hr102 _ (hv _ hH97.top2.fst)) rfl) ?_
          refine D_r (v := (.i .i64 o.m)) rfl rfl rfl (r_ldR (q := 2) rfl (hr107 _ (hv _ hH97.top2.fst)) rfl) ?_
          refine D_call (Ev.mono (bounded_ev (a := o.n) hH97) fun v108 H109 hq110 => ?_)
          obtain ⟨nb112, rfl, hnb112, hH111⟩ := hq110
          refine And.intro (And.intro (Or.inr (look_run rfl rfl (r_ldR (q := 2) rfl (hr107 _ (hv _ hH111.top2.fst)) rfl))) (And.intro (Or.inl rfl) True.intro)) ?_
          have hH113 := ((hH111.top1).top1)
          have hH114 := ((hH113.top1).top1)
          refine D_call (Ev.mono (qp_take (now := ((nb112 : Nat) : Int)) (room := o.m) hp19 (by omega) hfsz (fun e he => by have := (hp20.g e he).2.1; omega) hog.m hH114) fun v115 H116 hq117 => ?_)
          obtain ⟨L2, D2, ov, oc, rows2, rfl, hQ2, hSo, hCo, hDm, hH2⟩ := hq117
          obtain ⟨es2, hes2⟩ : ∃ z, z = (take2 ((nb112 : Nat) : Int) es o.m).1 := ⟨_, rfl⟩
          rw [← hes2] at hQ2
          have hF2 := hp20.take (now := ((nb112 : Nat) : Int)) (room := o.m) ⟨by omega, by omega⟩
          rw [← hes2] at hF2
          obtain ⟨tl, htl⟩ : ∃ z, z = (take2 ((nb112 : Nat) : Int) es o.m).2 := ⟨_, rfl⟩
          rw [← htl] at hCo
          have htll := take2_outs (now := ((nb112 : Nat) : Int)) (room := o.m) (es := es)
          rw [← htl] at htll
          have hel : es2.length = es.length := by rw [hes2]; exact take2_pw.1
          have hk9 : w32 (floorA nx es2.length - floorA nx es.length) = ((0 : Nat) : Int) := by rw [hel, Int.sub_self]; rfl
          refine And.intro (And.intro (Or.inl rfl) True.intro) ?_
          refine D_l (v := v115) rfl rfl rfl (r_mv rfl) ?_
          refine D_nil ?_
          refine C_seq ?_
          refine C_region ?_
          refine O_p (.i .i64 0) (r_mv rfl) ?_
          refine O_nil ?_
          refine C_block ?_
          have hH118 := ((((hH2.top3).top3).top3).top3)
          refine C_while (fun m119 T120 H121 => ∃ j : Nat, m119 = tl.length - j ∧ j ≤ tl.length ∧ Hs H121 ((qseg v115 oc) ++ (L2 ++ (D2 ++ ((allL H0) ++ ([]))))) ∧ T120.get 0 = (.i .u32 a0) ∧ T120.get 1 = v ∧ T120.get 5 = (.b true) ∧ T120.get 6 = (.p (some (F9, 0))) ∧ T120.get 7 = (.i .i64 (((i : Nat)) : Int)) ∧ T120.get 8 = (.i .u32 (floorA nx es.length)) ∧ T120.get 9 = (.i .i64 (((es.length : Nat)) : Int)) ∧ T120.get 10 = v115 ∧ T120.get 11 = (.i .i64 (((j : Nat)) : Int))) (fun m119 T120 H121 hI122 => ?_) tl.length _ _ ⟨0, rfl, Nat.zero_le _, hH118, hT21, hT22, hT23, hT24, hT25, rfl, rfl, rfl, rfl⟩
          obtain ⟨j, hm123, hp124, hH134, hT125, hT126, hT127, hT128, hT129, hT130, hT131, hT132, hT133⟩ := hI122
          refine C_seq ?_
          refine C_seq ?_
          refine C_region ?_
          refine O_p (.i .i64 (((j : Nat)) : Int)) (r_mv hT133) ?_
          refine O_p v115 (r_mv hT132) ?_
          refine O_p (.i .i64 (((tl.length : Nat)) : Int)) (by exact (by exact r_lenOf rfl (hSo.lenOf ((flat_len hCo.lens).trans (by rw [hCo.1, List.length_map])) (by decide)) hSo.isSl)) ?_
          refine O_p (.b (decide ((((j : Nat)) : Int) < (((tl.length : Nat)) : Int)))) (r_lss rfl rfl) ?_
          refine O_nil ?_
          refine C_cond (x := (decide ((((j : Nat)) : Int) < (((tl.length : Nat)) : Int)))) rfl (fun hc135 => ?_) (fun hc135 => ?_)
          ·
            try simp only [decide_eq_true_eq, decide_eq_false_iff_not, Bool.not_eq_true', Bool.not_eq_false', Bool.and_eq_true, Bool.or_eq_true, Bool.or_eq_false_iff, Bool.not_not, Bool.and_eq_false_iff] at hc135
            refine C_skip ?_
            refine C_seq ?_
            refine C_block ?_
            refine C_seq ?_
            refine C_region ?_
            obtain ⟨x, dv, hxj, hri, hoc⟩ := hCo.get (i := j) (by rw [List.length_map]; omega)
            unfold cxRow at hri
            obtain ⟨ej, hej, hxe⟩ : ∃ e, tl[j]? = some e ∧ x = e.ca := by { rw [List.getElem?_map] at hxj; cases hz : tl[j]? with | none => rw [hz] at hxj; cases hxj | some e => rw [hz] at hxj; exact ⟨e, rfl, (Option.some.inj hxj).symm⟩ }
            obtain ⟨kk, hk1, hk2⟩ := take2_told ej (by rw [← htl]; exact List.mem_of_getElem? hej)
            rw [← hes2] at hk2
            have hkl := (List.getElem?_eq_some_iff.1 hk2).1
            have hea := hF2.a kk _ hk2
            have hxa : x.2 = w32 (nx - ((es2.length : Nat) : Int) + ((kk : Nat) : Int)) := by rw [hxe, ← hea]; rfl
            have hl2 := hF2.len
            have hnum : w32 (x.2 - floorA nx es2.length) = ((kk + 1 : Nat) : Int) := by rw [hxa]; exact num_at hkl (by omega)
            refine O_p (.p (some (F9, 0))) (r_mv hT128) ?_
            refine O_p v115 (r_mv hT132) ?_
            refine O_p (.i .i64 (((j : Nat)) : Int)) (r_mv hT133) ?_
            refine O_q (by exact Sq.cell hSo hCo.lens hH134.top0 rfl (i := j) rfl (r := [(.i .u8 x.1.k), (.i .u8 x.1.f), (.i .u32 x.2), (.i .u32 x.1.b), (.i .u16 x.1.o), (.i .u16 x.1.i), (.i .u32 x.1.p), x.1.x1, x.1.x2, x.1.x3, x.1.x4, dv]) hri (by decide)) fun v137 hv136 => ?_
            obtain ⟨rb138, ro139, rfl, hrg140, hrt141, hrb142, hput143, hqs144⟩ := hv136
            refine O_p (.p (some (rb138, (ro139 + 2)))) (r_fadd' rfl rfl) ?_
            refine O_p (.i .u32 x.2) (r_ldR (q := 2) rfl ⟨_, _, hrg140, hrt141⟩ rfl) ?_
            have hH145 := (hH134.top1)
            refine O_call (Ev.mono (qp_state_yes hQ2 (by omega) hnum (by omega) hk2 hH145) fun v146 H147 hq148 => ?_)
            obtain ⟨rfl, hH149⟩ := hq148
            refine O_p (.tup [(.i .i64 1), (.b true)]) (r_mv rfl) ?_
            refine O_p (.i .i64 1) (r_ext rfl rfl) ?_
            refine O_p (.b true) (r_ext rfl rfl) ?_
            refine O_p (.i .i64 1) (r_mv rfl) ?_
            refine O_p (.b true) (r_mv rfl) ?_
            refine O_nil ?_
            refine C_seq ?_
            refine C_region ?_
            refine O_p (.i .u32 (floorA nx es.length)) (r_mv hT130) ?_
            refine O_p v115 (r_mv hT132) ?_
            refine O_p (.i .i64 (((j : Nat)) : Int)) (r_mv hT133) ?_
            refine O_q (by exact Sq.cell hSo hCo.lens hH149.top1 rfl (i := j) rfl (r := [(.i .u8 x.1.k), (.i .u8 x.1.f), (.i .u32 x.2), (.i .u32 x.1.b), (.i .u16 x.1.o), (.i .u16 x.1.i), (.i .u32 x.1.p), x.1.x1, x.1.x2, x.1.x3, x.1.x4, dv]) hri (by decide)) fun v151 hv150 => ?_
            obtain ⟨rb152, ro153, rfl, hrg154, hrt155, hrb156, hput157, hqs158⟩ := hv150
            refine O_p (.p (some (rb152, (ro153 + 2)))) (r_fadd' rfl rfl) ?_
            refine O_p (.i .u32 x.2) (r_ldR (q := 2) rfl ⟨_, _, hrg154, hrt155⟩ rfl) ?_
            refine O_call (Ev.mono (less_ev (by rw [← hel, hnum]; omega) hH149) fun v159 H160 hq161 => ?_)
            obtain ⟨rfl, hH162⟩ := hq161
            refine O_p (.b false) (r_un rfl rfl) ?_
            refine O_p (.b false) (r_mv rfl) ?_
            refine O_gk rfl ?_
            refine O_p (.b true) (r_mv rfl) ?_
            refine O_gk rfl ?_
            refine O_p (.b false) (r_un rfl rfl) ?_
            refine O_p (.b false) (r_pick_f rfl rfl) ?_
            refine O_p (.b false) (r_mv rfl) ?_
            refine O_gk rfl ?_
            refine O_p (.i .i64 1) (r_mv rfl) ?_
            refine O_gk rfl ?_
            refine O_p (.b false) (by exact (by rw [r_neq rfl rfl, decide_eq_true rfl]; rfl)) ?_
            refine O_p (.b false) (r_pick_f rfl rfl) ?_
            refine O_nil ?_
            refine C_cond (x := false) rfl (fun h => by cases h) (fun _ => ?_)
            refine C_skip ?_
            refine C_region ?_
            refine O_p (.i .i64 (((j : Nat)) : Int)) (r_mv hT133) ?_
            refine O_p (.i .i64 ((((j : Nat)) : Int) + 1)) (by exact (r_addi rfl rfl (wrap_i64 (by omega) (by omega)))) ?_
            refine O_p (.i .i64 ((((j : Nat)) : Int) + 1)) (r_mv rfl) ?_
            refine O_nil ?_
            have hH163 := ((((hH162.top3).top3).top2).top3)
            exact ⟨tl.length - (j + 1), by omega, (j + 1), rfl, by omega, hH163, hT125, hT126, hT127, hT128, hT129, hT130, hT131, hT132, rfl⟩
          ·
            try simp only [decide_eq_true_eq, decide_eq_false_iff_not, Bool.not_eq_true', Bool.not_eq_false', Bool.and_eq_true, Bool.or_eq_true, Bool.or_eq_false_iff, Bool.not_not, Bool.and_eq_false_iff] at hc135
            refine C_exit ?_
            refine nx_exit ?_
            refine nx_exit ?_
            refine bk_hit ?_
            refine C_seq ?_
            refine C_region ?_
            refine O_p (.i .u32 (floorA nx es.length)) (r_mv hT130) ?_
            refine O_p (.p (some (F9, 0))) (r_mv hT128) ?_
            have hH164 := (hH134.top1)
            refine O_call (Ev.mono (qp_floor hQ2 hH164) fun v165 H166 hq167 => ?_)
            obtain ⟨rfl, hH168⟩ := hq167
            refine O_call (Ev.mono (dist_ev hH168) fun v169 H170 hq171 => ?_)
            obtain ⟨rfl, hH172⟩ := hq171
            refine O_p (.i .i64 0) (by exact (by rw [show ((.i .i64 0) : AV) = .i .i64 (IntKind.i64.wrap ((w32 (floorA nx es2.length - floorA nx es.length)))) by rw [hk9, wrap_i64 (by omega) (by omega)]; rfl]; exact r_cint rfl)) ?_
            refine O_p (.i .i64 (((es.length : Nat)) : Int)) (r_mv hT131) ?_
            refine O_p (.p (some (F9, 0))) (r_mv hT128) ?_
            refine O_call (Ev.mono (qp_len hQ2 hH172) fun v173 H174 hq175 => ?_)
            obtain ⟨rfl, hH176⟩ := hq175
            refine O_p (.i .i64 ((((es.length : Nat)) : Int) - (((es2.length : Nat)) : Int))) (by exact (r_subi rfl rfl (wrap_i64 (by omega) (by omega)))) ?_
            refine O_p (.b false) (by exact (by rw [r_neq rfl rfl, decide_eq_true (by omega)]; rfl)) ?_
            refine O_p (.b false) (r_mv rfl) ?_
            refine O_gk rfl ?_
            refine O_p (.p (some (F9, 0))) (r_mv hT128) ?_
            refine O_gk rfl ?_
            refine O_call (Ev.mono (qp_flying hQ2 (by have := hF2.len; omega) hF2.sz hH176) fun v177 H178 hq179 => ?_)
            obtain ⟨rfl, hH180⟩ := hq179
            refine O_gk rfl ?_
            refine O_p (.b false) (by exact (by rw [r_lss rfl rfl, decide_eq_false (by omega)])) ?_
            refine O_p (.b false) (r_pick_f rfl rfl) ?_
            refine O_p (.b false) (r_mv rfl) ?_
            refine O_gk rfl ?_
            refine O_p (.p (some (F9, 0))) (r_mv hT128) ?_
            refine O_gk rfl ?_
            refine O_call (Ev.mono (qp_left hQ2 (by have := hF2.len; omega) hF2.sz hH180) fun v181 H182 hq183 => ?_)
            obtain ⟨rfl, hH184⟩ := hq183
            refine O_gk rfl ?_
            refine O_p (.b false) (by exact (by rw [r_lss rfl rfl, decide_eq_false (by omega)])) ?_
            refine O_p (.b false) (r_pick_f rfl rfl) ?_
            refine O_nil ?_
            refine C_cond (x := false) rfl (fun h => by cases h) (fun _ => ?_)
            refine C_skip ?_
            refine C_region ?_
            refine O_p (.i .i64 (((i : Nat)) : Int)) (r_mv hT129) ?_
            refine O_p (.i .i64 ((((i : Nat)) : Int) + 1)) (by exact (r_addi rfl rfl (wrap_i64 (by omega) (by omega)))) ?_
            refine O_p (.i .i64 ((((i : Nat)) : Int) + 1)) (r_mv rfl) ?_
            refine O_nil ?_
            have hH185 := (hH184.sub1)
            have hH186 := (((hH185.top2).top2).top2)
            exact ⟨ol.length - (i + 1), by omega, es2, ms, pl, nx, L2, D2, (i + 1), rfl, by omega, hQ2, hF2, hH186, hT125, hT126, hT127, hT128, rfl⟩
        ·
          try simp only [decide_eq_true_eq, decide_eq_false_iff_not, Bool.not_eq_true', Bool.not_eq_false', Bool.and_eq_true, Bool.or_eq_true, Bool.or_eq_false_iff, Bool.not_not, Bool.and_eq_false_iff] at hc92
          refine C_seq ?_
          refine C_region ?_
          refine O_p (.b (decide (o.w = 2))) (r_eql rfl rfl) ?_
          refine O_p (.b (decide (o.w = 2))) (r_mv rfl) ?_
          refine O_nil ?_
          refine C_cond (x := (decide (o.w = 2))) rfl (fun hc187 => ?_) (fun hc187 => ?_)
          ·
            try simp only [decide_eq_true_eq, decide_eq_false_iff_not, Bool.not_eq_true', Bool.not_eq_false', Bool.and_eq_true, Bool.or_eq_true, Bool.or_eq_false_iff, Bool.not_not, Bool.and_eq_false_iff] at hc187
            refine C_seq ?_
            obtain ⟨n, hcn⟩ := ack_nat (w32 (a0 + o.cu)) nx es.length
            by_cases hack : AckOK es n
            ·
              refine C_draw fun b188 H189 hbase190 hA191 => ?_
              have hH192 : Hs H189 (asideL b188 [23] ++ _) := hH35.aside hA191 [23] hbase190 rfl (by decide)
              have hH193 : Hs H189 ([(b188 + 23, none)] ++ _) := hH192
              refine D_l (v := (.p (some (F9, 0)))) rfl rfl rfl (r_mv hT24) ?_
              refine D_l (v := (.i .u32 a0)) rfl rfl rfl (r_mv hT21) ?_
              refine D_l (v := v) rfl rfl rfl (r_mv hT22) ?_
              refine D_l (v := (.i .i64 (((i : Nat)) : Int))) rfl rfl rfl (r_mv hT25) ?_
              refine D_q rfl rfl rfl (by exact Rw.row (hv _ hH193.top3.fst) rfl (i := i) rfl (r := [(.i .i64 o.w), (.i .i64 o.n), (.i .i64 o.m), o.lv, (.i .u32 o.cu), o.bv]) hor) fun v195 hv194 => ?_
              obtain ⟨rb196, ro197, rfl, hr198⟩ := hv194
              refine D_l (v := (.p (some (rb196, (ro197 + 4))))) rfl rfl rfl (r_fadd' rfl rfl) ?_
              refine D_l (v := v) rfl rfl rfl (r_mv hT22) ?_
              refine D_l (v := (.i .i64 (((i : Nat)) : Int))) rfl rfl rfl (r_mv hT25) ?_
              refine D_q rfl rfl rfl (by exact Rw.row (hv _ hH193.top3.fst) rfl (i := i) rfl (r := [(.i .i64 o.w), (.i .i64 o.n), (.i .i64 o.m), o.lv, (.i .u32 o.cu), o.bv]) hor) fun v200 hv199 => ?_
              obtain ⟨rb201, ro202, rfl, hr203⟩ := hv199
              refine D_l (v := (.p (some (rb201, (ro202 + 5))))) rfl rfl rfl (r_fadd' rfl rfl) ?_
              refine D_l (v := v) rfl rfl rfl (r_mv hT22) ?_
              refine D_l (v := (.i .i64 (((i : Nat)) : Int))) rfl rfl rfl (r_mv hT25) ?_
              refine D_q rfl rfl rfl (by exact Rw.row (hv _ hH193.top3.fst) rfl (i := i) rfl (r := [(.i .i64 o.w), (.i .i64 o.n), (.i .i64 o.m), o.lv, (.i .u32 o.cu), o.bv]) hor) fun v205 hv204 => ?_
              obtain ⟨rb206, ro207, rfl, hr208⟩ := hv204
              refine D_l (v := (.p (some (rb206, (ro207 + 1))))) rfl rfl rfl (r_fadd' rfl rfl) ?_
              refine D_r (v := (.i .u32 o.cu)) rfl rfl rfl (r_ldR (q := 4) rfl (hr198 _ (hv _ hH193.top3.fst)) rfl) ?_
              refine D_l (v := (.i .u32 (IntKind.u32.wrap (a0 + o.cu)))) rfl rfl rfl (r_bin rfl rfl rfl) ?_
              refine D_r (v := o.bv) rfl rfl rfl (r_ldR (q := 5) rfl (hr203 _ (hv _ hH193.top3.fst)) rfl) ?_
              refine D_r (v := (.i .i64 o.n)) rfl rfl rfl (r_ldR (q := 1) rfl (hr208 _ (hv _ hH193.top3.fst)) rfl) ?_
              refine D_call (Ev.mono (bounded_ev (a := o.n) hH193) fun v209 H210 hq211 => ?_)
              obtain ⟨nb213, rfl, hnb213, hH212⟩ := hq211
              refine And.intro (And.intro (Or.inl rfl) (And.intro (Or.inr (look_run rfl rfl (r_ldR (q := 5) rfl (hr203 _ (hv _ hH212.top3.fst)) rfl))) (And.intro (Or.inr (look_run rfl rfl (r_ldR (q := 4) rfl (hr198 _ (hv _ hH212.top3.fst)) rfl))) True.intro))) ?_
              have hH214 := ((hH212.top3).top2)
              have hH215 := ((hH214.top1).top1)
              refine D_call (Ev.mono (qp_ack (bl := o.bl) (now := ((nb213 : Nat) : Int)) hp19 (fun H' hh => hvb H' hh) hbr (by omega) (by omega) hfsz hcn hack.1 hack.2 ⟨by omega, by omega⟩ (fun e he => by have := (hp20.g e he).2.2.1; omega) (fun e he => by have := (hp20.g e he).2.2.2; omega) hH215) fun v216 H217 hq218 => ?_)
              obtain ⟨L2, rfl, hQ2, hH2⟩ := hq218
              obtain ⟨es2, hes2⟩ : ∃ z, z = ackE o.bl es n := ⟨_, rfl⟩
              rw [← hes2] at hQ2
              have hF2 := hp20.ack (bl := o.bl) hack.1
              rw [← hes2] at hF2
              have hal := hack.1
              have hel : es2.length = es.length - n := by rw [hes2]; exact ackE_len
              have hk9 : w32 (floorA nx es2.length - floorA nx es.length) = ((n : Nat) : Int) := by rw [hel]; exact floor_dist hack.1 (by omega)
              refine And.intro (And.intro (Or.inl rfl) (And.intro (Or.inl rfl) True.intro)) ?_
              refine D_l (v := (.tup [(.agg [(.i .i64 ((((ackB o.bl es n) : Nat)) : Int)), (.i .i64 (drS ((nb213 : Nat) : Int) (es.take n) (-1))), (.b (ackL o.bl es n)), (.b (decide ((0 : Int) < ((n : Nat) : Int))))]), (.b true)])) rfl rfl rfl (r_mv rfl) ?_
              refine D_l (v := (.agg [(.i .i64 ((((ackB o.bl es n) : Nat)) : Int)), (.i .i64 (drS ((nb213 : Nat) : Int) (es.take n) (-1))), (.b (ackL o.bl es n)), (.b (decide ((0 : Int) < ((n : Nat) : Int))))])) rfl rfl rfl (r_ext rfl rfl) ?_
              refine D_l (v := (.b true)) rfl rfl rfl (r_ext rfl rfl) ?_
              refine D_m (f := fun n => ((.p (some (n, 0))), .cells [(.i .i64 0), (.i .i64 0), (.b false), (.b false)] true)) rfl rfl fun H220 hW221 => ?_
              have hH223 := hH2.wr2 hW221
              generalize hn222 : b188 + 23 = n219 at hW221 hH223 ⊢
              refine And.intro True.intro ?_
              refine D_store (vs := [(.i .i64 ((((ackB o.bl es n) : Nat)) : Int)), (.i .i64 (drS ((nb213 : Nat) : Int) (es.take n) (-1))), (.b (ackL o.bl es n)), (.b (decide ((0 : Int) < ((n : Nat) : Int))))]) (c' := [(.i .i64 ((((ackB o.bl es n) : Nat)) : Int)), (.i .i64 (drS ((nb213 : Nat) : Int) (es.take n) (-1))), (.b (ackL o.bl es n)), (.b (decide ((0 : Int) < ((n : Nat) : Int))))]) rfl (by rfl) hH223.get2 rfl (List.cons_ne_nil _ _) (Nat.le_of_ble_eq_true rfl) rfl fun H224 hW225 => ?_
              have hH226 := hH223.wr2 hW225
              refine And.intro True.intro ?_
              refine D_l (v := (.b true)) rfl rfl rfl (r_mv rfl) ?_
              refine D_nil ?_
              refine C_seq ?_
              refine C_draw fun b227 H228 hbase229 hA230 => ?_
              have hH231 := hH226.keep (by have := hA230.1; omega) (fun q _ => hA230.2 q) ((hH226.old).aside hA230).ok
              refine D_l (v := (.b true)) rfl rfl rfl (r_mv rfl) ?_
              refine D_l (v := (.b false)) rfl rfl rfl (r_un rfl rfl) ?_
              refine D_l (v := (.b false)) rfl rfl rfl (r_mv rfl) ?_
              refine D_gf rfl ?_
              refine D_gf rfl ?_
              refine D_gf rfl ?_
              refine D_gf rfl ?_
              refine D_gu rfl ?_
              refine D_gu rfl ?_
              refine D_gf rfl ?_
              refine D_l (v := (.b false)) rfl rfl rfl (r_pick_f rfl rfl) ?_
              refine D_l (v := (.b false)) rfl rfl rfl (r_mv rfl) ?_
              refine D_gk rfl ?_
              refine D_l (v := (.b true)) rfl rfl rfl (r_mv rfl) ?_
              refine D_gk rfl ?_
              refine D_l (v := (.b true)) rfl rfl rfl (r_mv rfl) ?_
              refine D_gk rfl ?_
              refine D_l (v := (.p (some (F9, 0)))) rfl rfl rfl (r_mv hT24) ?_
              refine D_gk rfl ?_
              refine D_l (v := (.i .u32 a0)) rfl rfl rfl (r_mv hT21) ?_
              refine D_gk rfl ?_
              refine D_l (v := v) rfl rfl rfl (r_mv hT22) ?_
              refine D_gk rfl ?_
              refine D_l (v := (.i .i64 (((i : Nat)) : Int))) rfl rfl rfl (r_mv hT25) ?_
              refine D_gk rfl ?_
              refine D_q rfl rfl rfl (by exact Rw.row (hv _ hH231.top1.fst) rfl (i := i) rfl (r := [(.i .i64 o.w), (.i .i64 o.n), (.i .i64 o.m), o.lv, (.i .u32 o.cu), o.bv]) hor) fun v233 hv232 => ?_
              obtain ⟨rb234, ro235, rfl, hr236⟩ := hv232
              refine D_gk rfl ?_
              refine D_l (v := (.p (some (rb234, (ro235 + 4))))) rfl rfl rfl (r_fadd' rfl rfl) ?_
              refine D_gk rfl ?_
              refine D_r (v := (.i .u32 o.cu)) rfl rfl rfl (r_ldR (q := 4) rfl (hr236 _ (hv _ hH231.top1.fst)) rfl) ?_
              refine D_gk rfl ?_
              refine D_l (v := (.i .u32 (IntKind.u32.wrap (a0 + o.cu)))) rfl rfl rfl (r_bin rfl rfl rfl) ?_
              refine D_gk rfl ?_
              refine D_call (Ev.mono (qp_floor hQ2 hH231) fun v237 H238 hq239 => ?_)
              obtain ⟨rfl, hH240⟩ := hq239
              refine And.intro (And.intro (Or.inr (look_run rfl rfl (r_ldR (q := 4) rfl (hr236 _ (hv _ hH240.top1.fst)) rfl))) True.intro) ?_
              refine D_gk rfl ?_
              refine D_l (v := (.b false)) rfl rfl rfl (by exact (by rw [r_neq rfl rfl, decide_eq_true (by rw [hel]; exact floor_cum hcn hack.1 (w32_r _))]; rfl)) ?_
              refine D_gk rfl ?_
              refine D_l (v := (.b false)) rfl rfl rfl (r_pick_t rfl rfl) ?_
              refine D_l (v := (.b false)) rfl rfl rfl (r_pick_f rfl rfl) ?_
              refine D_nil ?_
              refine C_cond (x := false) rfl (fun h => by cases h) (fun _ => ?_)
              refine C_skip ?_
              refine C_seq ?_
              refine C_region ?_
              refine O_p (.i .u32 (floorA nx es.length)) (r_mv rfl) ?_
              refine O_p (.p (some (F9, 0))) (r_mv hT24) ?_
              refine O_call (Ev.mono (qp_floor hQ2 hH240) fun v241 H242 hq243 => ?_)
              obtain ⟨rfl, hH244⟩ := hq243
              refine O_call (Ev.mono (dist_ev hH244) fun v245 H246 hq247 => ?_)
              obtain ⟨rfl, hH248⟩ := hq247
              refine O_p (.i .i64 (((n : Nat)) : Int)) (by exact (by rw [show ((.i .i64 (((n : Nat)) : Int)) : AV) = .i .i64 (IntKind.i64.wrap ((w32 (floorA nx es2.length - floorA nx es.length)))) by rw [hk9, wrap_i64 (by omega) (by omega)]]; exact r_cint rfl)) ?_
              refine O_p (.i .i64 (((es.length : Nat)) : Int)) (r_mv rfl) ?_
              refine O_p (.p (some (F9, 0))) (r_mv hT24) ?_
              refine O_call (Ev.mono (qp_len hQ2 hH248) fun v249 H250 hq251 => ?_)
              obtain ⟨rfl, hH252⟩ := hq251
              refine O_p (.i .i64 ((((es.length : Nat)) : Int) - (((es2.length : Nat)) : Int))) (by exact (r_subi rfl rfl (wrap_i64 (by omega) (by omega)))) ?_
              refine O_p (.b false) (by exact (by rw [r_neq rfl rfl, decide_eq_true (by omega)]; rfl)) ?_
              refine O_p (.b false) (r_mv rfl) ?_
              refine O_gk rfl ?_
              refine O_p (.p (some (F9, 0))) (r_mv hT24) ?_
              refine O_gk rfl ?_
              refine O_call (Ev.mono (qp_flying hQ2 (by have := hF2.len; omega) hF2.sz hH252) fun v253 H254 hq255 => ?_)
              obtain ⟨rfl, hH256⟩ := hq255
              refine O_gk rfl ?_
              refine O_p (.b false) (by exact (by rw [r_lss rfl rfl, decide_eq_false (by omega)])) ?_
              refine O_p (.b false) (r_pick_f rfl rfl) ?_
              refine O_p (.b false) (r_mv rfl) ?_
              refine O_gk rfl ?_
              refine O_p (.p (some (F9, 0))) (r_mv hT24) ?_
              refine O_gk rfl ?_
              refine O_call (Ev.mono (qp_left hQ2 (by have := hF2.len; omega) hF2.sz hH256) fun v257 H258 hq259 => ?_)
              obtain ⟨rfl, hH260⟩ := hq259
              refine O_gk rfl ?_
              refine O_p (.b false) (by exact (by rw [r_lss rfl rfl, decide_eq_false (by omega)])) ?_
              refine O_p (.b false) (r_pick_f rfl rfl) ?_
              refine O_nil ?_
              refine C_cond (x := false) rfl (fun h => by cases h) (fun _ => ?_)
              refine C_skip ?_
              refine C_region ?_
              refine O_p (.i .i64 (((i : Nat)) : Int)) (r_mv hT25) ?_
              refine O_p (.i .i64 ((((i : Nat)) : Int) + 1)) (by exact (r_addi rfl rfl (wrap_i64 (by omega) (by omega)))) ?_
              refine O_p (.i .i64 ((((i : Nat)) : Int) + 1)) (r_mv rfl) ?_
              refine O_nil ?_
              have hH261 := (hH260.sub2)
              have hH262 := (((hH261.top1).top2).top2)
              exact ⟨ol.length - (i + 1), by omega, es2, (ms.drop n), pl, nx, L2, D, (i + 1), rfl, by omega, hQ2, hF2, hH262, hT21, hT22, hT23, hT24, rfl⟩
            ·
              refine C_draw fun b263 H264 hbase265 hA266 => ?_
              have hH267 : Hs H264 (asideL b263 [23] ++ _) := hH35.aside hA266 [23] hbase265 rfl (by decide)
              have hH268 : Hs H264 ([(b263 + 23, none)] ++ _) := hH267
              refine D_l (v := (.p (some (F9, 0)))) rfl rfl rfl (r_mv hT24) ?_
              refine D_l (v := (.i .u32 a0)) rfl rfl rfl (r_mv hT21) ?_
              refine D_l (v := v) rfl rfl rfl (r_mv hT22) ?_
              refine D_l (v := (.i .i64 (((i : Nat)) : Int))) rfl rfl rfl (r_mv hT25) ?_
              refine D_q rfl rfl rfl (by exact Rw.row (hv _ hH268.top3.fst) rfl (i := i) rfl (r := [(.i .i64 o.w), (.i .i64 o.n), (.i .i64 o.m), o.lv, (.i .u32 o.cu), o.bv]) hor) fun v270 hv269 => ?_
              obtain ⟨rb271, ro272, rfl, hr273⟩ := hv269
              refine D_l (v := (.p (some (rb271, (ro272 + 4))))) rfl rfl rfl (r_fadd' rfl rfl) ?_
              refine D_l (v := v) rfl rfl rfl (r_mv hT22) ?_
              refine D_l (v := (.i .i64 (((i : Nat)) : Int))) rfl rfl rfl (r_mv hT25) ?_
              refine D_q rfl rfl rfl (by exact Rw.row (hv _ hH268.top3.fst) rfl (i := i) rfl (r := [(.i .i64 o.w), (.i .i64 o.n), (.i .i64 o.m), o.lv, (.i .u32 o.cu), o.bv]) hor) fun v275 hv274 => ?_
              obtain ⟨rb276, ro277, rfl, hr278⟩ := hv274
              refine D_l (v := (.p (some (rb276, (ro277 + 5))))) rfl rfl rfl (r_fadd' rfl rfl) ?_
              refine D_l (v := v) rfl rfl rfl (r_mv hT22) ?_
              refine D_l (v := (.i .i64 (((i : Nat)) : Int))) rfl rfl rfl (r_mv hT25) ?_
              refine D_q rfl rfl rfl (by exact Rw.row (hv _ hH268.top3.fst) rfl (i := i) rfl (r := [(.i .i64 o.w), (.i .i64 o.n), (.i .i64 o.m), o.lv, (.i .u32 o.cu), o.bv]) hor) fun v280 hv279 => ?_
              obtain ⟨rb281, ro282, rfl, hr283⟩ := hv279
              refine D_l (v := (.p (some (rb281, (ro282 + 1))))) rfl rfl rfl (r_fadd' rfl rfl) ?_
              refine D_r (v := (.i .u32 o.cu)) rfl rfl rfl (r_ldR (q := 4) rfl (hr273 _ (hv _ hH268.top3.fst)) rfl) ?_
              refine D_l (v := (.i .u32 (IntKind.u32.wrap (a0 + o.cu)))) rfl rfl rfl (r_bin rfl rfl rfl) ?_
              refine D_r (v := o.bv) rfl rfl rfl (r_ldR (q := 5) rfl (hr278 _ (hv _ hH268.top3.fst)) rfl) ?_
              refine D_r (v := (.i .i64 o.n)) rfl rfl rfl (r_ldR (q := 1) rfl (hr283 _ (hv _ hH268.top3.fst)) rfl) ?_
              refine D_call (Ev.mono (bounded_ev (a := o.n) hH268) fun v284 H285 hq286 => ?_)
              obtain ⟨nb288, rfl, hnb288, hH287⟩ := hq286
              refine And.intro (And.intro (Or.inl rfl) (And.intro (Or.inr (look_run rfl rfl (r_ldR (q := 5) rfl (hr278 _ (hv _ hH287.top3.fst)) rfl))) (And.intro (Or.inr (look_run rfl rfl (r_ldR (q := 4) rfl (hr273 _ (hv _ hH287.top3.fst)) rfl))) True.intro))) ?_
              have hH289 := (hH287.top1)
              refine D_call (Ev.mono (qp_ackno hp19 (by omega) hcn (ack_refused hack) hH289) fun v290 H291 hq292 => ?_)
              obtain ⟨rfl, hH293⟩ := hq292
              have hk9 : w32 (floorA nx es.length - floorA nx es.length) = ((0 : Nat) : Int) := by rw [Int.sub_self]; rfl
              have hF2 := hp20.mono
              refine And.intro (And.intro (Or.inl rfl) (And.intro (Or.inl rfl) True.intro)) ?_
              refine D_l (v := (.tup [(.agg [(.i .i64 0), (.i .i64 0), (.b false), (.b false)]), (.b false)])) rfl rfl rfl (r_mv rfl) ?_
              refine D_l (v := (.agg [(.i .i64 0), (.i .i64 0), (.b false), (.b false)])) rfl rfl rfl (r_ext rfl rfl) ?_
              refine D_l (v := (.b false)) rfl rfl rfl (r_ext rfl rfl) ?_
              refine D_m (f := fun n => ((.p (some (n, 0))), .cells [(.i .i64 0), (.i .i64 0), (.b false), (.b false)] true)) rfl rfl fun H295 hW296 => ?_
              have hH298 := hH293.wr1 hW296
              generalize hn297 : b263 + 23 = n294 at hW296 hH298 ⊢
              refine And.intro True.intro ?_
              refine D_store (vs := [(.i .i64 0), (.i .i64 0), (.b false), (.b false)]) (c' := [(.i .i64 0), (.i .i64 0), (.b false), (.b false)]) rfl (by rfl) hH298.get1 rfl (List.cons_ne_nil _ _) (Nat.le_of_ble_eq_true rfl) rfl fun H299 hW300 => ?_
              have hH301 := hH298.wr1 hW300
              refine And.intro True.intro ?_
              refine D_l (v := (.b false)) rfl rfl rfl (r_mv rfl) ?_
              refine D_nil ?_
              refine C_seq ?_
              refine C_draw fun b302 H303 hbase304 hA305 => ?_
              have hH306 := hH301.keep (by have := hA305.1; omega) (fun q _ => hA305.2 q) ((hH301.old).aside hA305).ok
              refine D_l (v := (.b false)) rfl rfl rfl (r_mv rfl) ?_
              refine D_l (v := (.b true)) rfl rfl rfl (r_un rfl rfl) ?_
              refine D_l (v := (.b true)) rfl rfl rfl (r_mv rfl) ?_
              refine D_gk rfl ?_
              refine D_l (v := (.p (some (n294, 0)))) rfl rfl rfl (r_fadd' rfl rfl) ?_
              refine D_gk rfl ?_
              refine D_r (v := (.i .i64 0)) rfl rfl rfl (r_ld rfl hH306.get1 rfl) ?_
              refine D_gk rfl ?_
              refine D_l (v := (.b false)) rfl rfl rfl (by exact (by rw [r_neq rfl rfl, decide_eq_true rfl]; rfl)) ?_
              refine D_gk rfl ?_
              refine D_l (v := (.b false)) rfl rfl rfl (r_mv rfl) ?_
              refine D_gk rfl ?_
              refine D_l (v := (.p (some (n294, 3)))) rfl rfl rfl (r_fadd' rfl rfl) ?_
              refine D_gk rfl ?_
              refine D_r (v := (.b false)) rfl rfl rfl (r_ld rfl hH306.get1 rfl) ?_
              refine D_gk rfl ?_
              refine D_l (v := (.b false)) rfl rfl rfl (r_pick_f rfl rfl) ?_
              refine D_l (v := (.b false)) rfl rfl rfl (r_pick_t rfl rfl) ?_
              refine D_l (v := (.b false)) rfl rfl rfl (r_mv rfl) ?_
              refine D_gk rfl ?_
              refine D_l (v := (.b false)) rfl rfl rfl (r_mv rfl) ?_
              refine D_gk rfl ?_
              refine D_l (v := (.b false)) rfl rfl rfl (r_mv rfl) ?_
              refine D_gf rfl ?_
              refine D_gf rfl ?_
              refine D_gf rfl ?_
              refine D_gf rfl ?_
              refine D_gf rfl ?_
              refine D_gf rfl ?_
              refine D_gf rfl ?_
              refine D_gf rfl ?_
              refine D_gf rfl ?_
              refine D_gf rfl ?_
              refine D_gk rfl ?_
              refine D_l (v := (.b false)) rfl rfl rfl (r_pick_f rfl rfl) ?_
              refine D_l (v := (.b false)) rfl rfl rfl (r_pick_f rfl rfl) ?_
              refine D_nil ?_
              refine C_cond (x := false) rfl (fun h => by cases h) (fun _ => ?_)
              refine C_skip ?_
              refine C_seq ?_
              refine C_region ?_
              refine O_p (.i .u32 (floorA nx es.length)) (r_mv rfl) ?_
              refine O_p (.p (some (F9, 0))) (r_mv hT24) ?_
              refine O_call (Ev.mono (qp_floor hp19 hH306) fun v307 H308 hq309 => ?_)
              obtain ⟨rfl, hH310⟩ := hq309
              refine O_call (Ev.mono (dist_ev hH310) fun v311 H312 hq313 => ?_)
              obtain ⟨rfl, hH314⟩ := hq313
              refine O_p (.i .i64 0) (by exact (by rw [show ((.i .i64 0) : AV) = .i .i64 (IntKind.i64.wrap ((w32 (floorA nx es.length - floorA nx es.length)))) by rw [hk9, wrap_i64 (by omega) (by omega)]; rfl]; exact r_cint rfl)) ?_
              refine O_p (.i .i64 (((es.length : Nat)) : Int)) (r_mv rfl) ?_
              refine O_p (.p (some (F9, 0))) (r_mv hT24) ?_
              refine O_call (Ev.mono (qp_len hp19 hH314) fun v315 H316 hq317 => ?_)
              obtain ⟨rfl, hH318⟩ := hq317
              refine O_p (.i .i64 ((((es.length : Nat)) : Int) - (((es.length : Nat)) : Int))) (by exact (r_subi rfl rfl (wrap_i64 (by omega) (by omega)))) ?_
              refine O_p (.b false) (by exact (by rw [r_neq rfl rfl, decide_eq_true (by omega)]; rfl)) ?_
              refine O_p (.b false) (r_mv rfl) ?_
              refine O_gk rfl ?_
              refine O_p (.p (some (F9, 0))) (r_mv hT24) ?_
              refine O_gk rfl ?_
              refine O_call (Ev.mono (qp_flying hp19 (by have := hF2.len; omega) hF2.sz hH318) fun v319 H320 hq321 => ?_)
              obtain ⟨rfl, hH322⟩ := hq321
              refine O_gk rfl ?_
              refine O_p (.b false) (by exact (by rw [r_lss rfl rfl, decide_eq_false (by omega)])) ?_
              refine O_p (.b false) (r_pick_f rfl rfl) ?_
              refine O_p (.b false) (r_mv rfl) ?_
              refine O_gk rfl ?_
              refine O_p (.p (some (F9, 0))) (r_mv hT24) ?_
              refine O_gk rfl ?_
              refine O_call (Ev.mono (qp_left hp19 (by have := hF2.len; omega) hF2.sz hH322) fun v323 H324 hq325 => ?_)
              obtain ⟨rfl, hH326⟩ := hq325
              refine O_gk rfl ?_
              refine O_p (.b false) (by exact (by rw [r_lss rfl rfl, decide_eq_false (by omega)])) ?_
              refine O_p (.b false) (r_pick_f rfl rfl) ?_
              refine O_nil ?_
              refine C_cond (x := false) rfl (fun h => by cases h) (fun _ => ?_)
              refine C_skip ?_
              refine C_region ?_
              refine O_p (.i .i64 (((i : Nat)) : Int)) (r_mv hT25) ?_
              refine O_p (.i .i64 ((((i : Nat)) : Int) + 1)) (by exact (r_addi rfl rfl (wrap_i64 (by omega) (by omega)))) ?_
              refine O_p (.i .i64 ((((i : Nat)) : Int) + 1)) (r_mv rfl) ?_
              refine O_nil ?_
              have hH327 := (hH326.sub1)
              have hH328 := (((hH327.top2).top2).top2)
              exact ⟨ol.length - (i + 1), by omega, es, ms, pl, nx, L, D, (i + 1), rfl, by omega, hp19, hF2, hH328, hT21, hT22, hT23, hT24, rfl⟩
          ·
            try simp only [decide_eq_true_eq, decide_eq_false_iff_not, Bool.not_eq_true', Bool.not_eq_false', Bool.and_eq_true, Bool.or_eq_true, Bool.or_eq_false_iff, Bool.not_not, Bool.and_eq_false_iff] at hc187
            refine C_seq ?_
            refine C_region ?_
            refine O_p (.b (decide (o.w = 3))) (r_eql rfl rfl) ?_
            refine O_p (.b (decide (o.w = 3))) (r_mv rfl) ?_
            refine O_nil ?_
            refine C_cond (x := (decide (o.w = 3))) rfl (fun hc329 => ?_) (fun hc329 => ?_)
            ·
              try simp only [decide_eq_true_eq, decide_eq_false_iff_not, Bool.not_eq_true', Bool.not_eq_false', Bool.and_eq_true, Bool.or_eq_true, Bool.or_eq_false_iff, Bool.not_not, Bool.and_eq_false_iff] at hc329
              refine C_region ?_
              refine O_p (.p (some (F9, 0))) (r_mv hT24) ?_
              refine O_call (Ev.mono (qp_timeout hp19 (by omega) hH35) fun v330 H331 hq332 => ?_)
              obtain ⟨L2, rfl, hQ2, hH2⟩ := hq332
              obtain ⟨es2, hes2⟩ : ∃ z, z = es.map toE := ⟨_, rfl⟩
              rw [← hes2] at hQ2
              have hF2 := hp20.timeout
              rw [← hes2] at hF2
              have hel : es2.length = es.length := by rw [hes2, List.length_map]
              have hk9 : w32 (floorA nx es2.length - floorA nx es.length) = ((0 : Nat) : Int) := by rw [hel, Int.sub_self]; rfl
              refine O_nil ?_
              refine C_seq ?_
              refine C_region ?_
              refine O_p (.i .u32 (floorA nx es.length)) (r_mv rfl) ?_
              refine O_p (.p (some (F9, 0))) (r_mv hT24) ?_
              refine O_call (Ev.mono (qp_floor hQ2 hH2) fun v333 H334 hq335 => ?_)
              obtain ⟨rfl, hH336⟩ := hq335
              refine O_call (Ev.mono (dist_ev hH336) fun v337 H338 hq339 => ?_)
              obtain ⟨rfl, hH340⟩ := hq339
              refine O_p (.i .i64 0) (by exact (by rw [show ((.i .i64 0) : AV) = .i .i64 (IntKind.i64.wrap ((w32 (floorA nx es2.length - floorA nx es.length)))) by rw [hk9, wrap_i64 (by omega) (by omega)]; rfl]; exact r_cint rfl)) ?_
              refine O_p (.i .i64 (((es.length : Nat)) : Int)) (r_mv rfl) ?_
              refine O_p (.p (some (F9, 0))) (r_mv hT24) ?_
              refine O_call (Ev.mono (qp_len hQ2 hH340) fun v341 H342 hq343 => ?_)
              obtain ⟨rfl, hH344⟩ := hq343
              refine O_p (.i .i64 ((((es.length : Nat)) : Int) - (((es2.length : Nat)) : Int))) (by exact (r_subi rfl rfl (wrap_i64 (by omega) (by omega)))) ?_
              refine O_p (.b false) (by exact (by rw [r_neq rfl rfl, decide_eq_true (by omega)]; rfl)) ?_
              refine O_p (.b false) (r_mv rfl) ?_
              refine O_gk rfl ?_
              refine O_p (.p (some (F9, 0))) (r_mv hT24) ?_
              refine O_gk rfl ?_
              refine O_call (Ev.mono (qp_flying hQ2 (by have := hF2.len; omega) hF2.sz hH344) fun v345 H346 hq347 => ?_)
              obtain ⟨rfl, hH348⟩ := hq347
              refine O_gk rfl ?_
              refine O_p (.b false) (by exact (by rw [r_lss rfl rfl, decide_eq_false (by omega)])) ?_
              refine O_p (.b false) (r_pick_f rfl rfl) ?_
              refine O_p (.b false) (r_mv rfl) ?_
              refine O_gk rfl ?_
              refine O_p (.p (some (F9, 0))) (r_mv hT24) ?_
              refine O_gk rfl ?_
              refine O_call (Ev.mono (qp_left hQ2 (by have := hF2.len; omega) hF2.sz hH348) fun v349 H350 hq351 => ?_)
              obtain ⟨rfl, hH352⟩ := hq351
              refine O_gk rfl ?_
              refine O_p (.b false) (by exact (by rw [r_lss rfl rfl, decide_eq_false (by omega)])) ?_
              refine O_p (.b false) (r_pick_f rfl rfl) ?_
              refine O_nil ?_
              refine C_cond (x := false) rfl (fun h => by cases h) (fun _ => ?_)
              refine C_skip ?_
              refine C_region ?_
              refine O_p (.i .i64 (((i : Nat)) : Int)) (r_mv hT25) ?_
              refine O_p (.i .i64 ((((i : Nat)) : Int) + 1)) (by exact (r_addi rfl rfl (wrap_i64 (by omega) (by omega)))) ?_
              refine O_p (.i .i64 ((((i : Nat)) : Int) + 1)) (r_mv rfl) ?_
              refine O_nil ?_
              have hH353 := (((hH352.top2).top2).top2)
              exact ⟨ol.length - (i + 1), by omega, es2, ms, pl, nx, L2, D, (i + 1), rfl, by omega, hQ2, hF2, hH353, hT21, hT22, hT23, hT24, rfl⟩
            ·
              try simp only [decide_eq_true_eq, decide_eq_false_iff_not, Bool.not_eq_true', Bool.not_eq_false', Bool.and_eq_true, Bool.or_eq_true, Bool.or_eq_false_iff, Bool.not_not, Bool.and_eq_false_iff] at hc329
              refine C_region ?_
              refine O_p (.p (some (F9, 0))) (r_mv hT24) ?_
              refine O_p v (r_mv hT22) ?_
              refine O_p (.i .i64 (((i : Nat)) : Int)) (r_mv hT25) ?_
              refine O_q (by exact Rw.row (hv _ hH35.top2.fst) rfl (i := i) rfl (r := [(.i .i64 o.w), (.i .i64 o.n), (.i .i64 o.m), o.lv, (.i .u32 o.cu), o.bv]) hor) fun v355 hv354 => ?_
              obtain ⟨rb356, ro357, rfl, hr358⟩ := hv354
              refine O_p (.p (some (rb356, (ro357 + 1)))) (r_fadd' rfl rfl) ?_
              refine O_p (.i .i64 o.n) (r_ldR (q := 1) rfl (hr358 _ (hv _ hH35.top2.fst)) rfl) ?_
              refine O_call (Ev.mono (bounded_ev (a := o.n) hH35) fun v359 H360 hq361 => ?_)
              obtain ⟨nb363, rfl, hnb363, hH362⟩ := hq361
              refine O_call (Ev.mono (qp_expire (now := ((nb363 : Nat) : Int)) hp19 (by omega) hH362) fun v364 H365 hq366 => ?_)
              obtain ⟨mp, pl2, n2, L2, rfl, _, _, _, hQ2, hH2⟩ := hq366
              obtain ⟨es2, hes2⟩ : ∃ z, z = (es.zip ms).map (exE pl2) := ⟨_, rfl⟩
              rw [← hes2] at hQ2
              have hF2 := hp20.expire (pl := pl2) hp19.len
              rw [← hes2] at hF2
              have hel : es2.length = es.length := hQ2.len.symm.trans (hp19.len)
              have hk9 : w32 (floorA nx es2.length - floorA nx es.length) = ((0 : Nat) : Int) := by rw [hel, Int.sub_self]; rfl
              refine O_nil ?_
              refine C_seq ?_
              refine C_region ?_
              refine O_p (.i .u32 (floorA nx es.length)) (r_mv rfl) ?_
              refine O_p (.p (some (F9, 0))) (r_mv hT24) ?_
              refine O_call (Ev.mono (qp_floor hQ2 hH2) fun v367 H368 hq369 => ?_)
              obtain ⟨rfl, hH370⟩ := hq369
              refine O_call (Ev.mono (dist_ev hH370) fun v371 H372 hq373 => ?_)
              obtain ⟨rfl, hH374⟩ := hq373
              refine O_p (.i .i64 0) (by exact (by rw [show ((.i .i64 0) : AV) = .i .i64 (IntKind.i64.wrap ((w32 (floorA nx es2.length - floorA nx es.length)))) by rw [hk9, wrap_i64 (by omega) (by omega)]; rfl]; exact r_cint rfl)) ?_
              refine O_p (.i .i64 (((es.length : Nat)) : Int)) (r_mv rfl) ?_
              refine O_p (.p (some (F9, 0))) (r_mv hT24) ?_
              refine O_call (Ev.mono (qp_len hQ2 hH374) fun v375 H376 hq377 => ?_)
              obtain ⟨rfl, hH378⟩ := hq377
              refine O_p (.i .i64 ((((es.length : Nat)) : Int) - (((es2.length : Nat)) : Int))) (by exact (r_subi rfl rfl (wrap_i64 (by omega) (by omega)))) ?_
              refine O_p (.b false) (by exact (by rw [r_neq rfl rfl, decide_eq_true (by omega)]; rfl)) ?_
              refine O_p (.b false) (r_mv rfl) ?_
              refine O_gk rfl ?_
              refine O_p (.p (some (F9, 0))) (r_mv hT24) ?_
              refine O_gk rfl ?_
              refine O_call (Ev.mono (qp_flying hQ2 (by have := hF2.len; omega) hF2.sz hH378) fun v379 H380 hq381 => ?_)
              obtain ⟨rfl, hH382⟩ := hq381
              refine O_gk rfl ?_
              refine O_p (.b false) (by exact (by rw [r_lss rfl rfl, decide_eq_false (by omega)])) ?_
              refine O_p (.b false) (r_pick_f rfl rfl) ?_
              refine O_p (.b false) (r_mv rfl) ?_
              refine O_gk rfl ?_
              refine O_p (.p (some (F9, 0))) (r_mv hT24) ?_
              refine O_gk rfl ?_
              refine O_call (Ev.mono (qp_left hQ2 (by have := hF2.len; omega) hF2.sz hH382) fun v383 H384 hq385 => ?_)
              obtain ⟨rfl, hH386⟩ := hq385
              refine O_gk rfl ?_
              refine O_p (.b false) (by exact (by rw [r_lss rfl rfl, decide_eq_false (by omega)])) ?_
              refine O_p (.b false) (r_pick_f rfl rfl) ?_
              refine O_nil ?_
              refine C_cond (x := false) rfl (fun h => by cases h) (fun _ => ?_)
              refine C_skip ?_
              refine C_region ?_
              refine O_p (.i .i64 (((i : Nat)) : Int)) (r_mv hT25) ?_
              refine O_p (.i .i64 ((((i : Nat)) : Int) + 1)) (by exact (r_addi rfl rfl (wrap_i64 (by omega) (by omega)))) ?_
              refine O_p (.i .i64 ((((i : Nat)) : Int) + 1)) (r_mv rfl) ?_
              refine O_nil ?_
              have hH387 := (((hH386.top2).top2).top2)
              exact ⟨ol.length - (i + 1), by omega, es2, ms, pl2, nx, L2, D, (i + 1), rfl, by omega, hQ2, hF2, hH387, hT21, hT22, hT23, hT24, rfl⟩
    ·
      try simp only [decide_eq_true_eq, decide_eq_false_iff_not, Bool.not_eq_true', Bool.not_eq_false', Bool.and_eq_true, Bool.or_eq_true, Bool.or_eq_false_iff, Bool.not_not, Bool.and_eq_false_iff] at hc27
      refine C_exit ?_
      refine nx_exit ?_
      refine nx_exit ?_
      refine bk_hit ?_
      refine C_seq ?_
      refine C_region ?_
      refine O_p (.b true) (r_mv hT23) ?_
      refine O_p (.b true) (r_mv rfl) ?_
      refine O_nil ?_
      refine C_ret ?_
      exact ⟨.inr rfl, _, resL_one (r_tmp (v := .b true) rfl), rfl⟩
set_option maxRecDepth 100000 in
theorem run6T (H : AH) (hok : H.Ok) (a0 : Int) (w_a0 : (Lit.int .u32 a0).wf = true) {v : AV} (h : Typed Try.prog H 9 52 [v]) : Ev tabA spA (.fn (.func 6) [] []) [.i .u32 a0, v] H (fun v _ => v = .b true) := by
  obtain ⟨p, n, c, rfl, hnc, _, hr⟩ := typed_recs (z := 6) Try.underlying52 (by kernel_rfl) h
  obtain ⟨rows, hrw, _, hrt⟩ := Rw.given hnc hr
  obtain ⟨ol, hol⟩ := ops_ex fun i r hi => opT hok (hrt i r hi)
  exact run6 H hok a0 w_a0 _ rows ol (fun H' hh => hrw.ro (R := []) hok (by rw [List.append_nil]; exact hh)) hol
set_option maxRecDepth 100000 in
theorem law6 (W : World) (ρ : Rho) (H : AH) (xs : List AV) (args : Array Value) (hR : Rel Try.prog W.heap.size W ρ H W) (hro : RO H) (hv : VRL ρ xs args.toList) (ht : TypedVs Try.prog H 9 Try.f6.params.toList xs) :
    Calls Try.prog 6 args W fun e w' => e = .returned (.bool true) ∧ Below W.heap.size W w' := by
  rw [Try.params6] at ht
  obtain ⟨a0, xs, rfl, g0, a1, xs, rfl, g1, rfl⟩ := ht
  obtain ⟨a0, rfl, wa0⟩ := typedV_int Try.underlying22 g0
  obtain ⟨k, v, H', hex, rfl⟩ := run6T H hR.aok a0 wa0 (typedV_slice Try.underlying52 g1)
  exact law_of mixed tabA_ok spA_ok hex hR hv
end Go.Proofs.Ytipcacpaadgagaa.E
namespace Go.Proofs.Ytipcacpaadgagaa.sendqFloor
open Go.ChangeShapes Go.WideShapes Go.RowKit
set_option linter.unusedVariables false
theorem own : ownKnob Try.prog.godebug = none := by kernel_rfl
theorem types : (Try.f6.params.toList.all fun t => E.fit Try.prog 9 t && (Try.prog.readableRec t && decide (t < Try.prog.types.size))) = true := by kernel_rfl
set_option maxRecDepth 100000 in
theorem lifted (os : Os) (started : os.Started) (H : Type) (enc : TypeId × Value → H) :
    ReturnsInHanded {} Try.checked os 6 .any (Rows.sendqFloorSpec.pre6 enc Try.prog Try.f6 Rows.sendqFloorRow.domain false) (Rows.sendqFloorSpec.post enc Try.prog Try.f6 false true false false) :=
  E.law_lifted (C := Try.checked) (k := 9) (tb := 4) E.globals0 E.laid own started (by kernel_rfl) Try.func6
    (ChangeSpec.witness6 (enc := enc) (C := Try.checked) false ⟨#[], #[.int .u32 0, .slice none 0 0], []⟩ 8 (by kernel_rfl) (by kernel_rfl) (by kernel_rfl) (by kernel_rfl))
    rfl rfl Try.underlying4 (fun t ht => by have h := List.all_eq_true.1 types t ht; simp only [Bool.and_eq_true, decide_eq_true_eq] at h; exact h)
    (fun ds hd => by
      rw [Try.params6] at hd
      match ds, hd with
      | [d0, d1], _ => rfl) E.law6
theorem over : Rows.sendqFloorRow.holds Try.pinned (OpenSpec.ofChange Rows.sendqFloorSpec) :=
  OpenClaim.holds_of_wide 6 Try.f6 rfl rfl rfl rfl rfl rfl rfl ⟨rfl, rfl, rfl, rfl, rfl⟩ rfl rfl rfl rfl rfl (by kernel_rfl) Try.func6 (by kernel_rfl)
    (of_decide_eq_true (by kernel_rfl)) (by unfold Func.isWrapper; first | (rw [if_pos (by decide +kernel)]; kernel_rfl) | (rw [if_neg (by decide +kernel)]; exact ⟨rfl, rfl⟩))
    (fun os started H enc _ => lifted os started H enc)
end Go.Proofs.Ytipcacpaadgagaa.sendqFloor
namespace Go.Proofs.Ytipcacpaadgagaa
/-- The row, under a short name, for the claim. -/
theorem sendqFloor_holds : Rows.SendqFloorSaid := sendqFloor.over
#print axioms sendqFloor_holds
end Go.Proofs.Ytipcacpaadgagaa
