/- SplitJoins, for every input, without conditions. -/
import Derived.Test.YtadloppgokobeaaQ
import Derived.Test.YtadloppgokobeaaRows
import Derived.ProofKit
import Derived.OpenShut
namespace Go.Proofs.Ytadloppgokobeaa.E
open Go.RowKit (Below)
set_option linter.unusedVariables false
set_option linter.unusedSimpArgs false
set_option maxRecDepth 100000 in
set_option maxHeartbeats 1000000 in
theorem run6 (H0 : AH) (hok0 : H0.Ok) (ao ap : Int) (au : Bool) (ada : Option (Nat × Nat)) (adc : Nat) (ad : List UInt8) (ahb : Bs H0 (.sl ada ad.length adc 0) ad) (ahc : ad.length ≤ adc) (ahm : adc ≤ maxLen) (bo bp : Int) (bu : Bool) (bda : Option (Nat × Nat)) (bdc : Nat) (bd : List UInt8) (bhb : Bs H0 (.sl bda bd.length bdc 0) bd) (bhc : bd.length ≤ bdc) (bhm : bdc ≤ maxLen) (tsn most : Int) : Ev tabA spA (.fn (.func 6) [] []) [.agg [.i .u16 ao, .b au, .i .u32 ap, .sl ada ad.length adc 0], .agg [.i .u16 bo, .b bu, .i .u32 bp, .sl bda bd.length bdc 0], .i .u32 tsn, .i .i64 most] H0 (fun v _ => v = .b true) := by
  have hH0 := allL_hs hok0
  have aB : ∀ H', Hs H' (allL H0) → Bs H' (.sl ada ad.length adc 0) ad := fun H' hh => Bs.ro (R := []) ahb hok0 (by rw [List.append_nil]; exact hh)
  have bB : ∀ H', Hs H' (allL H0) → Bs H' (.sl bda bd.length bdc 0) bd := fun H' hh => Bs.ro (R := []) bhb hok0 (by rw [List.append_nil]; exact hh)
  refine Ev_C (F := x6) rfl ?_
  refine C_seq ?_
  refine C_region ?_
  refine O_box (z := [(.i .u16 ao), (.b au), (.i .u32 ap), (.sl ada ad.length adc 0)]) rfl fun n1 H2 hN3 => ?_
  have hH4 := hH0.new hN3
  refine O_box (z := [(.i .u16 bo), (.b bu), (.i .u32 bp), (.sl bda bd.length bdc 0)]) rfl fun n5 H6 hN7 => ?_
  have hH8 := hH4.new hN7
  refine O_p (.b false) (r_mv rfl) ?_
  refine O_nil ?_
  refine C_seq ?_
  refine C_region ?_
  refine O_call (Ev_sp (v := (.b true)) rfl rfl ?_)
  refine O_p (.b true) (r_mv rfl) ?_
  refine O_nil ?_
  refine C_seq ?_
  refine C_seq ?_
  refine C_region ?_
  refine O_p (.p (some (n1, 3))) (r_fadd' rfl rfl) ?_
  refine O_p (.sl ada ad.length adc 0) (r_ld rfl hH8.get1 rfl) ?_
  refine O_p (.i .i64 (((ad.length : Nat)) : Int)) (r_len rfl) ?_
  refine O_p (.b (decide (2000 < (((ad.length : Nat)) : Int)))) (r_gtr rfl rfl) ?_
  refine O_p (.b (decide (2000 < (((ad.length : Nat)) : Int)))) (r_mv rfl) ?_
  refine O_gx (e := (!(decide (2000 < (((ad.length : Nat)) : Int))))) (v := (.p (some (n5, 3)))) (wf rfl) (fun he => (r_fadd' rfl rfl)) ?_
  refine O_gx (e := (!(decide (2000 < (((ad.length : Nat)) : Int))))) (v := (.sl bda bd.length bdc 0)) (wf rfl) (fun he => (r_ld (cond_pos he) hH8.get0 rfl)) ?_
  refine O_gx (e := (!(decide (2000 < (((ad.length : Nat)) : Int))))) (v := (.i .i64 (((bd.length : Nat)) : Int))) (wf rfl) (fun he => (r_len (cond_pos he))) ?_
  refine O_gx (e := (!(decide (2000 < (((ad.length : Nat)) : Int))))) (v := (.b (decide (2000 < (((bd.length : Nat)) : Int))))) (wf rfl) (fun he => (r_gtr (cond_pos he) rfl)) ?_
  refine O_p (.b ((decide (2000 < (((ad.length : Nat)) : Int))) || (decide (2000 < (((bd.length : Nat)) : Int))))) (r_pick_or rfl rfl rfl rfl) ?_
  refine O_nil ?_
  refine C_cond (x := ((decide (2000 < (((ad.length : Nat)) : Int))) || (decide (2000 < (((bd.length : Nat)) : Int))))) rfl (fun hc9 => ?_) (fun hc9 => ?_)
  ·
    try simp only [decide_eq_true_eq, decide_eq_false_iff_not, Bool.not_eq_true', Bool.not_eq_false', Bool.and_eq_true, Bool.or_eq_true, Bool.or_eq_false_iff, Bool.not_not, Bool.and_eq_false_iff] at hc9
    refine C_seq ?_
    refine C_region ?_
    refine O_p (.b true) (r_mv rfl) ?_
    refine O_p (.b true) (r_mv rfl) ?_
    refine O_nil ?_
    refine C_ret ?_
    refine nx_ret ?_
    exact ⟨.inr rfl, _, resL_one (r_tmp (v := .b true) rfl), rfl⟩
  ·
    try simp only [decide_eq_true_eq, decide_eq_false_iff_not, Bool.not_eq_true', Bool.not_eq_false', Bool.and_eq_true, Bool.or_eq_true, Bool.or_eq_false_iff, Bool.not_not, Bool.and_eq_false_iff] at hc9
    refine C_skip ?_
    refine C_seq ?_
    refine C_region ?_
    refine O_p (.agg [(.i .u16 ao), (.b au), (.i .u32 ap), (.sl ada ad.length adc 0)]) (r_ldA rfl hH8.get1 rfl) ?_
    refine O_p (.i .u32 tsn) (r_mv rfl) ?_
    refine O_p (.i .i64 most) (r_mv rfl) ?_
    have hH10 := (hH8.top2)
    refine O_call (Ev.mono (split8_ev au ao ap tsn 3 most (.inl rfl) ahc (Nat.le_trans ahm (by decide)) aB hH10) fun v11 H12 hq13 => ?_)
    obtain ⟨D14, w15, rfl, hck16, hH17⟩ := hq13
    obtain ⟨rows18, hrw19, hcr20⟩ := hck16
    refine O_p (.tup [w15, (.i .i64 (splitE ad.length most))]) (r_mv rfl) ?_
    refine O_p w15 (r_ext rfl rfl) ?_
    refine O_p (.i .i64 (splitE ad.length most)) (r_ext rfl rfl) ?_
    refine O_p w15 (r_mv rfl) ?_
    refine O_p (.i .i64 (splitE ad.length most)) (r_mv rfl) ?_
    refine O_nil ?_
    refine C_seq ?_
    refine C_region ?_
    refine O_p (.agg [(.i .u16 bo), (.b bu), (.i .u32 bp), (.sl bda bd.length bdc 0)]) (r_ldA rfl hH17.get2 rfl) ?_
    refine O_p (.i .u32 tsn) (r_mv rfl) ?_
    refine O_p w15 (r_mv rfl) ?_
    refine O_p (.i .i64 ((((splitL au ao ap tsn 3 most ad).length : Nat)) : Int)) (r_lenOf rfl ((hrw19 _ (Hs.fst (Hs.unassoc ((hH17.top1).top1)))).lenOf hcr20.1) (hrw19 _ (Hs.fst (Hs.unassoc ((hH17.top1).top1)))).isSl) ?_
    refine O_p (.i .u32 (IntKind.u32.wrap ((((splitL au ao ap tsn 3 most ad).length : Nat)) : Int))) (r_cint rfl) ?_
    refine O_p (.i .u32 (IntKind.u32.wrap (tsn + (IntKind.u32.wrap ((((splitL au ao ap tsn 3 most ad).length : Nat)) : Int))))) (r_bin rfl rfl rfl) ?_
    refine O_p (.i .i64 most) (r_mv rfl) ?_
    have hH21 := (hH17.top1)
    refine O_call (Ev.mono (split8_ev bu bo bp (IntKind.u32.wrap (tsn + (IntKind.u32.wrap ((((splitL au ao ap tsn 3 most ad).length : Nat)) : Int)))) 4 most (.inl rfl) bhc (Nat.le_trans bhm (by decide)) bB hH21) fun v22 H23 hq24 => ?_)
    obtain ⟨D25, w26, rfl, hck27, hH28⟩ := hq24
    obtain ⟨rows29, hrw30, hcr31⟩ := hck27
    refine O_p (.tup [w26, (.i .i64 (splitE bd.length most))]) (r_mv rfl) ?_
    refine O_p w26 (r_ext rfl rfl) ?_
    refine O_p (.i .i64 (splitE bd.length most)) (r_ext rfl rfl) ?_
    refine O_p w26 (r_mv rfl) ?_
    refine O_p (.i .i64 (splitE bd.length most)) (r_mv rfl) ?_
    refine O_nil ?_
    refine C_seq ?_
    refine C_seq ?_
    by_cases hE1 : splitE ad.length most = 0
    ·
      obtain ⟨hl0a, hl1a, hm0, hm1⟩ := splitE_le hE1
      obtain ⟨k, rfl⟩ : ∃ k : Nat, most = k := ⟨most.toNat, by omega⟩
      obtain ⟨csA, hcsA⟩ : ∃ cs, cs = splitS au ao ap tsn 3 k ad := ⟨_, rfl⟩
      have hLLa : (splitL au ao ap tsn 3 ((k : Nat) : Int) ad) = csA := by rw [hcsA]; unfold splitL; rw [if_pos hE1, Int.toNat_natCast]
      rw [hLLa] at hcr20
      have hrla := hcr20.1
      have hlencsA : csA.length = (nPcs ad.length k) := by rw [hcsA, splitS_len]
      have hqcsA : 0 < (nPcs ad.length k) := nPcs_pos hl0a (by omega)
      have hqlcsA : (nPcs ad.length k) ≤ ad.length := nPcs_le (by omega)
      have hbcsA : ∀ x ∈ csA, x.d.length ≤ k := by rw [hcsA]; exact splitS_bound
      by_cases hE2 : splitE bd.length ((k : Nat) : Int) = 0
      ·
        obtain ⟨hl0b, hl1b, _, _⟩ := splitE_le hE2
        obtain ⟨csB, hcsB⟩ : ∃ cs, cs = splitS bu bo bp (IntKind.u32.wrap (tsn + (IntKind.u32.wrap ((((splitL au ao ap tsn 3 ((k : Nat) : Int) ad).length : Nat)) : Int)))) 4 k bd := ⟨_, rfl⟩
        have hLLb : (splitL bu bo bp (IntKind.u32.wrap (tsn + (IntKind.u32.wrap ((((splitL au ao ap tsn 3 ((k : Nat) : Int) ad).length : Nat)) : Int)))) 4 ((k : Nat) : Int) bd) = csB := by rw [hcsB]; unfold splitL; rw [if_pos hE2, Int.toNat_natCast]
        rw [hLLb] at hcr31
        have hrlb := hcr31.1
        have hlencsB : csB.length = (nPcs bd.length k) := by rw [hcsB, splitS_len]
        have hqcsB : 0 < (nPcs bd.length k) := nPcs_pos hl0b (by omega)
        have hqlcsB : (nPcs bd.length k) ≤ bd.length := nPcs_le (by omega)
        have hbcsB : ∀ x ∈ csB, x.d.length ≤ k := by rw [hcsB]; exact splitS_bound
        have h2 := split_two (fr := au) (o := ao) (p := ap) (tsn := tsn) (ssn := 3) (fr2 := bu) (o2 := bo) (p2 := bp) (tsn2 := (IntKind.u32.wrap (tsn + (IntKind.u32.wrap ((((splitL au ao ap tsn 3 ((k : Nat) : Int) ad).length : Nat)) : Int))))) (ssn2 := 4) hl0a hl0b (show 0 < k by omega)
        rw [← hcsA, ← hcsB] at h2
        obtain ⟨hfol, hM⟩ := h2
        have hms := msgS_no hM
        have hcAB : CksR true (D14 ++ (D25 ++ (allL H0))) (rows18 ++ rows29) (csA ++ csB) := (hcr20.mono fun _ hh => hh.sub1).app (hcr31.mono fun _ hh => hh.sub)
        refine C_region ?_
        refine O_p (.i .i64 (splitE ad.length ((k : Nat) : Int))) (r_mv rfl) ?_
        refine O_p (.b false) (by exact (by rw [r_neq rfl rfl, decide_eq_true (by first | omega | assumption)]; rfl)) ?_
        refine O_p (.b false) (r_mv rfl) ?_
        refine O_gk rfl ?_
        refine O_p (.i .i64 (splitE bd.length ((k : Nat) : Int))) (r_mv rfl) ?_
        refine O_gk rfl ?_
        refine O_p (.b false) (by exact (by rw [r_neq rfl rfl, decide_eq_true (by first | omega | assumption)]; rfl)) ?_
        refine O_p (.b false) (r_pick_f rfl rfl) ?_
        refine O_p (.b false) (r_mv rfl) ?_
        refine O_gk rfl ?_
        refine O_p w15 (r_mv rfl) ?_
        refine O_gk rfl ?_
        refine O_p (.i .i64 (((csA.length : Nat)) : Int)) (r_lenOf rfl ((hrw19 _ (Hs.fst (Hs.unassoc ((hH28.top1).top2)))).lenOf hcr20.1) (hrw19 _ (Hs.fst (Hs.unassoc ((hH28.top1).top2)))).isSl) ?_
        refine O_gk rfl ?_
        refine O_p (.b false) (by exact (by rw [r_eql rfl rfl, decide_eq_false (by omega)])) ?_
        refine O_p (.b false) (r_pick_f rfl rfl) ?_
        refine O_p (.b false) (r_mv rfl) ?_
        refine O_gk rfl ?_
        refine O_p w26 (r_mv rfl) ?_
        refine O_gk rfl ?_
        refine O_p (.i .i64 (((csB.length : Nat)) : Int)) (r_lenOf rfl ((hrw30 _ (Hs.fst (Hs.unassoc ((hH28.top1).top1)))).lenOf hcr31.1) (hrw30 _ (Hs.fst (Hs.unassoc ((hH28.top1).top1)))).isSl) ?_
        refine O_gk rfl ?_
        refine O_p (.b false) (by exact (by rw [r_eql rfl rfl, decide_eq_false (by omega)])) ?_
        refine O_p (.b false) (r_pick_f rfl rfl) ?_
        refine O_nil ?_
        refine C_cond (x := false) rfl (fun h => by cases h) (fun _ => ?_)
        refine C_skip ?_
        refine C_seq ?_
        refine C_region ?_
        refine O_bslice (c := []) rfl fun n32 H33 hN34 => ?_
        have hH35 := hH28.new hN34
        refine O_p w15 (r_mv rfl) ?_
        refine O_qh (by exact r_appq (n := 0) (k := rows18.length) (new := rows18.flatten) hH35.top0 (Sq.full (b := n32) (n := 0) (g := 0) (sz := 12) (l := []) (.inl rfl) rfl) rfl rfl ((hrw19 _ (Hs.fst (Hs.unassoc ((hH35.top2).top3)))).len) (Rw.src (hrw19 _ (Hs.fst (Hs.unassoc ((hH35.top2).top3))))) (flat_len hcr20.lens) (by decide) (by decide) rfl (by first | omega | (simp only [List.length_take, List.length_drop, List.length_append, List.length_cons, List.length_nil, beN_len] <;> omega))) fun o36 H37 hA39 => ?_
        obtain ⟨c38, hA39, hH40⟩ := hA39
        refine O_p w26 (r_mv rfl) ?_
        refine O_qh (by exact r_appq (n := (0 + rows18.length)) (k := rows29.length) (new := rows29.flatten) hH40.top0 hA39 rfl rfl ((hrw30 _ (Hs.fst (Hs.unassoc ((hH40.top2).top2)))).len) (Rw.src (hrw30 _ (Hs.fst (Hs.unassoc ((hH40.top2).top2))))) (flat_len hcr31.lens) (by decide) (by decide) (len_app rfl (flat_len hcr20.lens)) (by first | omega | (simp only [List.length_take, List.length_drop, List.length_append, List.length_cons, List.length_nil, beN_len] <;> omega))) fun o41 H42 hA44 => ?_
        obtain ⟨c43, hA44, hH45⟩ := hA44
        have hxs : Sq 12 o41 c43 (rows18 ++ rows29).flatten := by have h := hA44; rw [List.flatten_append]; exact h
        have hbAB : ∀ x ∈ csA ++ csB, x.d.length ≤ k := fun x hx => (List.mem_append.1 hx).elim (hbcsA x) (hbcsB x)
        have hH46 := ((((hH45.top2).top2).top3).top3)
        have hH47 : Hs H42 (((qseg o41 c43) ++ (D14 ++ (D25 ++ ((allL H0))))) ++ ([(n5, some (.cells ([(.i .u16 bo), (.b bu), (.i .u32 bp), (.sl bda bd.length bdc 0)]) true))] ++ ([(n1, some (.cells ([(.i .u16 ao), (.b au), (.i .u32 ap), (.sl ada ad.length adc 0)]) true))] ++ ([])))) := by have h := hH46; simpa only [List.append_assoc, List.cons_append, List.nil_append] using h
        refine O_call (Ev.mono (whole_ev (v := o41) (Cks.sq hxs hcAB) (by rw [List.length_append]; omega) (by have h1 := ck_bound hbAB; rw [List.length_append] at h1; have h2 : (csA.length + csB.length) * k ≤ 4000 * 1172 := Nat.mul_le_mul (by omega) (by omega); omega) hH47) fun v48 H49 hq50 => ?_)
        rw [hms, hM] at hq50
        obtain ⟨o51, c52, rfl, hSq53, hH54⟩ := hq50
        have hH55 : Hs H49 ((qseg o51 c52) ++ ((qseg o41 c43) ++ (D14 ++ (D25 ++ ((allL H0) ++ ([(n5, some (.cells ([(.i .u16 bo), (.b bu), (.i .u32 bp), (.sl bda bd.length bdc 0)]) true))] ++ ([(n1, some (.cells ([(.i .u16 ao), (.b au), (.i .u32 ap), (.sl ada ad.length adc 0)]) true))] ++ ([])))))))) := by have h := hH54; simpa only [List.append_assoc, List.cons_append, List.nil_append] using h
        refine O_p (.tup [(.agg [(.i .u16 0), (.b false), (.i .u32 0), o51]), (.b false)]) (r_mv rfl) ?_
        refine O_p (.agg [(.i .u16 0), (.b false), (.i .u32 0), o51]) (r_ext rfl rfl) ?_
        refine O_p (.b false) (r_ext rfl rfl) ?_
        refine O_alloc fun n56 H57 hN58 => ?_
        have hH59 := hH55.new hN58
        refine O_store (vs := [(.i .u16 0), (.b false), (.i .u32 0), o51]) (c' := [(.i .u16 0), (.b false), (.i .u32 0), o51]) rfl (by rfl) hH59.get0 rfl (List.cons_ne_nil _ _) (Nat.le_of_ble_eq_true rfl) rfl fun H60 hW61 => ?_
        have hH62 := hH59.wr0 hW61
        refine O_p (.b false) (r_mv rfl) ?_
        refine O_nil ?_
        refine C_seq ?_
        refine C_draw fun b63 H64 hbase65 hA66 => ?_
        have hH67 := hH62.keep (by have := hA66.1; omega) (fun q _ => hA66.2 q) ((hH62.old).aside hA66).ok
        have hxA : csA[csA.length - 1]? = some (pieceC au ao ap tsn 3 k ad ((nPcs ad.length k) - 1)) := by rw [hlencsA, hcsA]; exact splitS_at _ _ _ _ _ _ _ (by omega)
        have hxB : csB[0]? = some (pieceC bu bo bp (IntKind.u32.wrap (tsn + (IntKind.u32.wrap ((((splitL au ao ap tsn 3 ((k : Nat) : Int) ad).length : Nat)) : Int)))) 4 k bd 0) := by rw [hcsB]; exact splitS_at _ _ _ _ _ _ _ hqcsB
        have hfo := hfol _ _ (by rw [List.getLast?_eq_getElem?]; exact hxA) (by rw [List.head?_eq_getElem?]; exact hxB)
        obtain ⟨rA, hrA, hrowA⟩ := hcr20.2 _ _ hxA
        obtain ⟨bA, blA, duA, skA, paA, aA, capA, gA, rfl, _, _, _, ⟨_, hfA, haA, _⟩, _⟩ := id hrowA
        obtain ⟨rB, hrB, hrowB⟩ := hcr31.2 _ _ hxB
        obtain ⟨bB, blB, duB, skB, paB, aB, capB, gB, rfl, _, _, _, ⟨_, hfB, haB, _⟩, _⟩ := id hrowB
        refine D_l (v := (.b true)) rfl rfl rfl (r_mv rfl) ?_
        refine D_l (v := (.b true)) rfl rfl rfl (r_mv rfl) ?_
        refine D_gk rfl ?_
        refine D_l (v := w15) rfl rfl rfl (r_mv rfl) ?_
        refine D_gk rfl ?_
        refine D_l (v := w15) rfl rfl rfl (r_mv rfl) ?_
        refine D_gk rfl ?_
        refine D_l (v := (.i .i64 (((csA.length : Nat)) : Int))) rfl rfl rfl (r_lenOf rfl ((hrw19 _ (Hs.fst (Hs.unassoc ((hH67.top5).top4)))).lenOf hcr20.1) (hrw19 _ (Hs.fst (Hs.unassoc ((hH67.top5).top4)))).isSl) ?_
        refine D_gk rfl ?_
        refine D_l (v := (.i .i64 ((((csA.length - 1) : Nat)) : Int))) rfl rfl rfl (by exact (r_subn (a := csA.length) (b := 1) rfl rfl (by omega) (by omega))) ?_
        refine D_gk rfl ?_
        refine D_q rfl rfl rfl (by exact Rw.row (hrw19 _ (Hs.fst (Hs.unassoc ((hH67.top5).top4)))) rfl (i := (csA.length - 1)) rfl (r := [(.i .u8 (pieceC au ao ap tsn 3 k ad ((nPcs ad.length k) - 1)).k), (.i .u8 (pieceC au ao ap tsn 3 k ad ((nPcs ad.length k) - 1)).f), (.i .u32 (pieceC au ao ap tsn 3 k ad ((nPcs ad.length k) - 1)).a), (.i .u32 bA), (.i .u16 (pieceC au ao ap tsn 3 k ad ((nPcs ad.length k) - 1)).o), (.i .u16 (pieceC au ao ap tsn 3 k ad ((nPcs ad.length k) - 1)).i), (.i .u32 (pieceC au ao ap tsn 3 k ad ((nPcs ad.length k) - 1)).p), blA, duA, skA, paA, (.sl aA (pieceC au ao ap tsn 3 k ad ((nPcs ad.length k) - 1)).d.length capA gA)]) hrA) fun v69 hv68 => ?_
        obtain ⟨rb70, ro71, rfl, hr72⟩ := hv68
        refine D_gk rfl ?_
        refine D_l (v := w26) rfl rfl rfl (r_mv rfl) ?_
        refine D_gk rfl ?_
        refine D_q rfl rfl rfl (by exact Rw.row (hrw30 _ (Hs.fst (Hs.unassoc ((hH67.top5).top5)))) rfl (i := 0) rfl (r := [(.i .u8 (pieceC bu bo bp (IntKind.u32.wrap (tsn + (IntKind.u32.wrap ((((splitL au ao ap tsn 3 ((k : Nat) : Int) ad).length : Nat)) : Int)))) 4 k bd 0).k), (.i .u8 (pieceC bu bo bp (IntKind.u32.wrap (tsn + (IntKind.u32.wrap ((((splitL au ao ap tsn 3 ((k : Nat) : Int) ad).length : Nat)) : Int)))) 4 k bd 0).f), (.i .u32 (pieceC bu bo bp (IntKind.u32.wrap (tsn + (IntKind.u32.wrap ((((splitL au ao ap tsn 3 ((k : Nat) : Int) ad).length : Nat)) : Int)))) 4 k bd 0).a), (.i .u32 bB), (.i .u16 (pieceC bu bo bp (IntKind.u32.wrap (tsn + (IntKind.u32.wrap ((((splitL au ao ap tsn 3 ((k : Nat) : Int) ad).length : Nat)) : Int)))) 4 k bd 0).o), (.i .u16 (pieceC bu bo bp (IntKind.u32.wrap (tsn + (IntKind.u32.wrap ((((splitL au ao ap tsn 3 ((k : Nat) : Int) ad).length : Nat)) : Int)))) 4 k bd 0).i), (.i .u32 (pieceC bu bo bp (IntKind.u32.wrap (tsn + (IntKind.u32.wrap ((((splitL au ao ap tsn 3 ((k : Nat) : Int) ad).length : Nat)) : Int)))) 4 k bd 0).p), blB, duB, skB, paB, (.sl aB (pieceC bu bo bp (IntKind.u32.wrap (tsn + (IntKind.u32.wrap ((((splitL au ao ap tsn 3 ((k : Nat) : Int) ad).length : Nat)) : Int)))) 4 k bd 0).d.length capB gB)]) hrB) fun v74 hv73 => ?_
        obtain ⟨rb75, ro76, rfl, hr77⟩ := hv73
        refine D_gk rfl ?_
        refine D_r (v := (.agg [(.i .u8 (pieceC au ao ap tsn 3 k ad ((nPcs ad.length k) - 1)).k), (.i .u8 (pieceC au ao ap tsn 3 k ad ((nPcs ad.length k) - 1)).f), (.i .u32 (pieceC au ao ap tsn 3 k ad ((nPcs ad.length k) - 1)).a), (.i .u32 bA), (.i .u16 (pieceC au ao ap tsn 3 k ad ((nPcs ad.length k) - 1)).o), (.i .u16 (pieceC au ao ap tsn 3 k ad ((nPcs ad.length k) - 1)).i), (.i .u32 (pieceC au ao ap tsn 3 k ad ((nPcs ad.length k) - 1)).p), blA, duA, skA, paA, (.sl aA (pieceC au ao ap tsn 3 k ad ((nPcs ad.length k) - 1)).d.length capA gA)])) rfl rfl rfl (r_ldRA (q := 0) rfl (hr72 _ (hrw19 _ (Hs.fst (Hs.unassoc ((hH67.top5).top4))))) rfl) ?_
        refine D_gk rfl ?_
        refine D_r (v := (.agg [(.i .u8 (pieceC bu bo bp (IntKind.u32.wrap (tsn + (IntKind.u32.wrap ((((splitL au ao ap tsn 3 ((k : Nat) : Int) ad).length : Nat)) : Int)))) 4 k bd 0).k), (.i .u8 (pieceC bu bo bp (IntKind.u32.wrap (tsn + (IntKind.u32.wrap ((((splitL au ao ap tsn 3 ((k : Nat) : Int) ad).length : Nat)) : Int)))) 4 k bd 0).f), (.i .u32 (pieceC bu bo bp (IntKind.u32.wrap (tsn + (IntKind.u32.wrap ((((splitL au ao ap tsn 3 ((k : Nat) : Int) ad).length : Nat)) : Int)))) 4 k bd 0).a), (.i .u32 bB), (.i .u16 (pieceC bu bo bp (IntKind.u32.wrap (tsn + (IntKind.u32.wrap ((((splitL au ao ap tsn 3 ((k : Nat) : Int) ad).length : Nat)) : Int)))) 4 k bd 0).o), (.i .u16 (pieceC bu bo bp (IntKind.u32.wrap (tsn + (IntKind.u32.wrap ((((splitL au ao ap tsn 3 ((k : Nat) : Int) ad).length : Nat)) : Int)))) 4 k bd 0).i), (.i .u32 (pieceC bu bo bp (IntKind.u32.wrap (tsn + (IntKind.u32.wrap ((((splitL au ao ap tsn 3 ((k : Nat) : Int) ad).length : Nat)) : Int)))) 4 k bd 0).p), blB, duB, skB, paB, (.sl aB (pieceC bu bo bp (IntKind.u32.wrap (tsn + (IntKind.u32.wrap ((((splitL au ao ap tsn 3 ((k : Nat) : Int) ad).length : Nat)) : Int)))) 4 k bd 0).d.length capB gB)])) rfl rfl rfl (r_ldRA (q := 0) rfl (hr77 _ (hrw30 _ (Hs.fst (Hs.unassoc ((hH67.top5).top5))))) rfl) ?_
        refine D_gk rfl ?_
        refine D_call (Ev.mono (follows_ev (pieceC au ao ap tsn 3 k ad ((nPcs ad.length k) - 1)) (pieceC bu bo bp (IntKind.u32.wrap (tsn + (IntKind.u32.wrap ((((splitL au ao ap tsn 3 ((k : Nat) : Int) ad).length : Nat)) : Int)))) 4 k bd 0) _ _ _ _ _ _ _ _ _ _ _ _ hfA hfB haA hH67) fun v78 H79 hq80 => ?_)
        rw [hfo] at hq80
        obtain ⟨rfl, hH81⟩ := hq80
        refine And.intro (And.intro (Or.inl rfl) (And.intro (Or.inl rfl) True.intro)) ?_
        refine D_gk rfl ?_
        refine D_l (v := (.b true)) rfl rfl rfl (r_un rfl rfl) ?_
        refine D_l (v := (.b true)) rfl rfl rfl (r_pick_t rfl rfl) ?_
        refine D_l (v := (.b true)) rfl rfl rfl (r_mv rfl) ?_
        refine D_gk rfl ?_
        refine D_l (v := (.b false)) rfl rfl rfl (r_mv rfl) ?_
        refine D_gk rfl ?_
        refine D_l (v := (.b true)) rfl rfl rfl (r_un rfl rfl) ?_
        refine D_l (v := (.b true)) rfl rfl rfl (r_pick_t rfl rfl) ?_
        refine D_l (v := (.b true)) rfl rfl rfl (r_mv rfl) ?_
        refine D_nil ?_
        refine C_ret ?_
        exact ⟨.inr rfl, _, resL_one (r_tmp (v := .b true) rfl), rfl⟩
      ·
        refine C_region ?_
        refine O_p (.i .i64 (splitE ad.length ((k : Nat) : Int))) (r_mv rfl) ?_
        refine O_p (.b false) (by exact (by rw [r_neq rfl rfl, decide_eq_true (by first | omega | assumption)]; rfl)) ?_
        refine O_p (.b false) (r_mv rfl) ?_
        refine O_gk rfl ?_
        refine O_p (.i .i64 (splitE bd.length ((k : Nat) : Int))) (r_mv rfl) ?_
        refine O_gk rfl ?_
        refine O_p (.b true) (by exact (by rw [r_neq rfl rfl, decide_eq_false (by first | omega | assumption)]; rfl)) ?_
        refine O_p (.b true) (r_pick_f rfl rfl) ?_
        refine O_p (.b true) (r_mv rfl) ?_
        refine O_gf rfl ?_
        refine O_gf rfl ?_
        refine O_gf rfl ?_
        refine O_p (.b true) (r_pick_t rfl rfl) ?_
        refine O_p (.b true) (r_mv rfl) ?_
        refine O_gf rfl ?_
        refine O_gf rfl ?_
        refine O_gf rfl ?_
        refine O_p (.b true) (r_pick_t rfl rfl) ?_
        refine O_nil ?_
        refine C_cond (x := true) rfl (fun _ => ?_) (fun h => by cases h)
        refine C_seq ?_
        refine C_region ?_
        refine O_p (.b true) (r_mv rfl) ?_
        refine O_p (.b true) (r_mv rfl) ?_
        refine O_gk rfl ?_
        refine O_p (.i .i64 (splitE ad.length ((k : Nat) : Int))) (r_mv rfl) ?_
        refine O_gk rfl ?_
        refine O_p (.b false) (by exact (by rw [r_neq rfl rfl, decide_eq_true (by first | omega | assumption)]; rfl)) ?_
        refine O_gk rfl ?_
        refine O_p (.b false) (r_mv rfl) ?_
        refine O_gk rfl ?_
        refine O_p (.i .i64 (splitE bd.length ((k : Nat) : Int))) (r_mv rfl) ?_
        refine O_gk rfl ?_
        refine O_p (.b true) (by exact (by rw [r_neq rfl rfl, decide_eq_false (by first | omega | assumption)]; rfl)) ?_
        refine O_gk rfl ?_
        refine O_p (.b true) (r_pick_f rfl rfl) ?_
        refine O_p (.b true) (r_pick_t rfl rfl) ?_
        refine O_p (.b true) (r_mv rfl) ?_
        refine O_nil ?_
        refine C_ret ?_
        refine nx_ret ?_
        exact ⟨.inr rfl, _, resL_one (r_tmp (v := .b true) rfl), rfl⟩
    ·
      refine C_region ?_
      refine O_p (.i .i64 (splitE ad.length most)) (r_mv rfl) ?_
      refine O_p (.b true) (by exact (by rw [r_neq rfl rfl, decide_eq_false (by first | omega | assumption)]; rfl)) ?_
      refine O_p (.b true) (r_mv rfl) ?_
      refine O_gf rfl ?_
      refine O_gf rfl ?_
      refine O_p (.b true) (r_pick_t rfl rfl) ?_
      refine O_p (.b true) (r_mv rfl) ?_
      refine O_gf rfl ?_
      refine O_gf rfl ?_
      refine O_gf rfl ?_
      refine O_p (.b true) (r_pick_t rfl rfl) ?_
      refine O_p (.b true) (r_mv rfl) ?_
      refine O_gf rfl ?_
      refine O_gf rfl ?_
      refine O_gf rfl ?_
      refine O_p (.b true) (r_pick_t rfl rfl) ?_
      refine O_nil ?_
      refine C_cond (x := true) rfl (fun _ => ?_) (fun h => by cases h)
      refine C_seq ?_
      refine C_region ?_
      refine O_p (.b true) (r_mv rfl) ?_
      refine O_p (.b true) (r_mv rfl) ?_
      refine O_gk rfl ?_
      refine O_p (.i .i64 (splitE ad.length most)) (r_mv rfl) ?_
      refine O_gk rfl ?_
      refine O_p (.b true) (by exact (by rw [r_neq rfl rfl, decide_eq_false (by first | omega | assumption)]; rfl)) ?_
      refine O_gk rfl ?_
      refine O_p (.b true) (r_mv rfl) ?_
      refine O_gf rfl ?_
      refine O_gf rfl ?_
      refine O_gk rfl ?_
      refine O_p (.b true) (r_pick_t rfl rfl) ?_
      refine O_p (.b true) (r_pick_t rfl rfl) ?_
      refine O_p (.b true) (r_mv rfl) ?_
      refine O_nil ?_
      refine C_ret ?_
      refine nx_ret ?_
      exact ⟨.inr rfl, _, resL_one (r_tmp (v := .b true) rfl), rfl⟩
set_option maxRecDepth 100000 in
theorem law6 (W : World) (ρ : Rho) (H : AH) (xs : List AV) (args : Array Value) (hR : Rel Try.prog W.heap.size W ρ H W) (hro : RO H) (hv : VRL ρ xs args.toList) (ht : TypedVs Try.prog H 9 Try.f6.params.toList xs) :
    Calls Try.prog 6 args W fun e w' => e = .returned (.bool true) ∧ Below W.heap.size W w' := by
  rw [Try.params6] at ht
  obtain ⟨a0, xs, rfl, g0, a1, xs, rfl, g1, a2, xs, rfl, g2, a3, xs, rfl, g3, rfl⟩ := ht
  obtain ⟨al, rfl, ag⟩ := typedV_struct Try.underlying26 g0
  obtain ⟨ahl, ahq⟩ := struct_parts (qs := [(22, 0, 1), (4, 1, 1), (23, 2, 1), (24, 3, 1)]) Try.underlying26 ag (by kernel_rfl)
  rw [show Try.prog.cellsOf 26 = 4 by kernel_rfl] at ahl
  obtain ⟨ax0, ax1, ax2, ax3, rfl⟩ : ∃ a b c d, al = [a, b, c, d] := by
    match al, ahl with
    | [a, b, c, d], _ => exact ⟨a, b, c, d, rfl⟩
  simp only [List.forall_mem_cons, List.drop_zero, List.drop_succ_cons, List.take_succ_cons, List.take_zero] at ahq
  obtain ⟨aq0, aq1, aq2, aq3, _⟩ := ahq
  obtain ⟨ao, ae0, aw0⟩ := typed_int Try.underlying22 aq0
  obtain ⟨au, ae1⟩ := typed_bool Try.underlying4 aq1
  obtain ⟨ap, ae2, aw2⟩ := typed_int Try.underlying23 aq2
  cases ae0; cases ae1; cases ae2
  obtain ⟨ada, adn, adc, ad, rfl, ahb, rfl, ahc, ahm⟩ := typed_bytes Try.underlying24 Try.underlying5 (by kernel_rfl) aq3
  obtain ⟨bl, rfl, bg⟩ := typedV_struct Try.underlying26 g1
  obtain ⟨bhl, bhq⟩ := struct_parts (qs := [(22, 0, 1), (4, 1, 1), (23, 2, 1), (24, 3, 1)]) Try.underlying26 bg (by kernel_rfl)
  rw [show Try.prog.cellsOf 26 = 4 by kernel_rfl] at bhl
  obtain ⟨bx0, bx1, bx2, bx3, rfl⟩ : ∃ a b c d, bl = [a, b, c, d] := by
    match bl, bhl with
    | [a, b, c, d], _ => exact ⟨a, b, c, d, rfl⟩
  simp only [List.forall_mem_cons, List.drop_zero, List.drop_succ_cons, List.take_succ_cons, List.take_zero] at bhq
  obtain ⟨bq0, bq1, bq2, bq3, _⟩ := bhq
  obtain ⟨bo, be0, bw0⟩ := typed_int Try.underlying22 bq0
  obtain ⟨bu, be1⟩ := typed_bool Try.underlying4 bq1
  obtain ⟨bp, be2, bw2⟩ := typed_int Try.underlying23 bq2
  cases be0; cases be1; cases be2
  obtain ⟨bda, bdn, bdc, bd, rfl, bhb, rfl, bhc, bhm⟩ := typed_bytes Try.underlying24 Try.underlying5 (by kernel_rfl) bq3
  obtain ⟨tsn, rfl, wtsn⟩ := typedV_int Try.underlying23 g2
  obtain ⟨most, rfl, wmost⟩ := typedV_int Try.underlying3 g3
  obtain ⟨k, v, H', hex, rfl⟩ := run6 H hR.aok ao ap au ada adc ad ahb ahc ahm bo bp bu bda bdc bd bhb bhc bhm tsn most
  exact law_of mixed tabA_ok spA_ok hex hR hv
end Go.Proofs.Ytadloppgokobeaa.E
namespace Go.Proofs.Ytadloppgokobeaa.splitJoins
open Go.ChangeShapes Go.WideShapes Go.RowKit
set_option linter.unusedVariables false
theorem own : ownKnob Try.prog.godebug = none := by kernel_rfl
theorem types : (Try.f6.params.toList.all fun t => E.fit Try.prog 9 t && (Try.prog.readableRec t && decide (t < Try.prog.types.size))) = true := by kernel_rfl
set_option maxRecDepth 100000 in
theorem lifted (os : Os) (started : os.Started) (H : Type) (enc : TypeId × Value → H) :
    ReturnsInHanded {} Try.checked os 6 .any (Rows.splitJoinsSpec.pre6 enc Try.prog Try.f6 Rows.splitJoinsRow.domain false) (Rows.splitJoinsSpec.post enc Try.prog Try.f6 false true false false) :=
  E.law_lifted (C := Try.checked) (k := 9) (tb := 4) E.globals0 E.laid own started (by kernel_rfl) Try.func6
    (ChangeSpec.witness6 (enc := enc) (C := Try.checked) false ⟨#[], #[.agg #[.int .u16 0, .bool false, .int .u32 0, .slice none 0 0], .agg #[.int .u16 0, .bool false, .int .u32 0, .slice none 0 0], .int .u32 0, .int .i64 0], []⟩ 8 (by kernel_rfl) (by kernel_rfl) (by kernel_rfl) (by kernel_rfl))
    rfl rfl Try.underlying4 (fun t ht => by have h := List.all_eq_true.1 types t ht; simp only [Bool.and_eq_true, decide_eq_true_eq] at h; exact h)
    (fun ds hd => by
      rw [Try.params6] at hd
      match ds, hd with
      | [d0, d1, d2, d3], _ => rfl) E.law6
theorem over : Rows.splitJoinsRow.holds Try.pinned (OpenSpec.ofChange Rows.splitJoinsSpec) :=
  OpenClaim.holds_of_wide 6 Try.f6 rfl rfl rfl rfl rfl rfl rfl ⟨rfl, rfl, rfl, rfl, rfl⟩ rfl rfl rfl rfl rfl (by kernel_rfl) Try.func6 (by kernel_rfl)
    (of_decide_eq_true (by kernel_rfl)) (by unfold Func.isWrapper; first | (rw [if_pos (by decide +kernel)]; kernel_rfl) | (rw [if_neg (by decide +kernel)]; exact ⟨rfl, rfl⟩))
    (fun os started H enc _ => lifted os started H enc)
end Go.Proofs.Ytadloppgokobeaa.splitJoins
namespace Go.Proofs.Ytadloppgokobeaa
/-- The row, under a short name, for the claim. -/
theorem splitJoins_holds : Rows.SplitJoinsSaid := splitJoins.over
#print axioms splitJoins_holds
end Go.Proofs.Ytadloppgokobeaa
