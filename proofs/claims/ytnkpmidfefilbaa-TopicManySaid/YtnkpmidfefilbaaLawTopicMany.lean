/- TopicMany, for every input, without conditions. -/
import Derived.Test.YtnkpmidfefilbaaM1
import Derived.Test.YtnkpmidfefilbaaRows
import Derived.ProofKit
import Derived.OpenShut
namespace Go.Proofs.Ytnkpmidfefilbaa.E
open Go.RowKit (Below)
set_option linter.unusedVariables false
set_option linter.unusedSimpArgs false
theorem set_last {α : Type} (l : List α) (a b : α) : (l ++ [a]).set l.length b = l ++ [b] := by rw [List.set_append_right _ _ (Nat.le_refl _), Nat.sub_self]; rfl
def hsF (hl : List Bool) (i : Nat) : Bool := decide (i < hl.length) && hl.getD i false
def newPt (mr : Nat) : Pt := ⟨mr, .map [] 0, false, .sl none 0 0 0, [], []⟩
theorem Z16_len {n : Nat} : ∀ z ∈ List.replicate n zrow, z.length = 4 := fun z hz => by rw [List.eq_of_mem_replicate hz]; rfl
theorem z_foc {ps : List Pt} {p : Nat} (hl : ps.length = p) (hp : p < 16) : (ps.map Pt.row ++ List.replicate (16 - p) zrow).set p zrow = ps.map Pt.row ++ List.replicate (16 - p) zrow := by
  refine (rows_foc ?_).symm
  rw [List.getElem?_append_right (by rw [List.length_map]; omega), List.length_map, hl, Nat.sub_self]
  rw [List.getElem?_replicate, if_pos (by omega)]
theorem z_join {ps : List Pt} {p mr : Nat} (hl : ps.length = p) (hp : p < 16) : (ps.map Pt.row ++ List.replicate (16 - p) zrow).set p (prow true (some mr) (.sl none 0 0 0) 0) = (ps ++ [newPt mr]).map Pt.row ++ List.replicate (16 - (p + 1)) zrow := by
  rw [List.set_append_right _ _ (by rw [List.length_map]; omega), List.length_map, hl, Nat.sub_self, show 16 - p = (16 - (p + 1)) + 1 by omega, List.replicate_succ, List.set_cons_zero, List.map_append, List.append_assoc]
  rfl
theorem Hs.joined {H : AH} {mr : Nat} {ps : List Pt} {A R : HL} (h : Hs H (A ++ ([(mr, some (.map [] 0))] ++ (ps.flatMap Pt.seg ++ R)))) : Hs H (A ++ ((ps ++ [newPt mr]).flatMap Pt.seg ++ R)) := by
  refine Hs.perm h (List.Perm.append_left _ ?_)
  rw [List.flatMap_append, ← List.append_assoc]
  refine List.Perm.append_right R ?_
  have e : [newPt mr].flatMap Pt.seg = [(mr, some (.map [] 0))] := rfl
  rw [e]
  exact List.perm_append_comm
theorem newPt_ok (mr : Nat) : (newPt mr).ok 0 := ⟨Sq.nil, fun r hr => absurd hr (List.not_mem_nil), ⟨[], Mb.nil, rfl⟩, rfl⟩
theorem ok_snoc {ps : List Pt} {t : Nat} {q : Pt} (h : ∀ (i : Nat) (p : Pt), ps[i]? = some p → p.ok t) (hq : q.ok t) : ∀ (i : Nat) (p : Pt), (ps ++ [q])[i]? = some p → p.ok t := fun i p hp => by
  by_cases hi : i < ps.length
  · rw [List.getElem?_append_left hi] at hp; exact h i p hp
  · rw [List.getElem?_append_right (by omega)] at hp
    have : p ∈ [q] := List.mem_of_getElem? hp
    rw [List.mem_singleton] at this; subst this; exact hq
theorem hsF_succ (hl : List Bool) (p : Nat) : (List.range (p + 1)).map (hsF hl) = (List.range p).map (hsF hl) ++ [hsF hl p] := by rw [List.range_succ, List.map_append]; rfl
theorem hsF_at (hl : List Bool) {p : Nat} (hp : p < 16) : ((List.range 16).map (hsF hl))[p]? = some (hsF hl p) := by rw [List.getElem?_map, List.getElem?_range hp]; rfl
theorem bools_ex : ∀ {rows : List (List AV)}, (∀ (i : Nat) (r : List AV), rows[i]? = some r → ∃ x, r = [AV.b x]) → ∃ l : List Bool, rows = l.map fun x => [AV.b x]
  | [], _ => ⟨[], rfl⟩
  | r :: rows, h => by
    obtain ⟨x, rfl⟩ := h 0 r rfl
    obtain ⟨l, rfl⟩ := bools_ex (rows := rows) fun i r hi => h (i + 1) r (by simpa using hi)
    exact ⟨x :: l, rfl⟩
theorem bool_row {l : List Bool} {i : Nat} (h : i < l.length) : (l.map fun x => [AV.b x])[i]? = some [.b (l.getD i false)] := by
  rw [List.getElem?_map, List.getElem?_eq_getElem h, List.getD_eq_getElem?_getD, List.getElem?_eq_getElem h]; rfl
theorem row_foc {ps : List Pt} {k : Nat} {p : Pt} (h : ps[k]? = some p) : (ps.map Pt.row ++ []).set k (prow true (some p.mr) p.v 0) = ps.map Pt.row ++ [] := by
  refine (rows_foc ?_).symm
  have hk := (List.getElem?_eq_some_iff.1 h).1
  rw [List.getElem?_append_left (by rw [List.length_map]; exact hk), List.getElem?_map, h]; rfl
theorem tkn_le (l : List Bool) (k : Nat) : tkn l k ≤ k := by
  unfold tkn
  exact Nat.le_trans List.count_le_length (by rw [List.length_take]; omega)
theorem new16_ev {H : AH} {R : HL} {room : Int} (hH0 : Hs H R) : Ev tabA spA (.fn (.func 11) [] []) [.i .i64 16, .i .i64 room] H (fun r H' => ∃ F Lb cm, r = .p (some (F, 0)) ∧ Hs H' ([(F, some (.cells [.sl (some (Lb, 0)) 16 16 0, .i .i64 ((clampR room : Nat) : Int), .m (some cm)] true))] ++ ([(Lb, some (.cells (List.replicate 16 zrow).flatten true))] ++ ([(cm, some (.map [] 0))] ++ R)))) := by
  refine Ev_C (F := x11) rfl ?_
  refine C_seq ?_
  refine C_region ?_
  refine O_p (.p none) (r_mv rfl) ?_
  refine O_nil ?_
  refine C_seq ?_
  refine C_draw fun b1 H2 hbase3 hA4 => ?_
  have hH5 : Hs H2 (asideL b1 [2, 5, 7] ++ _) := hH0.aside hA4 [2, 5, 7] hbase3 rfl (by decide)
  have hH6 : Hs H2 ([(b1 + 2, none)] ++ ([(b1 + 5, none)] ++ ([(b1 + 7, none)] ++ _))) := hH5
  refine D_l (v := (.i .i64 16)) rfl rfl rfl (r_mv rfl) ?_
  refine D_l (v := (.i .i64 room)) rfl rfl rfl (r_mv rfl) ?_
  refine D_call (Ev.mono (clamp_in (n := 16) (most := 16) (by omega) hH6) fun v7 H8 hq9 => ?_)
  obtain ⟨rfl, hH10⟩ := hq9
  refine And.intro True.intro ?_
  refine D_call (Ev.mono (clamp_room (n := room) hH10) fun v11 H12 hq13 => ?_)
  obtain ⟨rfl, hH14⟩ := hq13
  refine And.intro True.intro ?_
  refine D_m (f := fun n => (.sl (some (n, 0)) 16 16 0, .cells (List.replicate 16 zrow).flatten true)) rfl rfl fun H16 hW17 => ?_
  have hH19 := hH14.wr0 hW17
  generalize hn18 : b1 + 2 = n15 at hW17 hH19 ⊢
  refine And.intro True.intro ?_
  refine D_m (f := fun n => ((.m (some n)), .map [] 0)) rfl rfl fun H21 hW22 => ?_
  have hH24 := hH19.wr1 hW22
  generalize hn23 : b1 + 5 = n20 at hW22 hH24 ⊢
  refine And.intro True.intro ?_
  refine D_l (v := (.agg [(.sl (some (n15, 0)) 16 16 0), (.i .i64 ((clampR room : Nat) : Int)), (.m (some n20))])) rfl rfl rfl (r_build rfl) ?_
  refine D_m (f := fun n => ((.p (some (n, 0))), .cells [(.sl (some (n15, 0)) 16 16 0), (.i .i64 ((clampR room : Nat) : Int)), (.m (some n20))] true)) rfl rfl fun H26 hW27 => ?_
  have hH29 := hH24.wr2 hW27
  generalize hn28 : b1 + 7 = n25 at hW27 hH29 ⊢
  refine And.intro True.intro ?_
  refine D_l (v := (.p (some (n25, 0)))) rfl rfl rfl (r_mv rfl) ?_
  refine D_nil ?_
  refine C_ret ?_
  have hH30 := (((hH29.top1).top1).top2)
  exact ⟨.inr rfl, _, resL_one (r_tmp (v := (.p (some (n25, 0)))) rfl), n25, n15, n20, rfl, hH30⟩
theorem publishM_ev {H : AH} {R B : HL} {F Lb cm room t : Nat} {cb : Blk} {cmL : ML} {ps : List Pt} {dd : List UInt8} {tx : Bool} {da : Option (Nat × Nat)} {dc dg : Nat} (hlen : ps.length = 16) (hok : ∀ (i : Nat) (p : Pt), ps[i]? = some p → p.ok t) (h15 : ∀ p, ps[15]? = some p → p.s = false) (hroom : t < room) (hroom64 : room ≤ 64) (hcb : Mb cmL cb) (hcg : mget cmL [116] = cntO t) (hdl : dd.length ≤ 16384) (hdg : dg = 0 ∨ dg = 1) (hdc : dd.length ≤ dc) (hdm : dc ≤ 9223372036854775807) (hdb : ∀ H', Hs H' B → Bs H' (.sl da dd.length dc dg) dd) (hH0 : Hs H ([(F, some (.cells [.sl (some (Lb, 0)) 16 16 0, .i .i64 ((room : Nat) : Int), .m (some cm)] true))] ++ ([(Lb, some (.cells (ps.map Pt.row ++ []).flatten true))] ++ ([(cm, some cb)] ++ ((ps.flatMap Pt.seg) ++ (B ++ R)))))) :
    Ev tabA spA (.fn (.func 13) [] []) [.p (some (F, 0)), .i .i64 15, .s (txt [116]), .b tx, .sl da dd.length dc dg] H (fun r H' => ∃ (qs : List Pt) (cb2 : Blk) (cl2 : ML), r = .tup [.i .i64 ((tkn (ps.map Pt.s) 16 : Nat) : Int), .i .i64 0] ∧ qs.length = 16 ∧ qs.map Pt.s = ps.map Pt.s ∧ (∀ (i : Nat) (p : Pt), qs[i]? = some p → p.ok (t + 1)) ∧ Mb cl2 cb2 ∧ mget cl2 [116] = cntO (t + 1) ∧ Hs H' ([(F, some (.cells [.sl (some (Lb, 0)) 16 16 0, .i .i64 ((room : Nat) : Int), .m (some cm)] true))] ++ ([(Lb, some (.cells (qs.map Pt.row ++ []).flatten true))] ++ ([(cm, some cb2)] ++ ((qs.flatMap Pt.seg) ++ (B ++ R)))))) := by
  by_cases h0 : t = 0
  · subst h0
    refine Ev.mono (publishM_none (n := 0) hlen hok h15 hroom hroom64 hcb hcg ⟨by omega, by omega⟩ hdl hdg hdc hdm hdb hH0) fun r H2 hq => ?_
    obtain ⟨qs, cb2, e, h1, h2, h3, h4, h5⟩ := hq
    exact ⟨qs, cb2, _, e, h1, h2, h3, h4, by rw [mget_set, if_pos rfl]; rfl, h5⟩
  · have hc : mget cmL [116] = some (.i .i64 ((t : Nat) : Int)) := by rw [hcg]; unfold cntO; rw [if_neg h0]
    refine Ev.mono (publishM_some (n := ((t : Nat) : Int)) hlen hok h15 hroom hroom64 hcb hc ⟨by omega, by omega⟩ hdl hdg hdc hdm hdb hH0) fun r H2 hq => ?_
    obtain ⟨qs, cb2, e, h1, h2, h3, h4, h5⟩ := hq
    exact ⟨qs, cb2, _, e, h1, h2, h3, h4, by rw [mget_set, if_pos rfl]; unfold cntO; rw [if_neg (by omega)]; rfl, h5⟩
set_option maxRecDepth 100000 in
set_option maxHeartbeats 4000000 in
theorem run4 (H0 : AH) (hok0 : H0.Ok) (hv : AV) (hl : List Bool) (hhv : ∀ H', Hs H' (allL H0) → Rw 1 H' hv (hl.map fun x => [AV.b x])) (n0 : Int) (da : Option (Nat × Nat)) (dc : Nat) (d : List UInt8) (hdb : Bs H0 (.sl da d.length dc 0) d) (hdc : d.length ≤ dc) (hdm : dc ≤ maxLen) : Ev tabA spA (.fn (.func 4) [] []) [hv, .i .i64 n0, .sl da d.length dc 0] H0 (fun v _ => v = .b true) := by
  have hH0 := allL_hs hok0
  have dB : ∀ H', Hs H' (allL H0) → Bs H' (.sl da d.length dc 0) d := fun H' hh => Bs.ro (R := []) hdb hok0 (by rw [List.append_nil]; exact hh)
  refine Ev_C (F := x4) rfl ?_
  refine C_seq ?_
  refine C_region ?_
  refine O_p (.b false) (r_mv rfl) ?_
  refine O_nil ?_
  refine C_seq ?_
  refine C_region ?_
  refine O_call (Ev_sp (v := (.b true)) rfl rfl ?_)
  refine O_p (.b true) (r_mv rfl) ?_
  refine O_nil ?_
  refine C_seq ?_
  refine C_seq ?_
  refine C_region ?_
  refine O_p hv (r_mv rfl) ?_
  refine O_p (.i .i64 (((hl.length : Nat)) : Int)) (r_lenOf (v := hv) (n := hl.length) rfl ((hhv _ hH0.top0.fst).lenOf (List.length_map ..)) (hhv _ hH0.top0.fst).isSl) ?_
  refine O_p (.b (decide (15 < (((hl.length : Nat)) : Int)))) (r_gtr rfl rfl) ?_
  refine O_p (.b (decide (15 < (((hl.length : Nat)) : Int)))) (r_mv rfl) ?_
  refine O_gx (e := (!(decide (15 < (((hl.length : Nat)) : Int))))) (v := (.sl da d.length dc 0)) (wf rfl) (fun he => (r_mv rfl)) ?_
  refine O_gx (e := (!(decide (15 < (((hl.length : Nat)) : Int))))) (v := (.i .i64 (((d.length : Nat)) : Int))) (wf rfl) (fun he => (r_len (cond_pos he))) ?_
  refine O_gx (e := (!(decide (15 < (((hl.length : Nat)) : Int))))) (v := (.b (decide (1000 < (((d.length : Nat)) : Int))))) (wf rfl) (fun he => (r_gtr (cond_pos he) rfl)) ?_
  refine O_p (.b ((decide (15 < (((hl.length : Nat)) : Int))) || (decide (1000 < (((d.length : Nat)) : Int))))) (r_pick_or rfl rfl rfl rfl) ?_
  refine O_nil ?_
  refine C_cond (x := ((decide (15 < (((hl.length : Nat)) : Int))) || (decide (1000 < (((d.length : Nat)) : Int))))) rfl (fun hc1 => ?_) (fun hc1 => ?_)
  ·
    try simp only [decide_eq_true_eq, decide_eq_false_iff_not, Bool.not_eq_true', Bool.not_eq_false', Bool.and_eq_true, Bool.or_eq_true, Bool.or_eq_false_iff, Bool.not_not, Bool.and_eq_false_iff] at hc1
    refine C_seq ?_
    refine C_region ?_
    refine O_p (.b true) (r_mv rfl) ?_
    refine O_p (.b true) (r_mv rfl) ?_
    refine O_nil ?_
    refine C_ret ?_
    refine nx_ret ?_
    exact ⟨.inr rfl, _, resL_one (r_tmp (v := .b true) rfl), rfl⟩
  ·
    try simp only [decide_eq_true_eq, decide_eq_false_iff_not, Bool.not_eq_true', Bool.not_eq_false', Bool.and_eq_true, Bool.or_eq_true, Bool.or_eq_false_iff, Bool.not_not, Bool.and_eq_false_iff] at hc1
    refine C_skip ?_
    refine C_seq ?_
    refine C_region ?_
    refine O_call (Ev.mono (new16_ev (room := 64) hH0) fun v2 H3 hq4 => ?_)
    obtain ⟨F5, Lb6, cm7, rfl, hH8⟩ := hq4
    refine O_p (.p (some (F5, 0))) (r_mv rfl) ?_
    refine O_nil ?_
    refine C_seq ?_
    refine C_region ?_
    refine O_p (.i .i64 0) (r_mv rfl) ?_
    refine O_nil ?_
    refine C_seq ?_
    refine C_seq ?_
    refine C_region ?_
    refine O_p (.i .i64 0) (r_mv rfl) ?_
    refine O_nil ?_
    refine C_block ?_
    have hH9 := ((((hH8.top3).top3).top3).top3)
    refine C_while (fun m10 T11 H12 => ∃ ps : List Pt, ∃ want : Nat, ∃ p : Nat, m10 = 16 - p ∧ p ≤ 16 ∧ ps.length = p ∧ (∀ (i : Nat) (q : Pt), ps[i]? = some q → q.ok 0) ∧ ps.map Pt.s = (List.range p).map (hsF hl) ∧ want = tkn ((List.range 16).map (hsF hl)) p ∧ want ≤ p ∧ Hs H12 ([(F5, some (.cells ([(.sl (some (Lb6, 0)) 16 16 0), (.i .i64 ((64 : Nat) : Int)), (.m (some cm7))]) true))] ++ ([(Lb6, some (.cells ((ps.map Pt.row ++ (List.replicate (16 - p) zrow)).flatten) true))] ++ ([(cm7, some (.map [] 0))] ++ ((ps.flatMap Pt.seg) ++ ((allL H0) ++ ([])))))) ∧ T11.get 0 = hv ∧ T11.get 1 = (.i .i64 n0) ∧ T11.get 2 = (.sl da d.length dc 0) ∧ T11.get 6 = (.b false) ∧ T11.get 7 = (.b true) ∧ T11.get 8 = (.p (some (F5, 0))) ∧ T11.get 9 = (.i .i64 (((want : Nat)) : Int)) ∧ T11.get 10 = (.i .i64 (((p : Nat)) : Int))) (fun m10 T11 H12 hI13 => ?_) 16 _ _ ⟨[], 0, 0, rfl, by omega, rfl, fun i q h => by simp at h, rfl, rfl, Nat.le_refl _, hH9, rfl, rfl, rfl, rfl, rfl, rfl, rfl, rfl⟩
    obtain ⟨ps, want, p, hm14, hp15, hp16, hp17, hp18, hp19, hp20, hH29, hT21, hT22, hT23, hT24, hT25, hT26, hT27, hT28⟩ := hI13
    refine C_seq ?_
    refine C_seq ?_
    refine C_region ?_
    refine O_p (.i .i64 (((p : Nat)) : Int)) (r_mv hT28) ?_
    refine O_p (.b (decide ((((p : Nat)) : Int) < 16))) (r_lss rfl rfl) ?_
    refine O_nil ?_
    refine C_cond (x := (decide ((((p : Nat)) : Int) < 16))) rfl (fun hc30 => ?_) (fun hc30 => ?_)
    ·
      try simp only [decide_eq_true_eq, decide_eq_false_iff_not, Bool.not_eq_true', Bool.not_eq_false', Bool.and_eq_true, Bool.or_eq_true, Bool.or_eq_false_iff, Bool.not_not, Bool.and_eq_false_iff] at hc30
      refine C_skip ?_
      refine C_seq ?_
      refine C_block ?_
      refine C_seq ?_
      refine C_seq ?_
      refine C_region ?_
      refine O_p (.p (some (F5, 0))) (r_mv hT26) ?_
      refine O_p (.i .i64 (((p : Nat)) : Int)) (r_mv hT28) ?_
      have hpL : p < 16 := by omega
      have hH31 := ((hH29.top1).top1)
      have hH32 := Hs.cong1 (B := [(Lb6, some (.cells ((ps.map Pt.row ++ (List.replicate (16 - p) zrow)).set p zrow).flatten true))]) hH31 (by rw [z_foc hp16 hpL])
      have hH33 := ((hH32.top1).top1)
      refine O_call (Ev.mono (join_ev (np := 16) (i := p) (rws := (ps.map Pt.row ++ (List.replicate (16 - p) zrow))) hpL (rows_pt Z16_len) (by rw [List.length_append, List.length_map, List.length_replicate]; omega) hH33) fun v34 H35 hq36 => ?_)
      obtain ⟨mr, rfl, hH37⟩ := hq36
      rw [z_join hp16 hpL] at hH37
      have hH38 := (((((hH37.top4).top3).top4).top4).top4)
      have hH39 := (Hs.joined (A := [(F5, some (.cells ([(.sl (some (Lb6, 0)) 16 16 0), (.i .i64 ((64 : Nat) : Int)), (.m (some cm7))]) true))] ++ ([(Lb6, some (.cells (((ps ++ [newPt mr]).map Pt.row ++ (List.replicate (16 - (p + 1)) zrow)).flatten) true))] ++ [(cm7, some (.map [] 0))])) (by have h := hH38; simpa only [List.append_assoc] using h) : Hs _ _)
      have hH40 : Hs H35 ([(F5, some (.cells ([(.sl (some (Lb6, 0)) 16 16 0), (.i .i64 ((64 : Nat) : Int)), (.m (some cm7))]) true))] ++ ([(Lb6, some (.cells (((ps ++ [newPt mr]).map Pt.row ++ (List.replicate (16 - (p + 1)) zrow)).flatten) true))] ++ ([(cm7, some (.map [] 0))] ++ (((ps ++ [newPt mr]).flatMap Pt.seg) ++ ((allL H0) ++ ([])))))) := by have h := hH39; simpa only [List.append_assoc] using h
      refine O_p (.b false) (by exact (by rw [r_neq rfl rfl, decide_eq_true (by decide)]; rfl)) ?_
      refine O_nil ?_
      refine C_cond (x := false) rfl (fun h => by cases h) (fun _ => ?_)
      refine C_skip ?_
      refine C_seq ?_
      by_cases hlt : p < hl.length
      ·
        refine C_region ?_
        refine O_p (.i .i64 (((p : Nat)) : Int)) (r_mv hT28) ?_
        refine O_p hv (r_mv hT21) ?_
        refine O_p (.i .i64 (((hl.length : Nat)) : Int)) (r_lenOf (v := hv) (n := hl.length) rfl ((hhv _ hH40.top4.fst).lenOf (List.length_map ..)) (hhv _ hH40.top4.fst).isSl) ?_
        refine O_p (.b true) (by exact (by rw [r_lss rfl rfl, decide_eq_true (by omega)])) ?_
        refine O_p (.b true) (r_mv rfl) ?_
        refine O_gk rfl ?_
        refine O_p hv (r_mv hT21) ?_
        refine O_gk rfl ?_
        refine O_p (.i .i64 (((p : Nat)) : Int)) (r_mv hT28) ?_
        refine O_gk rfl ?_
        refine O_q (by exact Rw.row (hhv _ hH40.top4.fst) rfl (i := p) rfl (r := [(.b (hl.getD p false))]) (bool_row (by omega))) fun v42 hv41 => ?_
        obtain ⟨rb43, ro44, rfl, hr45⟩ := hv41
        refine O_gk rfl ?_
        refine O_p (.b (hl.getD p false)) (r_ldR (q := 0) rfl (hr45 _ (hhv _ hH40.top4.fst)) rfl) ?_
        refine O_p (.b (hl.getD p false)) (r_pick_t rfl rfl) ?_
        refine O_nil ?_
        refine C_cond (x := (hl.getD p false)) rfl (fun hc46 => ?_) (fun hc46 => ?_)
        ·
          try simp only [decide_eq_true_eq, decide_eq_false_iff_not, Bool.not_eq_true', Bool.not_eq_false', Bool.and_eq_true, Bool.or_eq_true, Bool.or_eq_false_iff, Bool.not_not, Bool.and_eq_false_iff] at hc46
          have hhl : hl.getD p false = true := by simpa using hc46
          refine C_seq ?_
          refine C_seq ?_
          refine C_region ?_
          refine O_p (.p (some (F5, 0))) (r_mv hT26) ?_
          refine O_p (.i .i64 (((p : Nat)) : Int)) (r_mv hT28) ?_
          have hnp : (ps ++ [newPt mr])[p]? = some (newPt mr) := by rw [List.getElem?_append_right (by omega), hp16, Nat.sub_self]; rfl
          have hH47 := ((hH40.top3).top2)
          have hH48 := Pt.out (Z := (List.replicate (16 - (p + 1)) zrow)) hnp hH47
          have hH49 : Hs H35 ([(Lb6, some (.cells ((((ps ++ [newPt mr]).map Pt.row ++ (List.replicate (16 - (p + 1)) zrow)).set p (prow true (some mr) (.sl none 0 0 0) 0)).flatten) true))] ++ ([(mr, some (.map [] 0))] ++ ((qseg (.sl none 0 0 0) ([])) ++ ((((ps ++ [newPt mr]).eraseIdx p).flatMap Pt.seg) ++ ([(F5, some (.cells ([(.sl (some (Lb6, 0)) 16 16 0), (.i .i64 ((64 : Nat) : Int)), (.m (some cm7))]) true))] ++ ([(cm7, some (.map [] 0))] ++ ((allL H0) ++ ([])))))))) := hH48
          have hH50 := (((hH49.top1).top1).top4)
          have hH51 := (((hH50.top2).top2).top2)
          refine O_call (Ev.mono (sub_ev (np := 16) (i := p) (rws := (ps ++ [newPt mr]).map Pt.row ++ (List.replicate (16 - (p + 1)) zrow)) (m := []) (tp := [116]) (mode := 0) (by omega) (rows_pt Z16_len) (by rw [List.length_append, List.length_map, List.length_append, List.length_replicate]; simp only [List.length_cons, List.length_nil]; omega) Mb.nil rfl (by decide) (by decide) (by decide) hH51) fun v52 H53 hq54 => ?_)
          obtain ⟨mb2, hmb2, rfl, hh2⟩ := hq54
          have hH55 := ((((hh2.top4).top4).top4).top4)
          have hH56 := Pt.back (Z := (List.replicate (16 - (p + 1)) zrow)) (p := newPt mr) (s' := true) (rows' := []) (v' := .sl none 0 0 0) (c' := []) (mb' := mb2) hnp hH55
          rw [show (ps ++ [newPt mr]).set p ⟨(newPt mr).mr, mb2, true, .sl none 0 0 0, [], []⟩ = ps ++ [⟨mr, mb2, true, .sl none 0 0 0, [], []⟩] by have h := set_last ps (newPt mr) ⟨mr, mb2, true, .sl none 0 0 0, [], []⟩; rw [hp16] at h; exact h] at hH56
          have hqok : Pt.ok 0 ⟨mr, mb2, true, .sl none 0 0 0, [], []⟩ := ⟨Sq.nil, fun r hr => absurd hr (List.not_mem_nil), ⟨_, hmb2, by rw [mget_set, if_pos rfl]; rfl⟩, rfl⟩
          refine O_p (.b false) (by exact (by rw [r_neq rfl rfl, decide_eq_true (by decide)]; rfl)) ?_
          refine O_nil ?_
          refine C_cond (x := false) rfl (fun h => by cases h) (fun _ => ?_)
          refine C_skip ?_
          refine C_region ?_
          refine O_p (.i .i64 (((want : Nat)) : Int)) (r_mv hT27) ?_
          refine O_p (.i .i64 ((((want : Nat)) : Int) + 1)) (by exact (r_addi rfl rfl (wrap_i64 (by omega) (by omega)))) ?_
          refine O_p (.i .i64 ((((want : Nat)) : Int) + 1)) (r_mv rfl) ?_
          refine O_nil ?_
          refine C_region ?_
          refine O_p (.i .i64 (((p : Nat)) : Int)) (r_mv hT28) ?_
          refine O_p (.i .i64 ((((p : Nat)) : Int) + 1)) (by exact (r_addi rfl rfl (wrap_i64 (by omega) (by omega)))) ?_
          refine O_p (.i .i64 ((((p : Nat)) : Int) + 1)) (r_mv rfl) ?_
          refine O_nil ?_
          have hH57 := (((((hH56.top4).top2).top4).top3).top4)
          have hfp : hsF hl p = true := by unfold hsF; first | (rw [decide_eq_true hlt, Bool.true_and]; exact hhl) | (rw [decide_eq_false hlt]; rfl)
          exact ⟨16 - (p + 1), by omega, (ps ++ [⟨mr, mb2, true, .sl none 0 0 0, [], []⟩]), (want + 1), (p + 1), rfl, by omega, by rw [List.length_append, hp16]; rfl, ok_snoc hp17 hqok, by rw [hsF_succ, List.map_append, hp18, hfp]; rfl, by rw [tkn_succ (hsF_at hl (by omega)), hfp, hp19]; rfl, by omega, hH57, hT21, hT22, hT23, hT24, hT25, hT26, rfl, rfl⟩
        ·
          try simp only [decide_eq_true_eq, decide_eq_false_iff_not, Bool.not_eq_true', Bool.not_eq_false', Bool.and_eq_true, Bool.or_eq_true, Bool.or_eq_false_iff, Bool.not_not, Bool.and_eq_false_iff] at hc46
          have hhl : hl.getD p false = false := by simpa using hc46
          refine C_skip ?_
          refine C_region ?_
          refine O_p (.i .i64 (((p : Nat)) : Int)) (r_mv hT28) ?_
          refine O_p (.i .i64 ((((p : Nat)) : Int) + 1)) (by exact (r_addi rfl rfl (wrap_i64 (by omega) (by omega)))) ?_
          refine O_p (.i .i64 ((((p : Nat)) : Int) + 1)) (r_mv rfl) ?_
          refine O_nil ?_
          have hH58 := (((((hH40.top4).top4).top4).top4).top4)
          have hfp : hsF hl p = false := by unfold hsF; first | (rw [decide_eq_true hlt, Bool.true_and]; exact hhl) | (rw [decide_eq_false hlt]; rfl)
          exact ⟨16 - (p + 1), by omega, (ps ++ [newPt mr]), want, (p + 1), rfl, by omega, by rw [List.length_append, hp16]; rfl, ok_snoc hp17 (newPt_ok mr), by rw [hsF_succ, List.map_append, hp18, hfp]; rfl, by rw [tkn_succ (hsF_at hl (by omega)), hfp, hp19]; rfl, by omega, hH58, hT21, hT22, hT23, hT24, hT25, hT26, hT27, rfl⟩
      ·
        refine C_region ?_
        refine O_p (.i .i64 (((p : Nat)) : Int)) (r_mv hT28) ?_
        refine O_p hv (r_mv hT21) ?_
        refine O_p (.i .i64 (((hl.length : Nat)) : Int)) (r_lenOf (v := hv) (n := hl.length) rfl ((hhv _ hH40.top4.fst).lenOf (List.length_map ..)) (hhv _ hH40.top4.fst).isSl) ?_
        refine O_p (.b false) (by exact (by rw [r_lss rfl rfl, decide_eq_false (by omega)])) ?_
        refine O_p (.b false) (r_mv rfl) ?_
        refine O_gf rfl ?_
        refine O_gf rfl ?_
        refine O_gf rfl ?_
        refine O_gf rfl ?_
        refine O_p (.b false) (r_pick_f rfl rfl) ?_
        refine O_nil ?_
        refine C_cond (x := false) rfl (fun h => by cases h) (fun _ => ?_)
        refine C_skip ?_
        refine C_region ?_
        refine O_p (.i .i64 (((p : Nat)) : Int)) (r_mv hT28) ?_
        refine O_p (.i .i64 ((((p : Nat)) : Int) + 1)) (by exact (r_addi rfl rfl (wrap_i64 (by omega) (by omega)))) ?_
        refine O_p (.i .i64 ((((p : Nat)) : Int) + 1)) (r_mv rfl) ?_
        refine O_nil ?_
        have hH59 := (((((hH40.top4).top4).top4).top4).top4)
        have hfp : hsF hl p = false := by unfold hsF; first | (rw [decide_eq_true hlt, Bool.true_and]; exact hhl) | (rw [decide_eq_false hlt]; rfl)
        exact ⟨16 - (p + 1), by omega, (ps ++ [newPt mr]), want, (p + 1), rfl, by omega, by rw [List.length_append, hp16]; rfl, ok_snoc hp17 (newPt_ok mr), by rw [hsF_succ, List.map_append, hp18, hfp]; rfl, by rw [tkn_succ (hsF_at hl (by omega)), hfp, hp19]; rfl, by omega, hH59, hT21, hT22, hT23, hT24, hT25, hT26, hT27, rfl⟩
    ·
      try simp only [decide_eq_true_eq, decide_eq_false_iff_not, Bool.not_eq_true', Bool.not_eq_false', Bool.and_eq_true, Bool.or_eq_true, Bool.or_eq_false_iff, Bool.not_not, Bool.and_eq_false_iff] at hc30
      refine C_exit ?_
      refine nx_exit ?_
      refine nx_exit ?_
      refine bk_hit ?_
      refine C_seq ?_
      refine C_region ?_
      refine O_p (.i .i64 n0) (r_mv hT22) ?_
      obtain ⟨q60, hq60, hlq60⟩ := and_nat n0 31 (by decide)
      refine O_p (.i .i64 (((q60 : Nat)) : Int)) (by exact (by rw [← hq60]; exact r_bin rfl rfl rfl)) ?_
      refine O_p (.i .i64 (1 + (((q60 : Nat)) : Int))) (by exact (r_addi rfl rfl (wrap_i64 (by omega) (by omega)))) ?_
      refine O_p (.i .i64 (1 + (((q60 : Nat)) : Int))) (r_mv rfl) ?_
      refine O_nil ?_
      refine C_seq ?_
      refine C_seq ?_
      refine C_region ?_
      refine O_p (.i .i64 0) (r_mv rfl) ?_
      refine O_nil ?_
      refine C_block ?_
      have hpL : p = 16 := by omega
      have hmS := hp18
      rw [hpL] at hmS
      have hwS := hp19
      rw [hpL] at hwS
      have hH61 := Hs.cong1 (B := [(Lb6, some (.cells (ps.map Pt.row ++ []).flatten true))]) hH29 (by rw [hpL]; rfl)
      have h15S : hsF hl 15 = false := by unfold hsF; rw [decide_eq_false (by omega)]; rfl
      have hH62 := (((((hH61.top4).top4).top4).top4).top4)
      refine C_while (fun m63 T64 H65 => ∃ qs : List Pt, ∃ cb : Blk, ∃ cl : ML, ∃ i : Nat, m63 = (1 + q60) - i ∧ i ≤ (1 + q60) ∧ qs.length = 16 ∧ qs.map Pt.s = ((List.range 16).map (hsF hl)) ∧ (∀ (j : Nat) (z : Pt), qs[j]? = some z → z.ok i) ∧ Mb cl cb ∧ mget cl [116] = cntO i ∧ Hs H65 ([(F5, some (.cells ([(.sl (some (Lb6, 0)) 16 16 0), (.i .i64 ((64 : Nat) : Int)), (.m (some cm7))]) true))] ++ ([(Lb6, some (.cells ((qs.map Pt.row ++ []).flatten) true))] ++ ([(cm7, some cb)] ++ ((qs.flatMap Pt.seg) ++ ((allL H0) ++ ([])))))) ∧ T64.get 0 = hv ∧ T64.get 1 = (.i .i64 n0) ∧ T64.get 2 = (.sl da d.length dc 0) ∧ T64.get 6 = (.b false) ∧ T64.get 7 = (.b true) ∧ T64.get 8 = (.p (some (F5, 0))) ∧ T64.get 9 = (.i .i64 (((want : Nat)) : Int)) ∧ T64.get 11 = (.i .i64 (1 + (((q60 : Nat)) : Int))) ∧ T64.get 12 = (.i .i64 (((i : Nat)) : Int))) (fun m63 T64 H65 hI66 => ?_) (1 + q60) _ _ ⟨ps, (.map [] 0), [], 0, rfl, Nat.zero_le _, by rw [hp16]; exact hpL, hmS, hp17, Mb.nil, rfl, hH62, hT21, hT22, hT23, hT24, hT25, hT26, hT27, rfl, rfl⟩
      obtain ⟨qs, cb, cl, i, hm67, hp68, hp69, hp70, hp71, hp72, hp73, hH83, hT74, hT75, hT76, hT77, hT78, hT79, hT80, hT81, hT82⟩ := hI66
      refine C_seq ?_
      refine C_seq ?_
      refine C_region ?_
      refine O_p (.i .i64 (((i : Nat)) : Int)) (r_mv hT82) ?_
      refine O_p (.i .i64 (1 + (((q60 : Nat)) : Int))) (r_mv hT81) ?_
      refine O_p (.b (decide ((((i : Nat)) : Int) < (1 + (((q60 : Nat)) : Int))))) (r_lss rfl rfl) ?_
      refine O_nil ?_
      refine C_cond (x := (decide ((((i : Nat)) : Int) < (1 + (((q60 : Nat)) : Int))))) rfl (fun hc84 => ?_) (fun hc84 => ?_)
      ·
        try simp only [decide_eq_true_eq, decide_eq_false_iff_not, Bool.not_eq_true', Bool.not_eq_false', Bool.and_eq_true, Bool.or_eq_true, Bool.or_eq_false_iff, Bool.not_not, Bool.and_eq_false_iff] at hc84
        refine C_skip ?_
        refine C_seq ?_
        refine C_block ?_
        refine C_seq ?_
        refine C_region ?_
        refine O_p (.p (some (F5, 0))) (r_mv hT79) ?_
        refine O_p (.i .i64 (((i : Nat)) : Int)) (r_mv hT82) ?_
        refine O_p (.i .i64 ((((i % 2) : Nat)) : Int)) (by exact (r_remn (a := i) (b := 2) rfl rfl (by omega))) ?_
        refine O_p (.b (decide (((((i % 2) : Nat)) : Int) = 0))) (r_eql rfl rfl) ?_
        refine O_p (.sl da d.length dc 0) (r_mv hT76) ?_
        have hH85 := (((((hH83.top4).top4).top4).top4).top4)
        have h15q : ∀ z, qs[15]? = some z → z.s = false := fun z hz => by have e1 := hsF_at hl (p := 15) (by omega); rw [← hp70, List.getElem?_map, hz, h15S] at e1; simpa using e1
        have hH86 := (((((hH85.top4).top4).top4).top4).top4)
        refine O_call (Ev.mono (publishM_ev (room := 64) (t := i) (B := (allL H0)) (dd := d) hp69 hp71 h15q (by omega) (Nat.le_refl _) hp72 hp73 (by omega) (.inl rfl) hdc (Nat.le_trans hdm (by decide)) dB hH86) fun v87 H88 hq89 => ?_)
        obtain ⟨q2, cb2, cl2, rfl, hq1, hq2, hq3, hq4, hq5, hh3⟩ := hq89
        refine O_p (.tup [(.i .i64 ((((tkn (qs.map Pt.s) 16) : Nat)) : Int)), (.i .i64 0)]) (r_mv rfl) ?_
        refine O_p (.i .i64 ((((tkn (qs.map Pt.s) 16) : Nat)) : Int)) (r_ext rfl rfl) ?_
        refine O_p (.i .i64 0) (r_ext rfl rfl) ?_
        refine O_p (.i .i64 ((((tkn (qs.map Pt.s) 16) : Nat)) : Int)) (r_mv rfl) ?_
        refine O_p (.i .i64 0) (r_mv rfl) ?_
        refine O_nil ?_
        refine C_seq ?_
        refine C_region ?_
        have hmw : (tkn (qs.map Pt.s) 16) = want := by rw [hp70, hwS]
        refine O_p (.i .i64 ((((tkn (qs.map Pt.s) 16) : Nat)) : Int)) (r_mv rfl) ?_
        refine O_p (.i .i64 (((want : Nat)) : Int)) (r_mv hT80) ?_
        refine O_p (.b false) (by exact (by rw [r_neq rfl rfl, decide_eq_true (by rw [hmw])]; rfl)) ?_
        refine O_p (.b false) (r_mv rfl) ?_
        refine O_gk rfl ?_
        refine O_p (.i .i64 0) (r_mv rfl) ?_
        refine O_gk rfl ?_
        refine O_p (.b false) (by exact (by rw [r_neq rfl rfl, decide_eq_true (by decide)]; rfl)) ?_
        refine O_p (.b false) (r_pick_f rfl rfl) ?_
        refine O_nil ?_
        refine C_cond (x := false) rfl (fun h => by cases h) (fun _ => ?_)
        refine C_skip ?_
        refine C_region ?_
        refine O_p (.i .i64 (((i : Nat)) : Int)) (r_mv hT82) ?_
        refine O_p (.i .i64 ((((i : Nat)) : Int) + 1)) (by exact (r_addi rfl rfl (wrap_i64 (by omega) (by omega)))) ?_
        refine O_p (.i .i64 ((((i : Nat)) : Int) + 1)) (r_mv rfl) ?_
        refine O_nil ?_
        have hH90 := (((((hh3.top4).top4).top4).top4).top4)
        exact ⟨(1 + q60) - (i + 1), by omega, q2, cb2, cl2, (i + 1), rfl, by omega, hq1, hq2.trans hp70, hq3, hq4, hq5, hH90, hT74, hT75, hT76, hT77, hT78, hT79, hT80, hT81, rfl⟩
      ·
        try simp only [decide_eq_true_eq, decide_eq_false_iff_not, Bool.not_eq_true', Bool.not_eq_false', Bool.and_eq_true, Bool.or_eq_true, Bool.or_eq_false_iff, Bool.not_not, Bool.and_eq_false_iff] at hc84
        refine C_exit ?_
        refine nx_exit ?_
        refine nx_exit ?_
        refine bk_hit ?_
        refine C_seq ?_
        refine C_region ?_
        refine O_p (.i .i64 0) (r_mv rfl) ?_
        refine O_nil ?_
        refine C_seq ?_
        refine C_seq ?_
        refine C_region ?_
        refine O_p (.i .i64 0) (r_mv rfl) ?_
        refine O_nil ?_
        refine C_block ?_
        have hiK : i = (1 + q60) := by omega
        have hH91 := (((((hH83.top4).top4).top4).top4).top4)
        refine C_while (fun m92 T93 H94 => ∃ al : Nat, ∃ j : Nat, m92 = 16 - j ∧ j ≤ 16 ∧ al = (1 + q60) * tkn ((List.range 16).map (hsF hl)) j ∧ Hs H94 ([(F5, some (.cells ([(.sl (some (Lb6, 0)) 16 16 0), (.i .i64 ((64 : Nat) : Int)), (.m (some cm7))]) true))] ++ ([(Lb6, some (.cells ((qs.map Pt.row ++ []).flatten) true))] ++ ([(cm7, some cb)] ++ ((qs.flatMap Pt.seg) ++ ((allL H0) ++ ([])))))) ∧ T93.get 2 = (.sl da d.length dc 0) ∧ T93.get 6 = (.b false) ∧ T93.get 7 = (.b true) ∧ T93.get 8 = (.p (some (F5, 0))) ∧ T93.get 9 = (.i .i64 (((want : Nat)) : Int)) ∧ T93.get 11 = (.i .i64 (1 + (((q60 : Nat)) : Int))) ∧ T93.get 15 = (.i .i64 (((al : Nat)) : Int)) ∧ T93.get 16 = (.i .i64 (((j : Nat)) : Int))) (fun m92 T93 H94 hI95 => ?_) 16 _ _ ⟨0, 0, rfl, by omega, by rw [show tkn _ 0 = 0 from rfl, Nat.mul_zero], hH91, hT76, hT77, hT78, hT79, hT80, hT81, rfl, rfl⟩
        obtain ⟨al, j, hm96, hp97, hp98, hH107, hT99, hT100, hT101, hT102, hT103, hT104, hT105, hT106⟩ := hI95
        refine C_seq ?_
        refine C_seq ?_
        refine C_region ?_
        refine O_p (.i .i64 (((j : Nat)) : Int)) (r_mv hT106) ?_
        refine O_p (.b (decide ((((j : Nat)) : Int) < 16))) (r_lss rfl rfl) ?_
        refine O_nil ?_
        refine C_cond (x := (decide ((((j : Nat)) : Int) < 16))) rfl (fun hc108 => ?_) (fun hc108 => ?_)
        ·
          try simp only [decide_eq_true_eq, decide_eq_false_iff_not, Bool.not_eq_true', Bool.not_eq_false', Bool.and_eq_true, Bool.or_eq_true, Bool.or_eq_false_iff, Bool.not_not, Bool.and_eq_false_iff] at hc108
          refine C_skip ?_
          refine C_seq ?_
          refine C_block ?_
          refine C_region ?_
          refine O_p (.i .i64 (((al : Nat)) : Int)) (r_mv hT105) ?_
          refine O_p (.p (some (F5, 0))) (r_mv hT102) ?_
          refine O_p (.i .i64 (((j : Nat)) : Int)) (r_mv hT106) ?_
          have hjL : j < 16 := by omega
          obtain ⟨z, hz⟩ : ∃ z, qs[j]? = some z := ⟨_, List.getElem?_eq_getElem (by omega)⟩
          obtain ⟨hzsq, hzl, _, hzr⟩ := hp71 j z hz
          have hzs : hsF hl j = z.s := by have e1 := hsF_at hl hjL; rw [← hp70, List.getElem?_map, hz] at e1; simpa using e1.symm
          have hzb : z.rows.length ≤ 32 := by rw [hzr]; split <;> omega
          have htk := tkn_le ((List.range 16).map (hsF hl)) j
          have halb : al ≤ 32 * 16 := by rw [hp98]; exact Nat.mul_le_mul (by omega) (by omega)
          have hH109 := ((hH107.top1).top1)
          have hH110 := Hs.cong1 (B := [(Lb6, some (.cells ((qs.map Pt.row ++ []).set j (prow true (some z.mr) z.v 0)).flatten true))]) hH109 (by rw [row_foc hz])
          have hH111 := ((hH110.top1).top1)
          refine O_call (Ev.mono (waiting_ev (np := 16) (i := j) (rws := (qs.map Pt.row ++ [])) hjL (rows_pt (fun z hz => absurd hz (List.not_mem_nil))) (by rw [List.length_append, List.length_map]; omega) hzsq hzl hH111) fun v112 H113 hq114 => ?_)
          obtain ⟨rfl, hH115⟩ := hq114
          rw [row_foc hz] at hH115
          refine O_p (.i .i64 ((((al : Nat)) : Int) + (((z.rows.length : Nat)) : Int))) (by exact (r_addi rfl rfl (wrap_i64 (by omega) (by omega)))) ?_
          refine O_p (.i .i64 ((((al : Nat)) : Int) + (((z.rows.length : Nat)) : Int))) (r_mv rfl) ?_
          refine O_nil ?_
          refine C_region ?_
          refine O_p (.i .i64 (((j : Nat)) : Int)) (r_mv hT106) ?_
          refine O_p (.i .i64 ((((j : Nat)) : Int) + 1)) (by exact (r_addi rfl rfl (wrap_i64 (by omega) (by omega)))) ?_
          refine O_p (.i .i64 ((((j : Nat)) : Int) + 1)) (r_mv rfl) ?_
          refine O_nil ?_
          have hH116 := (((((hH115.top4).top4).top4).top4).top4)
          exact ⟨16 - (j + 1), by omega, (al + z.rows.length), (j + 1), rfl, by omega, by rw [tkn_succ (hsF_at hl (by omega)), hzs, hp98, hzr, hiK]; cases z.s <;> simp [Nat.mul_add], hH116, hT99, hT100, hT101, hT102, hT103, hT104, rfl, rfl⟩
        ·
          try simp only [decide_eq_true_eq, decide_eq_false_iff_not, Bool.not_eq_true', Bool.not_eq_false', Bool.and_eq_true, Bool.or_eq_true, Bool.or_eq_false_iff, Bool.not_not, Bool.and_eq_false_iff] at hc108
          refine C_exit ?_
          refine nx_exit ?_
          refine nx_exit ?_
          refine bk_hit ?_
          refine C_seq ?_
          refine C_region ?_
          refine O_p (.b true) (r_mv hT101) ?_
          refine O_p (.b true) (r_mv rfl) ?_
          have hjL : j = 16 := by omega
          have hal := hp98
          rw [hjL, ← hwS] at hal
          have hwb : want ≤ 16 := by rw [hwS]; exact tkn_le _ _
          have hmb : want * (1 + q60) ≤ 16 * 32 := Nat.mul_le_mul hwb (by omega)
          have hmc : al = want * (1 + q60) := by rw [hal, Nat.mul_comm]
          refine O_gk rfl ?_
          refine O_p (.i .i64 (((al : Nat)) : Int)) (r_mv hT105) ?_
          refine O_gk rfl ?_
          refine O_p (.i .i64 (((want : Nat)) : Int)) (r_mv hT103) ?_
          refine O_gk rfl ?_
          refine O_p (.i .i64 (1 + (((q60 : Nat)) : Int))) (r_mv hT104) ?_
          refine O_gk rfl ?_
          refine O_p (.i .i64 ((((want * (1 + q60)) : Nat)) : Int)) (by exact (by rw [show ((((want * (1 + q60)) : Nat)) : Int) = (((want : Nat)) : Int) * (1 + (((q60 : Nat)) : Int)) from (by push_cast; rfl)]; exact r_muli rfl rfl (by rw [show (((want : Nat)) : Int) * (1 + (((q60 : Nat)) : Int)) = ((((want * (1 + q60)) : Nat)) : Int) from (by push_cast; rfl)]; exact wrap_i64 (by omega) (by omega)))) ?_
          refine O_gk rfl ?_
          refine O_p (.b true) (by exact (by rw [r_eql rfl rfl, decide_eq_true (by rw [hmc])])) ?_
          refine O_p (.b true) (r_pick_t rfl rfl) ?_
          refine O_p (.b true) (r_mv rfl) ?_
          refine O_gk rfl ?_
          refine O_p (.p (some (F5, 0))) (r_mv hT102) ?_
          refine O_gk rfl ?_
          have hH117 := ((hH107.top2).top1)
          have hcK : mget cl [116] = some (.i .i64 (((1 + q60) : Nat) : Int)) := by rw [hp73, hiK]; unfold cntO; rw [if_neg (by omega)]
          have hH118 := ((hH117.top1).top1)
          refine O_call (Ev.mono (count_some (np := 16) (tp := [116]) hp72 hcK hH118) fun v119 H120 hq121 => ?_)
          obtain ⟨rfl, hH122⟩ := hq121
          refine O_gk rfl ?_
          refine O_p (.i .i64 (1 + (((q60 : Nat)) : Int))) (r_mv hT104) ?_
          refine O_gk rfl ?_
          refine O_p (.b true) (by exact (by rw [r_eql rfl rfl, decide_eq_true (by omega)])) ?_
          refine O_p (.b true) (r_pick_t rfl rfl) ?_
          refine O_p (.b true) (r_mv rfl) ?_
          refine O_nil ?_
          refine C_ret ?_
          exact ⟨.inr rfl, _, resL_one (r_tmp (v := .b true) rfl), rfl⟩
set_option maxRecDepth 100000 in
theorem run4T (H : AH) (hok : H.Ok) (n0 : Int) {v w : AV} (h : Typed Try.prog H 9 39 [v]) (h2 : Typed Try.prog H 9 30 [w]) : Ev tabA spA (.fn (.func 4) [] []) [v, .i .i64 n0, w] H (fun v _ => v = .b true) := by
  obtain ⟨q, n, c, rfl, hnc, _, hr⟩ := typed_recs (z := 1) Try.underlying39 (by kernel_rfl) h
  obtain ⟨rows, hrw, _, hrt⟩ := Rw.given hnc hr
  obtain ⟨hl, rfl⟩ := bools_ex fun i r hi => typed_bool Try.underlying4 (hrt i r hi)
  obtain ⟨da, dn, dc, d, rfl, hdb, rfl, hdc, hdm⟩ := typed_bytes Try.underlying30 Try.underlying5 (by kernel_rfl) h2
  exact run4 H hok _ hl (fun H' hh => hrw.ro (R := []) hok (by rw [List.append_nil]; exact hh)) n0 da dc d hdb hdc hdm
set_option maxRecDepth 100000 in
theorem law4 (W : World) (ρ : Rho) (H : AH) (xs : List AV) (args : Array Value) (hR : Rel Try.prog W.heap.size W ρ H W) (hro : RO H) (hv : VRL ρ xs args.toList) (ht : TypedVs Try.prog H 9 Try.f4.params.toList xs) :
    Calls Try.prog 4 args W fun e w' => e = .returned (.bool true) ∧ Below W.heap.size W w' := by
  rw [Try.params4] at ht
  obtain ⟨a0, xs, rfl, g0, a1, xs, rfl, g1, a2, xs, rfl, g2, rfl⟩ := ht
  obtain ⟨n0, rfl, wn0⟩ := typedV_int Try.underlying3 g1
  obtain ⟨k, v, H', hex, rfl⟩ := run4T H hR.aok n0 (typedV_slice Try.underlying39 g0) (typedV_slice Try.underlying30 g2)
  exact law_of mixed tabA_ok spA_ok hex hR hv
end Go.Proofs.Ytnkpmidfefilbaa.E
namespace Go.Proofs.Ytnkpmidfefilbaa.topicMany
open Go.ChangeShapes Go.WideShapes Go.RowKit
set_option linter.unusedVariables false
theorem own : ownKnob Try.prog.godebug = none := by kernel_rfl
theorem types : (Try.f4.params.toList.all fun t => E.fit Try.prog 9 t && (Try.prog.readableRec t && decide (t < Try.prog.types.size))) = true := by kernel_rfl
set_option maxRecDepth 100000 in
theorem lifted (os : Os) (started : os.Started) (H : Type) (enc : TypeId × Value → H) :
    ReturnsInHanded {} Try.checked os 4 .any (Rows.topicManySpec.pre6 enc Try.prog Try.f4 Rows.topicManyRow.domain false) (Rows.topicManySpec.post enc Try.prog Try.f4 false true false false) :=
  E.law_lifted (C := Try.checked) (k := 9) (tb := 4) E.globals0 E.laid own started (by kernel_rfl) Try.func4
    (ChangeSpec.witness6 (enc := enc) (C := Try.checked) false ⟨#[], #[.slice none 0 0, .int .i64 0, .slice none 0 0], []⟩ 8 (by kernel_rfl) (by kernel_rfl) (by kernel_rfl) (by kernel_rfl))
    rfl rfl Try.underlying4 (fun t ht => by have h := List.all_eq_true.1 types t ht; simp only [Bool.and_eq_true, decide_eq_true_eq] at h; exact h)
    (fun ds hd => by
      rw [Try.params4] at hd
      match ds, hd with
      | [d0, d1, d2], _ => rfl) E.law4
theorem over : Rows.topicManyRow.holds Try.pinned (OpenSpec.ofChange Rows.topicManySpec) :=
  OpenClaim.holds_of_wide 4 Try.f4 rfl rfl rfl rfl rfl rfl rfl ⟨rfl, rfl, rfl, rfl, rfl⟩ rfl rfl rfl rfl rfl (by kernel_rfl) Try.func4 (by kernel_rfl)
    (of_decide_eq_true (by kernel_rfl)) (by unfold Func.isWrapper; first | (rw [if_pos (by decide +kernel)]; kernel_rfl) | (rw [if_neg (by decide +kernel)]; exact ⟨rfl, rfl⟩))
    (fun os started H enc _ => lifted os started H enc)
end Go.Proofs.Ytnkpmidfefilbaa.topicMany
namespace Go.Proofs.Ytnkpmidfefilbaa
/-- The row, under a short name, for the claim. -/
theorem topicMany_holds : Rows.TopicManySaid := topicMany.over
#print axioms topicMany_holds
end Go.Proofs.Ytnkpmidfefilbaa
