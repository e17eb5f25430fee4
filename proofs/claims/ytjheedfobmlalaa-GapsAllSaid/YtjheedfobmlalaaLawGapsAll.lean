/- GapsAll, for every input, without conditions. -/
import Derived.Test.YtjheedfobmlalaaL
import Derived.Test.YtjheedfobmlalaaRows
import Derived.ProofKit
import Derived.OpenShut
namespace Go.Proofs.Ytjheedfobmlalaa.E
open Go.RowKit (Below)
set_option linter.unusedVariables false
set_option linter.unusedSimpArgs false
def gnm (a0 : Int) (r : Nat) : Int := IntKind.u32.wrap (a0 + IntKind.u32.wrap (r : Int))
theorem gnm_e (a0 : Int) (r : Nat) : gnm a0 r = (a0 + r) % 4294967296 := by unfold gnm; rw [wrap_u32, wrap_u32]; omega
theorem gnm_inj {a0 : Int} {r q : Nat} (hr : r ≤ 1000) (hq : q ≤ 1000) (h : gnm a0 r = gnm a0 q) : r = q := by rw [gnm_e, gnm_e] at h; omega
/-- What has come of the numbers from a0 on, if those of Lf are still to come. -/
def AllI (a0 : Int) (k : Nat) (Lf : List Nat) (c : Int) (l : List Int) : Prop := ∃ j, j ≤ k ∧ (∀ i, i < j → i ∉ Lf) ∧ (j ∈ Lf ∨ j = k) ∧ c = (a0 + j - 1) % 4294967296 ∧ ∀ y, y ∈ l ↔ ∃ r, j ≤ r ∧ r < k ∧ r ∉ Lf ∧ y = gnm a0 r
theorem climb_all {a0 : Int} {k : Nat} {Lf : List Nat} (hk : k ≤ 1000) : ∀ (m j : Nat) (l : List Int) (c : Int), k - j = m → j ≤ k → (∀ i, i < j → i ∉ Lf) → c = (a0 + j - 1) % 4294967296 → (∀ y, y ∈ l ↔ ∃ r, j ≤ r ∧ r < k ∧ r ∉ Lf ∧ y = gnm a0 r) → AllI a0 k Lf (climbF c l).1 (climbF c l).2
  | m, j, l, c, hm, hj, h1, h2, h3 => by
    have hn : nxt c = gnm a0 j := by rw [nxt_e, gnm_e, h2]; omega
    by_cases hc : j < k ∧ j ∉ Lf
    · have hin : nxt c ∈ l := (h3 _).2 ⟨j, Nat.le_refl _, hc.1, hc.2, hn⟩
      rw [climbF_step hin]
      cases m with
      | zero => omega
      | succ m =>
        refine climb_all hk m (j + 1) _ _ (by omega) (by omega) (fun i hi => ?_) (by rw [hn, gnm_e]; omega) fun y => ?_
        · by_cases e : i = j
          · subst e; exact hc.2
          · exact h1 i (by omega)
        · unfold udel
          rw [List.mem_filter, h3, hn, decide_eq_true_eq]
          constructor
          · rintro ⟨⟨r, g1, g2, g3, rfl⟩, g4⟩
            refine ⟨r, ?_, g2, g3, rfl⟩
            by_cases e : r = j
            · subst e; exact absurd rfl g4
            · omega
          · rintro ⟨r, g1, g2, g3, rfl⟩
            exact ⟨⟨r, by omega, g2, g3, rfl⟩, fun e => by have := gnm_inj (by omega) (by omega) e; omega⟩
    · have hout : nxt c ∉ l := fun hin => by
        obtain ⟨r, g1, g2, g3, g4⟩ := (h3 _).1 hin
        rw [hn] at g4
        have := gnm_inj (by omega) (by omega) g4
        subst this
        exact hc ⟨g2, g3⟩
      rw [climbF_stop hout]
      refine ⟨j, hj, h1, ?_, h2, h3⟩
      by_cases e : j < k
      · left
        exact Classical.byContradiction fun h => hc ⟨e, h⟩
      · right; omega
theorem all_new {a0 : Int} {k : Nat} (hk : k ≤ 1000) : AllI a0 k (List.range k) (IntKind.u32.wrap (a0 - 1)) [] := by
  refine ⟨0, Nat.zero_le _, fun i hi => by omega, ?_, by rw [wrap_u32]; simp, fun y => ⟨fun h => by simp at h, fun ⟨r, _, h1, h2, _⟩ => absurd (List.mem_range.2 h1) h2⟩⟩
  by_cases e : k = 0
  · exact .inr e.symm
  · exact .inl (List.mem_range.2 (by omega))
theorem all_step {a0 : Int} {k : Nat} {Lf : List Nat} {s : Gp} {r : Nat} (hk : k ≤ 1000) (h : AllI a0 k Lf s.c s.l) (hr : r ∈ Lf) (hrk : r < k) :
    s.has (gnm a0 r) = false ∧ ¬ 1024 < dst s.c (gnm a0 r) ∧ ∀ Lf', (∀ i, i ∈ Lf' ↔ i ∈ Lf ∧ i ≠ r) → AllI a0 k Lf' (s.add (gnm a0 r)).c (s.add (gnm a0 r)).l := by
  obtain ⟨j, h0, h1, h2, h3, h4⟩ := h
  have hjr : j ≤ r := Nat.le_of_not_lt fun e => h1 r e hr
  have hd : dst s.c (gnm a0 r) = r - j + 1 := by rw [dst_e, gnm_e, h3]; omega
  have hnl : gnm a0 r ∉ s.l := fun hin => by
    obtain ⟨q, g1, g2, g3, g4⟩ := (h4 _).1 hin
    have := gnm_inj (by omega) (by omega) g4
    subst this
    exact g3 hr
  have hhas : s.has (gnm a0 r) = false := by
    unfold Gp.has
    have : blw s.c (gnm a0 r) = false := by rw [Bool.eq_false_iff]; intro e; rw [blw_e, hd] at e; omega
    rw [this, decide_eq_false hnl]; rfl
  refine ⟨hhas, by omega, fun Lf' hL => ?_⟩
  unfold Gp.add
  rw [if_neg (by rw [hhas]; decide), if_neg (by omega)]
  refine climb_all hk (k - j) j _ _ rfl h0 (fun i hi => fun hc => h1 i hi ((hL i).1 hc).1) h3 fun y => ?_
  show y ∈ uadd s.l (gnm a0 r) ↔ _
  unfold uadd
  rw [if_neg hnl, List.mem_append, List.mem_singleton, h4]
  constructor
  · rintro (⟨q, g1, g2, g3, rfl⟩ | rfl)
    · exact ⟨q, g1, g2, fun hc => g3 ((hL q).1 hc).1, rfl⟩
    · exact ⟨r, hjr, hrk, fun hc => ((hL r).1 hc).2 rfl, rfl⟩
  · rintro ⟨q, g1, g2, g3, rfl⟩
    by_cases e : q = r
    · subst e; exact .inr rfl
    · exact .inl ⟨q, g1, g2, fun hc => g3 ((hL q).2 ⟨hc, e⟩), rfl⟩
theorem all_end {a0 : Int} {k : Nat} {c : Int} {l : List Int} (h : AllI a0 k [] c l) : c = (a0 + k - 1) % 4294967296 ∧ l = [] := by
  obtain ⟨j, h0, h1, h2, h3, h4⟩ := h
  rcases h2 with h2 | rfl
  · simp at h2
  · refine ⟨h3, List.eq_nil_iff_forall_not_mem.2 fun y hy => ?_⟩
    obtain ⟨r, g1, g2, _⟩ := (h4 y).1 hy
    omega
theorem Gp.has_add {s : Gp} {n : Int} (h : s.has n = true) : (s.add n).c = s.c ∧ (s.add n).l = s.l ∧ (s.add n).d.length = min (s.d.length + 1) (max 64 s.d.length) := by
  unfold Gp.add
  rw [if_pos h]
  split
  · refine ⟨rfl, rfl, ?_⟩
    simp only [List.length_append, List.length_singleton]; omega
  · refine ⟨rfl, rfl, ?_⟩
    omega
theorem Gp.new_d {s : Gp} {n : Int} (h : s.has n = false) : (s.add n).d = s.d := by
  unfold Gp.add
  rw [if_neg (by rw [h]; decide)]
  split <;> rfl
theorem erase_mem {l : List Nat} {p r : Nat} (hn : l.Nodup) (hp : l[p]? = some r) (i : Nat) : i ∈ l.take p ++ l.drop (p + 1) ↔ i ∈ l ∧ i ≠ r := by
  obtain ⟨hlt, rfl⟩ := List.getElem?_eq_some_iff.1 hp
  have e : l = l.take p ++ l[p] :: l.drop (p + 1) := by rw [List.getElem_cons_drop, List.take_append_drop]
  have hn2 := hn
  rw [e, List.nodup_append] at hn2
  obtain ⟨_, g1, g2⟩ := hn2
  rw [List.nodup_cons] at g1
  constructor
  · intro h
    rcases List.mem_append.1 h with h | h
    · exact ⟨List.mem_of_mem_take h, fun e2 => g2 i h l[p] (List.mem_cons_self ..) e2⟩
    · exact ⟨List.mem_of_mem_drop h, fun e2 => g1.1 (e2 ▸ h)⟩
  · rintro ⟨h, hne⟩
    rw [e] at h
    rcases List.mem_append.1 h with h | h
    · exact List.mem_append.2 (.inl h)
    · rcases List.mem_cons.1 h with h | h
      · exact absurd h hne
      · exact List.mem_append.2 (.inr h)
theorem int_rows : ∀ {rows : List (List AV)}, (∀ (i : Nat) (r : List AV), rows[i]? = some r → ∃ x : Int, r = [.i .i64 x]) → ∃ pl : List Int, rows = pl.map fun x => [AV.i .i64 x]
  | [], _ => ⟨[], rfl⟩
  | r :: rows, h => by
    obtain ⟨o, ho⟩ := h 0 r rfl
    obtain ⟨ol, h1⟩ := int_rows (rows := rows) fun i r hi => h (i + 1) r (by simpa using hi)
    exact ⟨o :: ol, by rw [List.map_cons, ← ho, ← h1]⟩
theorem int_row {pl : List Int} {i : Nat} {x : Int} (h : pl[i]? = some x) : (pl.map fun x => [AV.i .i64 x])[i]? = some [.i .i64 x] := by rw [List.getElem?_map, h]; rfl
theorem gnm_row {a0 : Int} {Lf : List Nat} {p r : Nat} (h : Lf[p]? = some r) : ((Lf.map (gnm a0)).map u1)[p]? = some [.i .u32 (gnm a0 r)] := by rw [List.getElem?_map, List.getElem?_map, h]; rfl
theorem erase_nd {l : List Nat} {p : Nat} (h : l.Nodup) : (l.take p ++ l.drop (p + 1)).Nodup := by rw [← List.eraseIdx_eq_take_drop_succ]; exact h.sublist (List.eraseIdx_sublist ..)
theorem erase_len {l : List Nat} {p : Nat} (h : p < l.length) : (l.take p ++ l.drop (p + 1)).length + 1 = l.length := by rw [List.length_append, List.length_take, List.length_drop]; omega
theorem cut_eq {a0 : Int} {Lf : List Nat} {p : Nat} : ([] ++ (((Lf.map (gnm a0)).map u1).take p).flatten) ++ (((Lf.map (gnm a0)).map u1).drop (p + 1)).flatten = lU ((Lf.take p ++ Lf.drop (p + 1)).map (gnm a0)) := by
  show _ = (List.map u1 (List.map (gnm a0) (Lf.take p ++ Lf.drop (p + 1)))).flatten
  rw [List.nil_append, ← List.map_take, ← List.map_take, ← List.map_drop, ← List.map_drop, List.map_append, List.map_append, List.flatten_append]
theorem blocks_nil {c : Int} : blocksF c [] = [] := by simp [blocksF, msort, runsF]
theorem tk_len {rows : List (List AV)} {sz i : Nat} (h : ∀ x ∈ rows, x.length = sz) (hi : i ≤ rows.length) : (rows.take i).flatten.length = i * sz := by
  rw [flat_len (fun x hx => h x (List.mem_of_mem_take hx)), List.length_take, Nat.min_eq_left hi]
theorem dr_len {rows : List (List AV)} {sz i : Nat} (h : ∀ x ∈ rows, x.length = sz) : (rows.drop i).flatten.length = (rows.length - i) * sz := by
  rw [flat_len (fun x hx => h x (List.mem_of_mem_drop hx)), List.length_drop]
theorem intsT {H : AH} (hok : H.Ok) {v : AV} (h : Typed Try.prog H 9 23 [v]) : ∃ pl : List Int, ∀ H', Hs H' (allL H) → Rw 1 H' v (pl.map fun x => [AV.i .i64 x]) := by
  obtain ⟨p, n, c, rfl, hnc, _, hr⟩ := typed_recs (z := 1) Try.underlying23 (by kernel_rfl) h
  obtain ⟨rows, hrw, _, hrt⟩ := Rw.given hnc hr
  obtain ⟨pl, rfl⟩ := int_rows fun i r hi => by
    obtain ⟨x, e, _⟩ := typed_int Try.underlying3 (hrt i r hi); exact ⟨x, e⟩
  exact ⟨pl, fun H' hh => hrw.ro (R := []) hok (by rw [List.append_nil]; exact hh)⟩
set_option maxRecDepth 100000 in
set_option maxHeartbeats 4000000 in
theorem run3 (H0 : AH) (hok0 : H0.Ok) (a0 nn : Int) (v : AV) (pl : List Int) (hv : ∀ H', Hs H' (allL H0) → Rw 1 H' v (pl.map fun x => [AV.i .i64 x])) : Ev tabA spA (.fn (.func 3) [] []) [.i .u32 a0, .i .i64 nn, v] H0 (fun v _ => v = .b true) := by
  have hH0 : Hs H0 (allL H0 ++ []) := allL_hs hok0
  refine Ev_C (F := x3) rfl ?_
  refine C_seq ?_
  refine C_region ?_
  refine O_p (.b false) (r_mv rfl) ?_
  refine O_nil ?_
  refine C_seq ?_
  refine C_region ?_
  refine O_call (Ev.mono (awake_ev hH0) fun v1 H2 hq3 => ?_)
  obtain ⟨rfl, hH4⟩ := hq3
  refine O_p (.b true) (r_mv rfl) ?_
  refine O_nil ?_
  refine C_seq ?_
  refine C_region ?_
  refine O_p (.i .i64 nn) (r_mv rfl) ?_
  obtain ⟨k, hkq, hkl⟩ := and_nat nn 127 (by decide)
  have hk : k ≤ 1000 := by omega
  refine O_p (.i .i64 (((k : Nat)) : Int)) (by exact (by rw [← hkq]; exact r_bin rfl rfl rfl)) ?_
  refine O_p (.i .i64 (((k : Nat)) : Int)) (r_mv rfl) ?_
  refine O_nil ?_
  refine C_seq ?_
  refine C_region ?_
  refine O_p (.i .u32 a0) (r_mv rfl) ?_
  refine O_call (Ev.mono (new_ev hH4).sp fun v5 H6 hq7 => ?_)
  obtain ⟨ga, S0, rfl, hG0, hHn⟩ := hq7
  refine O_p (.p (some (ga, 0))) (r_mv rfl) ?_
  refine O_nil ?_
  refine C_seq ?_
  refine C_region ?_
  refine O_p (.i .i64 0) (r_mv rfl) ?_
  refine O_nil ?_
  refine C_seq ?_
  refine C_region ?_
  refine O_p (.sl none 0 0 0) (r_mv rfl) ?_
  refine O_nil ?_
  refine C_seq ?_
  refine C_seq ?_
  refine C_region ?_
  refine O_p (.i .i64 0) (r_mv rfl) ?_
  refine O_nil ?_
  refine C_block ?_
  have hH8 := ((hHn.top1).top1)
  refine C_while (fun m9 T10 H11 => ∃ lv : AV, ∃ lc : List AV, ∃ i : Nat, m9 = k - i ∧ i ≤ k ∧ Sq 1 lv lc (lU ((List.range i).map (gnm a0))) ∧ Hs H11 (S0 ++ ((qseg lv lc) ++ ((allL H0) ++ ([])))) ∧ T10.get 0 = (.i .u32 a0) ∧ T10.get 1 = (.i .i64 nn) ∧ T10.get 2 = v ∧ T10.get 7 = (.b true) ∧ T10.get 8 = (.i .i64 (((k : Nat)) : Int)) ∧ T10.get 9 = (.p (some (ga, 0))) ∧ T10.get 10 = (.i .i64 0) ∧ T10.get 11 = lv ∧ T10.get 12 = (.i .i64 (((i : Nat)) : Int))) (fun m9 T10 H11 hI12 => ?_) k _ _ ⟨(.sl none 0 0 0), [], 0, rfl, Nat.zero_le _, Sq.nil, Hs.nil1 hH8, rfl, rfl, rfl, rfl, rfl, rfl, rfl, rfl, rfl⟩
  obtain ⟨lv, lc, i, hm13, hp14, hp15, hH25, hT16, hT17, hT18, hT19, hT20, hT21, hT22, hT23, hT24⟩ := hI12
  refine C_seq ?_
  refine C_seq ?_
  refine C_region ?_
  refine O_p (.i .i64 (((i : Nat)) : Int)) (r_mv hT24) ?_
  refine O_p (.i .i64 (((k : Nat)) : Int)) (r_mv hT20) ?_
  refine O_p (.b (decide ((((i : Nat)) : Int) < (((k : Nat)) : Int)))) (r_lss rfl rfl) ?_
  refine O_nil ?_
  refine C_cond (x := (decide ((((i : Nat)) : Int) < (((k : Nat)) : Int)))) rfl (fun hc26 => ?_) (fun hc26 => ?_)
  ·
    try simp only [decide_eq_true_eq, decide_eq_false_iff_not, Bool.not_eq_true', Bool.not_eq_false', Bool.and_eq_true, Bool.or_eq_true, Bool.or_eq_false_iff, Bool.not_not, Bool.and_eq_false_iff] at hc26
    refine C_skip ?_
    refine C_seq ?_
    refine C_block ?_
    refine C_region ?_
    refine O_p lv (r_mv hT23) ?_
    refine O_p (.i .u32 a0) (r_mv hT16) ?_
    refine O_p (.i .i64 (((i : Nat)) : Int)) (r_mv hT24) ?_
    refine O_p (.i .u32 (IntKind.u32.wrap (((i : Nat)) : Int))) (r_cint rfl) ?_
    refine O_p (.i .u32 (gnm a0 i)) (r_bin rfl rfl rfl) ?_
    refine O_bslice (c := [(.i .u32 (gnm a0 i))]) rfl fun n27 H28 hN29 => ?_
    have hH30 := hH25.new hN29
    refine O_qh (by exact r_appq (n := (List.range i).length) (k := 1) (new := [(.i .u32 (gnm a0 i))]) hH30.top2 hp15 rfl rfl rfl (src_blk hH30.get0 (by rfl)) rfl (by decide) (by decide) (by rw [lU_len, List.length_map]) (by first | omega | (simp only [List.length_range]; omega) | (simp only [List.length_map, List.length_drop]; omega))) fun o31 H32 hA34 => ?_
    obtain ⟨c33, hA34, hH35⟩ := hA34
    refine O_p o31 (r_mv rfl) ?_
    refine O_nil ?_
    refine C_region ?_
    refine O_p (.i .i64 (((i : Nat)) : Int)) (r_mv hT24) ?_
    refine O_p (.i .i64 ((((i : Nat)) : Int) + 1)) (by exact (r_addi rfl rfl (wrap_i64 (by omega) (by omega)))) ?_
    refine O_p (.i .i64 ((((i : Nat)) : Int) + 1)) (r_mv rfl) ?_
    refine O_nil ?_
    have hH36 := (hH35.sub1)
    have hH37 := (((hH36.top2).top1).top2)
    exact ⟨k - (i + 1), by omega, o31, c33, (i + 1), rfl, by omega, by have h9 := hA34; rw [lU_app] at h9; rw [List.range_succ, List.map_append]; exact h9, hH37, hT16, hT17, hT18, hT19, hT20, hT21, hT22, rfl, rfl⟩
  ·
    try simp only [decide_eq_true_eq, decide_eq_false_iff_not, Bool.not_eq_true', Bool.not_eq_false', Bool.and_eq_true, Bool.or_eq_true, Bool.or_eq_false_iff, Bool.not_not, Bool.and_eq_false_iff] at hc26
    refine C_exit ?_
    refine nx_exit ?_
    refine nx_exit ?_
    refine bk_hit ?_
    refine C_seq ?_
    refine C_seq ?_
    refine C_region ?_
    refine O_p (.i .i64 0) (r_mv rfl) ?_
    refine O_nil ?_
    refine C_block ?_
    have hik : i = k := by omega
    have hq0 := hp15
    rw [hik] at hq0
    have hH38 := (((hH25.top2).top2).top2)
    refine C_while (fun m39 T40 H41 => ∃ s : Gp, ∃ S : HL, ∃ Lf : List Nat, ∃ lv : AV, ∃ lc : List AV, ∃ f : Nat, m39 = Lf.length ∧ GpH s ga S ∧ s.d.length = min f 64 ∧ s.l.length ≤ f ∧ AllI a0 k Lf s.c s.l ∧ Lf.Nodup ∧ (∀ r ∈ Lf, r < k) ∧ f + Lf.length = k ∧ Sq 1 lv lc (lU (Lf.map (gnm a0))) ∧ Hs H41 (S ++ ((qseg lv lc) ++ ((allL H0) ++ ([])))) ∧ T40.get 0 = (.i .u32 a0) ∧ T40.get 1 = (.i .i64 nn) ∧ T40.get 2 = v ∧ T40.get 7 = (.b true) ∧ T40.get 8 = (.i .i64 (((k : Nat)) : Int)) ∧ T40.get 9 = (.p (some (ga, 0))) ∧ T40.get 10 = (.i .i64 (((f : Nat)) : Int)) ∧ T40.get 11 = lv ∧ T40.get 13 = (.i .i64 (((f : Nat)) : Int))) (fun m39 T40 H41 hI42 => ?_) (List.range k).length _ _ ⟨(⟨IntKind.u32.wrap (a0 - 1), [], []⟩ : Gp), S0, (List.range k), lv, lc, 0, rfl, hG0, rfl, Nat.le_refl _, all_new hk, List.nodup_range, fun r hr => List.mem_range.1 hr, by rw [List.length_range]; omega, hq0, hH38, hT16, hT17, hT18, hT19, hT20, hT21, hT22, hT23, rfl⟩
    obtain ⟨s, S, Lf, lv, lc, f, hm43, hp44, hp45, hp46, hp47, hp48, hp49, hp50, hp51, hH61, hT52, hT53, hT54, hT55, hT56, hT57, hT58, hT59, hT60⟩ := hI42
    refine C_seq ?_
    refine C_seq ?_
    refine C_region ?_
    refine O_p lv (r_mv hT59) ?_
    refine O_p (.i .i64 (((Lf.length : Nat)) : Int)) (by exact (by exact r_lenOf rfl (hp51.lenOf (by rw [lU_len, List.length_map]) (by decide)) hp51.isSl)) ?_
    refine O_p (.b (decide (0 < (((Lf.length : Nat)) : Int)))) (r_gtr rfl rfl) ?_
    refine O_nil ?_
    refine C_cond (x := (decide (0 < (((Lf.length : Nat)) : Int)))) rfl (fun hc62 => ?_) (fun hc62 => ?_)
    ·
      try simp only [decide_eq_true_eq, decide_eq_false_iff_not, Bool.not_eq_true', Bool.not_eq_false', Bool.and_eq_true, Bool.or_eq_true, Bool.or_eq_false_iff, Bool.not_not, Bool.and_eq_false_iff] at hc62
      refine C_skip ?_
      refine C_seq ?_
      refine C_block ?_
      refine C_seq ?_
      refine C_region ?_
      refine O_p (.i .i64 0) (r_mv rfl) ?_
      refine O_nil ?_
      refine C_seq ?_
      refine C_seq ?_
      refine C_region ?_
      refine O_p (.i .i64 (((f : Nat)) : Int)) (r_mv hT60) ?_
      refine O_p v (r_mv hT54) ?_
      refine O_p (.i .i64 (((pl.length : Nat)) : Int)) (r_lenOf (v := v) (n := pl.length) rfl ((hv _ hH61.top2.fst).lenOf (List.length_map ..)) (hv _ hH61.top2.fst).isSl) ?_
      refine O_p (.b (decide ((((f : Nat)) : Int) < (((pl.length : Nat)) : Int)))) (r_lss rfl rfl) ?_
      refine O_nil ?_
      refine C_cond (x := (decide ((((f : Nat)) : Int) < (((pl.length : Nat)) : Int)))) rfl (fun hc63 => ?_) (fun hc63 => ?_)
      ·
        try simp only [decide_eq_true_eq, decide_eq_false_iff_not, Bool.not_eq_true', Bool.not_eq_false', Bool.and_eq_true, Bool.or_eq_true, Bool.or_eq_false_iff, Bool.not_not, Bool.and_eq_false_iff] at hc63
        refine C_region ?_
        obtain ⟨xi, hxi⟩ : ∃ y, pl[f]? = some y := ⟨_, List.getElem?_eq_getElem (by omega)⟩
        refine O_p v (r_mv hT54) ?_
        refine O_p (.i .i64 (((f : Nat)) : Int)) (r_mv hT60) ?_
        refine O_q (by exact Rw.row (hv _ hH61.top2.fst) rfl (i := f) rfl (r := [(.i .i64 xi)]) (int_row hxi)) fun v65 hv64 => ?_
        obtain ⟨rb66, ro67, rfl, hr68⟩ := hv64
        refine O_p (.i .i64 xi) (r_ldR (q := 0) rfl (hr68 _ (hv _ hH61.top2.fst)) rfl) ?_
        obtain ⟨q69, hq69, hlq69⟩ := and_nat xi 65535 (by decide)
        refine O_p (.i .i64 (((q69 : Nat)) : Int)) (by exact (by rw [← hq69]; exact r_bin rfl rfl rfl)) ?_
        refine O_p lv (r_mv hT59) ?_
        refine O_p (.i .i64 (((Lf.length : Nat)) : Int)) (by exact (by exact r_lenOf rfl (hp51.lenOf (by rw [lU_len, List.length_map]) (by decide)) hp51.isSl)) ?_
        refine O_p (.i .i64 ((((q69 % Lf.length) : Nat)) : Int)) (by exact (r_remn (a := q69) (b := Lf.length) rfl rfl (by omega))) ?_
        refine O_p (.i .i64 ((((q69 % Lf.length) : Nat)) : Int)) (r_mv rfl) ?_
        refine O_nil ?_
        refine C_seq ?_
        refine C_region ?_
        obtain ⟨p, hpe⟩ : ∃ z : Nat, z = (q69 % Lf.length) := ⟨_, rfl⟩
        have hpl : p < Lf.length := by rw [hpe]; first | exact Nat.mod_lt _ (by omega) | omega
        obtain ⟨r, hpr⟩ : ∃ r, Lf[p]? = some r := ⟨_, List.getElem?_eq_getElem hpl⟩
        have hrL : r ∈ Lf := List.mem_of_getElem? hpr
        obtain ⟨hn1, hn2, hn3⟩ := all_step hk hp47 hrL (hp49 r hrL)
        obtain ⟨ht1, hh1⟩ := Gp.told_new hn1 hn2 (by omega)
        obtain ⟨ht2, hh2⟩ := Gp.told_has hh1
        have hd1 := Gp.new_d hn1
        have hd2 := Gp.has_add hh1
        refine O_p lv (r_mv hT59) ?_
        refine O_p (.i .i64 (((p : Nat)) : Int)) (by exact (r_mv (by rw [hpe]; exact rfl))) ?_
        refine O_q (by exact Sq.cell hp51 (u1_lens (Lf.map (gnm a0))) hH61.top1 rfl (i := p) rfl (r := [(.i .u32 (gnm a0 r))]) (gnm_row hpr) (by decide)) fun v71 hv70 => ?_
        obtain ⟨rb72, ro73, rfl, hrg74, hrt75, hrb76, hput77, hqs78⟩ := hv70
        refine O_p (.i .u32 (gnm a0 r)) (r_ldR (q := 0) rfl ⟨_, _, hrg74, hrt75⟩ rfl) ?_
        refine O_p (.i .u32 (gnm a0 r)) (r_mv rfl) ?_
        refine O_nil ?_
        refine C_seq ?_
        refine C_seq ?_
        refine C_region ?_
        refine O_p (.p (some (ga, 0))) (r_mv hT57) ?_
        refine O_p (.i .u32 (gnm a0 r)) (r_mv rfl) ?_
        refine O_call (Ev.mono (add_ev (n := (gnm a0 r)) hp44 hH61 (by rw [hp45]; omega)).sp fun v79 H80 hq81 => ?_)
        obtain ⟨rfl, S82, hG83, hH84⟩ := hq81
        rw [ht1]
        refine O_p (.b false) (r_bin rfl rfl rfl) ?_
        refine O_p (.b false) (r_mv rfl) ?_
        refine O_gk rfl ?_
        refine O_p (.p (some (ga, 0))) (r_mv hT57) ?_
        refine O_gk rfl ?_
        refine O_p (.i .u32 (gnm a0 r)) (r_mv rfl) ?_
        refine O_gk rfl ?_
        refine O_call (Ev.mono (add_ev (n := (gnm a0 r)) hG83 hH84 (Gp.add_d s (gnm a0 r) (by rw [hp45]; omega))).sp fun v85 H86 hq87 => ?_)
        obtain ⟨rfl, S88, hG89, hH90⟩ := hq87
        rw [ht2]
        refine O_gk rfl ?_
        refine O_p (.b false) (r_bin rfl rfl rfl) ?_
        refine O_p (.b false) (r_pick_f rfl rfl) ?_
        refine O_p (.b false) (r_mv rfl) ?_
        refine O_gk rfl ?_
        refine O_p (.p (some (ga, 0))) (r_mv hT57) ?_
        refine O_gk rfl ?_
        refine O_p (.i .u32 (gnm a0 r)) (r_mv rfl) ?_
        refine O_gk rfl ?_
        refine O_call (Ev.mono (has_ev (n := (gnm a0 r)) hG89 hH90).sp fun v91 H92 hq93 => ?_)
        obtain ⟨rfl, hH94⟩ := hq93
        rw [hh2]
        refine O_gk rfl ?_
        refine O_p (.b false) (r_un rfl rfl) ?_
        refine O_p (.b false) (r_pick_f rfl rfl) ?_
        refine O_nil ?_
        refine C_cond (x := false) rfl (fun h => by cases h) (fun _ => ?_)
        refine C_skip ?_
        refine C_seq ?_
        refine C_region ?_
        refine O_p (.i .i64 (((f : Nat)) : Int)) (r_mv hT58) ?_
        refine O_p (.i .i64 ((((f : Nat)) : Int) + 1)) (by exact (r_addi rfl rfl (wrap_i64 (by omega) (by omega)))) ?_
        refine O_p (.i .i64 ((((f : Nat)) : Int) + 1)) (r_mv rfl) ?_
        refine O_nil ?_
        refine C_draw fun b95 H96 hbase97 hA98 => ?_
        have hH99 : Hs H96 (asideL b95 [0] ++ _) := hH94.aside hA98 [0] hbase97 rfl (by decide)
        have hH100 : Hs H96 ([(b95 + 0, none)] ++ _) := hH99
        refine D_l (v := lv) rfl rfl rfl (r_mv hT59) ?_
        refine D_l (v := (.i .i64 (((p : Nat)) : Int))) rfl rfl rfl (by exact (r_mv (by rw [hpe]; exact rfl))) ?_
        refine D_q rfl rfl rfl (by exact Sq.rdHi hp51 (u1_lens (Lf.map (gnm a0))) (by decide) hH100.top2 rfl (i := p) rfl (by first | omega | (simp only [List.length_map]; omega))) fun v102 hv101 => ?_
        obtain ⟨hl103, hs104⟩ := hv101
        refine D_l (v := lv) rfl rfl rfl (r_mv hT59) ?_
        refine D_l (v := (.i .i64 (((p : Nat)) : Int))) rfl rfl rfl (by exact (r_mv (by rw [hpe]; exact rfl))) ?_
        refine D_l (v := (.i .i64 ((((p : Nat)) : Int) + 1))) rfl rfl rfl (by exact (r_addi rfl rfl (wrap_i64 (by omega) (by omega)))) ?_
        refine D_q rfl rfl rfl (by exact Sq.rdLo hp51 (u1_lens (Lf.map (gnm a0))) (by decide) hH100.top2 rfl (i := (p + 1)) rfl (by first | omega | (simp only [List.length_map]; omega))) fun v106 hv105 => ?_
        obtain ⟨hl107, hs108⟩ := hv105
        refine D_m (f := fun n => ((.sl (some (n, 0)) 0 0 0), .cells [] true)) rfl rfl fun H110 hW111 => ?_
        have hH113 := hH100.wr0 hW111
        generalize hn112 : b95 + 0 = n109 at hW111 hH113 ⊢
        refine And.intro True.intro ?_
        refine D_qh rfl rfl (by exact r_appq (n := 0) (k := p) (new := (((Lf.map (gnm a0)).map u1).take p).flatten) hH113.top0 (Sq.full (b := n109) (n := 0) (g := 0) (sz := 1) (l := []) (.inl rfl) rfl) rfl rfl hl103 (hs104 _ _ hH113.top2) (tk_len (u1_lens (Lf.map (gnm a0))) (by first | omega | (simp only [List.length_map]; omega))) (by decide) (by decide) rfl (by first | omega | (simp only [List.length_range]; omega) | (simp only [List.length_map, List.length_drop]; omega))) fun o114 H115 hA117 => ?_
        obtain ⟨c116, hA117, hH118⟩ := hA117
        refine And.intro True.intro ?_
        refine D_qh rfl rfl (by exact r_appq (n := (0 + p)) (k := (((Lf.map (gnm a0)).map u1).length - (p + 1))) (new := (((Lf.map (gnm a0)).map u1).drop (p + 1)).flatten) hH118.top0 hA117 rfl rfl hl107 (hs108 _ _ hH118.top2) (dr_len (u1_lens (Lf.map (gnm a0)))) (by decide) (by decide) (len_app rfl (tk_len (u1_lens (Lf.map (gnm a0))) (by first | omega | (simp only [List.length_map]; omega)))) (by first | omega | (simp only [List.length_range]; omega) | (simp only [List.length_map, List.length_drop]; omega))) fun o119 H120 hA122 => ?_
        obtain ⟨c121, hA122, hH123⟩ := hA122
        refine And.intro True.intro ?_
        refine D_l (v := o119) rfl rfl rfl (r_mv rfl) ?_
        refine D_nil ?_
        refine C_region ?_
        refine O_p (.i .i64 (((f : Nat)) : Int)) (r_mv hT60) ?_
        refine O_p (.i .i64 ((((f : Nat)) : Int) + 1)) (by exact (r_addi rfl rfl (wrap_i64 (by omega) (by omega)))) ?_
        refine O_p (.i .i64 ((((f : Nat)) : Int) + 1)) (r_mv rfl) ?_
        refine O_nil ?_
        have hel9 := erase_len hpl
        have hH124 := (hH123.sub2)
        have hH125 := (((hH124.top2).top1).top2)
        exact ⟨(Lf.take p ++ Lf.drop (p + 1)).length, by omega, (Gp.add (Gp.add s (gnm a0 r)) (gnm a0 r)), S88, (Lf.take p ++ Lf.drop (p + 1)), o119, c121, (f + 1), rfl, hG89, by rw [hd2.2.2, hd1, hp45]; omega, by rw [hd2.2.1]; have := Gp.add_len s (gnm a0 r); omega, by rw [hd2.1, hd2.2.1]; exact hn3 _ (erase_mem hp48 hpr), erase_nd hp48, fun y hy => hp49 y ((erase_mem hp48 hpr y).1 hy).1, by have := erase_len hpl; omega, by have h9 := hA122; rw [cut_eq] at h9; exact h9, hH125, hT52, hT53, hT54, hT55, hT56, hT57, rfl, rfl, rfl⟩
      ·
        try simp only [decide_eq_true_eq, decide_eq_false_iff_not, Bool.not_eq_true', Bool.not_eq_false', Bool.and_eq_true, Bool.or_eq_true, Bool.or_eq_false_iff, Bool.not_not, Bool.and_eq_false_iff] at hc63
        refine C_skip ?_
        refine C_seq ?_
        refine C_region ?_
        obtain ⟨p, hpe⟩ : ∃ z : Nat, z = 0 := ⟨_, rfl⟩
        have hpl : p < Lf.length := by rw [hpe]; first | exact Nat.mod_lt _ (by omega) | omega
        obtain ⟨r, hpr⟩ : ∃ r, Lf[p]? = some r := ⟨_, List.getElem?_eq_getElem hpl⟩
        have hrL : r ∈ Lf := List.mem_of_getElem? hpr
        obtain ⟨hn1, hn2, hn3⟩ := all_step hk hp47 hrL (hp49 r hrL)
        obtain ⟨ht1, hh1⟩ := Gp.told_new hn1 hn2 (by omega)
        obtain ⟨ht2, hh2⟩ := Gp.told_has hh1
        have hd1 := Gp.new_d hn1
        have hd2 := Gp.has_add hh1
        refine O_p lv (r_mv hT59) ?_
        refine O_p (.i .i64 (((p : Nat)) : Int)) (by exact (r_mv (by rw [hpe]; exact rfl))) ?_
        refine O_q (by exact Sq.cell hp51 (u1_lens (Lf.map (gnm a0))) hH61.top1 rfl (i := p) rfl (r := [(.i .u32 (gnm a0 r))]) (gnm_row hpr) (by decide)) fun v127 hv126 => ?_
        obtain ⟨rb128, ro129, rfl, hrg130, hrt131, hrb132, hput133, hqs134⟩ := hv126
        refine O_p (.i .u32 (gnm a0 r)) (r_ldR (q := 0) rfl ⟨_, _, hrg130, hrt131⟩ rfl) ?_
        refine O_p (.i .u32 (gnm a0 r)) (r_mv rfl) ?_
        refine O_nil ?_
        refine C_seq ?_
        refine C_seq ?_
        refine C_region ?_
        refine O_p (.p (some (ga, 0))) (r_mv hT57) ?_
        refine O_p (.i .u32 (gnm a0 r)) (r_mv rfl) ?_
        refine O_call (Ev.mono (add_ev (n := (gnm a0 r)) hp44 hH61 (by rw [hp45]; omega)).sp fun v135 H136 hq137 => ?_)
        obtain ⟨rfl, S138, hG139, hH140⟩ := hq137
        rw [ht1]
        refine O_p (.b false) (r_bin rfl rfl rfl) ?_
        refine O_p (.b false) (r_mv rfl) ?_
        refine O_gk rfl ?_
        refine O_p (.p (some (ga, 0))) (r_mv hT57) ?_
        refine O_gk rfl ?_
        refine O_p (.i .u32 (gnm a0 r)) (r_mv rfl) ?_
        refine O_gk rfl ?_
        refine O_call (Ev.mono (add_ev (n := (gnm a0 r)) hG139 hH140 (Gp.add_d s (gnm a0 r) (by rw [hp45]; omega))).sp fun v141 H142 hq143 => ?_)
        obtain ⟨rfl, S144, hG145, hH146⟩ := hq143
        rw [ht2]
        refine O_gk rfl ?_
        refine O_p (.b false) (r_bin rfl rfl rfl) ?_
        refine O_p (.b false) (r_pick_f rfl rfl) ?_
        refine O_p (.b false) (r_mv rfl) ?_
        refine O_gk rfl ?_
        refine O_p (.p (some (ga, 0))) (r_mv hT57) ?_
        refine O_gk rfl ?_
        refine O_p (.i .u32 (gnm a0 r)) (r_mv rfl) ?_
        refine O_gk rfl ?_
        refine O_call (Ev.mono (has_ev (n := (gnm a0 r)) hG145 hH146).sp fun v147 H148 hq149 => ?_)
        obtain ⟨rfl, hH150⟩ := hq149
        rw [hh2]
        refine O_gk rfl ?_
        refine O_p (.b false) (r_un rfl rfl) ?_
        refine O_p (.b false) (r_pick_f rfl rfl) ?_
        refine O_nil ?_
        refine C_cond (x := false) rfl (fun h => by cases h) (fun _ => ?_)
        refine C_skip ?_
        refine C_seq ?_
        refine C_region ?_
        refine O_p (.i .i64 (((f : Nat)) : Int)) (r_mv hT58) ?_
        refine O_p (.i .i64 ((((f : Nat)) : Int) + 1)) (by exact (r_addi rfl rfl (wrap_i64 (by omega) (by omega)))) ?_
        refine O_p (.i .i64 ((((f : Nat)) : Int) + 1)) (r_mv rfl) ?_
        refine O_nil ?_
        refine C_draw fun b151 H152 hbase153 hA154 => ?_
        have hH155 : Hs H152 (asideL b151 [0] ++ _) := hH150.aside hA154 [0] hbase153 rfl (by decide)
        have hH156 : Hs H152 ([(b151 + 0, none)] ++ _) := hH155
        refine D_l (v := lv) rfl rfl rfl (r_mv hT59) ?_
        refine D_l (v := (.i .i64 (((p : Nat)) : Int))) rfl rfl rfl (by exact (r_mv (by rw [hpe]; exact rfl))) ?_
        refine D_q rfl rfl rfl (by exact Sq.rdHi hp51 (u1_lens (Lf.map (gnm a0))) (by decide) hH156.top2 rfl (i := p) rfl (by first | omega | (simp only [List.length_map]; omega))) fun v158 hv157 => ?_
        obtain ⟨hl159, hs160⟩ := hv157
        refine D_l (v := lv) rfl rfl rfl (r_mv hT59) ?_
        refine D_l (v := (.i .i64 (((p : Nat)) : Int))) rfl rfl rfl (by exact (r_mv (by rw [hpe]; exact rfl))) ?_
        refine D_l (v := (.i .i64 ((((p : Nat)) : Int) + 1))) rfl rfl rfl (by exact (r_addi rfl rfl (wrap_i64 (by omega) (by omega)))) ?_
        refine D_q rfl rfl rfl (by exact Sq.rdLo hp51 (u1_lens (Lf.map (gnm a0))) (by decide) hH156.top2 rfl (i := (p + 1)) rfl (by first | omega | (simp only [List.length_map]; omega))) fun v162 hv161 => ?_
        obtain ⟨hl163, hs164⟩ := hv161
        refine D_m (f := fun n => ((.sl (some (n, 0)) 0 0 0), .cells [] true)) rfl rfl fun H166 hW167 => ?_
        have hH169 := hH156.wr0 hW167
        generalize hn168 : b151 + 0 = n165 at hW167 hH169 ⊢
        refine And.intro True.intro ?_
        refine D_qh rfl rfl (by exact r_appq (n := 0) (k := p) (new := (((Lf.map (gnm a0)).map u1).take p).flatten) hH169.top0 (Sq.full (b := n165) (n := 0) (g := 0) (sz := 1) (l := []) (.inl rfl) rfl) rfl rfl hl159 (hs160 _ _ hH169.top2) (tk_len (u1_lens (Lf.map (gnm a0))) (by first | omega | (simp only [List.length_map]; omega))) (by decide) (by decide) rfl (by first | omega | (simp only [List.length_range]; omega) | (simp only [List.length_map, List.length_drop]; omega))) fun o170 H171 hA173 => ?_
        obtain ⟨c172, hA173, hH174⟩ := hA173
        refine And.intro True.intro ?_
        refine D_qh rfl rfl (by exact r_appq (n := (0 + p)) (k := (((Lf.map (gnm a0)).map u1).length - (p + 1))) (new := (((Lf.map (gnm a0)).map u1).drop (p + 1)).flatten) hH174.top0 hA173 rfl rfl hl163 (hs164 _ _ hH174.top2) (dr_len (u1_lens (Lf.map (gnm a0)))) (by decide) (by decide) (len_app rfl (tk_len (u1_lens (Lf.map (gnm a0))) (by first | omega | (simp only [List.length_map]; omega)))) (by first | omega | (simp only [List.length_range]; omega) | (simp only [List.length_map, List.length_drop]; omega))) fun o175 H176 hA178 => ?_
        obtain ⟨c177, hA178, hH179⟩ := hA178
        refine And.intro True.intro ?_
        refine D_l (v := o175) rfl rfl rfl (r_mv rfl) ?_
        refine D_nil ?_
        refine C_region ?_
        refine O_p (.i .i64 (((f : Nat)) : Int)) (r_mv hT60) ?_
        refine O_p (.i .i64 ((((f : Nat)) : Int) + 1)) (by exact (r_addi rfl rfl (wrap_i64 (by omega) (by omega)))) ?_
        refine O_p (.i .i64 ((((f : Nat)) : Int) + 1)) (r_mv rfl) ?_
        refine O_nil ?_
        have hel9 := erase_len hpl
        have hH180 := (hH179.sub2)
        have hH181 := (((hH180.top2).top1).top2)
        exact ⟨(Lf.take p ++ Lf.drop (p + 1)).length, by omega, (Gp.add (Gp.add s (gnm a0 r)) (gnm a0 r)), S144, (Lf.take p ++ Lf.drop (p + 1)), o175, c177, (f + 1), rfl, hG145, by rw [hd2.2.2, hd1, hp45]; omega, by rw [hd2.2.1]; have := Gp.add_len s (gnm a0 r); omega, by rw [hd2.1, hd2.2.1]; exact hn3 _ (erase_mem hp48 hpr), erase_nd hp48, fun y hy => hp49 y ((erase_mem hp48 hpr y).1 hy).1, by have := erase_len hpl; omega, by have h9 := hA178; rw [cut_eq] at h9; exact h9, hH181, hT52, hT53, hT54, hT55, hT56, hT57, rfl, rfl, rfl⟩
    ·
      try simp only [decide_eq_true_eq, decide_eq_false_iff_not, Bool.not_eq_true', Bool.not_eq_false', Bool.and_eq_true, Bool.or_eq_true, Bool.or_eq_false_iff, Bool.not_not, Bool.and_eq_false_iff] at hc62
      refine C_exit ?_
      refine nx_exit ?_
      refine nx_exit ?_
      refine bk_hit ?_
      refine C_seq ?_
      refine C_region ?_
      have hLf : Lf = [] := List.length_eq_zero_iff.1 (by omega)
      have hAe := hp47
      rw [hLf] at hAe
      obtain ⟨hce, hle⟩ := all_end hAe
      have hfk : f = k := by rw [hLf] at hp50; simpa using hp50
      refine O_p (.b true) (r_mv hT55) ?_
      refine O_p (.b true) (r_mv rfl) ?_
      refine O_gk rfl ?_
      refine O_p (.i .i64 (((f : Nat)) : Int)) (r_mv hT58) ?_
      refine O_gk rfl ?_
      refine O_p (.i .i64 (((k : Nat)) : Int)) (r_mv hT56) ?_
      refine O_gk rfl ?_
      refine O_p (.b true) (by exact (by rw [r_eql rfl rfl, decide_eq_true (by omega)])) ?_
      refine O_p (.b true) (r_pick_t rfl rfl) ?_
      refine O_p (.b true) (r_mv rfl) ?_
      refine O_gk rfl ?_
      refine O_p (.p (some (ga, 0))) (r_mv hT57) ?_
      refine O_gk rfl ?_
      refine O_call (Ev.mono (cum_ev hp44 hH61).sp fun v182 H183 hq184 => ?_)
      obtain ⟨rfl, hH185⟩ := hq184
      refine O_gk rfl ?_
      refine O_p (.i .u32 a0) (r_mv hT52) ?_
      refine O_gk rfl ?_
      refine O_p (.i .i64 (((k : Nat)) : Int)) (r_mv hT56) ?_
      refine O_gk rfl ?_
      refine O_p (.i .u32 (IntKind.u32.wrap (((k : Nat)) : Int))) (r_cint rfl) ?_
      refine O_gk rfl ?_
      refine O_p (.i .u32 (IntKind.u32.wrap (a0 + (IntKind.u32.wrap (((k : Nat)) : Int))))) (r_bin rfl rfl rfl) ?_
      refine O_gk rfl ?_
      refine O_p (.i .u32 (IntKind.u32.wrap ((IntKind.u32.wrap (a0 + (IntKind.u32.wrap (((k : Nat)) : Int)))) - 1))) (r_bin rfl rfl rfl) ?_
      refine O_gk rfl ?_
      refine O_p (.b true) (by exact (by rw [r_eql rfl rfl, decide_eq_true (by rw [wrap_u32, wrap_u32, wrap_u32, hce]; omega)])) ?_
      refine O_p (.b true) (r_pick_t rfl rfl) ?_
      refine O_p (.b true) (r_mv rfl) ?_
      refine O_gk rfl ?_
      refine O_p (.p (some (ga, 0))) (r_mv hT57) ?_
      refine O_gk rfl ?_
      refine O_call (Ev.mono (len_ev hp44 hH185).sp fun v186 H187 hq188 => ?_)
      obtain ⟨rfl, hH189⟩ := hq188
      refine O_gk rfl ?_
      refine O_p (.b true) (by exact (by rw [r_eql rfl rfl, decide_eq_true (by rw [hle]; rfl)])) ?_
      refine O_p (.b true) (r_pick_t rfl rfl) ?_
      refine O_p (.b true) (r_mv rfl) ?_
      refine O_gk rfl ?_
      refine O_p (.p (some (ga, 0))) (r_mv hT57) ?_
      refine O_gk rfl ?_
      refine O_call (Ev.mono (blocks_ev sort12 (by decide) (by rw [hle]; exact Nat.zero_le _) hp44 hH189) fun v190 H191 hq192 => ?_)
      obtain ⟨rc193, hr194, hH195⟩ := hq192
      rw [hle, blocks_nil] at hr194
      refine O_gk rfl ?_
      refine O_p (.i .i64 0) (by exact (by exact r_lenOf rfl (hr194.lenOf rfl (by decide)) hr194.isSl)) ?_
      refine O_gk rfl ?_
      refine O_p (.b true) (r_bin rfl rfl rfl) ?_
      refine O_p (.b true) (r_pick_t rfl rfl) ?_
      refine O_p (.b true) (r_mv rfl) ?_
      refine O_gk rfl ?_
      refine O_p (.p (some (ga, 0))) (r_mv hT57) ?_
      refine O_gk rfl ?_
      refine O_call (Ev.mono (dups_ev hp44 hH195).sp fun v196 H197 hq198 => ?_)
      obtain ⟨dc199, S200, hd201, hG202, hH203⟩ := hq198
      refine O_gk rfl ?_
      refine O_p (.i .i64 (((s.d.length : Nat)) : Int)) (by exact (by exact r_lenOf rfl (hd201.lenOf (lU_len _) (by decide)) hd201.isSl)) ?_
      refine O_gk rfl ?_
      refine O_p (.i .i64 (((k : Nat)) : Int)) (r_mv hT56) ?_
      refine O_gk rfl ?_
      refine O_p (.i .i64 ((((min k 64) : Nat)) : Int)) (r_minn (a := k) (b := 64) rfl rfl) ?_
      refine O_gk rfl ?_
      refine O_p (.b true) (by exact (by rw [r_eql rfl rfl, decide_eq_true (by omega)])) ?_
      refine O_p (.b true) (r_pick_t rfl rfl) ?_
      refine O_p (.b true) (r_mv rfl) ?_
      refine O_nil ?_
      refine C_ret ?_
      exact ⟨.inr rfl, _, resL_one (r_tmp (v := .b true) rfl), rfl⟩
set_option maxRecDepth 100000 in
theorem law3 (W : World) (ρ : Rho) (H : AH) (xs : List AV) (args : Array Value) (hR : Rel Try.prog W.heap.size W ρ H W) (hro : RO H) (hv : VRL ρ xs args.toList) (ht : TypedVs Try.prog H 9 Try.f3.params.toList xs) :
    Calls Try.prog 3 args W fun e w' => e = .returned (.bool true) ∧ Below W.heap.size W w' := by
  rw [Try.params3] at ht
  obtain ⟨a0, xs, rfl, g0, a1, xs, rfl, g1, a2, xs, rfl, g2, rfl⟩ := ht
  obtain ⟨a0, rfl, wa0⟩ := typedV_int Try.underlying22 g0
  obtain ⟨nn, rfl, wnn⟩ := typedV_int Try.underlying3 g1
  obtain ⟨pl, hpl⟩ := intsT hR.aok (typedV_slice Try.underlying23 g2)
  obtain ⟨k, v, H', hex, rfl⟩ := run3 H hR.aok a0 nn _ pl hpl
  exact law_of mixed tabA_ok spA_ok hex hR hv
end Go.Proofs.Ytjheedfobmlalaa.E
namespace Go.Proofs.Ytjheedfobmlalaa.gapsAll
open Go.ChangeShapes Go.WideShapes Go.RowKit
set_option linter.unusedVariables false
theorem own : ownKnob Try.prog.godebug = none := by kernel_rfl
theorem types : (Try.f3.params.toList.all fun t => E.fit Try.prog 9 t && (Try.prog.readableRec t && decide (t < Try.prog.types.size))) = true := by kernel_rfl
set_option maxRecDepth 100000 in
theorem lifted (os : Os) (started : os.Started) (H : Type) (enc : TypeId × Value → H) :
    ReturnsInHanded {} Try.checked os 3 .any (Rows.gapsAllSpec.pre6 enc Try.prog Try.f3 Rows.gapsAllRow.domain false) (Rows.gapsAllSpec.post enc Try.prog Try.f3 false true false false) :=
  E.law_lifted (C := Try.checked) (k := 9) (tb := 4) E.globals0 E.laid own started (by kernel_rfl) Try.func3
    (ChangeSpec.witness6 (enc := enc) (C := Try.checked) false ⟨#[], #[.int .u32 0, .int .i64 0, .slice none 0 0], []⟩ 8 (by kernel_rfl) (by kernel_rfl) (by kernel_rfl) (by kernel_rfl))
    rfl rfl Try.underlying4 (fun t ht => by have h := List.all_eq_true.1 types t ht; simp only [Bool.and_eq_true, decide_eq_true_eq] at h; exact h)
    (fun ds hd => by
      rw [Try.params3] at hd
      match ds, hd with
      | [d0, d1, d2], _ => rfl) E.law3
theorem over : Rows.gapsAllRow.holds Try.pinned (OpenSpec.ofChange Rows.gapsAllSpec) :=
  OpenClaim.holds_of_wide 3 Try.f3 rfl rfl rfl rfl rfl rfl rfl ⟨rfl, rfl, rfl, rfl, rfl⟩ rfl rfl rfl rfl rfl (by kernel_rfl) Try.func3 (by kernel_rfl)
    (of_decide_eq_true (by kernel_rfl)) (by unfold Func.isWrapper; first | (rw [if_pos (by decide +kernel)]; kernel_rfl) | (rw [if_neg (by decide +kernel)]; exact ⟨rfl, rfl⟩))
    (fun os started H enc _ => lifted os started H enc)
end Go.Proofs.Ytjheedfobmlalaa.gapsAll
namespace Go.Proofs.Ytjheedfobmlalaa
/-- The row, under a short name, for the claim. -/
theorem gapsAll_holds : Rows.GapsAllSaid := gapsAll.over
#print axioms gapsAll_holds
end Go.Proofs.Ytjheedfobmlalaa
