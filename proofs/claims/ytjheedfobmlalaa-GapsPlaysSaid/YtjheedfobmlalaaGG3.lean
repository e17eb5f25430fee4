/- Sorting numbers: nearly sorted. It bears no condition. -/
import Derived.Test.YtjheedfobmlalaaGG1
import Derived.Test.YtjheedfobmlalaaL
namespace Go.Proofs.Ytjheedfobmlalaa.E

set_option linter.unusedVariables false
set_option linter.unusedSimpArgs false
open Go.Sort (swp PermIn SortedIn Below ltInt scanSorted shiftDown shiftUp partialIns partialInsertionSort fixDown fixUp)
section
variable {d : Array Int} {a b i j : Nat}
theorem ss_go (h : i < b ∧ (!ltInt d[i]! d[i - 1]!) = true) : scanSorted ltInt d b i = scanSorted ltInt d b (i + 1) := by rw [scanSorted, if_pos (by rw [Bool.and_eq_true, decide_eq_true_eq]; exact h)]
theorem ss_stop (h : ¬ (i < b ∧ (!ltInt d[i]! d[i - 1]!) = true)) : scanSorted ltInt d b i = i := by rw [scanSorted, if_neg (by rw [Bool.and_eq_true, decide_eq_true_eq]; exact h)]
theorem sdn_zero (h : ¬ 1 ≤ j) : shiftDown ltInt j d = d := by
  obtain rfl : j = 0 := by omega
  rfl
theorem sdn_stop (h : (!ltInt d[j]! d[j - 1]!) = true) : shiftDown ltInt j d = d := by
  cases j with
  | zero => rfl
  | succ j => rw [shiftDown, if_pos (show (!ltInt d[j + 1]! d[j]!) = true from h)]
theorem sdn_go (h0 : 1 ≤ j) (h : (!ltInt d[j]! d[j - 1]!) = false) : shiftDown ltInt j d = shiftDown ltInt (j - 1) (swp d j (j - 1)) := by
  obtain ⟨j, rfl⟩ : ∃ k, j = k + 1 := ⟨j - 1, by omega⟩
  rw [shiftDown, if_neg (by rw [show (!ltInt d[j + 1]! d[j]!) = false from h]; decide)]; rfl
theorem sup_end (h : ¬ j < b) : shiftUp ltInt b j d = d := by rw [shiftUp, if_neg h]
theorem sup_stop (h : (!ltInt d[j]! d[j - 1]!) = true) : shiftUp ltInt b j d = d := by rw [shiftUp, if_pos h, ite_self]
theorem sup_go (h0 : j < b) (h : (!ltInt d[j]! d[j - 1]!) = false) : shiftUp ltInt b j d = shiftUp ltInt b (j + 1) (swp d j (j - 1)) := by rw [shiftUp, if_pos h0, if_neg (by rw [h]; decide)]
end
set_option maxHeartbeats 2000000 in
theorem pins_ev {H : AH} {R : HL} {v : AV} {c : List AV} {d : Array Int} {n : Nat} {a b : Nat} (hd : Sq 1 v c (dU d).flatten) (hn : d.size = n) (hl : n ≤ 1000000) (ha : a < b) (hb : b ≤ n) (hH0 : Hs H (qseg v c ++ R)) : Ev tabS spS (.fn (.func 45) [] []) [v, .i .i64 ((a : Nat) : Int), .i .i64 ((b : Nat) : Int)] H (fun r H' => ∃ (bl : Bool) (d' : Array Int) (c' : List AV), r = .b bl ∧ partialInsertionSort ltInt d a b = (d', bl) ∧ d'.size = n ∧ Sq 1 v c' (dU d').flatten ∧ Hs H' (qseg v c' ++ R)) := by
  refine Ev_C (F := x45) rfl ?_
  refine C_seq ?_
  refine C_region ?_
  refine O_p (.b false) (r_mv rfl) ?_
  refine O_nil ?_
  refine C_seq ?_
  refine C_region ?_
  refine O_p (.i .i64 (((a : Nat)) : Int)) (r_mv rfl) ?_
  refine O_p (.i .i64 ((((a : Nat)) : Int) + 1)) (by exact (r_addi rfl rfl (wrap_i64 (by omega) (by omega)))) ?_
  refine O_p (.i .i64 ((((a : Nat)) : Int) + 1)) (r_mv rfl) ?_
  refine O_nil ?_
  refine C_seq ?_
  refine C_seq ?_
  refine C_region ?_
  refine O_p (.i .i64 0) (r_mv rfl) ?_
  refine O_nil ?_
  refine C_block ?_
  refine C_while (fun m1 T2 H3 => ∃ d1 : Array Int, ∃ c1 : List AV, ∃ i : Nat, ∃ k : Nat, m1 = 5 - k ∧ Sq 1 v c1 (dU d1).flatten ∧ d1.size = n ∧ partialIns ltInt a b (5 - k) i d1 = partialIns ltInt a b 5 (a + 1) d ∧ a + 1 ≤ i ∧ i ≤ b ∧ k ≤ 5 ∧ Hs H3 ((qseg v c1) ++ (R)) ∧ T2.get 0 = v ∧ T2.get 1 = (.i .i64 (((a : Nat)) : Int)) ∧ T2.get 2 = (.i .i64 (((b : Nat)) : Int)) ∧ T2.get 7 = (.i .i64 (((i : Nat)) : Int)) ∧ T2.get 8 = (.i .i64 (((k : Nat)) : Int))) (fun m1 T2 H3 hI4 => ?_) 5 _ _ ⟨d, c, (a + 1), 0, rfl, hd, hn, rfl, by omega, by omega, by omega, hH0, rfl, rfl, rfl, rfl, rfl⟩
  obtain ⟨d1, c1, i, k, hm5, hp6, hp7, hp8, hp9, hp10, hp11, hH17, hT12, hT13, hT14, hT15, hT16⟩ := hI4
  refine C_seq ?_
  refine C_seq ?_
  refine C_region ?_
  refine O_p (.i .i64 (((k : Nat)) : Int)) (r_mv hT16) ?_
  refine O_p (.b (decide ((((k : Nat)) : Int) < 5))) (r_lss rfl rfl) ?_
  refine O_nil ?_
  refine C_cond (x := (decide ((((k : Nat)) : Int) < 5))) rfl (fun hc18 => ?_) (fun hc18 => ?_)
  ·
    have hraw19 := hc18
    try simp only [decide_eq_true_eq, decide_eq_false_iff_not, Bool.not_eq_true', Bool.not_eq_false', Bool.and_eq_true, Bool.or_eq_true, Bool.or_eq_false_iff, Bool.not_not, Bool.and_eq_false_iff] at hc18
    refine C_skip ?_
    refine C_seq ?_
    refine C_block ?_
    refine C_cut (fun T20 H21 => ∃ ix : Nat, scanSorted ltInt d1 b i = ix ∧ i ≤ ix ∧ ix ≤ b ∧ Hs H21 ((qseg v c1) ++ (R)) ∧ T20.get 0 = v ∧ T20.get 1 = (.i .i64 (((a : Nat)) : Int)) ∧ T20.get 2 = (.i .i64 (((b : Nat)) : Int)) ∧ T20.get 8 = (.i .i64 (((k : Nat)) : Int)) ∧ T20.get 7 = (.i .i64 (((ix : Nat)) : Int))) ?_ (fun T20 H21 hI22 => ?_)
    ·
      refine C_block ?_
      refine C_while (fun m23 T24 H25 => ∃ i2 : Nat, m23 = b - i2 ∧ scanSorted ltInt d1 b i2 = scanSorted ltInt d1 b i ∧ i ≤ i2 ∧ i2 ≤ b ∧ Hs H25 ((qseg v c1) ++ (R)) ∧ T24.get 0 = v ∧ T24.get 1 = (.i .i64 (((a : Nat)) : Int)) ∧ T24.get 2 = (.i .i64 (((b : Nat)) : Int)) ∧ T24.get 8 = (.i .i64 (((k : Nat)) : Int)) ∧ T24.get 7 = (.i .i64 (((i2 : Nat)) : Int))) (fun m23 T24 H25 hI26 => ?_) (b - i) _ _ ⟨i, rfl, rfl, by omega, by omega, hH17, hT12, hT13, hT14, hT16, hT15⟩
      obtain ⟨i2, hm27, hp28, hp29, hp30, hH36, hT31, hT32, hT33, hT34, hT35⟩ := hI26
      refine C_seq ?_
      refine C_seq ?_
      by_cases hij : i2 < b
      ·
        refine C_draw fun b37 H38 hbase39 hA40 => ?_
        have hH41 := hH36.keep (by have := hA40.1; omega) (fun q _ => hA40.2 q) ((hH36.old).aside hA40).ok
        refine D_l (v := (.i .i64 (((i2 : Nat)) : Int))) rfl rfl rfl (r_mv hT35) ?_
        refine D_l (v := (.i .i64 (((b : Nat)) : Int))) rfl rfl rfl (r_mv hT33) ?_
        refine D_l (v := (.b true)) rfl rfl rfl (by exact (by rw [r_lss rfl rfl, decide_eq_true (by omega)])) ?_
        refine D_l (v := (.b true)) rfl rfl rfl (r_mv rfl) ?_
        refine D_gk rfl ?_
        refine D_l (v := v) rfl rfl rfl (r_mv hT31) ?_
        refine D_gk rfl ?_
        refine D_l (v := (.i .i64 (((i2 : Nat)) : Int))) rfl rfl rfl (r_mv hT35) ?_
        refine D_gk rfl ?_
        refine D_q rfl rfl rfl (by exact Sq.cell hp6 (u_lens d1) hH41.top0 rfl (i := i2) rfl (r := [(.i .u32 (d1[i2]!))]) (u_get (d := d1) (i := i2) (by omega)) (by decide)) fun v43 hv42 => ?_
        obtain ⟨rb44, ro45, rfl, hrg46, hrt47, hrb48, hput49, hqs50⟩ := hv42
        refine D_gk rfl ?_
        refine D_l (v := v) rfl rfl rfl (r_mv hT31) ?_
        refine D_gk rfl ?_
        refine D_l (v := (.i .i64 (((i2 : Nat)) : Int))) rfl rfl rfl (r_mv hT35) ?_
        refine D_gk rfl ?_
        refine D_l (v := (.i .i64 ((((i2 - 1) : Nat)) : Int))) rfl rfl rfl (by exact (r_subn (a := i2) (b := 1) rfl rfl (by omega) (by omega))) ?_
        refine D_gk rfl ?_
        refine D_q rfl rfl rfl (by exact Sq.cell hp6 (u_lens d1) hH41.top0 rfl (i := (i2 - 1)) rfl (r := [(.i .u32 (d1[(i2 - 1)]!))]) (u_get (d := d1) (i := (i2 - 1)) (by omega)) (by decide)) fun v52 hv51 => ?_
        obtain ⟨rb53, ro54, rfl, hrg55, hrt56, hrb57, hput58, hqs59⟩ := hv51
        refine D_gk rfl ?_
        refine D_r (v := (.i .u32 (d1[i2]!))) rfl rfl rfl (r_ldR (q := 0) rfl ⟨_, _, hrg46, hrt47⟩ rfl) ?_
        refine D_gk rfl ?_
        refine D_r (v := (.i .u32 (d1[(i2 - 1)]!))) rfl rfl rfl (r_ldR (q := 0) rfl ⟨_, _, hrg55, hrt56⟩ rfl) ?_
        refine D_gk rfl ?_
        refine D_call (Ev.mono (less_ev (x := (d1[i2]!)) (y := (d1[(i2 - 1)]!)) hH41) fun v60 H61 hq62 => ?_)
        obtain ⟨rfl, hH63⟩ := hq62
        refine And.intro (And.intro (Or.inl rfl) (And.intro (Or.inl rfl) True.intro)) ?_
        refine D_gk rfl ?_
        refine D_l (v := (.b (!(decide ((d1[i2]!) < (d1[(i2 - 1)]!)))))) rfl rfl rfl (r_not rfl) ?_
        refine D_l (v := (.b (!(decide ((d1[i2]!) < (d1[(i2 - 1)]!)))))) rfl rfl rfl (r_pick_t rfl rfl) ?_
        refine D_nil ?_
        refine C_cond (x := (!(decide ((d1[i2]!) < (d1[(i2 - 1)]!))))) rfl (fun hc64 => ?_) (fun hc64 => ?_)
        ·
          have hraw65 := hc64
          try simp only [decide_eq_true_eq, decide_eq_false_iff_not, Bool.not_eq_true', Bool.not_eq_false', Bool.and_eq_true, Bool.or_eq_true, Bool.or_eq_false_iff, Bool.not_not, Bool.and_eq_false_iff] at hc64
          have hgo : i2 < b ∧ (!ltInt d1[i2]! d1[i2 - 1]!) = true := ⟨hij, hraw65⟩
          refine C_skip ?_
          refine C_block ?_
          refine C_region ?_
          refine O_p (.i .i64 (((i2 : Nat)) : Int)) (r_mv hT35) ?_
          refine O_p (.i .i64 ((((i2 : Nat)) : Int) + 1)) (by exact (r_addi rfl rfl (wrap_i64 (by omega) (by omega)))) ?_
          refine O_p (.i .i64 ((((i2 : Nat)) : Int) + 1)) (r_mv rfl) ?_
          refine O_nil ?_
          exact ⟨(b - (i2 + 1)), by omega, (i2 + 1), rfl, by rw [← hp28]; exact (ss_go hgo).symm, by omega, by omega, hH63, hT31, hT32, hT33, hT34, rfl⟩
        ·
          have hraw66 := hc64
          try simp only [decide_eq_true_eq, decide_eq_false_iff_not, Bool.not_eq_true', Bool.not_eq_false', Bool.and_eq_true, Bool.or_eq_true, Bool.or_eq_false_iff, Bool.not_not, Bool.and_eq_false_iff] at hc64
          have hst : ¬ (i2 < b ∧ (!ltInt d1[i2]! d1[i2 - 1]!) = true) := fun h9 => nomatch h9.2.symm.trans hraw66
          refine C_exit ?_
          refine nx_exit ?_
          refine nx_exit ?_
          refine bk_hit ?_
          exact ⟨rfl, i2, by rw [← hp28]; exact ss_stop hst, by omega, by omega, hH63, hT31, hT32, hT33, hT34, hT35⟩
      ·
        have hst : ¬ (i2 < b ∧ (!ltInt d1[i2]! d1[i2 - 1]!) = true) := fun h9 => hij h9.1
        refine C_draw fun b67 H68 hbase69 hA70 => ?_
        have hH71 := hH36.keep (by have := hA70.1; omega) (fun q _ => hA70.2 q) ((hH36.old).aside hA70).ok
        refine D_l (v := (.i .i64 (((i2 : Nat)) : Int))) rfl rfl rfl (r_mv hT35) ?_
        refine D_l (v := (.i .i64 (((b : Nat)) : Int))) rfl rfl rfl (r_mv hT33) ?_
        refine D_l (v := (.b false)) rfl rfl rfl (by exact (by rw [r_lss rfl rfl, decide_eq_false (by omega)])) ?_
        refine D_l (v := (.b false)) rfl rfl rfl (r_mv rfl) ?_
        refine D_gf rfl ?_
        refine D_gf rfl ?_
        refine D_gf rfl ?_
        refine D_gf rfl ?_
        refine D_gf rfl ?_
        refine D_gf rfl ?_
        refine D_gf rfl ?_
        refine D_gf rfl ?_
        refine D_gf rfl ?_
        refine D_gf rfl ?_
        refine D_gf rfl ?_
        refine D_l (v := (.b false)) rfl rfl rfl (r_pick_f rfl rfl) ?_
        refine D_nil ?_
        refine C_cond (x := false) rfl (fun h => by cases h) (fun _ => ?_)
        refine C_exit ?_
        refine nx_exit ?_
        refine nx_exit ?_
        refine bk_hit ?_
        exact ⟨rfl, i2, by rw [← hp28]; exact ss_stop hst, by omega, by omega, hH71, hT31, hT32, hT33, hT34, hT35⟩
    ·
      obtain ⟨ix, hp72, hp73, hp74, hH80, hT75, hT76, hT77, hT78, hT79⟩ := hI22
      refine C_seq ?_
      refine C_seq ?_
      refine C_region ?_
      refine O_p (.i .i64 (((ix : Nat)) : Int)) (r_mv hT79) ?_
      refine O_p (.i .i64 (((b : Nat)) : Int)) (r_mv hT77) ?_
      refine O_p (.b (decide ((((ix : Nat)) : Int) = (((b : Nat)) : Int)))) (r_eql rfl rfl) ?_
      refine O_nil ?_
      refine C_cond (x := (decide ((((ix : Nat)) : Int) = (((b : Nat)) : Int)))) rfl (fun hc81 => ?_) (fun hc81 => ?_)
      ·
        have hraw82 := hc81
        try simp only [decide_eq_true_eq, decide_eq_false_iff_not, Bool.not_eq_true', Bool.not_eq_false', Bool.and_eq_true, Bool.or_eq_true, Bool.or_eq_false_iff, Bool.not_not, Bool.and_eq_false_iff] at hc81
        refine C_seq ?_
        refine C_region ?_
        refine O_p (.b true) (r_mv rfl) ?_
        refine O_nil ?_
        refine C_ret ?_
        refine nx_ret ?_
        refine bk_ret ?_
        refine nx_ret ?_
        refine nx_ret ?_
        refine bk_ret ?_
        refine nx_ret ?_
        exact ⟨.inr rfl, _, resL_one (r_tmp (v := (.b true)) rfl), true, d1, c1, rfl, by unfold partialInsertionSort; rw [← hp8, show 5 - k = (5 - (k + 1)) + 1 by omega, Go.Sort.partialIns_succ, hp72, if_pos (show ix = b by omega)], hp7, hp6, hH80⟩
      ·
        have hraw83 := hc81
        try simp only [decide_eq_true_eq, decide_eq_false_iff_not, Bool.not_eq_true', Bool.not_eq_false', Bool.and_eq_true, Bool.or_eq_true, Bool.or_eq_false_iff, Bool.not_not, Bool.and_eq_false_iff] at hc81
        refine C_skip ?_
        refine C_seq ?_
        refine C_seq ?_
        refine C_region ?_
        refine O_p (.i .i64 (((b : Nat)) : Int)) (r_mv hT77) ?_
        refine O_p (.i .i64 (((a : Nat)) : Int)) (r_mv hT76) ?_
        refine O_p (.i .i64 ((((b - a) : Nat)) : Int)) (by exact (r_subn (a := b) (b := a) rfl rfl (by omega) (by omega))) ?_
        refine O_p (.b (decide (((((b - a) : Nat)) : Int) < 50))) (r_lss rfl rfl) ?_
        refine O_nil ?_
        refine C_cond (x := (decide (((((b - a) : Nat)) : Int) < 50))) rfl (fun hc84 => ?_) (fun hc84 => ?_)
        ·
          have hraw85 := hc84
          try simp only [decide_eq_true_eq, decide_eq_false_iff_not, Bool.not_eq_true', Bool.not_eq_false', Bool.and_eq_true, Bool.or_eq_true, Bool.or_eq_false_iff, Bool.not_not, Bool.and_eq_false_iff] at hc84
          refine C_seq ?_
          refine C_region ?_
          refine O_p (.b false) (r_mv rfl) ?_
          refine O_nil ?_
          refine C_ret ?_
          refine nx_ret ?_
          refine bk_ret ?_
          refine nx_ret ?_
          refine nx_ret ?_
          refine bk_ret ?_
          refine nx_ret ?_
          exact ⟨.inr rfl, _, resL_one (r_tmp (v := (.b false)) rfl), false, d1, c1, rfl, by unfold partialInsertionSort; rw [← hp8, show 5 - k = (5 - (k + 1)) + 1 by omega, Go.Sort.partialIns_succ, hp72, if_neg (show ¬ ix = b by omega), if_pos (show b - a < 50 by omega)], hp7, hp6, hH80⟩
        ·
          have hraw86 := hc84
          try simp only [decide_eq_true_eq, decide_eq_false_iff_not, Bool.not_eq_true', Bool.not_eq_false', Bool.and_eq_true, Bool.or_eq_true, Bool.or_eq_false_iff, Bool.not_not, Bool.and_eq_false_iff] at hc84
          refine C_skip ?_
          refine C_seq ?_
          refine C_draw fun b87 H88 hbase89 hA90 => ?_
          have hH91 := hH80.keep (by have := hA90.1; omega) (fun q _ => hA90.2 q) ((hH80.old).aside hA90).ok
          refine D_l (v := v) rfl rfl rfl (r_mv hT75) ?_
          refine D_l (v := (.i .i64 (((ix : Nat)) : Int))) rfl rfl rfl (r_mv hT79) ?_
          refine D_l (v := v) rfl rfl rfl (r_mv hT75) ?_
          refine D_l (v := (.i .i64 (((ix : Nat)) : Int))) rfl rfl rfl (r_mv hT79) ?_
          refine D_l (v := (.i .i64 ((((ix - 1) : Nat)) : Int))) rfl rfl rfl (by exact (r_subn (a := ix) (b := 1) rfl rfl (by omega) (by omega))) ?_
          refine D_l (v := v) rfl rfl rfl (r_mv hT75) ?_
          refine D_l (v := (.i .i64 (((ix : Nat)) : Int))) rfl rfl rfl (r_mv hT79) ?_
          refine D_l (v := (.i .i64 ((((ix - 1) : Nat)) : Int))) rfl rfl rfl (by exact (r_subn (a := ix) (b := 1) rfl rfl (by omega) (by omega))) ?_
          refine D_q rfl rfl rfl (by exact Sq.cell hp6 (u_lens d1) hH91.top0 rfl (i := (ix - 1)) rfl (r := [(.i .u32 (d1[(ix - 1)]!))]) (u_get (d := d1) (i := (ix - 1)) (by omega)) (by decide)) fun v93 hv92 => ?_
          obtain ⟨rb94, ro95, rfl, hrg96, hrt97, hrb98, hput99, hqs100⟩ := hv92
          refine D_l (v := v) rfl rfl rfl (r_mv hT75) ?_
          refine D_l (v := (.i .i64 (((ix : Nat)) : Int))) rfl rfl rfl (r_mv hT79) ?_
          refine D_q rfl rfl rfl (by exact Sq.cell hp6 (u_lens d1) hH91.top0 rfl (i := ix) rfl (r := [(.i .u32 (d1[ix]!))]) (u_get (d := d1) (i := ix) (by omega)) (by decide)) fun v102 hv101 => ?_
          obtain ⟨rb103, ro104, rfl, hrg105, hrt106, hrb107, hput108, hqs109⟩ := hv101
          refine D_r (v := (.i .u32 (d1[(ix - 1)]!))) rfl rfl rfl (r_ldR (q := 0) rfl ⟨_, _, hrg96, hrt97⟩ rfl) ?_
          refine D_r (v := (.i .u32 (d1[ix]!))) rfl rfl rfl (r_ldR (q := 0) rfl ⟨_, _, hrg105, hrt106⟩ rfl) ?_
          refine D_q rfl rfl rfl (by exact Sq.cell hp6 (u_lens d1) hH91.top0 rfl (i := ix) rfl (r := [(.i .u32 (d1[ix]!))]) (u_get (d := d1) (i := ix) (by omega)) (by decide)) fun v111 hv110 => ?_
          obtain ⟨rb112, ro113, rfl, hrg114, hrt115, hrb116, hput117, hqs118⟩ := hv110
          refine D_store (vs := [(.i .u32 (d1[(ix - 1)]!))]) (c' := (putAt c1 (ro113 + 0) [(.i .u32 (d1[(ix - 1)]!))])) rfl (by rfl) hrg114 rfl (List.cons_ne_nil _ _) (by have := hrb116; show _ + 1 ≤ _; omega) rfl fun H119 hW120 => ?_
          have hH122 := Hs.cong0 (Hs.wr0 (Hs.cong0 hH91 (hqs118 _)) hW120) (hqs118 _).symm
          have hSq121 := hput117 0 [(.i .u32 (d1[(ix - 1)]!))] [(.i .u32 (d1[(ix - 1)]!))] (Nat.le_of_ble_eq_true rfl) rfl
          obtain ⟨dd123, he124⟩ : ∃ z : Array Int, z = d1.setIfInBounds ix (d1[(ix - 1)]!) := ⟨_, rfl⟩
          have hs126 : Sq 1 v (putAt c1 (ro113 + 0) [(.i .u32 (d1[(ix - 1)]!))]) (dU dd123).flatten := by rw [he124, ← u_set]; exact hSq121
          have hn125 : dd123.size = n := by rw [he124, Array.size_setIfInBounds]; exact hp7
          refine And.intro (And.intro (Or.inl rfl) (And.intro (Or.inl rfl) True.intro)) ?_
          refine D_q rfl rfl rfl (by exact Sq.cell hs126 (u_lens dd123) hH122.top0 rfl (i := (ix - 1)) rfl (r := [(.i .u32 (dd123[(ix - 1)]!))]) (u_get (d := dd123) (i := (ix - 1)) (by omega)) (by decide)) fun v128 hv127 => ?_
          obtain ⟨rb129, ro130, rfl, hrg131, hrt132, hrb133, hput134, hqs135⟩ := hv127
          refine D_store (vs := [(.i .u32 (d1[ix]!))]) (c' := (putAt (putAt c1 (ro113 + 0) [(.i .u32 (d1[(ix - 1)]!))]) (ro130 + 0) [(.i .u32 (d1[ix]!))])) rfl (by rfl) hrg131 rfl (List.cons_ne_nil _ _) (by have := hrb133; show _ + 1 ≤ _; omega) rfl fun H136 hW137 => ?_
          have hH139 := Hs.cong0 (Hs.wr0 (Hs.cong0 hH122 (hqs135 _)) hW137) (hqs135 _).symm
          have hSq138 := hput134 0 [(.i .u32 (d1[ix]!))] [(.i .u32 (d1[ix]!))] (Nat.le_of_ble_eq_true rfl) rfl
          obtain ⟨dd140, he141⟩ : ∃ z : Array Int, z = dd123.setIfInBounds (ix - 1) (d1[ix]!) := ⟨_, rfl⟩
          have hs143 : Sq 1 v (putAt (putAt c1 (ro113 + 0) [(.i .u32 (d1[(ix - 1)]!))]) (ro130 + 0) [(.i .u32 (d1[ix]!))]) (dU dd140).flatten := by rw [he141, ← u_set]; exact hSq138
          have hn142 : dd140.size = n := by rw [he141, Array.size_setIfInBounds]; exact hn125
          refine And.intro True.intro ?_
          refine D_nil ?_
          have hsw : dd140 = swp d1 ix (ix - 1) := by rw [he141, he124]; rfl
          refine C_cut (fun T144 H145 => ∃ d2 : Array Int, ∃ d2c : List AV, d2 = fixDown ltInt a ix dd140 ∧ Sq 1 v d2c (dU d2).flatten ∧ d2.size = n ∧ Hs H145 ((qseg v d2c) ++ (R)) ∧ T144.get 0 = v ∧ T144.get 1 = (.i .i64 (((a : Nat)) : Int)) ∧ T144.get 2 = (.i .i64 (((b : Nat)) : Int)) ∧ T144.get 8 = (.i .i64 (((k : Nat)) : Int)) ∧ T144.get 7 = (.i .i64 (((ix : Nat)) : Int))) ?_ (fun T144 H145 hI146 => ?_)
          ·
            refine C_seq ?_
            refine C_region ?_
            refine O_p (.i .i64 (((ix : Nat)) : Int)) (r_mv hT79) ?_
            refine O_p (.i .i64 (((a : Nat)) : Int)) (r_mv hT76) ?_
            refine O_p (.i .i64 ((((ix - a) : Nat)) : Int)) (by exact (r_subn (a := ix) (b := a) rfl rfl (by omega) (by omega))) ?_
            refine O_p (.b (decide (2 ≤ ((((ix - a) : Nat)) : Int)))) (r_geq rfl rfl) ?_
            refine O_nil ?_
            refine C_cond (x := (decide (2 ≤ ((((ix - a) : Nat)) : Int)))) rfl (fun hc147 => ?_) (fun hc147 => ?_)
            ·
              have hraw148 := hc147
              try simp only [decide_eq_true_eq, decide_eq_false_iff_not, Bool.not_eq_true', Bool.not_eq_false', Bool.and_eq_true, Bool.or_eq_true, Bool.or_eq_false_iff, Bool.not_not, Bool.and_eq_false_iff] at hc147
              refine C_seq ?_
              refine C_region ?_
              refine O_p (.i .i64 (((ix : Nat)) : Int)) (r_mv hT79) ?_
              refine O_p (.i .i64 ((((ix - 1) : Nat)) : Int)) (by exact (r_subn (a := ix) (b := 1) rfl rfl (by omega) (by omega))) ?_
              refine O_p (.i .i64 ((((ix - 1) : Nat)) : Int)) (r_mv rfl) ?_
              refine O_nil ?_
              refine C_block ?_
              refine C_while (fun m149 T150 H151 => ∃ dd : Array Int, ∃ cc : List AV, ∃ jj : Nat, m149 = jj ∧ Sq 1 v cc (dU dd).flatten ∧ dd.size = n ∧ shiftDown ltInt jj dd = shiftDown ltInt (ix - 1) dd140 ∧ jj ≤ ix ∧ ix < b ∧ Hs H151 ((qseg v cc) ++ (R)) ∧ T150.get 0 = v ∧ T150.get 1 = (.i .i64 (((a : Nat)) : Int)) ∧ T150.get 2 = (.i .i64 (((b : Nat)) : Int)) ∧ T150.get 8 = (.i .i64 (((k : Nat)) : Int)) ∧ T150.get 7 = (.i .i64 (((ix : Nat)) : Int)) ∧ T150.get 9 = (.i .i64 (((jj : Nat)) : Int))) (fun m149 T150 H151 hI152 => ?_) (ix - 1) _ _ ⟨dd140, (putAt (putAt c1 (ro113 + 0) [(.i .u32 (d1[(ix - 1)]!))]) (ro130 + 0) [(.i .u32 (d1[ix]!))]), (ix - 1), rfl, hs143, hn142, rfl, by omega, by omega, hH139, hT75, hT76, hT77, hT78, hT79, rfl⟩
              obtain ⟨dd, cc, jj, hm153, hp154, hp155, hp156, hp157, hp158, hH165, hT159, hT160, hT161, hT162, hT163, hT164⟩ := hI152
              refine C_seq ?_
              refine C_seq ?_
              refine C_region ?_
              refine O_p (.i .i64 (((jj : Nat)) : Int)) (r_mv hT164) ?_
              refine O_p (.b (decide (1 ≤ (((jj : Nat)) : Int)))) (r_geq rfl rfl) ?_
              refine O_nil ?_
              refine C_cond (x := (decide (1 ≤ (((jj : Nat)) : Int)))) rfl (fun hc166 => ?_) (fun hc166 => ?_)
              ·
                have hraw167 := hc166
                try simp only [decide_eq_true_eq, decide_eq_false_iff_not, Bool.not_eq_true', Bool.not_eq_false', Bool.and_eq_true, Bool.or_eq_true, Bool.or_eq_false_iff, Bool.not_not, Bool.and_eq_false_iff] at hc166
                refine C_skip ?_
                refine C_seq ?_
                refine C_block ?_
                refine C_seq ?_
                refine C_seq ?_
                refine C_draw fun b168 H169 hbase170 hA171 => ?_
                have hH172 := hH165.keep (by have := hA171.1; omega) (fun q _ => hA171.2 q) ((hH165.old).aside hA171).ok
                refine D_l (v := v) rfl rfl rfl (r_mv hT159) ?_
                refine D_l (v := (.i .i64 (((jj : Nat)) : Int))) rfl rfl rfl (r_mv hT164) ?_
                refine D_q rfl rfl rfl (by exact Sq.cell hp154 (u_lens dd) hH172.top0 rfl (i := jj) rfl (r := [(.i .u32 (dd[jj]!))]) (u_get (d := dd) (i := jj) (by omega)) (by decide)) fun v174 hv173 => ?_
                obtain ⟨rb175, ro176, rfl, hrg177, hrt178, hrb179, hput180, hqs181⟩ := hv173
                refine D_l (v := v) rfl rfl rfl (r_mv hT159) ?_
                refine D_l (v := (.i .i64 (((jj : Nat)) : Int))) rfl rfl rfl (r_mv hT164) ?_
                refine D_l (v := (.i .i64 ((((jj - 1) : Nat)) : Int))) rfl rfl rfl (by exact (r_subn (a := jj) (b := 1) rfl rfl (by omega) (by omega))) ?_
                refine D_q rfl rfl rfl (by exact Sq.cell hp154 (u_lens dd) hH172.top0 rfl (i := (jj - 1)) rfl (r := [(.i .u32 (dd[(jj - 1)]!))]) (u_get (d := dd) (i := (jj - 1)) (by omega)) (by decide)) fun v183 hv182 => ?_
                obtain ⟨rb184, ro185, rfl, hrg186, hrt187, hrb188, hput189, hqs190⟩ := hv182
                refine D_r (v := (.i .u32 (dd[jj]!))) rfl rfl rfl (r_ldR (q := 0) rfl ⟨_, _, hrg177, hrt178⟩ rfl) ?_
                refine D_r (v := (.i .u32 (dd[(jj - 1)]!))) rfl rfl rfl (r_ldR (q := 0) rfl ⟨_, _, hrg186, hrt187⟩ rfl) ?_
                refine D_call (Ev.mono (less_ev (x := (dd[jj]!)) (y := (dd[(jj - 1)]!)) hH172) fun v191 H192 hq193 => ?_)
                obtain ⟨rfl, hH194⟩ := hq193
                refine And.intro (And.intro (Or.inl rfl) (And.intro (Or.inl rfl) True.intro)) ?_
                refine D_l (v := (.b (!(decide ((dd[jj]!) < (dd[(jj - 1)]!)))))) rfl rfl rfl (r_not rfl) ?_
                refine D_nil ?_
                refine C_cond (x := (!(decide ((dd[jj]!) < (dd[(jj - 1)]!))))) rfl (fun hc195 => ?_) (fun hc195 => ?_)
                ·
                  have hraw196 := hc195
                  try simp only [decide_eq_true_eq, decide_eq_false_iff_not, Bool.not_eq_true', Bool.not_eq_false', Bool.and_eq_true, Bool.or_eq_true, Bool.or_eq_false_iff, Bool.not_not, Bool.and_eq_false_iff] at hc195
                  refine C_exit ?_
                  refine nx_exit ?_
                  refine bk_miss (by decide) ?_
                  refine nx_exit ?_
                  refine nx_exit ?_
                  refine bk_hit ?_
                  exact ⟨rfl, dd, cc, by unfold fixDown; rw [if_pos (by omega), ← hp156, (sdn_stop hraw196)], hp154, hp155, hH194, hT159, hT160, hT161, hT162, hT163⟩
                ·
                  have hraw197 := hc195
                  try simp only [decide_eq_true_eq, decide_eq_false_iff_not, Bool.not_eq_true', Bool.not_eq_false', Bool.and_eq_true, Bool.or_eq_true, Bool.or_eq_false_iff, Bool.not_not, Bool.and_eq_false_iff] at hc195
                  refine C_skip ?_
                  refine C_draw fun b198 H199 hbase200 hA201 => ?_
                  have hH202 := hH194.keep (by have := hA201.1; omega) (fun q _ => hA201.2 q) ((hH194.old).aside hA201).ok
                  refine D_l (v := v) rfl rfl rfl (r_mv hT159) ?_
                  refine D_l (v := (.i .i64 (((jj : Nat)) : Int))) rfl rfl rfl (r_mv hT164) ?_
                  refine D_l (v := v) rfl rfl rfl (r_mv hT159) ?_
                  refine D_l (v := (.i .i64 (((jj : Nat)) : Int))) rfl rfl rfl (r_mv hT164) ?_
                  refine D_l (v := (.i .i64 ((((jj - 1) : Nat)) : Int))) rfl rfl rfl (by exact (r_subn (a := jj) (b := 1) rfl rfl (by omega) (by omega))) ?_
                  refine D_l (v := v) rfl rfl rfl (r_mv hT159) ?_
                  refine D_l (v := (.i .i64 (((jj : Nat)) : Int))) rfl rfl rfl (r_mv hT164) ?_
                  refine D_l (v := (.i .i64 ((((jj - 1) : Nat)) : Int))) rfl rfl rfl (by exact (r_subn (a := jj) (b := 1) rfl rfl (by omega) (by omega))) ?_
                  refine D_q rfl rfl rfl (by exact Sq.cell hp154 (u_lens dd) hH202.top0 rfl (i := (jj - 1)) rfl (r := [(.i .u32 (dd[(jj - 1)]!))]) (u_get (d := dd) (i := (jj - 1)) (by omega)) (by decide)) fun v204 hv203 => ?_
                  obtain ⟨rb205, ro206, rfl, hrg207, hrt208, hrb209, hput210, hqs211⟩ := hv203
                  refine D_l (v := v) rfl rfl rfl (r_mv hT159) ?_
                  refine D_l (v := (.i .i64 (((jj : Nat)) : Int))) rfl rfl rfl (r_mv hT164) ?_
                  refine D_q rfl rfl rfl (by exact Sq.cell hp154 (u_lens dd) hH202.top0 rfl (i := jj) rfl (r := [(.i .u32 (dd[jj]!))]) (u_get (d := dd) (i := jj) (by omega)) (by decide)) fun v213 hv212 => ?_
                  obtain ⟨rb214, ro215, rfl, hrg216, hrt217, hrb218, hput219, hqs220⟩ := hv212
                  refine D_r (v := (.i .u32 (dd[(jj - 1)]!))) rfl rfl rfl (r_ldR (q := 0) rfl ⟨_, _, hrg207, hrt208⟩ rfl) ?_
                  refine D_r (v := (.i .u32 (dd[jj]!))) rfl rfl rfl (r_ldR (q := 0) rfl ⟨_, _, hrg216, hrt217⟩ rfl) ?_
                  refine D_q rfl rfl rfl (by exact Sq.cell hp154 (u_lens dd) hH202.top0 rfl (i := jj) rfl (r := [(.i .u32 (dd[jj]!))]) (u_get (d := dd) (i := jj) (by omega)) (by decide)) fun v222 hv221 => ?_
                  obtain ⟨rb223, ro224, rfl, hrg225, hrt226, hrb227, hput228, hqs229⟩ := hv221
                  refine D_store (vs := [(.i .u32 (dd[(jj - 1)]!))]) (c' := (putAt cc (ro224 + 0) [(.i .u32 (dd[(jj - 1)]!))])) rfl (by rfl) hrg225 rfl (List.cons_ne_nil _ _) (by have := hrb227; show _ + 1 ≤ _; omega) rfl fun H230 hW231 => ?_
                  have hH233 := Hs.cong0 (Hs.wr0 (Hs.cong0 hH202 (hqs229 _)) hW231) (hqs229 _).symm
                  have hSq232 := hput228 0 [(.i .u32 (dd[(jj - 1)]!))] [(.i .u32 (dd[(jj - 1)]!))] (Nat.le_of_ble_eq_true rfl) rfl
                  obtain ⟨dd234, he235⟩ : ∃ z : Array Int, z = dd.setIfInBounds jj (dd[(jj - 1)]!) := ⟨_, rfl⟩
                  have hs237 : Sq 1 v (putAt cc (ro224 + 0) [(.i .u32 (dd[(jj - 1)]!))]) (dU dd234).flatten := by rw [he235, ← u_set]; exact hSq232
                  have hn236 : dd234.size = n := by rw [he235, Array.size_setIfInBounds]; exact hp155
                  refine And.intro (And.intro (Or.inl rfl) (And.intro (Or.inl rfl) True.intro)) ?_
                  refine D_q rfl rfl rfl (by exact Sq.cell hs237 (u_lens dd234) hH233.top0 rfl (i := (jj - 1)) rfl (r := [(.i .u32 (dd234[(jj - 1)]!))]) (u_get (d := dd234) (i := (jj - 1)) (by omega)) (by decide)) fun v239 hv238 => ?_
                  obtain ⟨rb240, ro241, rfl, hrg242, hrt243, hrb244, hput245, hqs246⟩ := hv238
                  refine D_store (vs := [(.i .u32 (dd[jj]!))]) (c' := (putAt (putAt cc (ro224 + 0) [(.i .u32 (dd[(jj - 1)]!))]) (ro241 + 0) [(.i .u32 (dd[jj]!))])) rfl (by rfl) hrg242 rfl (List.cons_ne_nil _ _) (by have := hrb244; show _ + 1 ≤ _; omega) rfl fun H247 hW248 => ?_
                  have hH250 := Hs.cong0 (Hs.wr0 (Hs.cong0 hH233 (hqs246 _)) hW248) (hqs246 _).symm
                  have hSq249 := hput245 0 [(.i .u32 (dd[jj]!))] [(.i .u32 (dd[jj]!))] (Nat.le_of_ble_eq_true rfl) rfl
                  obtain ⟨dd251, he252⟩ : ∃ z : Array Int, z = dd234.setIfInBounds (jj - 1) (dd[jj]!) := ⟨_, rfl⟩
                  have hs254 : Sq 1 v (putAt (putAt cc (ro224 + 0) [(.i .u32 (dd[(jj - 1)]!))]) (ro241 + 0) [(.i .u32 (dd[jj]!))]) (dU dd251).flatten := by rw [he252, ← u_set]; exact hSq249
                  have hn253 : dd251.size = n := by rw [he252, Array.size_setIfInBounds]; exact hn236
                  refine And.intro True.intro ?_
                  refine D_nil ?_
                  refine C_region ?_
                  refine O_p (.i .i64 (((jj : Nat)) : Int)) (r_mv hT164) ?_
                  refine O_p (.i .i64 ((((jj - 1) : Nat)) : Int)) (by exact (r_subn (a := jj) (b := 1) rfl rfl (by omega) (by omega))) ?_
                  refine O_p (.i .i64 ((((jj - 1) : Nat)) : Int)) (r_mv rfl) ?_
                  refine O_nil ?_
                  exact ⟨((jj - 1)), by omega, dd251, (putAt (putAt cc (ro224 + 0) [(.i .u32 (dd[(jj - 1)]!))]) (ro241 + 0) [(.i .u32 (dd[jj]!))]), (jj - 1), rfl, hs254, hn253, by rw [he252, he235]; refine Eq.trans ?_ hp156; exact (sdn_go (by omega) hraw197).symm, by omega, by omega, hH250, hT159, hT160, hT161, hT162, hT163, rfl⟩
              ·
                have hraw255 := hc166
                try simp only [decide_eq_true_eq, decide_eq_false_iff_not, Bool.not_eq_true', Bool.not_eq_false', Bool.and_eq_true, Bool.or_eq_true, Bool.or_eq_false_iff, Bool.not_not, Bool.and_eq_false_iff] at hc166
                refine C_exit ?_
                refine nx_exit ?_
                refine nx_exit ?_
                refine bk_hit ?_
                exact ⟨rfl, dd, cc, by unfold fixDown; rw [if_pos (by omega), ← hp156, (sdn_zero (by omega))], hp154, hp155, hH165, hT159, hT160, hT161, hT162, hT163⟩
            ·
              have hraw256 := hc147
              try simp only [decide_eq_true_eq, decide_eq_false_iff_not, Bool.not_eq_true', Bool.not_eq_false', Bool.and_eq_true, Bool.or_eq_true, Bool.or_eq_false_iff, Bool.not_not, Bool.and_eq_false_iff] at hc147
              refine C_skip ?_
              exact ⟨rfl, dd140, (putAt (putAt c1 (ro113 + 0) [(.i .u32 (d1[(ix - 1)]!))]) (ro130 + 0) [(.i .u32 (d1[ix]!))]), by unfold fixDown; rw [if_neg (by omega)], hs143, hn142, hH139, hT75, hT76, hT77, hT78, hT79⟩
          ·
            obtain ⟨d2, d2c, hp257, hp258, hp259, hH265, hT260, hT261, hT262, hT263, hT264⟩ := hI146
            refine C_seq ?_
            refine C_region ?_
            refine O_p (.i .i64 (((b : Nat)) : Int)) (r_mv hT262) ?_
            refine O_p (.i .i64 (((ix : Nat)) : Int)) (r_mv hT264) ?_
            refine O_p (.i .i64 ((((b - ix) : Nat)) : Int)) (by exact (r_subn (a := b) (b := ix) rfl rfl (by omega) (by omega))) ?_
            refine O_p (.b (decide (2 ≤ ((((b - ix) : Nat)) : Int)))) (r_geq rfl rfl) ?_
            refine O_nil ?_
            refine C_cond (x := (decide (2 ≤ ((((b - ix) : Nat)) : Int)))) rfl (fun hc266 => ?_) (fun hc266 => ?_)
            ·
              have hraw267 := hc266
              try simp only [decide_eq_true_eq, decide_eq_false_iff_not, Bool.not_eq_true', Bool.not_eq_false', Bool.and_eq_true, Bool.or_eq_true, Bool.or_eq_false_iff, Bool.not_not, Bool.and_eq_false_iff] at hc266
              refine C_seq ?_
              refine C_region ?_
              refine O_p (.i .i64 (((ix : Nat)) : Int)) (r_mv hT264) ?_
              refine O_p (.i .i64 ((((ix : Nat)) : Int) + 1)) (by exact (r_addi rfl rfl (wrap_i64 (by omega) (by omega)))) ?_
              refine O_p (.i .i64 ((((ix : Nat)) : Int) + 1)) (r_mv rfl) ?_
              refine O_nil ?_
              refine C_block ?_
              refine C_while (fun m268 T269 H270 => ∃ du : Array Int, ∃ cu : List AV, ∃ jj : Nat, m268 = b - jj ∧ Sq 1 v cu (dU du).flatten ∧ du.size = n ∧ shiftUp ltInt b jj du = shiftUp ltInt b (ix + 1) d2 ∧ ix < jj ∧ jj ≤ b ∧ Hs H270 ((qseg v cu) ++ (R)) ∧ T269.get 0 = v ∧ T269.get 1 = (.i .i64 (((a : Nat)) : Int)) ∧ T269.get 2 = (.i .i64 (((b : Nat)) : Int)) ∧ T269.get 8 = (.i .i64 (((k : Nat)) : Int)) ∧ T269.get 7 = (.i .i64 (((ix : Nat)) : Int)) ∧ T269.get 10 = (.i .i64 (((jj : Nat)) : Int))) (fun m268 T269 H270 hI271 => ?_) (b - (ix + 1)) _ _ ⟨d2, d2c, (ix + 1), rfl, hp258, hp259, rfl, by omega, by omega, hH265, hT260, hT261, hT262, hT263, hT264, rfl⟩
              obtain ⟨du, cu, jj, hm272, hp273, hp274, hp275, hp276, hp277, hH284, hT278, hT279, hT280, hT281, hT282, hT283⟩ := hI271
              refine C_seq ?_
              refine C_seq ?_
              refine C_region ?_
              refine O_p (.i .i64 (((jj : Nat)) : Int)) (r_mv hT283) ?_
              refine O_p (.i .i64 (((b : Nat)) : Int)) (r_mv hT280) ?_
              refine O_p (.b (decide ((((jj : Nat)) : Int) < (((b : Nat)) : Int)))) (r_lss rfl rfl) ?_
              refine O_nil ?_
              refine C_cond (x := (decide ((((jj : Nat)) : Int) < (((b : Nat)) : Int)))) rfl (fun hc285 => ?_) (fun hc285 => ?_)
              ·
                have hraw286 := hc285
                try simp only [decide_eq_true_eq, decide_eq_false_iff_not, Bool.not_eq_true', Bool.not_eq_false', Bool.and_eq_true, Bool.or_eq_true, Bool.or_eq_false_iff, Bool.not_not, Bool.and_eq_false_iff] at hc285
                refine C_skip ?_
                refine C_seq ?_
                refine C_block ?_
                refine C_seq ?_
                refine C_seq ?_
                refine C_draw fun b287 H288 hbase289 hA290 => ?_
                have hH291 := hH284.keep (by have := hA290.1; omega) (fun q _ => hA290.2 q) ((hH284.old).aside hA290).ok
                refine D_l (v := v) rfl rfl rfl (r_mv hT278) ?_
                refine D_l (v := (.i .i64 (((jj : Nat)) : Int))) rfl rfl rfl (r_mv hT283) ?_
                refine D_q rfl rfl rfl (by exact Sq.cell hp273 (u_lens du) hH291.top0 rfl (i := jj) rfl (r := [(.i .u32 (du[jj]!))]) (u_get (d := du) (i := jj) (by omega)) (by decide)) fun v293 hv292 => ?_
                obtain ⟨rb294, ro295, rfl, hrg296, hrt297, hrb298, hput299, hqs300⟩ := hv292
                refine D_l (v := v) rfl rfl rfl (r_mv hT278) ?_
                refine D_l (v := (.i .i64 (((jj : Nat)) : Int))) rfl rfl rfl (r_mv hT283) ?_
                refine D_l (v := (.i .i64 ((((jj - 1) : Nat)) : Int))) rfl rfl rfl (by exact (r_subn (a := jj) (b := 1) rfl rfl (by omega) (by omega))) ?_
                refine D_q rfl rfl rfl (by exact Sq.cell hp273 (u_lens du) hH291.top0 rfl (i := (jj - 1)) rfl (r := [(.i .u32 (du[(jj - 1)]!))]) (u_get (d := du) (i := (jj - 1)) (by omega)) (by decide)) fun v302 hv301 => ?_
                obtain ⟨rb303, ro304, rfl, hrg305, hrt306, hrb307, hput308, hqs309⟩ := hv301
                refine D_r (v := (.i .u32 (du[jj]!))) rfl rfl rfl (r_ldR (q := 0) rfl ⟨_, _, hrg296, hrt297⟩ rfl) ?_
                refine D_r (v := (.i .u32 (du[(jj - 1)]!))) rfl rfl rfl (r_ldR (q := 0) rfl ⟨_, _, hrg305, hrt306⟩ rfl) ?_
                refine D_call (Ev.mono (less_ev (x := (du[jj]!)) (y := (du[(jj - 1)]!)) hH291) fun v310 H311 hq312 => ?_)
                obtain ⟨rfl, hH313⟩ := hq312
                refine And.intro (And.intro (Or.inl rfl) (And.intro (Or.inl rfl) True.intro)) ?_
                refine D_l (v := (.b (!(decide ((du[jj]!) < (du[(jj - 1)]!)))))) rfl rfl rfl (r_not rfl) ?_
                refine D_nil ?_
                refine C_cond (x := (!(decide ((du[jj]!) < (du[(jj - 1)]!))))) rfl (fun hc314 => ?_) (fun hc314 => ?_)
                ·
                  have hraw315 := hc314
                  try simp only [decide_eq_true_eq, decide_eq_false_iff_not, Bool.not_eq_true', Bool.not_eq_false', Bool.and_eq_true, Bool.or_eq_true, Bool.or_eq_false_iff, Bool.not_not, Bool.and_eq_false_iff] at hc314
                  refine C_exit ?_
                  refine nx_exit ?_
                  refine bk_miss (by decide) ?_
                  refine nx_exit ?_
                  refine nx_exit ?_
                  refine bk_hit ?_
                  refine C_region ?_
                  refine O_p (.i .i64 (((k : Nat)) : Int)) (r_mv hT281) ?_
                  refine O_p (.i .i64 ((((k : Nat)) : Int) + 1)) (by exact (r_addi rfl rfl (wrap_i64 (by omega) (by omega)))) ?_
                  refine O_p (.i .i64 ((((k : Nat)) : Int) + 1)) (r_mv rfl) ?_
                  refine O_nil ?_
                  have hfu : du = fixUp ltInt b ix d2 := by unfold fixUp; rw [if_pos (by omega), ← hp275, (sup_stop hraw315)]
                  exact ⟨(5 - (k + 1)), by omega, du, cu, ix, (k + 1), rfl, hp273, hp274, by rw [← hp8, show 5 - k = (5 - (k + 1)) + 1 by omega, Go.Sort.partialIns_succ, hp72, if_neg (show ¬ ix = b by omega), if_neg (show ¬ b - a < 50 by omega), ← hsw, ← hp257, ← hfu], by omega, by omega, by omega, hH313, hT278, hT279, hT280, hT282, rfl⟩
                ·
                  have hraw316 := hc314
                  try simp only [decide_eq_true_eq, decide_eq_false_iff_not, Bool.not_eq_true', Bool.not_eq_false', Bool.and_eq_true, Bool.or_eq_true, Bool.or_eq_false_iff, Bool.not_not, Bool.and_eq_false_iff] at hc314
                  refine C_skip ?_
                  refine C_draw fun b317 H318 hbase319 hA320 => ?_
                  have hH321 := hH313.keep (by have := hA320.1; omega) (fun q _ => hA320.2 q) ((hH313.old).aside hA320).ok
                  refine D_l (v := v) rfl rfl rfl (r_mv hT278) ?_
                  refine D_l (v := (.i .i64 (((jj : Nat)) : Int))) rfl rfl rfl (r_mv hT283) ?_
                  refine D_l (v := v) rfl rfl rfl (r_mv hT278) ?_
                  refine D_l (v := (.i .i64 (((jj : Nat)) : Int))) rfl rfl rfl (r_mv hT283) ?_
                  refine D_l (v := (.i .i64 ((((jj - 1) : Nat)) : Int))) rfl rfl rfl (by exact (r_subn (a := jj) (b := 1) rfl rfl (by omega) (by omega))) ?_
                  refine D_l (v := v) rfl rfl rfl (r_mv hT278) ?_
                  refine D_l (v := (.i .i64 (((jj : Nat)) : Int))) rfl rfl rfl (r_mv hT283) ?_
                  refine D_l (v := (.i .i64 ((((jj - 1) : Nat)) : Int))) rfl rfl rfl (by exact (r_subn (a := jj) (b := 1) rfl rfl (by omega) (by omega))) ?_
                  refine D_q rfl rfl rfl (by exact Sq.cell hp273 (u_lens du) hH321.top0 rfl (i := (jj - 1)) rfl (r := [(.i .u32 (du[(jj - 1)]!))]) (u_get (d := du) (i := (jj - 1)) (by omega)) (by decide)) fun v323 hv322 => ?_
                  obtain ⟨rb324, ro325, rfl, hrg326, hrt327, hrb328, hput329, hqs330⟩ := hv322
                  refine D_l (v := v) rfl rfl rfl (r_mv hT278) ?_
                  refine D_l (v := (.i .i64 (((jj : Nat)) : Int))) rfl rfl rfl (r_mv hT283) ?_
                  refine D_q rfl rfl rfl (by exact Sq.cell hp273 (u_lens du) hH321.top0 rfl (i := jj) rfl (r := [(.i .u32 (du[jj]!))]) (u_get (d := du) (i := jj) (by omega)) (by decide)) fun v332 hv331 => ?_
                  obtain ⟨rb333, ro334, rfl, hrg335, hrt336, hrb337, hput338, hqs339⟩ := hv331
                  refine D_r (v := (.i .u32 (du[(jj - 1)]!))) rfl rfl rfl (r_ldR (q := 0) rfl ⟨_, _, hrg326, hrt327⟩ rfl) ?_
                  refine D_r (v := (.i .u32 (du[jj]!))) rfl rfl rfl (r_ldR (q := 0) rfl ⟨_, _, hrg335, hrt336⟩ rfl) ?_
                  refine D_q rfl rfl rfl (by exact Sq.cell hp273 (u_lens du) hH321.top0 rfl (i := jj) rfl (r := [(.i .u32 (du[jj]!))]) (u_get (d := du) (i := jj) (by omega)) (by decide)) fun v341 hv340 => ?_
                  obtain ⟨rb342, ro343, rfl, hrg344, hrt345, hrb346, hput347, hqs348⟩ := hv340
                  refine D_store (vs := [(.i .u32 (du[(jj - 1)]!))]) (c' := (putAt cu (ro343 + 0) [(.i .u32 (du[(jj - 1)]!))])) rfl (by rfl) hrg344 rfl (List.cons_ne_nil _ _) (by have := hrb346; show _ + 1 ≤ _; omega) rfl fun H349 hW350 => ?_
                  have hH352 := Hs.cong0 (Hs.wr0 (Hs.cong0 hH321 (hqs348 _)) hW350) (hqs348 _).symm
                  have hSq351 := hput347 0 [(.i .u32 (du[(jj - 1)]!))] [(.i .u32 (du[(jj - 1)]!))] (Nat.le_of_ble_eq_true rfl) rfl
                  obtain ⟨dd353, he354⟩ : ∃ z : Array Int, z = du.setIfInBounds jj (du[(jj - 1)]!) := ⟨_, rfl⟩
                  have hs356 : Sq 1 v (putAt cu (ro343 + 0) [(.i .u32 (du[(jj - 1)]!))]) (dU dd353).flatten := by rw [he354, ← u_set]; exact hSq351
                  have hn355 : dd353.size = n := by rw [he354, Array.size_setIfInBounds]; exact hp274
                  refine And.intro (And.intro (Or.inl rfl) (And.intro (Or.inl rfl) True.intro)) ?_
                  refine D_q rfl rfl rfl (by exact Sq.cell hs356 (u_lens dd353) hH352.top0 rfl (i := (jj - 1)) rfl (r := [(.i .u32 (dd353[(jj - 1)]!))]) (u_get (d := dd353) (i := (jj - 1)) (by omega)) (by decide)) fun v358 hv357 => ?_
                  obtain ⟨rb359, ro360, rfl, hrg361, hrt362, hrb363, hput364, hqs365⟩ := hv357
                  refine D_store (vs := [(.i .u32 (du[jj]!))]) (c' := (putAt (putAt cu (ro343 + 0) [(.i .u32 (du[(jj - 1)]!))]) (ro360 + 0) [(.i .u32 (du[jj]!))])) rfl (by rfl) hrg361 rfl (List.cons_ne_nil _ _) (by have := hrb363; show _ + 1 ≤ _; omega) rfl fun H366 hW367 => ?_
                  have hH369 := Hs.cong0 (Hs.wr0 (Hs.cong0 hH352 (hqs365 _)) hW367) (hqs365 _).symm
                  have hSq368 := hput364 0 [(.i .u32 (du[jj]!))] [(.i .u32 (du[jj]!))] (Nat.le_of_ble_eq_true rfl) rfl
                  obtain ⟨dd370, he371⟩ : ∃ z : Array Int, z = dd353.setIfInBounds (jj - 1) (du[jj]!) := ⟨_, rfl⟩
                  have hs373 : Sq 1 v (putAt (putAt cu (ro343 + 0) [(.i .u32 (du[(jj - 1)]!))]) (ro360 + 0) [(.i .u32 (du[jj]!))]) (dU dd370).flatten := by rw [he371, ← u_set]; exact hSq368
                  have hn372 : dd370.size = n := by rw [he371, Array.size_setIfInBounds]; exact hn355
                  refine And.intro True.intro ?_
                  refine D_nil ?_
                  refine C_region ?_
                  refine O_p (.i .i64 (((jj : Nat)) : Int)) (r_mv hT283) ?_
                  refine O_p (.i .i64 ((((jj : Nat)) : Int) + 1)) (by exact (r_addi rfl rfl (wrap_i64 (by omega) (by omega)))) ?_
                  refine O_p (.i .i64 ((((jj : Nat)) : Int) + 1)) (r_mv rfl) ?_
                  refine O_nil ?_
                  exact ⟨(b - (jj + 1)), by omega, dd370, (putAt (putAt cu (ro343 + 0) [(.i .u32 (du[(jj - 1)]!))]) (ro360 + 0) [(.i .u32 (du[jj]!))]), (jj + 1), rfl, hs373, hn372, by rw [he371, he354]; refine Eq.trans ?_ hp275; exact (sup_go (by omega) hraw316).symm, by omega, by omega, hH369, hT278, hT279, hT280, hT281, hT282, rfl⟩
              ·
                have hraw374 := hc285
                try simp only [decide_eq_true_eq, decide_eq_false_iff_not, Bool.not_eq_true', Bool.not_eq_false', Bool.and_eq_true, Bool.or_eq_true, Bool.or_eq_false_iff, Bool.not_not, Bool.and_eq_false_iff] at hc285
                refine C_exit ?_
                refine nx_exit ?_
                refine nx_exit ?_
                refine bk_hit ?_
                refine C_region ?_
                refine O_p (.i .i64 (((k : Nat)) : Int)) (r_mv hT281) ?_
                refine O_p (.i .i64 ((((k : Nat)) : Int) + 1)) (by exact (r_addi rfl rfl (wrap_i64 (by omega) (by omega)))) ?_
                refine O_p (.i .i64 ((((k : Nat)) : Int) + 1)) (r_mv rfl) ?_
                refine O_nil ?_
                have hfu : du = fixUp ltInt b ix d2 := by unfold fixUp; rw [if_pos (by omega), ← hp275, (sup_end (by omega))]
                exact ⟨(5 - (k + 1)), by omega, du, cu, ix, (k + 1), rfl, hp273, hp274, by rw [← hp8, show 5 - k = (5 - (k + 1)) + 1 by omega, Go.Sort.partialIns_succ, hp72, if_neg (show ¬ ix = b by omega), if_neg (show ¬ b - a < 50 by omega), ← hsw, ← hp257, ← hfu], by omega, by omega, by omega, hH284, hT278, hT279, hT280, hT282, rfl⟩
            ·
              have hraw375 := hc266
              try simp only [decide_eq_true_eq, decide_eq_false_iff_not, Bool.not_eq_true', Bool.not_eq_false', Bool.and_eq_true, Bool.or_eq_true, Bool.or_eq_false_iff, Bool.not_not, Bool.and_eq_false_iff] at hc266
              refine C_skip ?_
              refine C_region ?_
              refine O_p (.i .i64 (((k : Nat)) : Int)) (r_mv hT263) ?_
              refine O_p (.i .i64 ((((k : Nat)) : Int) + 1)) (by exact (r_addi rfl rfl (wrap_i64 (by omega) (by omega)))) ?_
              refine O_p (.i .i64 ((((k : Nat)) : Int) + 1)) (r_mv rfl) ?_
              refine O_nil ?_
              have hfu : d2 = fixUp ltInt b ix d2 := by unfold fixUp; rw [if_neg (by omega)]
              exact ⟨(5 - (k + 1)), by omega, d2, d2c, ix, (k + 1), rfl, hp258, hp259, by rw [← hp8, show 5 - k = (5 - (k + 1)) + 1 by omega, Go.Sort.partialIns_succ, hp72, if_neg (show ¬ ix = b by omega), if_neg (show ¬ b - a < 50 by omega), ← hsw, ← hp257, ← hfu], by omega, by omega, by omega, hH265, hT260, hT261, hT262, hT264, rfl⟩
  ·
    have hraw376 := hc18
    try simp only [decide_eq_true_eq, decide_eq_false_iff_not, Bool.not_eq_true', Bool.not_eq_false', Bool.and_eq_true, Bool.or_eq_true, Bool.or_eq_false_iff, Bool.not_not, Bool.and_eq_false_iff] at hc18
    refine C_exit ?_
    refine nx_exit ?_
    refine nx_exit ?_
    refine bk_hit ?_
    refine C_seq ?_
    refine C_region ?_
    refine O_p (.b false) (r_mv rfl) ?_
    refine O_nil ?_
    refine C_ret ?_
    exact ⟨.inr rfl, _, resL_one (r_tmp (v := (.b false)) rfl), false, d1, c1, rfl, by unfold partialInsertionSort; rw [← hp8, show 5 - k = 0 by omega]; rfl, hp7, hp6, hH17⟩


set_option linter.unusedVariables false
set_option linter.unusedSimpArgs false
open Go.Sort (swp PermIn SortedIn Below ltInt)
section
variable {T : Tm} {H : AH} {c : CallF} {x y : XO}
theorem r_shrn {a s : Nat} {l : IntKind} (hx : x.ev T = .i .u64 ((a : Nat) : Int)) (hy : y.ev T = .i l ((s : Nat) : Int)) (hs : s ≤ 64) : (XOp.bin .shr x y).run c T H = some (.i .u64 ((a / 2 ^ s : Nat) : Int), H) := by
  refine r_bin hx hy ?_
  show (if ((s : Nat) : Int) < 0 then none else some (AV.i .u64 (Int.fdiv ((a : Nat) : Int) (2 ^ (min ((s : Nat) : Int).toNat 64))))) = _
  rw [if_neg (by omega), Int.toNat_natCast, Nat.min_eq_left hs, Int.fdiv_eq_ediv_of_nonneg _ (Int.le_of_lt (Int.pow_pos (by decide)))]
  norm_cast
theorem r_shl1 {l : Nat} (hx : x.ev T = .i .u64 1) (hy : y.ev T = .i .i64 ((l : Nat) : Int)) (hl : l ≤ 62) : (XOp.bin .shl x y).run c T H = some (.i .u64 ((2 ^ l : Nat) : Int), H) := by
  refine r_bin hx hy ?_
  show (if ((l : Nat) : Int) < 0 then none else some (AV.i .u64 (IntKind.u64.wrap ((1 : Int) * 2 ^ (min ((l : Nat) : Int).toNat 64))))) = _
  have h2 : 2 ^ l < 2 ^ 63 := Nat.pow_lt_pow_right (by decide) (by omega)
  rw [if_neg (by omega), Int.toNat_natCast, Nat.min_eq_left (by omega), Int.one_mul, wrap_u64, show ((2 : Int) ^ l) = ((2 ^ l : Nat) : Int) by norm_cast]
  obtain ⟨z, hz⟩ : ∃ z, z = 2 ^ l := ⟨_, rfl⟩
  rw [← hz] at h2 ⊢
  rw [Int.emod_eq_of_lt (by omega) (by omega)]
/-- A mask of a u64 is a natural number. -/
theorem mask_nat (a : Int) (m : Nat) (hm : m < 9223372036854775808) : ∃ k : Nat, k = (BitVec.ofInt 64 a &&& BitVec.ofInt 64 (m : Int)).toNat ∧ k ≤ m := by
  have h := and_mask (n := 64) a m (by omega)
  exact ⟨_, rfl, by omega⟩
theorem r_mask {a : Int} {m k : Nat} (hk : k = (BitVec.ofInt 64 a &&& BitVec.ofInt 64 (m : Int)).toNat ∧ k ≤ m) (hm : m < 9223372036854775808) (hx : x.ev T = .i .u64 a) (hy : y.ev T = .i .u64 ((m : Nat) : Int)) : (XOp.bin .and x y).run c T H = some (.i .u64 ((k : Nat) : Int), H) := by
  refine r_bin hx hy ?_
  show some (AV.i .u64 (IntKind.u64.wrap ((BitVec.ofInt 64 a &&& BitVec.ofInt 64 (m : Int)).toNat : Int))) = _
  rw [← hk.1, wrap_u64, Int.emod_eq_of_lt (by omega) (by omega)]
theorem O_callA {tab : Nat → Option XFun} {sp : Nat → List AV → AH → Option (AV × AH)} {R : Tm → AH → Prop} {d : Nat} {f : XO} {args : List XO} {vs : List AV} {ix : Nat} {bef : List Nat} {l : List XOper} (ha : args.map (·.ev T) = vs) (h : Ev tab sp (f.ev T) vs H (fun v H' => O tab sp l ((d, v) :: T) H' R)) : O tab sp (⟨some d, .call f args, none, ix, bef⟩ :: l) T H R := O_call (by rw [ha]; exact h)
end
def len8 : ByteArray := ⟨#[0, 1, 2, 2, 3, 3, 3, 3, 4, 4, 4, 4, 4, 4, 4, 4, 5, 5, 5, 5, 5, 5, 5, 5, 5, 5, 5, 5, 5, 5, 5, 5, 6, 6, 6, 6, 6, 6, 6, 6, 6, 6, 6, 6, 6, 6, 6, 6, 6, 6, 6, 6, 6, 6, 6, 6, 6, 6, 6, 6, 6, 6, 6, 6, 7, 7, 7, 7, 7, 7, 7, 7, 7, 7, 7, 7, 7, 7, 7, 7, 7, 7, 7, 7, 7, 7, 7, 7, 7, 7, 7, 7, 7, 7, 7, 7, 7, 7, 7, 7, 7, 7, 7, 7, 7, 7, 7, 7, 7, 7, 7, 7, 7, 7, 7, 7, 7, 7, 7, 7, 7, 7, 7, 7, 7, 7, 7, 7, 8, 8, 8, 8, 8, 8, 8, 8, 8, 8, 8, 8, 8, 8, 8, 8, 8, 8, 8, 8, 8, 8, 8, 8, 8, 8, 8, 8, 8, 8, 8, 8, 8, 8, 8, 8, 8, 8, 8, 8, 8, 8, 8, 8, 8, 8, 8, 8, 8, 8, 8, 8, 8, 8, 8, 8, 8, 8, 8, 8, 8, 8, 8, 8, 8, 8, 8, 8, 8, 8, 8, 8, 8, 8, 8, 8, 8, 8, 8, 8, 8, 8, 8, 8, 8, 8, 8, 8, 8, 8, 8, 8, 8, 8, 8, 8, 8, 8, 8, 8, 8, 8, 8, 8, 8, 8, 8, 8, 8, 8, 8, 8, 8, 8, 8, 8, 8, 8, 8, 8, 8, 8, 8, 8, 8, 8, 8, 8]⟩
theorem len8_all : ((List.range 256).all fun m => match len8[m]? with | some y => decide (y.toNat ≤ 8) && decide (2 ^ y.toNat ≤ 2 * m + 1) | none => false) = true := by kernel_rfl
theorem len8_at {m : Nat} (h : m < 256) : ∃ y : UInt8, len8[m]? = some y ∧ y.toNat ≤ 8 ∧ 2 ^ y.toNat ≤ 2 * m + 1 := by
  have e := List.all_eq_true.1 len8_all m (List.mem_range.2 h)
  cases hq : len8[m]? with
  | none => rw [hq] at e; cases e
  | some y => rw [hq] at e; simp only [Bool.and_eq_true, decide_eq_true_eq] at e; exact ⟨y, rfl, e.1, e.2⟩
theorem pow8 {y m n : Nat} (h : 2 ^ y ≤ 2 * m + 1) (hy : y ≤ 8) (hm : m = n / 256) (h2 : 256 ≤ n) : 2 ^ (8 + y) ≤ 2 * n + 1 := by
  rw [Nat.pow_add]
  rcases y with _ | y
  · omega
  · rw [Nat.pow_succ] at h ⊢; omega
theorem pow16 {y m n : Nat} (h : 2 ^ y ≤ 2 * m + 1) (hy : y ≤ 8) (hm : m = n / 65536) (h2 : 65536 ≤ n) : 2 ^ (16 + y) ≤ 2 * n + 1 := by
  rw [Nat.pow_add]
  rcases y with _ | y
  · omega
  · rw [Nat.pow_succ] at h ⊢; omega
theorem pow_ev {l n : Nat} (h : 2 ^ l ≤ 2 * n + 1) (hn : 0 < n) : 2 ^ l ≤ 2 * n := by
  rcases l with _ | l
  · omega
  · rw [Nat.pow_succ] at h ⊢; omega
theorem len64_ev {H : AH} {R : HL} {n : Nat} (hn : n ≤ 1000000) (hH0 : Hs H R) : Ev tabS spS (.fn (.func 50) [] []) [.i .u64 ((n : Nat) : Int)] H (fun r H' => ∃ l : Nat, r = .i .i64 ((l : Nat) : Int) ∧ l ≤ 24 ∧ 2 ^ l ≤ 2 * n + 1 ∧ Hs H' R) := by
  refine Ev_C (F := x50) rfl ?_
  refine C_seq ?_
  refine C_region ?_
  refine O_p (.i .i64 0) (r_mv rfl) ?_
  refine O_nil ?_
  refine C_seq ?_
  refine C_seq ?_
  refine C_region ?_
  refine O_p (.i .u64 ((n : Nat) : Int)) (r_mv rfl) ?_
  refine O_p (.b false) (by exact (by rw [r_geq rfl rfl, decide_eq_false (by omega)])) ?_
  refine O_nil ?_
  refine C_cond (x := false) rfl (fun h => by cases h) (fun _ => ?_)
  refine C_skip ?_
  refine C_seq ?_
  refine C_seq ?_
  refine C_region ?_
  refine O_p (.i .u64 ((n : Nat) : Int)) (r_mv rfl) ?_
  refine O_p (.b (decide (65536 ≤ ((n : Nat) : Int)))) (r_geq rfl rfl) ?_
  refine O_nil ?_
  refine C_cond (x := (decide (65536 ≤ ((n : Nat) : Int)))) rfl (fun hc1 => ?_) (fun hc1 => ?_)
  ·
    try simp only [decide_eq_true_eq, decide_eq_false_iff_not, Bool.not_eq_true', Bool.not_eq_false', Bool.and_eq_true, Bool.or_eq_true, Bool.or_eq_false_iff, Bool.not_not, Bool.and_eq_false_iff] at hc1
    refine C_seq ?_
    refine C_region ?_
    refine O_p (.i .u64 ((n : Nat) : Int)) (r_mv rfl) ?_
    refine O_p (.i .u64 (((n / 2 ^ 16) : Nat) : Int)) (by exact (r_shrn (a := n) (s := 16) rfl rfl (by decide))) ?_
    refine O_p (.i .u64 (((n / 2 ^ 16) : Nat) : Int)) (r_mv rfl) ?_
    refine O_nil ?_
    refine C_region ?_
    refine O_p (.i .i64 0) (r_mv rfl) ?_
    refine O_p (.i .i64 16) (r_bin rfl rfl rfl) ?_
    refine O_p (.i .i64 16) (r_mv rfl) ?_
    refine O_nil ?_
    refine C_seq ?_
    refine C_seq ?_
    refine C_region ?_
    refine O_p (.i .u64 (((n / 2 ^ 16) : Nat) : Int)) (r_mv rfl) ?_
    refine O_p (.b false) (by exact (by rw [r_geq rfl rfl, decide_eq_false (by omega)])) ?_
    refine O_nil ?_
    refine C_cond (x := false) rfl (fun h => by cases h) (fun _ => ?_)
    refine C_skip ?_
    refine C_seq ?_
    refine C_region ?_
    refine O_p (.i .i64 16) (r_mv rfl) ?_
    refine O_p (.i .u64 (((n / 2 ^ 16) : Nat) : Int)) (r_mv rfl) ?_
    obtain ⟨m2, hm2⟩ : ∃ z : Nat, z = (n / 2 ^ 16) := ⟨_, rfl⟩
    obtain ⟨y3, hy3, hby3, hpy3⟩ := len8_at (m := m2) (by omega)
    refine O_p (.i .u8 ((m2 : Nat) : Int)) (by exact (by rw [r_cint' (m := ((m2 : Nat) : Int)) rfl (by rw [wrap_u8]; omega)])) ?_
    refine O_p (.i .u8 ((y3.toNat : Nat) : Int)) (by exact (r_idxs (s := len8) (y := y3) rfl rfl (by omega) (by rw [Int.toNat_natCast]; exact hy3))) ?_
    refine O_p (.i .i64 (((y3.toNat : Nat)) : Int)) (by exact (by rw [r_cint' (m := ((y3.toNat : Nat) : Int)) rfl (wrap_i64 (by omega) (by omega))])) ?_
    refine O_p (.i .i64 (16 + (((y3.toNat : Nat)) : Int))) (by exact (r_addi rfl rfl (wrap_i64 (by omega) (by omega)))) ?_
    refine O_p (.i .i64 (16 + (((y3.toNat : Nat)) : Int))) (r_mv rfl) ?_
    refine O_nil ?_
    refine C_ret ?_
    exact ⟨.inr rfl, _, resL_one (r_tmp (v := (.i .i64 (16 + (((y3.toNat : Nat)) : Int)))) rfl), (16 + y3.toNat), rfl, by omega, pow16 hpy3 hby3 (by omega) (by omega), hH0⟩
  ·
    try simp only [decide_eq_true_eq, decide_eq_false_iff_not, Bool.not_eq_true', Bool.not_eq_false', Bool.and_eq_true, Bool.or_eq_true, Bool.or_eq_false_iff, Bool.not_not, Bool.and_eq_false_iff] at hc1
    refine C_skip ?_
    refine C_seq ?_
    refine C_seq ?_
    refine C_region ?_
    refine O_p (.i .u64 ((n : Nat) : Int)) (r_mv rfl) ?_
    refine O_p (.b (decide (256 ≤ ((n : Nat) : Int)))) (r_geq rfl rfl) ?_
    refine O_nil ?_
    refine C_cond (x := (decide (256 ≤ ((n : Nat) : Int)))) rfl (fun hc4 => ?_) (fun hc4 => ?_)
    ·
      try simp only [decide_eq_true_eq, decide_eq_false_iff_not, Bool.not_eq_true', Bool.not_eq_false', Bool.and_eq_true, Bool.or_eq_true, Bool.or_eq_false_iff, Bool.not_not, Bool.and_eq_false_iff] at hc4
      refine C_seq ?_
      refine C_region ?_
      refine O_p (.i .u64 ((n : Nat) : Int)) (r_mv rfl) ?_
      refine O_p (.i .u64 (((n / 2 ^ 8) : Nat) : Int)) (by exact (r_shrn (a := n) (s := 8) rfl rfl (by decide))) ?_
      refine O_p (.i .u64 (((n / 2 ^ 8) : Nat) : Int)) (r_mv rfl) ?_
      refine O_nil ?_
      refine C_region ?_
      refine O_p (.i .i64 0) (r_mv rfl) ?_
      refine O_p (.i .i64 8) (r_bin rfl rfl rfl) ?_
      refine O_p (.i .i64 8) (r_mv rfl) ?_
      refine O_nil ?_
      refine C_seq ?_
      refine C_region ?_
      refine O_p (.i .i64 8) (r_mv rfl) ?_
      refine O_p (.i .u64 (((n / 2 ^ 8) : Nat) : Int)) (r_mv rfl) ?_
      obtain ⟨m5, hm5⟩ : ∃ z : Nat, z = (n / 2 ^ 8) := ⟨_, rfl⟩
      obtain ⟨y6, hy6, hby6, hpy6⟩ := len8_at (m := m5) (by omega)
      refine O_p (.i .u8 ((m5 : Nat) : Int)) (by exact (by rw [r_cint' (m := ((m5 : Nat) : Int)) rfl (by rw [wrap_u8]; omega)])) ?_
      refine O_p (.i .u8 ((y6.toNat : Nat) : Int)) (by exact (r_idxs (s := len8) (y := y6) rfl rfl (by omega) (by rw [Int.toNat_natCast]; exact hy6))) ?_
      refine O_p (.i .i64 (((y6.toNat : Nat)) : Int)) (by exact (by rw [r_cint' (m := ((y6.toNat : Nat) : Int)) rfl (wrap_i64 (by omega) (by omega))])) ?_
      refine O_p (.i .i64 (8 + (((y6.toNat : Nat)) : Int))) (by exact (r_addi rfl rfl (wrap_i64 (by omega) (by omega)))) ?_
      refine O_p (.i .i64 (8 + (((y6.toNat : Nat)) : Int))) (r_mv rfl) ?_
      refine O_nil ?_
      refine C_ret ?_
      exact ⟨.inr rfl, _, resL_one (r_tmp (v := (.i .i64 (8 + (((y6.toNat : Nat)) : Int)))) rfl), (8 + y6.toNat), rfl, by omega, pow8 hpy6 hby6 (by omega) (by omega), hH0⟩
    ·
      try simp only [decide_eq_true_eq, decide_eq_false_iff_not, Bool.not_eq_true', Bool.not_eq_false', Bool.and_eq_true, Bool.or_eq_true, Bool.or_eq_false_iff, Bool.not_not, Bool.and_eq_false_iff] at hc4
      refine C_skip ?_
      refine C_seq ?_
      refine C_region ?_
      refine O_p (.i .i64 0) (r_mv rfl) ?_
      refine O_p (.i .u64 ((n : Nat) : Int)) (r_mv rfl) ?_
      obtain ⟨m7, hm7⟩ : ∃ z : Nat, z = n := ⟨_, rfl⟩
      obtain ⟨y8, hy8, hby8, hpy8⟩ := len8_at (m := m7) (by omega)
      refine O_p (.i .u8 ((m7 : Nat) : Int)) (by exact (by rw [r_cint' (m := ((m7 : Nat) : Int)) rfl (by rw [wrap_u8]; omega)])) ?_
      refine O_p (.i .u8 ((y8.toNat : Nat) : Int)) (by exact (r_idxs (s := len8) (y := y8) rfl rfl (by omega) (by rw [Int.toNat_natCast]; exact hy8))) ?_
      refine O_p (.i .i64 (((y8.toNat : Nat)) : Int)) (by exact (by rw [r_cint' (m := ((y8.toNat : Nat) : Int)) rfl (wrap_i64 (by omega) (by omega))])) ?_
      refine O_p (.i .i64 (0 + (((y8.toNat : Nat)) : Int))) (by exact (r_addi rfl rfl (wrap_i64 (by omega) (by omega)))) ?_
      refine O_p (.i .i64 (0 + (((y8.toNat : Nat)) : Int))) (r_mv rfl) ?_
      refine O_nil ?_
      refine C_ret ?_
      exact ⟨.inr rfl, _, resL_one (r_tmp (v := (.i .i64 (0 + (((y8.toNat : Nat)) : Int)))) rfl), (0 + y8.toNat), rfl, by omega, by rw [hm7] at hpy8; simpa using hpy8, hH0⟩
theorem blen_ev {H : AH} {R : HL} {n : Nat} (hn : n ≤ 1000000) (hH0 : Hs H R) : Ev tabS spS (.fn (.func 38) [] []) [.i .u64 ((n : Nat) : Int)] H (fun r H' => ∃ l : Nat, r = .i .i64 ((l : Nat) : Int) ∧ l ≤ 24 ∧ 2 ^ l ≤ 2 * n + 1 ∧ Hs H' R) := by
  refine Ev_C (F := x38) rfl ?_
  refine C_seq ?_
  refine C_region ?_
  refine O_p (.i .i64 0) (r_mv rfl) ?_
  refine O_nil ?_
  refine C_seq ?_
  refine C_cond (x := false) rfl (fun h => by cases h) (fun _ => ?_)
  refine C_skip ?_
  refine C_seq ?_
  refine C_region ?_
  refine O_p (.i .u64 ((n : Nat) : Int)) (r_mv rfl) ?_
  refine O_call (Ev.mono (len64_ev (n := n) (by omega) hH0) fun v1 H2 hq3 => ?_)
  obtain ⟨l4, rfl, hl5, hp6, hH7⟩ := hq3
  refine O_p (.i .i64 (((l4 : Nat)) : Int)) (r_mv rfl) ?_
  refine O_nil ?_
  refine C_ret ?_
  exact ⟨.inr rfl, _, resL_one (r_tmp (v := (.i .i64 (((l4 : Nat)) : Int))) rfl), l4, rfl, hl5, hp6, hH7⟩
theorem npot_ev {H : AH} {R : HL} {n : Nat} (hn : n ≤ 1000000) (hn0 : 0 < n) (hH0 : Hs H R) : Ev tabS spS (.fn (.func 52) [] []) [.i .i64 ((n : Nat) : Int)] H (fun r H' => ∃ p : Nat, r = .i .u64 ((p : Nat) : Int) ∧ 0 < p ∧ p ≤ 2 * n ∧ Hs H' R) := by
  refine Ev_C (F := x52) rfl ?_
  refine C_seq ?_
  refine C_region ?_
  refine O_p (.i .u64 0) (r_mv rfl) ?_
  refine O_nil ?_
  refine C_seq ?_
  refine C_region ?_
  refine O_p (.i .i64 (((n : Nat)) : Int)) (r_mv rfl) ?_
  refine O_p (.i .u64 ((n : Nat) : Int)) (by exact (by rw [r_cint' (m := ((n : Nat) : Int)) rfl (by rw [wrap_u64]; omega)])) ?_
  refine O_call (Ev.mono (blen_ev (n := n) (by omega) hH0) fun v1 H2 hq3 => ?_)
  obtain ⟨l4, rfl, hl5, hp6, hH7⟩ := hq3
  refine O_p (.i .u64 (((2 ^ l4) : Nat) : Int)) (by exact (r_shl1 (l := l4) rfl rfl (by omega))) ?_
  refine O_p (.i .u64 (((2 ^ l4) : Nat) : Int)) (r_mv rfl) ?_
  refine O_nil ?_
  refine C_ret ?_
  exact ⟨.inr rfl, _, resL_one (r_tmp (v := (.i .u64 (((2 ^ l4) : Nat) : Int))) rfl), 2 ^ l4, rfl, Nat.pow_pos (by decide), pow_ev hp6 hn0, hH7⟩
theorem rnd_ev {H : AH} {R : HL} {rp : Nat} {q : Int} (hH0 : Hs H ([(rp, some (.cells [.i .u64 q] true))] ++ R)) : Ev tabS spS (.fn (.func 53) [] []) [.p (some (rp, 0))] H (fun r H' => ∃ z q' : Int, r = .i .u64 z ∧ Hs H' ([(rp, some (.cells [.i .u64 q'] true))] ++ R)) := by
  refine Ev_C (F := x53) rfl ?_
  refine C_seq ?_
  refine C_region ?_
  refine O_p (.i .u64 0) (r_mv rfl) ?_
  refine O_nil ?_
  refine C_seq ?_
  refine C_draw fun b1 H2 hbase3 hA4 => ?_
  have hH5 := hH0.keep (by have := hA4.1; omega) (fun q _ => hA4.2 q) ((hH0.old).aside hA4).ok
  refine D_l (v := (.p (some (rp, 0)))) rfl rfl rfl (r_mv rfl) ?_
  refine D_l (v := (.p (some (rp, 0)))) rfl rfl rfl (r_nilc rfl) ?_
  refine D_l (v := (.p (some (rp, 0)))) rfl rfl rfl (r_mv rfl) ?_
  refine D_l (v := (.p (some (rp, 0)))) rfl rfl rfl (r_nilc rfl) ?_
  refine D_r (v := (.i .u64 q)) rfl rfl rfl (r_ld rfl hH5.get0 rfl) ?_
  refine D_r (v := (.i .u64 q)) rfl rfl rfl (r_ld rfl hH5.get0 rfl) ?_
  refine D_l (v := (.i .u64 (IntKind.u64.wrap (q * 2 ^ 13)))) rfl rfl rfl (r_bin rfl rfl rfl) ?_
  refine D_l (v := (.i .u64 (IntKind.u64.wrap ((BitVec.ofInt 64 q ^^^ BitVec.ofInt 64 (IntKind.u64.wrap (q * 2 ^ 13))).toNat : Int)))) rfl rfl rfl (r_bin rfl rfl rfl) ?_
  refine D_l (v := (.p (some (rp, 0)))) rfl rfl rfl (r_nilc rfl) ?_
  refine D_store (vs := [(.i .u64 (IntKind.u64.wrap ((BitVec.ofInt 64 q ^^^ BitVec.ofInt 64 (IntKind.u64.wrap (q * 2 ^ 13))).toNat : Int)))]) (c' := [(.i .u64 (IntKind.u64.wrap ((BitVec.ofInt 64 q ^^^ BitVec.ofInt 64 (IntKind.u64.wrap (q * 2 ^ 13))).toNat : Int)))]) rfl (by rfl) hH5.get0 rfl (List.cons_ne_nil _ _) (Nat.le_of_ble_eq_true rfl) rfl fun H6 hW7 => ?_
  have hH8 := hH5.wr0 hW7
  refine And.intro (And.intro (Or.inl rfl) (And.intro (Or.inl rfl) True.intro)) ?_
  refine D_nil ?_
  refine C_seq ?_
  refine C_draw fun b9 H10 hbase11 hA12 => ?_
  have hH13 := hH8.keep (by have := hA12.1; omega) (fun q _ => hA12.2 q) ((hH8.old).aside hA12).ok
  refine D_l (v := (.p (some (rp, 0)))) rfl rfl rfl (r_mv rfl) ?_
  refine D_l (v := (.p (some (rp, 0)))) rfl rfl rfl (r_nilc rfl) ?_
  refine D_l (v := (.p (some (rp, 0)))) rfl rfl rfl (r_mv rfl) ?_
  refine D_l (v := (.p (some (rp, 0)))) rfl rfl rfl (r_nilc rfl) ?_
  refine D_r (v := (.i .u64 (IntKind.u64.wrap ((BitVec.ofInt 64 q ^^^ BitVec.ofInt 64 (IntKind.u64.wrap (q * 2 ^ 13))).toNat : Int)))) rfl rfl rfl (r_ld rfl hH13.get0 rfl) ?_
  refine D_r (v := (.i .u64 (IntKind.u64.wrap ((BitVec.ofInt 64 q ^^^ BitVec.ofInt 64 (IntKind.u64.wrap (q * 2 ^ 13))).toNat : Int)))) rfl rfl rfl (r_ld rfl hH13.get0 rfl) ?_
  refine D_l (v := (.i .u64 (Int.fdiv (IntKind.u64.wrap ((BitVec.ofInt 64 q ^^^ BitVec.ofInt 64 (IntKind.u64.wrap (q * 2 ^ 13))).toNat : Int)) (2 ^ 7)))) rfl rfl rfl (r_bin rfl rfl rfl) ?_
  refine D_l (v := (.i .u64 (IntKind.u64.wrap ((BitVec.ofInt 64 (IntKind.u64.wrap ((BitVec.ofInt 64 q ^^^ BitVec.ofInt 64 (IntKind.u64.wrap (q * 2 ^ 13))).toNat : Int)) ^^^ BitVec.ofInt 64 (Int.fdiv (IntKind.u64.wrap ((BitVec.ofInt 64 q ^^^ BitVec.ofInt 64 (IntKind.u64.wrap (q * 2 ^ 13))).toNat : Int)) (2 ^ 7))).toNat : Int)))) rfl rfl rfl (r_bin rfl rfl rfl) ?_
  refine D_l (v := (.p (some (rp, 0)))) rfl rfl rfl (r_nilc rfl) ?_
  refine D_store (vs := [(.i .u64 (IntKind.u64.wrap ((BitVec.ofInt 64 (IntKind.u64.wrap ((BitVec.ofInt 64 q ^^^ BitVec.ofInt 64 (IntKind.u64.wrap (q * 2 ^ 13))).toNat : Int)) ^^^ BitVec.ofInt 64 (Int.fdiv (IntKind.u64.wrap ((BitVec.ofInt 64 q ^^^ BitVec.ofInt 64 (IntKind.u64.wrap (q * 2 ^ 13))).toNat : Int)) (2 ^ 7))).toNat : Int)))]) (c' := [(.i .u64 (IntKind.u64.wrap ((BitVec.ofInt 64 (IntKind.u64.wrap ((BitVec.ofInt 64 q ^^^ BitVec.ofInt 64 (IntKind.u64.wrap (q * 2 ^ 13))).toNat : Int)) ^^^ BitVec.ofInt 64 (Int.fdiv (IntKind.u64.wrap ((BitVec.ofInt 64 q ^^^ BitVec.ofInt 64 (IntKind.u64.wrap (q * 2 ^ 13))).toNat : Int)) (2 ^ 7))).toNat : Int)))]) rfl (by rfl) hH13.get0 rfl (List.cons_ne_nil _ _) (Nat.le_of_ble_eq_true rfl) rfl fun H14 hW15 => ?_
  have hH16 := hH13.wr0 hW15
  refine And.intro (And.intro (Or.inl rfl) (And.intro (Or.inl rfl) True.intro)) ?_
  refine D_nil ?_
  refine C_seq ?_
  refine C_draw fun b17 H18 hbase19 hA20 => ?_
  have hH21 := hH16.keep (by have := hA20.1; omega) (fun q _ => hA20.2 q) ((hH16.old).aside hA20).ok
  refine D_l (v := (.p (some (rp, 0)))) rfl rfl rfl (r_mv rfl) ?_
  refine D_l (v := (.p (some (rp, 0)))) rfl rfl rfl (r_nilc rfl) ?_
  refine D_l (v := (.p (some (rp, 0)))) rfl rfl rfl (r_mv rfl) ?_
  refine D_l (v := (.p (some (rp, 0)))) rfl rfl rfl (r_nilc rfl) ?_
  refine D_r (v := (.i .u64 (IntKind.u64.wrap ((BitVec.ofInt 64 (IntKind.u64.wrap ((BitVec.ofInt 64 q ^^^ BitVec.ofInt 64 (IntKind.u64.wrap (q * 2 ^ 13))).toNat : Int)) ^^^ BitVec.ofInt 64 (Int.fdiv (IntKind.u64.wrap ((BitVec.ofInt 64 q ^^^ BitVec.ofInt 64 (IntKind.u64.wrap (q * 2 ^ 13))).toNat : Int)) (2 ^ 7))).toNat : Int)))) rfl rfl rfl (r_ld rfl hH21.get0 rfl) ?_
  refine D_r (v := (.i .u64 (IntKind.u64.wrap ((BitVec.ofInt 64 (IntKind.u64.wrap ((BitVec.ofInt 64 q ^^^ BitVec.ofInt 64 (IntKind.u64.wrap (q * 2 ^ 13))).toNat : Int)) ^^^ BitVec.ofInt 64 (Int.fdiv (IntKind.u64.wrap ((BitVec.ofInt 64 q ^^^ BitVec.ofInt 64 (IntKind.u64.wrap (q * 2 ^ 13))).toNat : Int)) (2 ^ 7))).toNat : Int)))) rfl rfl rfl (r_ld rfl hH21.get0 rfl) ?_
  refine D_l (v := (.i .u64 (IntKind.u64.wrap ((IntKind.u64.wrap ((BitVec.ofInt 64 (IntKind.u64.wrap ((BitVec.ofInt 64 q ^^^ BitVec.ofInt 64 (IntKind.u64.wrap (q * 2 ^ 13))).toNat : Int)) ^^^ BitVec.ofInt 64 (Int.fdiv (IntKind.u64.wrap ((BitVec.ofInt 64 q ^^^ BitVec.ofInt 64 (IntKind.u64.wrap (q * 2 ^ 13))).toNat : Int)) (2 ^ 7))).toNat : Int)) * 2 ^ 17)))) rfl rfl rfl (r_bin rfl rfl rfl) ?_
  refine D_l (v := (.i .u64 (IntKind.u64.wrap ((BitVec.ofInt 64 (IntKind.u64.wrap ((BitVec.ofInt 64 (IntKind.u64.wrap ((BitVec.ofInt 64 q ^^^ BitVec.ofInt 64 (IntKind.u64.wrap (q * 2 ^ 13))).toNat : Int)) ^^^ BitVec.ofInt 64 (Int.fdiv (IntKind.u64.wrap ((BitVec.ofInt 64 q ^^^ BitVec.ofInt 64 (IntKind.u64.wrap (q * 2 ^ 13))).toNat : Int)) (2 ^ 7))).toNat : Int)) ^^^ BitVec.ofInt 64 (IntKind.u64.wrap ((IntKind.u64.wrap ((BitVec.ofInt 64 (IntKind.u64.wrap ((BitVec.ofInt 64 q ^^^ BitVec.ofInt 64 (IntKind.u64.wrap (q * 2 ^ 13))).toNat : Int)) ^^^ BitVec.ofInt 64 (Int.fdiv (IntKind.u64.wrap ((BitVec.ofInt 64 q ^^^ BitVec.ofInt 64 (IntKind.u64.wrap (q * 2 ^ 13))).toNat : Int)) (2 ^ 7))).toNat : Int)) * 2 ^ 17))).toNat : Int)))) rfl rfl rfl (r_bin rfl rfl rfl) ?_
  refine D_l (v := (.p (some (rp, 0)))) rfl rfl rfl (r_nilc rfl) ?_
  refine D_store (vs := [(.i .u64 (IntKind.u64.wrap ((BitVec.ofInt 64 (IntKind.u64.wrap ((BitVec.ofInt 64 (IntKind.u64.wrap ((BitVec.ofInt 64 q ^^^ BitVec.ofInt 64 (IntKind.u64.wrap (q * 2 ^ 13))).toNat : Int)) ^^^ BitVec.ofInt 64 (Int.fdiv (IntKind.u64.wrap ((BitVec.ofInt 64 q ^^^ BitVec.ofInt 64 (IntKind.u64.wrap (q * 2 ^ 13))).toNat : Int)) (2 ^ 7))).toNat : Int)) ^^^ BitVec.ofInt 64 (IntKind.u64.wrap ((IntKind.u64.wrap ((BitVec.ofInt 64 (IntKind.u64.wrap ((BitVec.ofInt 64 q ^^^ BitVec.ofInt 64 (IntKind.u64.wrap (q * 2 ^ 13))).toNat : Int)) ^^^ BitVec.ofInt 64 (Int.fdiv (IntKind.u64.wrap ((BitVec.ofInt 64 q ^^^ BitVec.ofInt 64 (IntKind.u64.wrap (q * 2 ^ 13))).toNat : Int)) (2 ^ 7))).toNat : Int)) * 2 ^ 17))).toNat : Int)))]) (c' := [(.i .u64 (IntKind.u64.wrap ((BitVec.ofInt 64 (IntKind.u64.wrap ((BitVec.ofInt 64 (IntKind.u64.wrap ((BitVec.ofInt 64 q ^^^ BitVec.ofInt 64 (IntKind.u64.wrap (q * 2 ^ 13))).toNat : Int)) ^^^ BitVec.ofInt 64 (Int.fdiv (IntKind.u64.wrap ((BitVec.ofInt 64 q ^^^ BitVec.ofInt 64 (IntKind.u64.wrap (q * 2 ^ 13))).toNat : Int)) (2 ^ 7))).toNat : Int)) ^^^ BitVec.ofInt 64 (IntKind.u64.wrap ((IntKind.u64.wrap ((BitVec.ofInt 64 (IntKind.u64.wrap ((BitVec.ofInt 64 q ^^^ BitVec.ofInt 64 (IntKind.u64.wrap (q * 2 ^ 13))).toNat : Int)) ^^^ BitVec.ofInt 64 (Int.fdiv (IntKind.u64.wrap ((BitVec.ofInt 64 q ^^^ BitVec.ofInt 64 (IntKind.u64.wrap (q * 2 ^ 13))).toNat : Int)) (2 ^ 7))).toNat : Int)) * 2 ^ 17))).toNat : Int)))]) rfl (by rfl) hH21.get0 rfl (List.cons_ne_nil _ _) (Nat.le_of_ble_eq_true rfl) rfl fun H22 hW23 => ?_
  have hH24 := hH21.wr0 hW23
  refine And.intro (And.intro (Or.inl rfl) (And.intro (Or.inl rfl) True.intro)) ?_
  refine D_nil ?_
  refine C_seq ?_
  refine C_region ?_
  refine O_p (.p (some (rp, 0))) (r_mv rfl) ?_
  refine O_p (.p (some (rp, 0))) (r_nilc rfl) ?_
  refine O_p (.i .u64 (IntKind.u64.wrap ((BitVec.ofInt 64 (IntKind.u64.wrap ((BitVec.ofInt 64 (IntKind.u64.wrap ((BitVec.ofInt 64 q ^^^ BitVec.ofInt 64 (IntKind.u64.wrap (q * 2 ^ 13))).toNat : Int)) ^^^ BitVec.ofInt 64 (Int.fdiv (IntKind.u64.wrap ((BitVec.ofInt 64 q ^^^ BitVec.ofInt 64 (IntKind.u64.wrap (q * 2 ^ 13))).toNat : Int)) (2 ^ 7))).toNat : Int)) ^^^ BitVec.ofInt 64 (IntKind.u64.wrap ((IntKind.u64.wrap ((BitVec.ofInt 64 (IntKind.u64.wrap ((BitVec.ofInt 64 q ^^^ BitVec.ofInt 64 (IntKind.u64.wrap (q * 2 ^ 13))).toNat : Int)) ^^^ BitVec.ofInt 64 (Int.fdiv (IntKind.u64.wrap ((BitVec.ofInt 64 q ^^^ BitVec.ofInt 64 (IntKind.u64.wrap (q * 2 ^ 13))).toNat : Int)) (2 ^ 7))).toNat : Int)) * 2 ^ 17))).toNat : Int))) (r_ld rfl hH24.get0 rfl) ?_
  refine O_p (.i .u64 (IntKind.u64.wrap ((BitVec.ofInt 64 (IntKind.u64.wrap ((BitVec.ofInt 64 (IntKind.u64.wrap ((BitVec.ofInt 64 q ^^^ BitVec.ofInt 64 (IntKind.u64.wrap (q * 2 ^ 13))).toNat : Int)) ^^^ BitVec.ofInt 64 (Int.fdiv (IntKind.u64.wrap ((BitVec.ofInt 64 q ^^^ BitVec.ofInt 64 (IntKind.u64.wrap (q * 2 ^ 13))).toNat : Int)) (2 ^ 7))).toNat : Int)) ^^^ BitVec.ofInt 64 (IntKind.u64.wrap ((IntKind.u64.wrap ((BitVec.ofInt 64 (IntKind.u64.wrap ((BitVec.ofInt 64 q ^^^ BitVec.ofInt 64 (IntKind.u64.wrap (q * 2 ^ 13))).toNat : Int)) ^^^ BitVec.ofInt 64 (Int.fdiv (IntKind.u64.wrap ((BitVec.ofInt 64 q ^^^ BitVec.ofInt 64 (IntKind.u64.wrap (q * 2 ^ 13))).toNat : Int)) (2 ^ 7))).toNat : Int)) * 2 ^ 17))).toNat : Int))) (r_mv rfl) ?_
  refine O_nil ?_
  refine C_ret ?_
  exact ⟨.inr rfl, _, resL_one (r_tmp (v := (.i .u64 (IntKind.u64.wrap ((BitVec.ofInt 64 (IntKind.u64.wrap ((BitVec.ofInt 64 (IntKind.u64.wrap ((BitVec.ofInt 64 q ^^^ BitVec.ofInt 64 (IntKind.u64.wrap (q * 2 ^ 13))).toNat : Int)) ^^^ BitVec.ofInt 64 (Int.fdiv (IntKind.u64.wrap ((BitVec.ofInt 64 q ^^^ BitVec.ofInt 64 (IntKind.u64.wrap (q * 2 ^ 13))).toNat : Int)) (2 ^ 7))).toNat : Int)) ^^^ BitVec.ofInt 64 (IntKind.u64.wrap ((IntKind.u64.wrap ((BitVec.ofInt 64 (IntKind.u64.wrap ((BitVec.ofInt 64 q ^^^ BitVec.ofInt 64 (IntKind.u64.wrap (q * 2 ^ 13))).toNat : Int)) ^^^ BitVec.ofInt 64 (Int.fdiv (IntKind.u64.wrap ((BitVec.ofInt 64 q ^^^ BitVec.ofInt 64 (IntKind.u64.wrap (q * 2 ^ 13))).toNat : Int)) (2 ^ 7))).toNat : Int)) * 2 ^ 17))).toNat : Int)))) rfl), (IntKind.u64.wrap ((BitVec.ofInt 64 (IntKind.u64.wrap ((BitVec.ofInt 64 (IntKind.u64.wrap ((BitVec.ofInt 64 q ^^^ BitVec.ofInt 64 (IntKind.u64.wrap (q * 2 ^ 13))).toNat : Int)) ^^^ BitVec.ofInt 64 (Int.fdiv (IntKind.u64.wrap ((BitVec.ofInt 64 q ^^^ BitVec.ofInt 64 (IntKind.u64.wrap (q * 2 ^ 13))).toNat : Int)) (2 ^ 7))).toNat : Int)) ^^^ BitVec.ofInt 64 (IntKind.u64.wrap ((IntKind.u64.wrap ((BitVec.ofInt 64 (IntKind.u64.wrap ((BitVec.ofInt 64 q ^^^ BitVec.ofInt 64 (IntKind.u64.wrap (q * 2 ^ 13))).toNat : Int)) ^^^ BitVec.ofInt 64 (Int.fdiv (IntKind.u64.wrap ((BitVec.ofInt 64 q ^^^ BitVec.ofInt 64 (IntKind.u64.wrap (q * 2 ^ 13))).toNat : Int)) (2 ^ 7))).toNat : Int)) * 2 ^ 17))).toNat : Int)), (IntKind.u64.wrap ((BitVec.ofInt 64 (IntKind.u64.wrap ((BitVec.ofInt 64 (IntKind.u64.wrap ((BitVec.ofInt 64 q ^^^ BitVec.ofInt 64 (IntKind.u64.wrap (q * 2 ^ 13))).toNat : Int)) ^^^ BitVec.ofInt 64 (Int.fdiv (IntKind.u64.wrap ((BitVec.ofInt 64 q ^^^ BitVec.ofInt 64 (IntKind.u64.wrap (q * 2 ^ 13))).toNat : Int)) (2 ^ 7))).toNat : Int)) ^^^ BitVec.ofInt 64 (IntKind.u64.wrap ((IntKind.u64.wrap ((BitVec.ofInt 64 (IntKind.u64.wrap ((BitVec.ofInt 64 q ^^^ BitVec.ofInt 64 (IntKind.u64.wrap (q * 2 ^ 13))).toNat : Int)) ^^^ BitVec.ofInt 64 (Int.fdiv (IntKind.u64.wrap ((BitVec.ofInt 64 q ^^^ BitVec.ofInt 64 (IntKind.u64.wrap (q * 2 ^ 13))).toNat : Int)) (2 ^ 7))).toNat : Int)) * 2 ^ 17))).toNat : Int)), rfl, hH24⟩
set_option maxHeartbeats 1000000 in
theorem brk_ev {H : AH} {R : HL} {v : AV} {c : List AV} {d : Array Int} {n : Nat} {a b : Nat} (hd : Sq 1 v c (dU d).flatten) (hn : d.size = n) (hl : n ≤ 1000000) (hab : a < b) (hb : b ≤ n) (hH0 : Hs H (qseg v c ++ R)) : Ev tabS spS (.fn (.func 42) [] []) [v, .i .i64 ((a : Nat) : Int), .i .i64 ((b : Nat) : Int)] H (fun r H' => r = .tup [] ∧ ∃ d' c', PermIn a b d d' ∧ d'.size = n ∧ Sq 1 v c' (dU d').flatten ∧ Hs H' (qseg v c' ++ R)) := by
  refine Ev_C (F := x42) rfl ?_
  refine C_seq ?_
  refine C_region ?_
  refine O_p (.i .i64 (((b : Nat)) : Int)) (r_mv rfl) ?_
  refine O_p (.i .i64 (((a : Nat)) : Int)) (r_mv rfl) ?_
  refine O_p (.i .i64 ((((b - a) : Nat)) : Int)) (by exact (r_subn (a := b) (b := a) rfl rfl (by omega) (by omega))) ?_
  refine O_p (.i .i64 ((((b - a) : Nat)) : Int)) (r_mv rfl) ?_
  refine O_nil ?_
  refine C_seq ?_
  refine C_region ?_
  refine O_p (.i .i64 ((((b - a) : Nat)) : Int)) (r_mv rfl) ?_
  refine O_p (.b (decide (8 ≤ ((((b - a) : Nat)) : Int)))) (r_geq rfl rfl) ?_
  refine O_nil ?_
  refine C_cond (x := (decide (8 ≤ ((((b - a) : Nat)) : Int)))) rfl (fun hc1 => ?_) (fun hc1 => ?_)
  ·
    try simp only [decide_eq_true_eq, decide_eq_false_iff_not, Bool.not_eq_true', Bool.not_eq_false', Bool.and_eq_true, Bool.or_eq_true, Bool.or_eq_false_iff, Bool.not_not, Bool.and_eq_false_iff] at hc1
    refine C_seq ?_
    refine C_region ?_
    refine O_p (.i .i64 ((((b - a) : Nat)) : Int)) (r_mv rfl) ?_
    refine O_p (.i .u64 (IntKind.u64.wrap ((((b - a) : Nat)) : Int))) (r_cint rfl) ?_
    refine O_alloc fun n2 H3 hN4 => ?_
    have hH5 := hH0.new hN4
    refine O_store (vs := [(.i .u64 (IntKind.u64.wrap ((((b - a) : Nat)) : Int)))]) (c' := [(.i .u64 (IntKind.u64.wrap ((((b - a) : Nat)) : Int)))]) rfl (by rfl) hH5.get0 rfl (List.cons_ne_nil _ _) (Nat.le_of_ble_eq_true rfl) rfl fun H6 hW7 => ?_
    have hH8 := hH5.wr0 hW7
    refine O_nil ?_
    refine C_seq ?_
    refine C_region ?_
    refine O_p (.i .i64 ((((b - a) : Nat)) : Int)) (r_mv rfl) ?_
    refine O_call (Ev.mono (npot_ev (n := (b - a)) (by omega) (by omega) hH8) fun v9 H10 hq11 => ?_)
    obtain ⟨p12, rfl, hl13, hp14, hH15⟩ := hq11
    refine O_p (.i .u64 ((p12 : Nat) : Int)) (r_mv rfl) ?_
    refine O_nil ?_
    refine C_seq ?_
    refine C_region ?_
    refine O_p (.i .i64 (((a : Nat)) : Int)) (r_mv rfl) ?_
    refine O_p (.i .i64 ((((b - a) : Nat)) : Int)) (r_mv rfl) ?_
    refine O_p (.i .i64 (((((b - a) / 4) : Nat)) : Int)) (by exact (r_quon (a := (b - a)) (b := 4) rfl rfl (by omega) (by omega))) ?_
    refine O_p (.i .i64 ((((((b - a) / 4) : Nat)) : Int) * 2)) (by exact (r_muli rfl rfl (wrap_i64 (by omega) (by omega)))) ?_
    refine O_p (.i .i64 ((((a : Nat)) : Int) + ((((((b - a) / 4) : Nat)) : Int) * 2))) (by exact (r_addi rfl rfl (wrap_i64 (by omega) (by omega)))) ?_
    refine O_p (.i .i64 (((((a + (((b - a) / 4) * 2)) - 1) : Nat)) : Int)) (by exact (r_subn (a := (a + (((b - a) / 4) * 2))) (b := 1) rfl rfl (by omega) (by omega))) ?_
    refine O_p (.i .i64 (((((a + (((b - a) / 4) * 2)) - 1) : Nat)) : Int)) (r_mv rfl) ?_
    refine O_nil ?_
    refine C_block ?_
    have hH16 := ((hH15.top1).top1)
    refine C_while (fun m17 T18 H19 => ∃ d1 : Array Int, ∃ c1 : List AV, ∃ q1 : Int, ∃ i : Nat, m17 = a + (b - a) / 4 * 2 + 2 - i ∧ Sq 1 v c1 (dU d1).flatten ∧ d1.size = n ∧ PermIn a b d d1 ∧ a + (b - a) / 4 * 2 ≤ i + 1 ∧ i ≤ a + (b - a) / 4 * 2 + 2 ∧ Hs H19 ([(n2, some (.cells ([(.i .u64 q1)]) true))] ++ ((qseg v c1) ++ (R))) ∧ T18.get 0 = v ∧ T18.get 1 = (.i .i64 (((a : Nat)) : Int)) ∧ T18.get 2 = (.i .i64 (((b : Nat)) : Int)) ∧ T18.get 6 = (.i .i64 ((((b - a) : Nat)) : Int)) ∧ T18.get 7 = (.p (some (n2, 0))) ∧ T18.get 8 = (.i .u64 ((p12 : Nat) : Int)) ∧ T18.get 9 = (.i .i64 (((i : Nat)) : Int))) (fun m17 T18 H19 hI20 => ?_) (a + (b - a) / 4 * 2 + 2 - (a + (b - a) / 4 * 2 - 1)) _ _ ⟨d, c, (IntKind.u64.wrap ((((b - a) : Nat)) : Int)), (a + (b - a) / 4 * 2 - 1), rfl, hd, hn, Go.Sort.permIn_refl _ _ _, by omega, by omega, hH16, rfl, rfl, rfl, rfl, rfl, rfl, rfl⟩
    obtain ⟨d1, c1, q1, i, hm21, hp22, hp23, hp24, hp25, hp26, hH34, hT27, hT28, hT29, hT30, hT31, hT32, hT33⟩ := hI20
    refine C_seq ?_
    refine C_seq ?_
    refine C_region ?_
    refine O_p (.i .i64 (((i : Nat)) : Int)) (r_mv hT33) ?_
    refine O_p (.i .i64 (((a : Nat)) : Int)) (r_mv hT28) ?_
    refine O_p (.i .i64 ((((b - a) : Nat)) : Int)) (r_mv hT30) ?_
    refine O_p (.i .i64 (((((b - a) / 4) : Nat)) : Int)) (by exact (r_quon (a := (b - a)) (b := 4) rfl rfl (by omega) (by omega))) ?_
    refine O_p (.i .i64 ((((((b - a) / 4) : Nat)) : Int) * 2)) (by exact (r_muli rfl rfl (wrap_i64 (by omega) (by omega)))) ?_
    refine O_p (.i .i64 ((((a : Nat)) : Int) + ((((((b - a) / 4) : Nat)) : Int) * 2))) (by exact (r_addi rfl rfl (wrap_i64 (by omega) (by omega)))) ?_
    refine O_p (.i .i64 (((((a : Nat)) : Int) + ((((((b - a) / 4) : Nat)) : Int) * 2)) + 1)) (by exact (r_addi rfl rfl (wrap_i64 (by omega) (by omega)))) ?_
    refine O_p (.b (decide ((((i : Nat)) : Int) ≤ (((((a : Nat)) : Int) + ((((((b - a) / 4) : Nat)) : Int) * 2)) + 1)))) (r_leq rfl rfl) ?_
    refine O_nil ?_
    refine C_cond (x := (decide ((((i : Nat)) : Int) ≤ (((((a : Nat)) : Int) + ((((((b - a) / 4) : Nat)) : Int) * 2)) + 1)))) rfl (fun hc35 => ?_) (fun hc35 => ?_)
    ·
      try simp only [decide_eq_true_eq, decide_eq_false_iff_not, Bool.not_eq_true', Bool.not_eq_false', Bool.and_eq_true, Bool.or_eq_true, Bool.or_eq_false_iff, Bool.not_not, Bool.and_eq_false_iff] at hc35
      refine C_skip ?_
      refine C_seq ?_
      refine C_block ?_
      refine C_seq ?_
      refine C_region ?_
      refine O_callA (vs := [(.p (some (n2, 0)))]) (congrArg (fun z => [z]) hT31) (Ev.mono (rnd_ev hH34) fun v36 H37 hq38 => ?_)
      obtain ⟨z39, q40, rfl, hH41⟩ := hq38
      refine O_p (.i .u64 ((p12 : Nat) : Int)) (r_mv hT32) ?_
      refine O_p (.i .u64 (((p12 - 1) : Nat) : Int)) (by exact (r_bin rfl rfl (by show some (AV.i .u64 (IntKind.u64.wrap (((p12 : Nat) : Int) - 1))) = some (AV.i .u64 (((p12 - 1 : Nat)) : Int)); rw [wrap_u64, Int.emod_eq_of_lt (by omega) (by omega), show ((p12 : Nat) : Int) - 1 = ((p12 - 1 : Nat) : Int) by omega]))) ?_
      obtain ⟨k42, hk42⟩ := mask_nat z39 (p12 - 1) (by omega)
      have hlk42 := hk42.2
      refine O_p (.i .u64 ((k42 : Nat) : Int)) (by exact (r_mask hk42 (by omega) rfl rfl)) ?_
      refine O_p (.i .i64 (((k42 : Nat)) : Int)) (by exact (by rw [r_cint' (m := ((k42 : Nat) : Int)) rfl (wrap_i64 (by omega) (by omega))])) ?_
      refine O_p (.i .i64 (((k42 : Nat)) : Int)) (r_mv rfl) ?_
      refine O_nil ?_
      refine C_seq ?_
      refine C_seq ?_
      refine C_region ?_
      refine O_p (.i .i64 (((k42 : Nat)) : Int)) (r_mv rfl) ?_
      refine O_p (.i .i64 ((((b - a) : Nat)) : Int)) (r_mv hT30) ?_
      refine O_p (.b (decide (((((b - a) : Nat)) : Int) ≤ (((k42 : Nat)) : Int)))) (r_geq rfl rfl) ?_
      refine O_nil ?_
      refine C_cond (x := (decide (((((b - a) : Nat)) : Int) ≤ (((k42 : Nat)) : Int)))) rfl (fun hc43 => ?_) (fun hc43 => ?_)
      ·
        try simp only [decide_eq_true_eq, decide_eq_false_iff_not, Bool.not_eq_true', Bool.not_eq_false', Bool.and_eq_true, Bool.or_eq_true, Bool.or_eq_false_iff, Bool.not_not, Bool.and_eq_false_iff] at hc43
        refine C_region ?_
        refine O_p (.i .i64 (((k42 : Nat)) : Int)) (r_mv rfl) ?_
        refine O_p (.i .i64 ((((b - a) : Nat)) : Int)) (r_mv hT30) ?_
        refine O_p (.i .i64 ((((k42 - (b - a)) : Nat)) : Int)) (by exact (r_subn (a := k42) (b := (b - a)) rfl rfl (by omega) (by omega))) ?_
        refine O_p (.i .i64 ((((k42 - (b - a)) : Nat)) : Int)) (r_mv rfl) ?_
        refine O_nil ?_
        refine C_draw fun b44 H45 hbase46 hA47 => ?_
        have hH48 := hH41.keep (by have := hA47.1; omega) (fun q _ => hA47.2 q) ((hH41.old).aside hA47).ok
        refine D_l (v := v) rfl rfl rfl (r_mv hT27) ?_
        refine D_l (v := (.i .i64 (((i : Nat)) : Int))) rfl rfl rfl (r_mv hT33) ?_
        refine D_l (v := v) rfl rfl rfl (r_mv hT27) ?_
        refine D_l (v := (.i .i64 (((a : Nat)) : Int))) rfl rfl rfl (r_mv hT28) ?_
        refine D_l (v := (.i .i64 ((((k42 - (b - a)) : Nat)) : Int))) rfl rfl rfl (r_mv rfl) ?_
        refine D_l (v := (.i .i64 ((((a : Nat)) : Int) + ((((k42 - (b - a)) : Nat)) : Int)))) rfl rfl rfl (by exact (r_addi rfl rfl (wrap_i64 (by omega) (by omega)))) ?_
        refine D_l (v := v) rfl rfl rfl (r_mv hT27) ?_
        refine D_l (v := (.i .i64 (((a : Nat)) : Int))) rfl rfl rfl (r_mv hT28) ?_
        refine D_l (v := (.i .i64 ((((k42 - (b - a)) : Nat)) : Int))) rfl rfl rfl (r_mv rfl) ?_
        refine D_l (v := (.i .i64 ((((a : Nat)) : Int) + ((((k42 - (b - a)) : Nat)) : Int)))) rfl rfl rfl (by exact (r_addi rfl rfl (wrap_i64 (by omega) (by omega)))) ?_
        refine D_q rfl rfl rfl (by exact Sq.cell hp22 (u_lens d1) hH48.top1 rfl (i := (a + (k42 - (b - a)))) rfl (r := [(.i .u32 (d1[(a + (k42 - (b - a)))]!))]) (u_get (d := d1) (i := (a + (k42 - (b - a)))) (by omega)) (by decide)) fun v50 hv49 => ?_
        obtain ⟨rb51, ro52, rfl, hrg53, hrt54, hrb55, hput56, hqs57⟩ := hv49
        refine D_l (v := v) rfl rfl rfl (r_mv hT27) ?_
        refine D_l (v := (.i .i64 (((i : Nat)) : Int))) rfl rfl rfl (r_mv hT33) ?_
        refine D_q rfl rfl rfl (by exact Sq.cell hp22 (u_lens d1) hH48.top1 rfl (i := i) rfl (r := [(.i .u32 (d1[i]!))]) (u_get (d := d1) (i := i) (by omega)) (by decide)) fun v59 hv58 => ?_
        obtain ⟨rb60, ro61, rfl, hrg62, hrt63, hrb64, hput65, hqs66⟩ := hv58
        refine D_r (v := (.i .u32 (d1[(a + (k42 - (b - a)))]!))) rfl rfl rfl (r_ldR (q := 0) rfl ⟨_, _, hrg53, hrt54⟩ rfl) ?_
        refine D_r (v := (.i .u32 (d1[i]!))) rfl rfl rfl (r_ldR (q := 0) rfl ⟨_, _, hrg62, hrt63⟩ rfl) ?_
        refine D_q rfl rfl rfl (by exact Sq.cell hp22 (u_lens d1) hH48.top1 rfl (i := i) rfl (r := [(.i .u32 (d1[i]!))]) (u_get (d := d1) (i := i) (by omega)) (by decide)) fun v68 hv67 => ?_
        obtain ⟨rb69, ro70, rfl, hrg71, hrt72, hrb73, hput74, hqs75⟩ := hv67
        refine D_store (vs := [(.i .u32 (d1[(a + (k42 - (b - a)))]!))]) (c' := (putAt c1 (ro70 + 0) [(.i .u32 (d1[(a + (k42 - (b - a)))]!))])) rfl (by rfl) hrg71 rfl (List.cons_ne_nil _ _) (by have := hrb73; show _ + 1 ≤ _; omega) rfl fun H76 hW77 => ?_
        have hH79 := Hs.cong1 (Hs.wr1 (Hs.cong1 hH48 (hqs75 _)) hW77) (hqs75 _).symm
        have hSq78 := hput74 0 [(.i .u32 (d1[(a + (k42 - (b - a)))]!))] [(.i .u32 (d1[(a + (k42 - (b - a)))]!))] (Nat.le_of_ble_eq_true rfl) rfl
        obtain ⟨dd80, he81⟩ : ∃ z : Array Int, z = d1.setIfInBounds i (d1[(a + (k42 - (b - a)))]!) := ⟨_, rfl⟩
        have hs83 : Sq 1 v (putAt c1 (ro70 + 0) [(.i .u32 (d1[(a + (k42 - (b - a)))]!))]) (dU dd80).flatten := by rw [he81, ← u_set]; exact hSq78
        have hn82 : dd80.size = n := by rw [he81, Array.size_setIfInBounds]; exact hp23
        refine And.intro (And.intro (Or.inl rfl) (And.intro (Or.inl rfl) True.intro)) ?_
        refine D_q rfl rfl rfl (by exact Sq.cell hs83 (u_lens dd80) hH79.top1 rfl (i := (a + (k42 - (b - a)))) rfl (r := [(.i .u32 (dd80[(a + (k42 - (b - a)))]!))]) (u_get (d := dd80) (i := (a + (k42 - (b - a)))) (by omega)) (by decide)) fun v85 hv84 => ?_
        obtain ⟨rb86, ro87, rfl, hrg88, hrt89, hrb90, hput91, hqs92⟩ := hv84
        refine D_store (vs := [(.i .u32 (d1[i]!))]) (c' := (putAt (putAt c1 (ro70 + 0) [(.i .u32 (d1[(a + (k42 - (b - a)))]!))]) (ro87 + 0) [(.i .u32 (d1[i]!))])) rfl (by rfl) hrg88 rfl (List.cons_ne_nil _ _) (by have := hrb90; show _ + 1 ≤ _; omega) rfl fun H93 hW94 => ?_
        have hH96 := Hs.cong1 (Hs.wr1 (Hs.cong1 hH79 (hqs92 _)) hW94) (hqs92 _).symm
        have hSq95 := hput91 0 [(.i .u32 (d1[i]!))] [(.i .u32 (d1[i]!))] (Nat.le_of_ble_eq_true rfl) rfl
        obtain ⟨dd97, he98⟩ : ∃ z : Array Int, z = dd80.setIfInBounds (a + (k42 - (b - a))) (d1[i]!) := ⟨_, rfl⟩
        have hs100 : Sq 1 v (putAt (putAt c1 (ro70 + 0) [(.i .u32 (d1[(a + (k42 - (b - a)))]!))]) (ro87 + 0) [(.i .u32 (d1[i]!))]) (dU dd97).flatten := by rw [he98, ← u_set]; exact hSq95
        have hn99 : dd97.size = n := by rw [he98, Array.size_setIfInBounds]; exact hn82
        refine And.intro True.intro ?_
        refine D_nil ?_
        refine C_region ?_
        refine O_p (.i .i64 (((i : Nat)) : Int)) (r_mv hT33) ?_
        refine O_p (.i .i64 ((((i : Nat)) : Int) + 1)) (by exact (r_addi rfl rfl (wrap_i64 (by omega) (by omega)))) ?_
        refine O_p (.i .i64 ((((i : Nat)) : Int) + 1)) (r_mv rfl) ?_
        refine O_nil ?_
        have hH101 := ((hH96.top1).top1)
        exact ⟨(a + (b - a) / 4 * 2 + 2 - (i + 1)), by omega, dd97, (putAt (putAt c1 (ro70 + 0) [(.i .u32 (d1[(a + (k42 - (b - a)))]!))]) (ro87 + 0) [(.i .u32 (d1[i]!))]), q40, (i + 1), rfl, hs100, hn99, by rw [he98, he81]; exact Go.Sort.permIn_trans _ _ _ _ _ hp24 (Go.Sort.swp_permIn _ _ _ _ _ (by omega) (by omega) (by omega) (by omega) (by omega)), by omega, by omega, hH101, hT27, hT28, hT29, hT30, hT31, hT32, rfl⟩
      ·
        try simp only [decide_eq_true_eq, decide_eq_false_iff_not, Bool.not_eq_true', Bool.not_eq_false', Bool.and_eq_true, Bool.or_eq_true, Bool.or_eq_false_iff, Bool.not_not, Bool.and_eq_false_iff] at hc43
        refine C_skip ?_
        refine C_draw fun b102 H103 hbase104 hA105 => ?_
        have hH106 := hH41.keep (by have := hA105.1; omega) (fun q _ => hA105.2 q) ((hH41.old).aside hA105).ok
        refine D_l (v := v) rfl rfl rfl (r_mv hT27) ?_
        refine D_l (v := (.i .i64 (((i : Nat)) : Int))) rfl rfl rfl (r_mv hT33) ?_
        refine D_l (v := v) rfl rfl rfl (r_mv hT27) ?_
        refine D_l (v := (.i .i64 (((a : Nat)) : Int))) rfl rfl rfl (r_mv hT28) ?_
        refine D_l (v := (.i .i64 (((k42 : Nat)) : Int))) rfl rfl rfl (r_mv rfl) ?_
        refine D_l (v := (.i .i64 ((((a : Nat)) : Int) + (((k42 : Nat)) : Int)))) rfl rfl rfl (by exact (r_addi rfl rfl (wrap_i64 (by omega) (by omega)))) ?_
        refine D_l (v := v) rfl rfl rfl (r_mv hT27) ?_
        refine D_l (v := (.i .i64 (((a : Nat)) : Int))) rfl rfl rfl (r_mv hT28) ?_
        refine D_l (v := (.i .i64 (((k42 : Nat)) : Int))) rfl rfl rfl (r_mv rfl) ?_
        refine D_l (v := (.i .i64 ((((a : Nat)) : Int) + (((k42 : Nat)) : Int)))) rfl rfl rfl (by exact (r_addi rfl rfl (wrap_i64 (by omega) (by omega)))) ?_
        refine D_q rfl rfl rfl (by exact Sq.cell hp22 (u_lens d1) hH106.top1 rfl (i := (a + k42)) rfl (r := [(.i .u32 (d1[(a + k42)]!))]) (u_get (d := d1) (i := (a + k42)) (by omega)) (by decide)) fun v108 hv107 => ?_
        obtain ⟨rb109, ro110, rfl, hrg111, hrt112, hrb113, hput114, hqs115⟩ := hv107
        refine D_l (v := v) rfl rfl rfl (r_mv hT27) ?_
        refine D_l (v := (.i .i64 (((i : Nat)) : Int))) rfl rfl rfl (r_mv hT33) ?_
        refine D_q rfl rfl rfl (by exact Sq.cell hp22 (u_lens d1) hH106.top1 rfl (i := i) rfl (r := [(.i .u32 (d1[i]!))]) (u_get (d := d1) (i := i) (by omega)) (by decide)) fun v117 hv116 => ?_
        obtain ⟨rb118, ro119, rfl, hrg120, hrt121, hrb122, hput123, hqs124⟩ := hv116
        refine D_r (v := (.i .u32 (d1[(a + k42)]!))) rfl rfl rfl (r_ldR (q := 0) rfl ⟨_, _, hrg111, hrt112⟩ rfl) ?_
        refine D_r (v := (.i .u32 (d1[i]!))) rfl rfl rfl (r_ldR (q := 0) rfl ⟨_, _, hrg120, hrt121⟩ rfl) ?_
        refine D_q rfl rfl rfl (by exact Sq.cell hp22 (u_lens d1) hH106.top1 rfl (i := i) rfl (r := [(.i .u32 (d1[i]!))]) (u_get (d := d1) (i := i) (by omega)) (by decide)) fun v126 hv125 => ?_
        obtain ⟨rb127, ro128, rfl, hrg129, hrt130, hrb131, hput132, hqs133⟩ := hv125
        refine D_store (vs := [(.i .u32 (d1[(a + k42)]!))]) (c' := (putAt c1 (ro128 + 0) [(.i .u32 (d1[(a + k42)]!))])) rfl (by rfl) hrg129 rfl (List.cons_ne_nil _ _) (by have := hrb131; show _ + 1 ≤ _; omega) rfl fun H134 hW135 => ?_
        have hH137 := Hs.cong1 (Hs.wr1 (Hs.cong1 hH106 (hqs133 _)) hW135) (hqs133 _).symm
        have hSq136 := hput132 0 [(.i .u32 (d1[(a + k42)]!))] [(.i .u32 (d1[(a + k42)]!))] (Nat.le_of_ble_eq_true rfl) rfl
        obtain ⟨dd138, he139⟩ : ∃ z : Array Int, z = d1.setIfInBounds i (d1[(a + k42)]!) := ⟨_, rfl⟩
        have hs141 : Sq 1 v (putAt c1 (ro128 + 0) [(.i .u32 (d1[(a + k42)]!))]) (dU dd138).flatten := by rw [he139, ← u_set]; exact hSq136
        have hn140 : dd138.size = n := by rw [he139, Array.size_setIfInBounds]; exact hp23
        refine And.intro (And.intro (Or.inl rfl) (And.intro (Or.inl rfl) True.intro)) ?_
        refine D_q rfl rfl rfl (by exact Sq.cell hs141 (u_lens dd138) hH137.top1 rfl (i := (a + k42)) rfl (r := [(.i .u32 (dd138[(a + k42)]!))]) (u_get (d := dd138) (i := (a + k42)) (by omega)) (by decide)) fun v143 hv142 => ?_
        obtain ⟨rb144, ro145, rfl, hrg146, hrt147, hrb148, hput149, hqs150⟩ := hv142
        refine D_store (vs := [(.i .u32 (d1[i]!))]) (c' := (putAt (putAt c1 (ro128 + 0) [(.i .u32 (d1[(a + k42)]!))]) (ro145 + 0) [(.i .u32 (d1[i]!))])) rfl (by rfl) hrg146 rfl (List.cons_ne_nil _ _) (by have := hrb148; show _ + 1 ≤ _; omega) rfl fun H151 hW152 => ?_
        have hH154 := Hs.cong1 (Hs.wr1 (Hs.cong1 hH137 (hqs150 _)) hW152) (hqs150 _).symm
        have hSq153 := hput149 0 [(.i .u32 (d1[i]!))] [(.i .u32 (d1[i]!))] (Nat.le_of_ble_eq_true rfl) rfl
        obtain ⟨dd155, he156⟩ : ∃ z : Array Int, z = dd138.setIfInBounds (a + k42) (d1[i]!) := ⟨_, rfl⟩
        have hs158 : Sq 1 v (putAt (putAt c1 (ro128 + 0) [(.i .u32 (d1[(a + k42)]!))]) (ro145 + 0) [(.i .u32 (d1[i]!))]) (dU dd155).flatten := by rw [he156, ← u_set]; exact hSq153
        have hn157 : dd155.size = n := by rw [he156, Array.size_setIfInBounds]; exact hn140
        refine And.intro True.intro ?_
        refine D_nil ?_
        refine C_region ?_
        refine O_p (.i .i64 (((i : Nat)) : Int)) (r_mv hT33) ?_
        refine O_p (.i .i64 ((((i : Nat)) : Int) + 1)) (by exact (r_addi rfl rfl (wrap_i64 (by omega) (by omega)))) ?_
        refine O_p (.i .i64 ((((i : Nat)) : Int) + 1)) (r_mv rfl) ?_
        refine O_nil ?_
        have hH159 := ((hH154.top1).top1)
        exact ⟨(a + (b - a) / 4 * 2 + 2 - (i + 1)), by omega, dd155, (putAt (putAt c1 (ro128 + 0) [(.i .u32 (d1[(a + k42)]!))]) (ro145 + 0) [(.i .u32 (d1[i]!))]), q40, (i + 1), rfl, hs158, hn157, by rw [he156, he139]; exact Go.Sort.permIn_trans _ _ _ _ _ hp24 (Go.Sort.swp_permIn _ _ _ _ _ (by omega) (by omega) (by omega) (by omega) (by omega)), by omega, by omega, hH159, hT27, hT28, hT29, hT30, hT31, hT32, rfl⟩
    ·
      try simp only [decide_eq_true_eq, decide_eq_false_iff_not, Bool.not_eq_true', Bool.not_eq_false', Bool.and_eq_true, Bool.or_eq_true, Bool.or_eq_false_iff, Bool.not_not, Bool.and_eq_false_iff] at hc35
      refine C_exit ?_
      refine nx_exit ?_
      refine nx_exit ?_
      refine bk_hit ?_
      have hH160 := (hH34.sub0)
      exact ⟨.inl rfl, [], rfl, rfl, d1, c1, hp24, hp23, hp22, hH160⟩
  ·
    try simp only [decide_eq_true_eq, decide_eq_false_iff_not, Bool.not_eq_true', Bool.not_eq_false', Bool.and_eq_true, Bool.or_eq_true, Bool.or_eq_false_iff, Bool.not_not, Bool.and_eq_false_iff] at hc1
    refine C_skip ?_
    exact ⟨.inl rfl, [], rfl, rfl, d, c, Go.Sort.permIn_refl _ _ _, hn, hd, hH0⟩


set_option linter.unusedVariables false
set_option linter.unusedSimpArgs false
open Go.Sort (swp PermIn SortedIn Below ltInt insertionSort heapSort partition partitionEqual partialInsertionSort swo_ltInt)
def PdqOK (m : Nat) : Prop := ∀ {H : AH} {R : HL} {v : AV} {c : List AV} {d : Array Int} {n a b : Nat} {lim : Int}, b - a ≤ m → Sq 1 v c (dU d).flatten → d.size = n → n ≤ 1000000 → a ≤ b → b ≤ n → Below ltInt a b d → Hs H (qseg v c ++ R) → Ev tabS spS (.fn (.func 37) [] []) [v, .i .i64 ((a : Nat) : Int), .i .i64 ((b : Nat) : Int), .i .i64 lim] H (fun r H' => r = .tup [] ∧ ∃ d' c', PermIn a b d d' ∧ SortedIn ltInt a b d' ∧ d'.size = n ∧ Sq 1 v c' (dU d').flatten ∧ Hs H' (qseg v c' ++ R))
theorem pdq_call {m : Nat} (ih : ∀ k, k < m → PdqOK k) {H : AH} {R : HL} {v : AV} {c : List AV} {d : Array Int} {n a b : Nat} {lim : Int} (hk : b - a < m) (hd : Sq 1 v c (dU d).flatten) (hn : d.size = n) (hl : n ≤ 1000000) (hab : a ≤ b) (hb : b ≤ n) (hB : Below ltInt a b d) (hH : Hs H (qseg v c ++ R)) : Ev tabS spS (.fn (.func 37) [] []) [v, .i .i64 ((a : Nat) : Int), .i .i64 ((b : Nat) : Int), .i .i64 lim] H (fun r H' => r = .tup [] ∧ ∃ d' c', PermIn a b d d' ∧ SortedIn ltInt a b d' ∧ d'.size = n ∧ Sq 1 v c' (dU d').flatten ∧ Hs H' (qseg v c' ++ R)) := ih (b - a) hk (Nat.le_refl _) hd hn hl hab hb hB hH
set_option maxHeartbeats 4000000 in
theorem pdq_step {H : AH} {R : HL} {v : AV} {c : List AV} {d : Array Int} {n : Nat} {a b m : Nat} {lim : Int} (ih : ∀ k, k < m → PdqOK k) (hm : b - a ≤ m) (hd : Sq 1 v c (dU d).flatten) (hn : d.size = n) (hl : n ≤ 1000000) (hab : a ≤ b) (hb : b ≤ n) (hB : Below ltInt a b d) (hH0 : Hs H (qseg v c ++ R)) : Ev tabS spS (.fn (.func 37) [] []) [v, .i .i64 ((a : Nat) : Int), .i .i64 ((b : Nat) : Int), .i .i64 lim] H (fun r H' => r = .tup [] ∧ ∃ d' c', PermIn a b d d' ∧ SortedIn ltInt a b d' ∧ d'.size = n ∧ Sq 1 v c' (dU d').flatten ∧ Hs H' (qseg v c' ++ R)) := by
  refine Ev_C (F := x37) rfl ?_
  refine C_seq ?_
  refine C_region ?_
  refine O_p (.b true) (r_mv rfl) ?_
  refine O_nil ?_
  refine C_seq ?_
  refine C_region ?_
  refine O_p (.b true) (r_mv rfl) ?_
  refine O_nil ?_
  refine C_block ?_
  refine C_while (fun m1 T2 H3 => ∃ d1 : Array Int, ∃ c1 : List AV, ∃ a1 : Nat, ∃ b1 : Nat, ∃ lim1 : Int, ∃ wb : Bool, ∃ wp : Bool, m1 = b1 - a1 ∧ Sq 1 v c1 (dU d1).flatten ∧ d1.size = n ∧ a1 ≤ b1 ∧ b1 ≤ n ∧ b1 - a1 ≤ b - a ∧ Below ltInt a1 b1 d1 ∧ (∀ z : Array Int, PermIn a1 b1 d1 z → SortedIn ltInt a1 b1 z → PermIn a b d z ∧ SortedIn ltInt a b z) ∧ Hs H3 ((qseg v c1) ++ (R)) ∧ T2.get 0 = v ∧ T2.get 1 = (.i .i64 (((a1 : Nat)) : Int)) ∧ T2.get 2 = (.i .i64 (((b1 : Nat)) : Int)) ∧ T2.get 3 = (.i .i64 lim1) ∧ T2.get 8 = (.b wb) ∧ T2.get 9 = (.b wp)) (fun m1 T2 H3 hI4 => ?_) (b - a) _ _ ⟨d, c, a, b, lim, true, true, rfl, hd, hn, hab, hb, by omega, hB, fun _ h1 h2 => ⟨h1, h2⟩, hH0, rfl, rfl, rfl, rfl, rfl, rfl⟩
  obtain ⟨d1, c1, a1, b1, lim1, wb, wp, hm5, hp6, hp7, hp8, hp9, hp10, hp11, hp12, hH19, hT13, hT14, hT15, hT16, hT17, hT18⟩ := hI4
  refine C_block ?_
  refine C_seq ?_
  refine C_region ?_
  refine O_p (.i .i64 (((b1 : Nat)) : Int)) (r_mv hT15) ?_
  refine O_p (.i .i64 (((a1 : Nat)) : Int)) (r_mv hT14) ?_
  refine O_p (.i .i64 ((((b1 - a1) : Nat)) : Int)) (by exact (r_subn (a := b1) (b := a1) rfl rfl (by omega) (by omega))) ?_
  refine O_p (.i .i64 ((((b1 - a1) : Nat)) : Int)) (r_mv rfl) ?_
  refine O_nil ?_
  refine C_seq ?_
  refine C_seq ?_
  refine C_region ?_
  refine O_p (.i .i64 ((((b1 - a1) : Nat)) : Int)) (r_mv rfl) ?_
  refine O_p (.b (decide (((((b1 - a1) : Nat)) : Int) ≤ 12))) (r_leq rfl rfl) ?_
  refine O_nil ?_
  refine C_cond (x := (decide (((((b1 - a1) : Nat)) : Int) ≤ 12))) rfl (fun hc20 => ?_) (fun hc20 => ?_)
  ·
    have hraw21 := hc20
    try simp only [decide_eq_true_eq, decide_eq_false_iff_not, Bool.not_eq_true', Bool.not_eq_false', Bool.and_eq_true, Bool.or_eq_true, Bool.or_eq_false_iff, Bool.not_not, Bool.and_eq_false_iff] at hc20
    refine C_seq ?_
    refine C_region ?_
    refine O_p v (r_mv hT13) ?_
    refine O_p (.i .i64 (((a1 : Nat)) : Int)) (r_mv hT14) ?_
    refine O_p (.i .i64 (((b1 : Nat)) : Int)) (r_mv hT15) ?_
    refine O_call (Ev.mono (ins_ev (a := a1) (b := b1) hp6 hp7 hl (by omega) (by omega) hH19) fun v22 H23 hq24 => ?_)
    obtain ⟨rfl, c25, hc26, hH27⟩ := hq24
    have hg28 := Go.Sort.insertionSort_holds swo_ltInt d1 a1 b1 (by omega) (by omega)
    obtain ⟨dd29, he30⟩ : ∃ z, z = insertionSort ltInt d1 a1 b1 := ⟨_, rfl⟩
    rw [← he30] at hc26 hg28
    refine O_nil ?_
    refine C_ret ?_
    refine nx_ret ?_
    refine bk_ret ?_
    refine nx_ret ?_
    refine bk_ret ?_
    have hK31 := hp12 _ hg28.1 hg28.2
    exact ⟨.inr rfl, [], rfl, rfl, dd29, c25, hK31.1, hK31.2, (hg28.1.1.trans hp7), hc26, hH27⟩
  ·
    have hraw32 := hc20
    try simp only [decide_eq_true_eq, decide_eq_false_iff_not, Bool.not_eq_true', Bool.not_eq_false', Bool.and_eq_true, Bool.or_eq_true, Bool.or_eq_false_iff, Bool.not_not, Bool.and_eq_false_iff] at hc20
    refine C_skip ?_
    refine C_seq ?_
    refine C_seq ?_
    refine C_region ?_
    refine O_p (.i .i64 lim1) (r_mv hT16) ?_
    refine O_p (.b (decide (lim1 = 0))) (r_eql rfl rfl) ?_
    refine O_nil ?_
    refine C_cond (x := (decide (lim1 = 0))) rfl (fun hc33 => ?_) (fun hc33 => ?_)
    ·
      have hraw34 := hc33
      try simp only [decide_eq_true_eq, decide_eq_false_iff_not, Bool.not_eq_true', Bool.not_eq_false', Bool.and_eq_true, Bool.or_eq_true, Bool.or_eq_false_iff, Bool.not_not, Bool.and_eq_false_iff] at hc33
      refine C_seq ?_
      refine C_region ?_
      refine O_p v (r_mv hT13) ?_
      refine O_p (.i .i64 (((a1 : Nat)) : Int)) (r_mv hT14) ?_
      refine O_p (.i .i64 (((b1 : Nat)) : Int)) (r_mv hT15) ?_
      refine O_call (Ev.mono (heap_ev (a := a1) (b := b1) hp6 hp7 hl (by omega) (by omega) hH19) fun v35 H36 hq37 => ?_)
      obtain ⟨rfl, c38, hc39, hH40⟩ := hq37
      have hg41 := Go.Sort.heapSort_holds swo_ltInt d1 a1 b1 (by omega) (by omega)
      obtain ⟨dd42, he43⟩ : ∃ z, z = heapSort ltInt d1 a1 b1 := ⟨_, rfl⟩
      rw [← he43] at hc39 hg41
      refine O_nil ?_
      refine C_ret ?_
      refine nx_ret ?_
      refine bk_ret ?_
      refine nx_ret ?_
      refine bk_ret ?_
      have hK44 := hp12 _ hg41.1 hg41.2
      exact ⟨.inr rfl, [], rfl, rfl, dd42, c38, hK44.1, hK44.2, (hg41.1.1.trans hp7), hc39, hH40⟩
    ·
      have hraw45 := hc33
      try simp only [decide_eq_true_eq, decide_eq_false_iff_not, Bool.not_eq_true', Bool.not_eq_false', Bool.and_eq_true, Bool.or_eq_true, Bool.or_eq_false_iff, Bool.not_not, Bool.and_eq_false_iff] at hc33
      refine C_skip ?_
      refine C_cut (fun T46 H47 => ∃ d2 : Array Int, ∃ c2 : List AV, ∃ lim2 : Int, PermIn a1 b1 d1 d2 ∧ Sq 1 v c2 (dU d2).flatten ∧ d2.size = n ∧ Hs H47 ((qseg v c2) ++ (R)) ∧ T46.get 0 = v ∧ T46.get 1 = (.i .i64 (((a1 : Nat)) : Int)) ∧ T46.get 2 = (.i .i64 (((b1 : Nat)) : Int)) ∧ T46.get 8 = (.b wb) ∧ T46.get 9 = (.b wp) ∧ T46.get 10 = (.i .i64 ((((b1 - a1) : Nat)) : Int)) ∧ T46.get 3 = (.i .i64 lim2)) ?_ (fun T46 H47 hI48 => ?_)
      ·
        refine C_seq ?_
        refine C_region ?_
        refine O_p (.b wb) (r_mv hT17) ?_
        refine O_p (.b (!wb)) (r_not rfl) ?_
        refine O_nil ?_
        refine C_cond (x := (!wb)) rfl (fun hc49 => ?_) (fun hc49 => ?_)
        ·
          have hraw50 := hc49
          try simp only [decide_eq_true_eq, decide_eq_false_iff_not, Bool.not_eq_true', Bool.not_eq_false', Bool.and_eq_true, Bool.or_eq_true, Bool.or_eq_false_iff, Bool.not_not, Bool.and_eq_false_iff] at hc49
          refine C_seq ?_
          refine C_region ?_
          refine O_p v (r_mv hT13) ?_
          refine O_p (.i .i64 (((a1 : Nat)) : Int)) (r_mv hT14) ?_
          refine O_p (.i .i64 (((b1 : Nat)) : Int)) (r_mv hT15) ?_
          refine O_call (Ev.mono (brk_ev (a := a1) (b := b1) hp6 hp7 hl (by omega) (by omega) hH19) fun v51 H52 hq53 => ?_)
          obtain ⟨rfl, d54, c55, hp56, hn57, hc58, hH59⟩ := hq53
          have hg60 := Go.Sort.permIn_trans _ _ _ _ _ (Go.Sort.permIn_refl _ _ _) hp56
          refine O_nil ?_
          refine C_region ?_
          refine O_p (.i .i64 lim1) (r_mv hT16) ?_
          refine O_p (.i .i64 (IntKind.i64.wrap (lim1 - 1))) (r_bin rfl rfl rfl) ?_
          refine O_p (.i .i64 (IntKind.i64.wrap (lim1 - 1))) (r_mv rfl) ?_
          refine O_nil ?_
          exact ⟨rfl, d54, c55, (IntKind.i64.wrap (lim1 - 1)), hg60, hc58, hn57, hH59, hT13, hT14, hT15, hT17, hT18, rfl, rfl⟩
        ·
          have hraw61 := hc49
          try simp only [decide_eq_true_eq, decide_eq_false_iff_not, Bool.not_eq_true', Bool.not_eq_false', Bool.and_eq_true, Bool.or_eq_true, Bool.or_eq_false_iff, Bool.not_not, Bool.and_eq_false_iff] at hc49
          refine C_skip ?_
          exact ⟨rfl, d1, c1, lim1, (Go.Sort.permIn_refl _ _ _), hp6, hp7, hH19, hT13, hT14, hT15, hT17, hT18, rfl, hT16⟩
      ·
        obtain ⟨d2, c2, lim2, hp62, hp63, hp64, hH72, hT65, hT66, hT67, hT68, hT69, hT70, hT71⟩ := hI48
        refine C_seq ?_
        refine C_region ?_
        refine O_p v (r_mv hT65) ?_
        refine O_p (.i .i64 (((a1 : Nat)) : Int)) (r_mv hT66) ?_
        refine O_p (.i .i64 (((b1 : Nat)) : Int)) (r_mv hT67) ?_
        refine O_call (Ev.mono (piv_ev (a := a1) (b := b1) hp63 hp64 hl (by omega) (by omega) hH72) fun v73 H74 hq75 => ?_)
        obtain ⟨x76, hi77, rfl, hl78, hr79, hs80, hH81⟩ := hq75
        refine O_p (.tup [(.i .i64 (((x76 : Nat)) : Int)), (.i .i64 (((hi77 : Nat)) : Int))]) (r_mv rfl) ?_
        refine O_p (.i .i64 (((x76 : Nat)) : Int)) (r_ext rfl rfl) ?_
        refine O_p (.i .i64 (((hi77 : Nat)) : Int)) (r_ext rfl rfl) ?_
        refine O_p (.i .i64 (((x76 : Nat)) : Int)) (r_mv rfl) ?_
        refine O_p (.i .i64 (((hi77 : Nat)) : Int)) (r_mv rfl) ?_
        refine O_nil ?_
        refine C_cut (fun T82 H83 => ∃ d3 : Array Int, ∃ c3 : List AV, ∃ p3 : Nat, ∃ h3 : Int, PermIn a1 b1 d1 d3 ∧ Sq 1 v c3 (dU d3).flatten ∧ d3.size = n ∧ a1 ≤ p3 ∧ p3 < b1 ∧ Hs H83 ((qseg v c3) ++ (R)) ∧ T82.get 0 = v ∧ T82.get 1 = (.i .i64 (((a1 : Nat)) : Int)) ∧ T82.get 2 = (.i .i64 (((b1 : Nat)) : Int)) ∧ T82.get 8 = (.b wb) ∧ T82.get 9 = (.b wp) ∧ T82.get 10 = (.i .i64 ((((b1 - a1) : Nat)) : Int)) ∧ T82.get 3 = (.i .i64 lim2) ∧ T82.get 11 = (.i .i64 (((p3 : Nat)) : Int)) ∧ T82.get 12 = (.i .i64 h3)) ?_ (fun T82 H83 hI84 => ?_)
        ·
          refine C_seq ?_
          refine C_region ?_
          refine O_p (.i .i64 (((hi77 : Nat)) : Int)) (r_mv rfl) ?_
          refine O_p (.b (decide ((((hi77 : Nat)) : Int) = 2))) (r_eql rfl rfl) ?_
          refine O_nil ?_
          refine C_cond (x := (decide ((((hi77 : Nat)) : Int) = 2))) rfl (fun hc85 => ?_) (fun hc85 => ?_)
          ·
            have hraw86 := hc85
            try simp only [decide_eq_true_eq, decide_eq_false_iff_not, Bool.not_eq_true', Bool.not_eq_false', Bool.and_eq_true, Bool.or_eq_true, Bool.or_eq_false_iff, Bool.not_not, Bool.and_eq_false_iff] at hc85
            refine C_seq ?_
            refine C_region ?_
            refine O_p v (r_mv hT65) ?_
            refine O_p (.i .i64 (((a1 : Nat)) : Int)) (r_mv hT66) ?_
            refine O_p (.i .i64 (((b1 : Nat)) : Int)) (r_mv hT67) ?_
            refine O_call (Ev.mono (rev_ev (a := a1) (b := b1) hp63 hp64 hl (by omega) (by omega) hH81) fun v87 H88 hq89 => ?_)
            obtain ⟨rfl, d90, c91, hp92, hc94, hH95⟩ := hq89
            have hn93 := hp92.1.trans hp64
            have hg96 := Go.Sort.permIn_trans _ _ _ _ _ hp62 hp92
            refine O_nil ?_
            refine C_seq ?_
            refine C_region ?_
            refine O_p (.i .i64 (((b1 : Nat)) : Int)) (r_mv hT67) ?_
            refine O_p (.i .i64 ((((b1 - 1) : Nat)) : Int)) (by exact (r_subn (a := b1) (b := 1) rfl rfl (by omega) (by omega))) ?_
            refine O_p (.i .i64 (((x76 : Nat)) : Int)) (r_mv rfl) ?_
            refine O_p (.i .i64 (((a1 : Nat)) : Int)) (r_mv hT66) ?_
            refine O_p (.i .i64 ((((x76 - a1) : Nat)) : Int)) (by exact (r_subn (a := x76) (b := a1) rfl rfl (by omega) (by omega))) ?_
            refine O_p (.i .i64 (((((b1 - 1) - (x76 - a1)) : Nat)) : Int)) (by exact (r_subn (a := (b1 - 1)) (b := (x76 - a1)) rfl rfl (by omega) (by omega))) ?_
            refine O_p (.i .i64 (((((b1 - 1) - (x76 - a1)) : Nat)) : Int)) (r_mv rfl) ?_
            refine O_nil ?_
            refine C_region ?_
            refine O_p (.i .i64 1) (r_mv rfl) ?_
            refine O_nil ?_
            exact ⟨rfl, d90, c91, ((b1 - 1) - (x76 - a1)), 1, hg96, hc94, hn93, by omega, by omega, hH95, hT65, hT66, hT67, hT68, hT69, hT70, hT71, rfl, rfl⟩
          ·
            have hraw97 := hc85
            try simp only [decide_eq_true_eq, decide_eq_false_iff_not, Bool.not_eq_true', Bool.not_eq_false', Bool.and_eq_true, Bool.or_eq_true, Bool.or_eq_false_iff, Bool.not_not, Bool.and_eq_false_iff] at hc85
            refine C_skip ?_
            exact ⟨rfl, d2, c2, x76, (((hi77 : Nat)) : Int), hp62, hp63, hp64, by omega, by omega, hH81, hT65, hT66, hT67, hT68, hT69, hT70, hT71, rfl, rfl⟩
        ·
          obtain ⟨d3, c3, p3, h3, hp98, hp99, hp100, hp101, hp102, hH112, hT103, hT104, hT105, hT106, hT107, hT108, hT109, hT110, hT111⟩ := hI84
          have hp3a := hp101
          have hp3b := hp102
          refine C_seq ?_
          refine C_seq ?_
          refine C_region ?_
          refine O_p (.b wb) (r_mv hT106) ?_
          refine O_p (.b wb) (r_mv rfl) ?_
          refine O_gx (e := wb) (v := (.b wp)) (wt rfl) (fun he => (r_mv hT107)) ?_
          refine O_p (.b (wb && wp)) (r_pick_and rfl rfl rfl rfl) ?_
          refine O_p (.b (wb && wp)) (r_mv rfl) ?_
          refine O_gx (e := (wb && wp)) (v := (.i .i64 h3)) (wt rfl) (fun he => (r_mv hT111)) ?_
          refine O_gx (e := (wb && wp)) (v := (.b (decide (h3 = 1)))) (wt rfl) (fun he => (r_eql (cond_pos he) rfl)) ?_
          refine O_p (.b ((wb && wp) && (decide (h3 = 1)))) (r_pick_and rfl rfl rfl rfl) ?_
          refine O_nil ?_
          refine C_cond (x := ((wb && wp) && (decide (h3 = 1)))) rfl (fun hc113 => ?_) (fun hc113 => ?_)
          ·
            have hraw114 := hc113
            try simp only [decide_eq_true_eq, decide_eq_false_iff_not, Bool.not_eq_true', Bool.not_eq_false', Bool.and_eq_true, Bool.or_eq_true, Bool.or_eq_false_iff, Bool.not_not, Bool.and_eq_false_iff] at hc113
            refine C_seq ?_
            refine C_region ?_
            refine O_p v (r_mv hT103) ?_
            refine O_p (.i .i64 (((a1 : Nat)) : Int)) (r_mv hT104) ?_
            refine O_p (.i .i64 (((b1 : Nat)) : Int)) (r_mv hT105) ?_
            refine O_call (Ev.mono (pins_ev (a := a1) (b := b1) hp99 hp100 hl (by omega) (by omega) hH112) fun v115 H116 hq117 => ?_)
            obtain ⟨bl118, d119, c120, rfl, he121, hn122, hc123, hH124⟩ := hq117
            have hg125 : PermIn a1 b1 d3 d119 ∧ (bl118 = true → SortedIn ltInt a1 b1 d119) := by have h8 := Go.Sort.partialInsertionSort_holds swo_ltInt d3 a1 b1 (by omega) (by omega) (Go.Sort.Below.perm hp11 (by omega) hp98); rw [he121] at h8; exact h8
            have hp126 := Go.Sort.permIn_trans _ _ _ _ _ hp98 hg125.1
            refine O_nil ?_
            refine C_cond (x := bl118) rfl (fun hc127 => ?_) (fun hc127 => ?_)
            ·
              have hraw128 := hc127
              try simp only [decide_eq_true_eq, decide_eq_false_iff_not, Bool.not_eq_true', Bool.not_eq_false', Bool.and_eq_true, Bool.or_eq_true, Bool.or_eq_false_iff, Bool.not_not, Bool.and_eq_false_iff] at hc127
              refine C_ret ?_
              refine nx_ret ?_
              refine bk_ret ?_
              refine nx_ret ?_
              refine bk_ret ?_
              have hK129 := hp12 _ hp126 (hg125.2 hraw128)
              exact ⟨.inr rfl, [], rfl, rfl, d119, c120, hK129.1, hK129.2, hn122, hc123, hH124⟩
            ·
              have hraw130 := hc127
              try simp only [decide_eq_true_eq, decide_eq_false_iff_not, Bool.not_eq_true', Bool.not_eq_false', Bool.and_eq_true, Bool.or_eq_true, Bool.or_eq_false_iff, Bool.not_not, Bool.and_eq_false_iff] at hc127
              refine C_skip ?_
              refine C_seq ?_
              refine C_seq ?_
              by_cases hij : 0 < a1
              ·
                refine C_draw fun b131 H132 hbase133 hA134 => ?_
                have hH135 := hH124.keep (by have := hA134.1; omega) (fun q _ => hA134.2 q) ((hH124.old).aside hA134).ok
                refine D_l (v := (.i .i64 (((a1 : Nat)) : Int))) rfl rfl rfl (r_mv hT104) ?_
                refine D_l (v := (.b true)) rfl rfl rfl (by exact (by rw [r_gtr rfl rfl, decide_eq_true (by omega)])) ?_
                refine D_l (v := (.b true)) rfl rfl rfl (r_mv rfl) ?_
                refine D_gk rfl ?_
                refine D_l (v := v) rfl rfl rfl (r_mv hT103) ?_
                refine D_gk rfl ?_
                refine D_l (v := (.i .i64 (((a1 : Nat)) : Int))) rfl rfl rfl (r_mv hT104) ?_
                refine D_gk rfl ?_
                refine D_l (v := (.i .i64 ((((a1 - 1) : Nat)) : Int))) rfl rfl rfl (by exact (r_subn (a := a1) (b := 1) rfl rfl (by omega) (by omega))) ?_
                refine D_gk rfl ?_
                refine D_q rfl rfl rfl (by exact Sq.cell hc123 (u_lens d119) hH135.top0 rfl (i := (a1 - 1)) rfl (r := [(.i .u32 (d119[(a1 - 1)]!))]) (u_get (d := d119) (i := (a1 - 1)) (by omega)) (by decide)) fun v137 hv136 => ?_
                obtain ⟨rb138, ro139, rfl, hrg140, hrt141, hrb142, hput143, hqs144⟩ := hv136
                refine D_gk rfl ?_
                refine D_l (v := v) rfl rfl rfl (r_mv hT103) ?_
                refine D_gk rfl ?_
                refine D_l (v := (.i .i64 (((p3 : Nat)) : Int))) rfl rfl rfl (r_mv hT110) ?_
                refine D_gk rfl ?_
                refine D_q rfl rfl rfl (by exact Sq.cell hc123 (u_lens d119) hH135.top0 rfl (i := p3) rfl (r := [(.i .u32 (d119[p3]!))]) (u_get (d := d119) (i := p3) (by omega)) (by decide)) fun v146 hv145 => ?_
                obtain ⟨rb147, ro148, rfl, hrg149, hrt150, hrb151, hput152, hqs153⟩ := hv145
                refine D_gk rfl ?_
                refine D_r (v := (.i .u32 (d119[(a1 - 1)]!))) rfl rfl rfl (r_ldR (q := 0) rfl ⟨_, _, hrg140, hrt141⟩ rfl) ?_
                refine D_gk rfl ?_
                refine D_r (v := (.i .u32 (d119[p3]!))) rfl rfl rfl (r_ldR (q := 0) rfl ⟨_, _, hrg149, hrt150⟩ rfl) ?_
                refine D_gk rfl ?_
                refine D_call (Ev.mono (less_ev (x := (d119[(a1 - 1)]!)) (y := (d119[p3]!)) hH135) fun v154 H155 hq156 => ?_)
                obtain ⟨rfl, hH157⟩ := hq156
                refine And.intro (And.intro (Or.inl rfl) (And.intro (Or.inl rfl) True.intro)) ?_
                refine D_gk rfl ?_
                refine D_l (v := (.b (!(decide ((d119[(a1 - 1)]!) < (d119[p3]!)))))) rfl rfl rfl (r_not rfl) ?_
                refine D_l (v := (.b (!(decide ((d119[(a1 - 1)]!) < (d119[p3]!)))))) rfl rfl rfl (r_pick_t rfl rfl) ?_
                refine D_nil ?_
                refine C_cond (x := (!(decide ((d119[(a1 - 1)]!) < (d119[p3]!))))) rfl (fun hc158 => ?_) (fun hc158 => ?_)
                ·
                  have hraw159 := hc158
                  try simp only [decide_eq_true_eq, decide_eq_false_iff_not, Bool.not_eq_true', Bool.not_eq_false', Bool.and_eq_true, Bool.or_eq_true, Bool.or_eq_false_iff, Bool.not_not, Bool.and_eq_false_iff] at hc158
                  have hnl : ltInt d119[a1 - 1]! d119[p3]! = false := by have h9 := hraw159; simpa [ltInt] using h9
                  refine C_seq ?_
                  refine C_region ?_
                  refine O_p v (r_mv hT103) ?_
                  refine O_p (.i .i64 (((a1 : Nat)) : Int)) (r_mv hT104) ?_
                  refine O_p (.i .i64 (((b1 : Nat)) : Int)) (r_mv hT105) ?_
                  refine O_p (.i .i64 (((p3 : Nat)) : Int)) (r_mv hT110) ?_
                  refine O_call (Ev.mono (peq_ev (a := a1) (b := b1) (pivot := p3) hc123 hn122 hl (by omega) (by omega) (by omega) hH157) fun v160 H161 hq162 => ?_)
                  obtain ⟨m163, d164, c165, rfl, he166, he167, hn168, hc169, hH170⟩ := hq162
                  obtain ⟨hg171a, hg171b, hg171c, hg171d, hg171e⟩ := Go.Sort.round_eq swo_ltInt (Go.Sort.partitionEqual_holds ltInt) hij hp3a hp3b (by omega) (Go.Sort.Below.perm hp11 (by omega) hp126) hnl (Prod.ext he166 he167)
                  refine O_p (.i .i64 (((m163 : Nat)) : Int)) (r_mv rfl) ?_
                  refine O_nil ?_
                  refine C_seq ?_
                  refine C_region ?_
                  refine O_p (.i .i64 (((m163 : Nat)) : Int)) (r_mv rfl) ?_
                  refine O_p (.i .i64 (((m163 : Nat)) : Int)) (r_mv rfl) ?_
                  refine O_nil ?_
                  refine C_exit ?_
                  refine nx_exit ?_
                  refine bk_hit ?_
                  exact ⟨(b1 - m163), by omega, d164, c165, m163, b1, lim2, wb, wp, rfl, hc169, hn168, by omega, by omega, by omega, hg171d, fun z h1 h2 => by have h3 := hg171e z h1 h2; exact hp12 z (Go.Sort.permIn_trans _ _ _ _ _ hp126 h3.1) h3.2, hH170, hT103, rfl, hT105, hT109, hT106, hT107⟩
                ·
                  have hraw172 := hc158
                  try simp only [decide_eq_true_eq, decide_eq_false_iff_not, Bool.not_eq_true', Bool.not_eq_false', Bool.and_eq_true, Bool.or_eq_true, Bool.or_eq_false_iff, Bool.not_not, Bool.and_eq_false_iff] at hc158
                  refine C_skip ?_
                  refine C_seq ?_
                  refine C_region ?_
                  refine O_p v (r_mv hT103) ?_
                  refine O_p (.i .i64 (((a1 : Nat)) : Int)) (r_mv hT104) ?_
                  refine O_p (.i .i64 (((b1 : Nat)) : Int)) (r_mv hT105) ?_
                  refine O_p (.i .i64 (((p3 : Nat)) : Int)) (r_mv hT110) ?_
                  refine O_call (Ev.mono (part_ev (a := a1) (b := b1) (pivot := p3) hc123 hn122 hl (by omega) (by omega) (by omega) hH157) fun v173 H174 hq175 => ?_)
                  obtain ⟨m176, bl177, d178, c179, rfl, he180, he181, hn182, hc183, hH184⟩ := hq175
                  have hx186 : partition ltInt d119 a1 b1 p3 = (m176, (partition ltInt d119 a1 b1 p3).2.1, d178) := by rw [← he180, ← he181]
                  obtain ⟨hg185a, hg185b, hg185c, hg185d, hg185e, hg185f, hg185g⟩ := Go.Sort.round_part swo_ltInt (Go.Sort.partition_holds ltInt) hp3a hp3b (by omega) (Go.Sort.Below.perm hp11 (by omega) hp126) hx186
                  refine O_p (.tup [(.i .i64 (((m176 : Nat)) : Int)), (.b bl177)]) (r_mv rfl) ?_
                  refine O_p (.i .i64 (((m176 : Nat)) : Int)) (r_ext rfl rfl) ?_
                  refine O_p (.b bl177) (r_ext rfl rfl) ?_
                  refine O_p (.i .i64 (((m176 : Nat)) : Int)) (r_mv rfl) ?_
                  refine O_p (.b bl177) (r_mv rfl) ?_
                  refine O_nil ?_
                  refine C_seq ?_
                  refine C_region ?_
                  refine O_p (.b bl177) (r_mv rfl) ?_
                  refine O_p (.b bl177) (r_mv rfl) ?_
                  refine O_nil ?_
                  refine C_seq ?_
                  refine C_region ?_
                  refine O_p (.i .i64 (((m176 : Nat)) : Int)) (r_mv rfl) ?_
                  refine O_p (.i .i64 (((a1 : Nat)) : Int)) (r_mv hT104) ?_
                  refine O_p (.i .i64 ((((m176 - a1) : Nat)) : Int)) (by exact (r_subn (a := m176) (b := a1) rfl rfl (by omega) (by omega))) ?_
                  refine O_p (.i .i64 (((b1 : Nat)) : Int)) (r_mv hT105) ?_
                  refine O_p (.i .i64 (((m176 : Nat)) : Int)) (r_mv rfl) ?_
                  refine O_p (.i .i64 ((((b1 - m176) : Nat)) : Int)) (by exact (r_subn (a := b1) (b := m176) rfl rfl (by omega) (by omega))) ?_
                  refine O_p (.i .i64 ((((m176 - a1) : Nat)) : Int)) (r_mv rfl) ?_
                  refine O_p (.i .i64 ((((b1 - m176) : Nat)) : Int)) (r_mv rfl) ?_
                  refine O_nil ?_
                  refine C_seq ?_
                  refine C_region ?_
                  refine O_p (.i .i64 ((((b1 - a1) : Nat)) : Int)) (r_mv hT108) ?_
                  refine O_p (.i .i64 (((((b1 - a1) / 8) : Nat)) : Int)) (by exact (r_quon (a := (b1 - a1)) (b := 8) rfl rfl (by omega) (by omega))) ?_
                  refine O_p (.i .i64 (((((b1 - a1) / 8) : Nat)) : Int)) (r_mv rfl) ?_
                  refine O_nil ?_
                  refine C_seq ?_
                  refine C_region ?_
                  refine O_p (.i .i64 ((((m176 - a1) : Nat)) : Int)) (r_mv rfl) ?_
                  refine O_p (.i .i64 ((((b1 - m176) : Nat)) : Int)) (r_mv rfl) ?_
                  refine O_p (.b (decide (((((m176 - a1) : Nat)) : Int) < ((((b1 - m176) : Nat)) : Int)))) (r_lss rfl rfl) ?_
                  refine O_nil ?_
                  refine C_cond (x := (decide (((((m176 - a1) : Nat)) : Int) < ((((b1 - m176) : Nat)) : Int)))) rfl (fun hc187 => ?_) (fun hc187 => ?_)
                  ·
                    have hraw188 := hc187
                    try simp only [decide_eq_true_eq, decide_eq_false_iff_not, Bool.not_eq_true', Bool.not_eq_false', Bool.and_eq_true, Bool.or_eq_true, Bool.or_eq_false_iff, Bool.not_not, Bool.and_eq_false_iff] at hc187
                    refine C_seq ?_
                    refine C_region ?_
                    refine O_p (.i .i64 ((((m176 - a1) : Nat)) : Int)) (r_mv rfl) ?_
                    refine O_p (.i .i64 (((((b1 - a1) / 8) : Nat)) : Int)) (r_mv rfl) ?_
                    refine O_p (.b (decide ((((((b1 - a1) / 8) : Nat)) : Int) ≤ ((((m176 - a1) : Nat)) : Int)))) (r_geq rfl rfl) ?_
                    refine O_p (.b (decide ((((((b1 - a1) / 8) : Nat)) : Int) ≤ ((((m176 - a1) : Nat)) : Int)))) (r_mv rfl) ?_
                    refine O_nil ?_
                    refine C_seq ?_
                    refine C_region ?_
                    refine O_p v (r_mv hT103) ?_
                    refine O_p (.i .i64 (((a1 : Nat)) : Int)) (r_mv hT104) ?_
                    refine O_p (.i .i64 (((m176 : Nat)) : Int)) (r_mv rfl) ?_
                    refine O_p (.i .i64 lim2) (r_mv hT109) ?_
                    refine O_call (Ev.mono (pdq_call ih (a := a1) (b := m176) (by omega) hc183 hn182 hl (by omega) (by omega) hg185d hH184) fun v189 H190 hq191 => ?_)
                    obtain ⟨rfl, d192, c193, hp194, hs195, hn196, hc197, hH198⟩ := hq191
                    have hg199 := hg185f _ hp194 hs195
                    refine O_nil ?_
                    refine C_region ?_
                    refine O_p (.i .i64 (((m176 : Nat)) : Int)) (r_mv rfl) ?_
                    refine O_p (.i .i64 ((((m176 : Nat)) : Int) + 1)) (by exact (r_addi rfl rfl (wrap_i64 (by omega) (by omega)))) ?_
                    refine O_p (.i .i64 ((((m176 : Nat)) : Int) + 1)) (r_mv rfl) ?_
                    refine O_nil ?_
                    exact ⟨(b1 - (m176 + 1)), by omega, d192, c193, (m176 + 1), b1, lim2, (decide ((((((b1 - a1) / 8) : Nat)) : Int) ≤ ((((m176 - a1) : Nat)) : Int))), bl177, rfl, hc197, hn196, by omega, by omega, by omega, hg199.1, fun z h1 h2 => by have h3 := hg199.2 z h1 h2; exact hp12 z (Go.Sort.permIn_trans _ _ _ _ _ hp126 h3.1) h3.2, hH198, hT103, rfl, hT105, hT109, rfl, rfl⟩
                  ·
                    have hraw200 := hc187
                    try simp only [decide_eq_true_eq, decide_eq_false_iff_not, Bool.not_eq_true', Bool.not_eq_false', Bool.and_eq_true, Bool.or_eq_true, Bool.or_eq_false_iff, Bool.not_not, Bool.and_eq_false_iff] at hc187
                    refine C_seq ?_
                    refine C_region ?_
                    refine O_p (.i .i64 ((((b1 - m176) : Nat)) : Int)) (r_mv rfl) ?_
                    refine O_p (.i .i64 (((((b1 - a1) / 8) : Nat)) : Int)) (r_mv rfl) ?_
                    refine O_p (.b (decide ((((((b1 - a1) / 8) : Nat)) : Int) ≤ ((((b1 - m176) : Nat)) : Int)))) (r_geq rfl rfl) ?_
                    refine O_p (.b (decide ((((((b1 - a1) / 8) : Nat)) : Int) ≤ ((((b1 - m176) : Nat)) : Int)))) (r_mv rfl) ?_
                    refine O_nil ?_
                    refine C_seq ?_
                    refine C_region ?_
                    refine O_p v (r_mv hT103) ?_
                    refine O_p (.i .i64 (((m176 : Nat)) : Int)) (r_mv rfl) ?_
                    refine O_p (.i .i64 ((((m176 : Nat)) : Int) + 1)) (by exact (r_addi rfl rfl (wrap_i64 (by omega) (by omega)))) ?_
                    refine O_p (.i .i64 (((b1 : Nat)) : Int)) (r_mv hT105) ?_
                    refine O_p (.i .i64 lim2) (r_mv hT109) ?_
                    refine O_call (Ev.mono (pdq_call ih (a := (m176 + 1)) (b := b1) (by omega) hc183 hn182 hl (by omega) (by omega) hg185e hH184) fun v201 H202 hq203 => ?_)
                    obtain ⟨rfl, d204, c205, hp206, hs207, hn208, hc209, hH210⟩ := hq203
                    have hg211 := hg185g _ hp206 hs207
                    refine O_nil ?_
                    refine C_region ?_
                    refine O_p (.i .i64 (((m176 : Nat)) : Int)) (r_mv rfl) ?_
                    refine O_p (.i .i64 (((m176 : Nat)) : Int)) (r_mv rfl) ?_
                    refine O_nil ?_
                    exact ⟨(m176 - a1), by omega, d204, c205, a1, m176, lim2, (decide ((((((b1 - a1) / 8) : Nat)) : Int) ≤ ((((b1 - m176) : Nat)) : Int))), bl177, rfl, hc209, hn208, by omega, by omega, by omega, hg211.1, fun z h1 h2 => by have h3 := hg211.2 z h1 h2; exact hp12 z (Go.Sort.permIn_trans _ _ _ _ _ hp126 h3.1) h3.2, hH210, hT103, hT104, rfl, hT109, rfl, rfl⟩
              ·
                refine C_draw fun b212 H213 hbase214 hA215 => ?_
                have hH216 := hH124.keep (by have := hA215.1; omega) (fun q _ => hA215.2 q) ((hH124.old).aside hA215).ok
                refine D_l (v := (.i .i64 (((a1 : Nat)) : Int))) rfl rfl rfl (r_mv hT104) ?_
                refine D_l (v := (.b false)) rfl rfl rfl (by exact (by rw [r_gtr rfl rfl, decide_eq_false (by omega)])) ?_
                refine D_l (v := (.b false)) rfl rfl rfl (r_mv rfl) ?_
                refine D_gf rfl ?_
                refine D_gf rfl ?_
                refine D_gf rfl ?_
                refine D_gf rfl ?_
                refine D_gf rfl ?_
                refine D_gf rfl ?_
                refine D_gf rfl ?_
                refine D_gf rfl ?_
                refine D_gf rfl ?_
                refine D_gf rfl ?_
                refine D_gf rfl ?_
                refine D_l (v := (.b false)) rfl rfl rfl (r_pick_f rfl rfl) ?_
                refine D_nil ?_
                refine C_cond (x := false) rfl (fun h => by cases h) (fun _ => ?_)
                refine C_skip ?_
                refine C_seq ?_
                refine C_region ?_
                refine O_p v (r_mv hT103) ?_
                refine O_p (.i .i64 (((a1 : Nat)) : Int)) (r_mv hT104) ?_
                refine O_p (.i .i64 (((b1 : Nat)) : Int)) (r_mv hT105) ?_
                refine O_p (.i .i64 (((p3 : Nat)) : Int)) (r_mv hT110) ?_
                refine O_call (Ev.mono (part_ev (a := a1) (b := b1) (pivot := p3) hc123 hn122 hl (by omega) (by omega) (by omega) hH216) fun v217 H218 hq219 => ?_)
                obtain ⟨m220, bl221, d222, c223, rfl, he224, he225, hn226, hc227, hH228⟩ := hq219
                have hx230 : partition ltInt d119 a1 b1 p3 = (m220, (partition ltInt d119 a1 b1 p3).2.1, d222) := by rw [← he224, ← he225]
                obtain ⟨hg229a, hg229b, hg229c, hg229d, hg229e, hg229f, hg229g⟩ := Go.Sort.round_part swo_ltInt (Go.Sort.partition_holds ltInt) hp3a hp3b (by omega) (Go.Sort.Below.perm hp11 (by omega) hp126) hx230
                refine O_p (.tup [(.i .i64 (((m220 : Nat)) : Int)), (.b bl221)]) (r_mv rfl) ?_
                refine O_p (.i .i64 (((m220 : Nat)) : Int)) (r_ext rfl rfl) ?_
                refine O_p (.b bl221) (r_ext rfl rfl) ?_
                refine O_p (.i .i64 (((m220 : Nat)) : Int)) (r_mv rfl) ?_
                refine O_p (.b bl221) (r_mv rfl) ?_
                refine O_nil ?_
                refine C_seq ?_
                refine C_region ?_
                refine O_p (.b bl221) (r_mv rfl) ?_
                refine O_p (.b bl221) (r_mv rfl) ?_
                refine O_nil ?_
                refine C_seq ?_
                refine C_region ?_
                refine O_p (.i .i64 (((m220 : Nat)) : Int)) (r_mv rfl) ?_
                refine O_p (.i .i64 (((a1 : Nat)) : Int)) (r_mv hT104) ?_
                refine O_p (.i .i64 ((((m220 - a1) : Nat)) : Int)) (by exact (r_subn (a := m220) (b := a1) rfl rfl (by omega) (by omega))) ?_
                refine O_p (.i .i64 (((b1 : Nat)) : Int)) (r_mv hT105) ?_
                refine O_p (.i .i64 (((m220 : Nat)) : Int)) (r_mv rfl) ?_
                refine O_p (.i .i64 ((((b1 - m220) : Nat)) : Int)) (by exact (r_subn (a := b1) (b := m220) rfl rfl (by omega) (by omega))) ?_
                refine O_p (.i .i64 ((((m220 - a1) : Nat)) : Int)) (r_mv rfl) ?_
                refine O_p (.i .i64 ((((b1 - m220) : Nat)) : Int)) (r_mv rfl) ?_
                refine O_nil ?_
                refine C_seq ?_
                refine C_region ?_
                refine O_p (.i .i64 ((((b1 - a1) : Nat)) : Int)) (r_mv hT108) ?_
                refine O_p (.i .i64 (((((b1 - a1) / 8) : Nat)) : Int)) (by exact (r_quon (a := (b1 - a1)) (b := 8) rfl rfl (by omega) (by omega))) ?_
                refine O_p (.i .i64 (((((b1 - a1) / 8) : Nat)) : Int)) (r_mv rfl) ?_
                refine O_nil ?_
                refine C_seq ?_
                refine C_region ?_
                refine O_p (.i .i64 ((((m220 - a1) : Nat)) : Int)) (r_mv rfl) ?_
                refine O_p (.i .i64 ((((b1 - m220) : Nat)) : Int)) (r_mv rfl) ?_
                refine O_p (.b (decide (((((m220 - a1) : Nat)) : Int) < ((((b1 - m220) : Nat)) : Int)))) (r_lss rfl rfl) ?_
                refine O_nil ?_
                refine C_cond (x := (decide (((((m220 - a1) : Nat)) : Int) < ((((b1 - m220) : Nat)) : Int)))) rfl (fun hc231 => ?_) (fun hc231 => ?_)
                ·
                  have hraw232 := hc231
                  try simp only [decide_eq_true_eq, decide_eq_false_iff_not, Bool.not_eq_true', Bool.not_eq_false', Bool.and_eq_true, Bool.or_eq_true, Bool.or_eq_false_iff, Bool.not_not, Bool.and_eq_false_iff] at hc231
                  refine C_seq ?_
                  refine C_region ?_
                  refine O_p (.i .i64 ((((m220 - a1) : Nat)) : Int)) (r_mv rfl) ?_
                  refine O_p (.i .i64 (((((b1 - a1) / 8) : Nat)) : Int)) (r_mv rfl) ?_
                  refine O_p (.b (decide ((((((b1 - a1) / 8) : Nat)) : Int) ≤ ((((m220 - a1) : Nat)) : Int)))) (r_geq rfl rfl) ?_
                  refine O_p (.b (decide ((((((b1 - a1) / 8) : Nat)) : Int) ≤ ((((m220 - a1) : Nat)) : Int)))) (r_mv rfl) ?_
                  refine O_nil ?_
                  refine C_seq ?_
                  refine C_region ?_
                  refine O_p v (r_mv hT103) ?_
                  refine O_p (.i .i64 (((a1 : Nat)) : Int)) (r_mv hT104) ?_
                  refine O_p (.i .i64 (((m220 : Nat)) : Int)) (r_mv rfl) ?_
                  refine O_p (.i .i64 lim2) (r_mv hT109) ?_
                  refine O_call (Ev.mono (pdq_call ih (a := a1) (b := m220) (by omega) hc227 hn226 hl (by omega) (by omega) hg229d hH228) fun v233 H234 hq235 => ?_)
                  obtain ⟨rfl, d236, c237, hp238, hs239, hn240, hc241, hH242⟩ := hq235
                  have hg243 := hg229f _ hp238 hs239
                  refine O_nil ?_
                  refine C_region ?_
                  refine O_p (.i .i64 (((m220 : Nat)) : Int)) (r_mv rfl) ?_
                  refine O_p (.i .i64 ((((m220 : Nat)) : Int) + 1)) (by exact (r_addi rfl rfl (wrap_i64 (by omega) (by omega)))) ?_
                  refine O_p (.i .i64 ((((m220 : Nat)) : Int) + 1)) (r_mv rfl) ?_
                  refine O_nil ?_
                  exact ⟨(b1 - (m220 + 1)), by omega, d236, c237, (m220 + 1), b1, lim2, (decide ((((((b1 - a1) / 8) : Nat)) : Int) ≤ ((((m220 - a1) : Nat)) : Int))), bl221, rfl, hc241, hn240, by omega, by omega, by omega, hg243.1, fun z h1 h2 => by have h3 := hg243.2 z h1 h2; exact hp12 z (Go.Sort.permIn_trans _ _ _ _ _ hp126 h3.1) h3.2, hH242, hT103, rfl, hT105, hT109, rfl, rfl⟩
                ·
                  have hraw244 := hc231
                  try simp only [decide_eq_true_eq, decide_eq_false_iff_not, Bool.not_eq_true', Bool.not_eq_false', Bool.and_eq_true, Bool.or_eq_true, Bool.or_eq_false_iff, Bool.not_not, Bool.and_eq_false_iff] at hc231
                  refine C_seq ?_
                  refine C_region ?_
                  refine O_p (.i .i64 ((((b1 - m220) : Nat)) : Int)) (r_mv rfl) ?_
                  refine O_p (.i .i64 (((((b1 - a1) / 8) : Nat)) : Int)) (r_mv rfl) ?_
                  refine O_p (.b (decide ((((((b1 - a1) / 8) : Nat)) : Int) ≤ ((((b1 - m220) : Nat)) : Int)))) (r_geq rfl rfl) ?_
                  refine O_p (.b (decide ((((((b1 - a1) / 8) : Nat)) : Int) ≤ ((((b1 - m220) : Nat)) : Int)))) (r_mv rfl) ?_
                  refine O_nil ?_
                  refine C_seq ?_
                  refine C_region ?_
                  refine O_p v (r_mv hT103) ?_
                  refine O_p (.i .i64 (((m220 : Nat)) : Int)) (r_mv rfl) ?_
                  refine O_p (.i .i64 ((((m220 : Nat)) : Int) + 1)) (by exact (r_addi rfl rfl (wrap_i64 (by omega) (by omega)))) ?_
                  refine O_p (.i .i64 (((b1 : Nat)) : Int)) (r_mv hT105) ?_
                  refine O_p (.i .i64 lim2) (r_mv hT109) ?_
                  refine O_call (Ev.mono (pdq_call ih (a := (m220 + 1)) (b := b1) (by omega) hc227 hn226 hl (by omega) (by omega) hg229e hH228) fun v245 H246 hq247 => ?_)
                  obtain ⟨rfl, d248, c249, hp250, hs251, hn252, hc253, hH254⟩ := hq247
                  have hg255 := hg229g _ hp250 hs251
                  refine O_nil ?_
                  refine C_region ?_
                  refine O_p (.i .i64 (((m220 : Nat)) : Int)) (r_mv rfl) ?_
                  refine O_p (.i .i64 (((m220 : Nat)) : Int)) (r_mv rfl) ?_
                  refine O_nil ?_
                  exact ⟨(m220 - a1), by omega, d248, c249, a1, m220, lim2, (decide ((((((b1 - a1) / 8) : Nat)) : Int) ≤ ((((b1 - m220) : Nat)) : Int))), bl221, rfl, hc253, hn252, by omega, by omega, by omega, hg255.1, fun z h1 h2 => by have h3 := hg255.2 z h1 h2; exact hp12 z (Go.Sort.permIn_trans _ _ _ _ _ hp126 h3.1) h3.2, hH254, hT103, hT104, rfl, hT109, rfl, rfl⟩
          ·
            have hraw256 := hc113
            try simp only [decide_eq_true_eq, decide_eq_false_iff_not, Bool.not_eq_true', Bool.not_eq_false', Bool.and_eq_true, Bool.or_eq_true, Bool.or_eq_false_iff, Bool.not_not, Bool.and_eq_false_iff] at hc113
            refine C_skip ?_
            refine C_seq ?_
            refine C_seq ?_
            by_cases hij : 0 < a1
            ·
              refine C_draw fun b257 H258 hbase259 hA260 => ?_
              have hH261 := hH112.keep (by have := hA260.1; omega) (fun q _ => hA260.2 q) ((hH112.old).aside hA260).ok
              refine D_l (v := (.i .i64 (((a1 : Nat)) : Int))) rfl rfl rfl (r_mv hT104) ?_
              refine D_l (v := (.b true)) rfl rfl rfl (by exact (by rw [r_gtr rfl rfl, decide_eq_true (by omega)])) ?_
              refine D_l (v := (.b true)) rfl rfl rfl (r_mv rfl) ?_
              refine D_gk rfl ?_
              refine D_l (v := v) rfl rfl rfl (r_mv hT103) ?_
              refine D_gk rfl ?_
              refine D_l (v := (.i .i64 (((a1 : Nat)) : Int))) rfl rfl rfl (r_mv hT104) ?_
              refine D_gk rfl ?_
              refine D_l (v := (.i .i64 ((((a1 - 1) : Nat)) : Int))) rfl rfl rfl (by exact (r_subn (a := a1) (b := 1) rfl rfl (by omega) (by omega))) ?_
              refine D_gk rfl ?_
              refine D_q rfl rfl rfl (by exact Sq.cell hp99 (u_lens d3) hH261.top0 rfl (i := (a1 - 1)) rfl (r := [(.i .u32 (d3[(a1 - 1)]!))]) (u_get (d := d3) (i := (a1 - 1)) (by omega)) (by decide)) fun v263 hv262 => ?_
              obtain ⟨rb264, ro265, rfl, hrg266, hrt267, hrb268, hput269, hqs270⟩ := hv262
              refine D_gk rfl ?_
              refine D_l (v := v) rfl rfl rfl (r_mv hT103) ?_
              refine D_gk rfl ?_
              refine D_l (v := (.i .i64 (((p3 : Nat)) : Int))) rfl rfl rfl (r_mv hT110) ?_
              refine D_gk rfl ?_
              refine D_q rfl rfl rfl (by exact Sq.cell hp99 (u_lens d3) hH261.top0 rfl (i := p3) rfl (r := [(.i .u32 (d3[p3]!))]) (u_get (d := d3) (i := p3) (by omega)) (by decide)) fun v272 hv271 => ?_
              obtain ⟨rb273, ro274, rfl, hrg275, hrt276, hrb277, hput278, hqs279⟩ := hv271
              refine D_gk rfl ?_
              refine D_r (v := (.i .u32 (d3[(a1 - 1)]!))) rfl rfl rfl (r_ldR (q := 0) rfl ⟨_, _, hrg266, hrt267⟩ rfl) ?_
              refine D_gk rfl ?_
              refine D_r (v := (.i .u32 (d3[p3]!))) rfl rfl rfl (r_ldR (q := 0) rfl ⟨_, _, hrg275, hrt276⟩ rfl) ?_
              refine D_gk rfl ?_
              refine D_call (Ev.mono (less_ev (x := (d3[(a1 - 1)]!)) (y := (d3[p3]!)) hH261) fun v280 H281 hq282 => ?_)
              obtain ⟨rfl, hH283⟩ := hq282
              refine And.intro (And.intro (Or.inl rfl) (And.intro (Or.inl rfl) True.intro)) ?_
              refine D_gk rfl ?_
              refine D_l (v := (.b (!(decide ((d3[(a1 - 1)]!) < (d3[p3]!)))))) rfl rfl rfl (r_not rfl) ?_
              refine D_l (v := (.b (!(decide ((d3[(a1 - 1)]!) < (d3[p3]!)))))) rfl rfl rfl (r_pick_t rfl rfl) ?_
              refine D_nil ?_
              refine C_cond (x := (!(decide ((d3[(a1 - 1)]!) < (d3[p3]!))))) rfl (fun hc284 => ?_) (fun hc284 => ?_)
              ·
                have hraw285 := hc284
                try simp only [decide_eq_true_eq, decide_eq_false_iff_not, Bool.not_eq_true', Bool.not_eq_false', Bool.and_eq_true, Bool.or_eq_true, Bool.or_eq_false_iff, Bool.not_not, Bool.and_eq_false_iff] at hc284
                have hnl : ltInt d3[a1 - 1]! d3[p3]! = false := by have h9 := hraw285; simpa [ltInt] using h9
                refine C_seq ?_
                refine C_region ?_
                refine O_p v (r_mv hT103) ?_
                refine O_p (.i .i64 (((a1 : Nat)) : Int)) (r_mv hT104) ?_
                refine O_p (.i .i64 (((b1 : Nat)) : Int)) (r_mv hT105) ?_
                refine O_p (.i .i64 (((p3 : Nat)) : Int)) (r_mv hT110) ?_
                refine O_call (Ev.mono (peq_ev (a := a1) (b := b1) (pivot := p3) hp99 hp100 hl (by omega) (by omega) (by omega) hH283) fun v286 H287 hq288 => ?_)
                obtain ⟨m289, d290, c291, rfl, he292, he293, hn294, hc295, hH296⟩ := hq288
                obtain ⟨hg297a, hg297b, hg297c, hg297d, hg297e⟩ := Go.Sort.round_eq swo_ltInt (Go.Sort.partitionEqual_holds ltInt) hij hp3a hp3b (by omega) (Go.Sort.Below.perm hp11 (by omega) hp98) hnl (Prod.ext he292 he293)
                refine O_p (.i .i64 (((m289 : Nat)) : Int)) (r_mv rfl) ?_
                refine O_nil ?_
                refine C_seq ?_
                refine C_region ?_
                refine O_p (.i .i64 (((m289 : Nat)) : Int)) (r_mv rfl) ?_
                refine O_p (.i .i64 (((m289 : Nat)) : Int)) (r_mv rfl) ?_
                refine O_nil ?_
                refine C_exit ?_
                refine nx_exit ?_
                refine bk_hit ?_
                exact ⟨(b1 - m289), by omega, d290, c291, m289, b1, lim2, wb, wp, rfl, hc295, hn294, by omega, by omega, by omega, hg297d, fun z h1 h2 => by have h3 := hg297e z h1 h2; exact hp12 z (Go.Sort.permIn_trans _ _ _ _ _ hp98 h3.1) h3.2, hH296, hT103, rfl, hT105, hT109, hT106, hT107⟩
              ·
                have hraw298 := hc284
                try simp only [decide_eq_true_eq, decide_eq_false_iff_not, Bool.not_eq_true', Bool.not_eq_false', Bool.and_eq_true, Bool.or_eq_true, Bool.or_eq_false_iff, Bool.not_not, Bool.and_eq_false_iff] at hc284
                refine C_skip ?_
                refine C_seq ?_
                refine C_region ?_
                refine O_p v (r_mv hT103) ?_
                refine O_p (.i .i64 (((a1 : Nat)) : Int)) (r_mv hT104) ?_
                refine O_p (.i .i64 (((b1 : Nat)) : Int)) (r_mv hT105) ?_
                refine O_p (.i .i64 (((p3 : Nat)) : Int)) (r_mv hT110) ?_
                refine O_call (Ev.mono (part_ev (a := a1) (b := b1) (pivot := p3) hp99 hp100 hl (by omega) (by omega) (by omega) hH283) fun v299 H300 hq301 => ?_)
                obtain ⟨m302, bl303, d304, c305, rfl, he306, he307, hn308, hc309, hH310⟩ := hq301
                have hx312 : partition ltInt d3 a1 b1 p3 = (m302, (partition ltInt d3 a1 b1 p3).2.1, d304) := by rw [← he306, ← he307]
                obtain ⟨hg311a, hg311b, hg311c, hg311d, hg311e, hg311f, hg311g⟩ := Go.Sort.round_part swo_ltInt (Go.Sort.partition_holds ltInt) hp3a hp3b (by omega) (Go.Sort.Below.perm hp11 (by omega) hp98) hx312
                refine O_p (.tup [(.i .i64 (((m302 : Nat)) : Int)), (.b bl303)]) (r_mv rfl) ?_
                refine O_p (.i .i64 (((m302 : Nat)) : Int)) (r_ext rfl rfl) ?_
                refine O_p (.b bl303) (r_ext rfl rfl) ?_
                refine O_p (.i .i64 (((m302 : Nat)) : Int)) (r_mv rfl) ?_
                refine O_p (.b bl303) (r_mv rfl) ?_
                refine O_nil ?_
                refine C_seq ?_
                refine C_region ?_
                refine O_p (.b bl303) (r_mv rfl) ?_
                refine O_p (.b bl303) (r_mv rfl) ?_
                refine O_nil ?_
                refine C_seq ?_
                refine C_region ?_
                refine O_p (.i .i64 (((m302 : Nat)) : Int)) (r_mv rfl) ?_
                refine O_p (.i .i64 (((a1 : Nat)) : Int)) (r_mv hT104) ?_
                refine O_p (.i .i64 ((((m302 - a1) : Nat)) : Int)) (by exact (r_subn (a := m302) (b := a1) rfl rfl (by omega) (by omega))) ?_
                refine O_p (.i .i64 (((b1 : Nat)) : Int)) (r_mv hT105) ?_
                refine O_p (.i .i64 (((m302 : Nat)) : Int)) (r_mv rfl) ?_
                refine O_p (.i .i64 ((((b1 - m302) : Nat)) : Int)) (by exact (r_subn (a := b1) (b := m302) rfl rfl (by omega) (by omega))) ?_
                refine O_p (.i .i64 ((((m302 - a1) : Nat)) : Int)) (r_mv rfl) ?_
                refine O_p (.i .i64 ((((b1 - m302) : Nat)) : Int)) (r_mv rfl) ?_
                refine O_nil ?_
                refine C_seq ?_
                refine C_region ?_
                refine O_p (.i .i64 ((((b1 - a1) : Nat)) : Int)) (r_mv hT108) ?_
                refine O_p (.i .i64 (((((b1 - a1) / 8) : Nat)) : Int)) (by exact (r_quon (a := (b1 - a1)) (b := 8) rfl rfl (by omega) (by omega))) ?_
                refine O_p (.i .i64 (((((b1 - a1) / 8) : Nat)) : Int)) (r_mv rfl) ?_
                refine O_nil ?_
                refine C_seq ?_
                refine C_region ?_
                refine O_p (.i .i64 ((((m302 - a1) : Nat)) : Int)) (r_mv rfl) ?_
                refine O_p (.i .i64 ((((b1 - m302) : Nat)) : Int)) (r_mv rfl) ?_
                refine O_p (.b (decide (((((m302 - a1) : Nat)) : Int) < ((((b1 - m302) : Nat)) : Int)))) (r_lss rfl rfl) ?_
                refine O_nil ?_
                refine C_cond (x := (decide (((((m302 - a1) : Nat)) : Int) < ((((b1 - m302) : Nat)) : Int)))) rfl (fun hc313 => ?_) (fun hc313 => ?_)
                ·
                  have hraw314 := hc313
                  try simp only [decide_eq_true_eq, decide_eq_false_iff_not, Bool.not_eq_true', Bool.not_eq_false', Bool.and_eq_true, Bool.or_eq_true, Bool.or_eq_false_iff, Bool.not_not, Bool.and_eq_false_iff] at hc313
                  refine C_seq ?_
                  refine C_region ?_
                  refine O_p (.i .i64 ((((m302 - a1) : Nat)) : Int)) (r_mv rfl) ?_
                  refine O_p (.i .i64 (((((b1 - a1) / 8) : Nat)) : Int)) (r_mv rfl) ?_
                  refine O_p (.b (decide ((((((b1 - a1) / 8) : Nat)) : Int) ≤ ((((m302 - a1) : Nat)) : Int)))) (r_geq rfl rfl) ?_
                  refine O_p (.b (decide ((((((b1 - a1) / 8) : Nat)) : Int) ≤ ((((m302 - a1) : Nat)) : Int)))) (r_mv rfl) ?_
                  refine O_nil ?_
                  refine C_seq ?_
                  refine C_region ?_
                  refine O_p v (r_mv hT103) ?_
                  refine O_p (.i .i64 (((a1 : Nat)) : Int)) (r_mv hT104) ?_
                  refine O_p (.i .i64 (((m302 : Nat)) : Int)) (r_mv rfl) ?_
                  refine O_p (.i .i64 lim2) (r_mv hT109) ?_
                  refine O_call (Ev.mono (pdq_call ih (a := a1) (b := m302) (by omega) hc309 hn308 hl (by omega) (by omega) hg311d hH310) fun v315 H316 hq317 => ?_)
                  obtain ⟨rfl, d318, c319, hp320, hs321, hn322, hc323, hH324⟩ := hq317
                  have hg325 := hg311f _ hp320 hs321
                  refine O_nil ?_
                  refine C_region ?_
                  refine O_p (.i .i64 (((m302 : Nat)) : Int)) (r_mv rfl) ?_
                  refine O_p (.i .i64 ((((m302 : Nat)) : Int) + 1)) (by exact (r_addi rfl rfl (wrap_i64 (by omega) (by omega)))) ?_
                  refine O_p (.i .i64 ((((m302 : Nat)) : Int) + 1)) (r_mv rfl) ?_
                  refine O_nil ?_
                  exact ⟨(b1 - (m302 + 1)), by omega, d318, c319, (m302 + 1), b1, lim2, (decide ((((((b1 - a1) / 8) : Nat)) : Int) ≤ ((((m302 - a1) : Nat)) : Int))), bl303, rfl, hc323, hn322, by omega, by omega, by omega, hg325.1, fun z h1 h2 => by have h3 := hg325.2 z h1 h2; exact hp12 z (Go.Sort.permIn_trans _ _ _ _ _ hp98 h3.1) h3.2, hH324, hT103, rfl, hT105, hT109, rfl, rfl⟩
                ·
                  have hraw326 := hc313
                  try simp only [decide_eq_true_eq, decide_eq_false_iff_not, Bool.not_eq_true', Bool.not_eq_false', Bool.and_eq_true, Bool.or_eq_true, Bool.or_eq_false_iff, Bool.not_not, Bool.and_eq_false_iff] at hc313
                  refine C_seq ?_
                  refine C_region ?_
                  refine O_p (.i .i64 ((((b1 - m302) : Nat)) : Int)) (r_mv rfl) ?_
                  refine O_p (.i .i64 (((((b1 - a1) / 8) : Nat)) : Int)) (r_mv rfl) ?_
                  refine O_p (.b (decide ((((((b1 - a1) / 8) : Nat)) : Int) ≤ ((((b1 - m302) : Nat)) : Int)))) (r_geq rfl rfl) ?_
                  refine O_p (.b (decide ((((((b1 - a1) / 8) : Nat)) : Int) ≤ ((((b1 - m302) : Nat)) : Int)))) (r_mv rfl) ?_
                  refine O_nil ?_
                  refine C_seq ?_
                  refine C_region ?_
                  refine O_p v (r_mv hT103) ?_
                  refine O_p (.i .i64 (((m302 : Nat)) : Int)) (r_mv rfl) ?_
                  refine O_p (.i .i64 ((((m302 : Nat)) : Int) + 1)) (by exact (r_addi rfl rfl (wrap_i64 (by omega) (by omega)))) ?_
                  refine O_p (.i .i64 (((b1 : Nat)) : Int)) (r_mv hT105) ?_
                  refine O_p (.i .i64 lim2) (r_mv hT109) ?_
                  refine O_call (Ev.mono (pdq_call ih (a := (m302 + 1)) (b := b1) (by omega) hc309 hn308 hl (by omega) (by omega) hg311e hH310) fun v327 H328 hq329 => ?_)
                  obtain ⟨rfl, d330, c331, hp332, hs333, hn334, hc335, hH336⟩ := hq329
                  have hg337 := hg311g _ hp332 hs333
                  refine O_nil ?_
                  refine C_region ?_
                  refine O_p (.i .i64 (((m302 : Nat)) : Int)) (r_mv rfl) ?_
                  refine O_p (.i .i64 (((m302 : Nat)) : Int)) (r_mv rfl) ?_
                  refine O_nil ?_
                  exact ⟨(m302 - a1), by omega, d330, c331, a1, m302, lim2, (decide ((((((b1 - a1) / 8) : Nat)) : Int) ≤ ((((b1 - m302) : Nat)) : Int))), bl303, rfl, hc335, hn334, by omega, by omega, by omega, hg337.1, fun z h1 h2 => by have h3 := hg337.2 z h1 h2; exact hp12 z (Go.Sort.permIn_trans _ _ _ _ _ hp98 h3.1) h3.2, hH336, hT103, hT104, rfl, hT109, rfl, rfl⟩
            ·
              refine C_draw fun b338 H339 hbase340 hA341 => ?_
              have hH342 := hH112.keep (by have := hA341.1; omega) (fun q _ => hA341.2 q) ((hH112.old).aside hA341).ok
              refine D_l (v := (.i .i64 (((a1 : Nat)) : Int))) rfl rfl rfl (r_mv hT104) ?_
              refine D_l (v := (.b false)) rfl rfl rfl (by exact (by rw [r_gtr rfl rfl, decide_eq_false (by omega)])) ?_
              refine D_l (v := (.b false)) rfl rfl rfl (r_mv rfl) ?_
              refine D_gf rfl ?_
              refine D_gf rfl ?_
              refine D_gf rfl ?_
              refine D_gf rfl ?_
              refine D_gf rfl ?_
              refine D_gf rfl ?_
              refine D_gf rfl ?_
              refine D_gf rfl ?_
              refine D_gf rfl ?_
              refine D_gf rfl ?_
              refine D_gf rfl ?_
              refine D_l (v := (.b false)) rfl rfl rfl (r_pick_f rfl rfl) ?_
              refine D_nil ?_
              refine C_cond (x := false) rfl (fun h => by cases h) (fun _ => ?_)
              refine C_skip ?_
              refine C_seq ?_
              refine C_region ?_
              refine O_p v (r_mv hT103) ?_
              refine O_p (.i .i64 (((a1 : Nat)) : Int)) (r_mv hT104) ?_
              refine O_p (.i .i64 (((b1 : Nat)) : Int)) (r_mv hT105) ?_
              refine O_p (.i .i64 (((p3 : Nat)) : Int)) (r_mv hT110) ?_
              refine O_call (Ev.mono (part_ev (a := a1) (b := b1) (pivot := p3) hp99 hp100 hl (by omega) (by omega) (by omega) hH342) fun v343 H344 hq345 => ?_)
              obtain ⟨m346, bl347, d348, c349, rfl, he350, he351, hn352, hc353, hH354⟩ := hq345
              have hx356 : partition ltInt d3 a1 b1 p3 = (m346, (partition ltInt d3 a1 b1 p3).2.1, d348) := by rw [← he350, ← he351]
              obtain ⟨hg355a, hg355b, hg355c, hg355d, hg355e, hg355f, hg355g⟩ := Go.Sort.round_part swo_ltInt (Go.Sort.partition_holds ltInt) hp3a hp3b (by omega) (Go.Sort.Below.perm hp11 (by omega) hp98) hx356
              refine O_p (.tup [(.i .i64 (((m346 : Nat)) : Int)), (.b bl347)]) (r_mv rfl) ?_
              refine O_p (.i .i64 (((m346 : Nat)) : Int)) (r_ext rfl rfl) ?_
              refine O_p (.b bl347) (r_ext rfl rfl) ?_
              refine O_p (.i .i64 (((m346 : Nat)) : Int)) (r_mv rfl) ?_
              refine O_p (.b bl347) (r_mv rfl) ?_
              refine O_nil ?_
              refine C_seq ?_
              refine C_region ?_
              refine O_p (.b bl347) (r_mv rfl) ?_
              refine O_p (.b bl347) (r_mv rfl) ?_
              refine O_nil ?_
              refine C_seq ?_
              refine C_region ?_
              refine O_p (.i .i64 (((m346 : Nat)) : Int)) (r_mv rfl) ?_
              refine O_p (.i .i64 (((a1 : Nat)) : Int)) (r_mv hT104) ?_
              refine O_p (.i .i64 ((((m346 - a1) : Nat)) : Int)) (by exact (r_subn (a := m346) (b := a1) rfl rfl (by omega) (by omega))) ?_
              refine O_p (.i .i64 (((b1 : Nat)) : Int)) (r_mv hT105) ?_
              refine O_p (.i .i64 (((m346 : Nat)) : Int)) (r_mv rfl) ?_
              refine O_p (.i .i64 ((((b1 - m346) : Nat)) : Int)) (by exact (r_subn (a := b1) (b := m346) rfl rfl (by omega) (by omega))) ?_
              refine O_p (.i .i64 ((((m346 - a1) : Nat)) : Int)) (r_mv rfl) ?_
              refine O_p (.i .i64 ((((b1 - m346) : Nat)) : Int)) (r_mv rfl) ?_
              refine O_nil ?_
              refine C_seq ?_
              refine C_region ?_
              refine O_p (.i .i64 ((((b1 - a1) : Nat)) : Int)) (r_mv hT108) ?_
              refine O_p (.i .i64 (((((b1 - a1) / 8) : Nat)) : Int)) (by exact (r_quon (a := (b1 - a1)) (b := 8) rfl rfl (by omega) (by omega))) ?_
              refine O_p (.i .i64 (((((b1 - a1) / 8) : Nat)) : Int)) (r_mv rfl) ?_
              refine O_nil ?_
              refine C_seq ?_
              refine C_region ?_
              refine O_p (.i .i64 ((((m346 - a1) : Nat)) : Int)) (r_mv rfl) ?_
              refine O_p (.i .i64 ((((b1 - m346) : Nat)) : Int)) (r_mv rfl) ?_
              refine O_p (.b (decide (((((m346 - a1) : Nat)) : Int) < ((((b1 - m346) : Nat)) : Int)))) (r_lss rfl rfl) ?_
              refine O_nil ?_
              refine C_cond (x := (decide (((((m346 - a1) : Nat)) : Int) < ((((b1 - m346) : Nat)) : Int)))) rfl (fun hc357 => ?_) (fun hc357 => ?_)
              ·
                have hraw358 := hc357
                try simp only [decide_eq_true_eq, decide_eq_false_iff_not, Bool.not_eq_true', Bool.not_eq_false', Bool.and_eq_true, Bool.or_eq_true, Bool.or_eq_false_iff, Bool.not_not, Bool.and_eq_false_iff] at hc357
                refine C_seq ?_
                refine C_region ?_
                refine O_p (.i .i64 ((((m346 - a1) : Nat)) : Int)) (r_mv rfl) ?_
                refine O_p (.i .i64 (((((b1 - a1) / 8) : Nat)) : Int)) (r_mv rfl) ?_
                refine O_p (.b (decide ((((((b1 - a1) / 8) : Nat)) : Int) ≤ ((((m346 - a1) : Nat)) : Int)))) (r_geq rfl rfl) ?_
                refine O_p (.b (decide ((((((b1 - a1) / 8) : Nat)) : Int) ≤ ((((m346 - a1) : Nat)) : Int)))) (r_mv rfl) ?_
                refine O_nil ?_
                refine C_seq ?_
                refine C_region ?_
                refine O_p v (r_mv hT103) ?_
                refine O_p (.i .i64 (((a1 : Nat)) : Int)) (r_mv hT104) ?_
                refine O_p (.i .i64 (((m346 : Nat)) : Int)) (r_mv rfl) ?_
                refine O_p (.i .i64 lim2) (r_mv hT109) ?_
                refine O_call (Ev.mono (pdq_call ih (a := a1) (b := m346) (by omega) hc353 hn352 hl (by omega) (by omega) hg355d hH354) fun v359 H360 hq361 => ?_)
                obtain ⟨rfl, d362, c363, hp364, hs365, hn366, hc367, hH368⟩ := hq361
                have hg369 := hg355f _ hp364 hs365
                refine O_nil ?_
                refine C_region ?_
                refine O_p (.i .i64 (((m346 : Nat)) : Int)) (r_mv rfl) ?_
                refine O_p (.i .i64 ((((m346 : Nat)) : Int) + 1)) (by exact (r_addi rfl rfl (wrap_i64 (by omega) (by omega)))) ?_
                refine O_p (.i .i64 ((((m346 : Nat)) : Int) + 1)) (r_mv rfl) ?_
                refine O_nil ?_
                exact ⟨(b1 - (m346 + 1)), by omega, d362, c363, (m346 + 1), b1, lim2, (decide ((((((b1 - a1) / 8) : Nat)) : Int) ≤ ((((m346 - a1) : Nat)) : Int))), bl347, rfl, hc367, hn366, by omega, by omega, by omega, hg369.1, fun z h1 h2 => by have h3 := hg369.2 z h1 h2; exact hp12 z (Go.Sort.permIn_trans _ _ _ _ _ hp98 h3.1) h3.2, hH368, hT103, rfl, hT105, hT109, rfl, rfl⟩
              ·
                have hraw370 := hc357
                try simp only [decide_eq_true_eq, decide_eq_false_iff_not, Bool.not_eq_true', Bool.not_eq_false', Bool.and_eq_true, Bool.or_eq_true, Bool.or_eq_false_iff, Bool.not_not, Bool.and_eq_false_iff] at hc357
                refine C_seq ?_
                refine C_region ?_
                refine O_p (.i .i64 ((((b1 - m346) : Nat)) : Int)) (r_mv rfl) ?_
                refine O_p (.i .i64 (((((b1 - a1) / 8) : Nat)) : Int)) (r_mv rfl) ?_
                refine O_p (.b (decide ((((((b1 - a1) / 8) : Nat)) : Int) ≤ ((((b1 - m346) : Nat)) : Int)))) (r_geq rfl rfl) ?_
                refine O_p (.b (decide ((((((b1 - a1) / 8) : Nat)) : Int) ≤ ((((b1 - m346) : Nat)) : Int)))) (r_mv rfl) ?_
                refine O_nil ?_
                refine C_seq ?_
                refine C_region ?_
                refine O_p v (r_mv hT103) ?_
                refine O_p (.i .i64 (((m346 : Nat)) : Int)) (r_mv rfl) ?_
                refine O_p (.i .i64 ((((m346 : Nat)) : Int) + 1)) (by exact (r_addi rfl rfl (wrap_i64 (by omega) (by omega)))) ?_
                refine O_p (.i .i64 (((b1 : Nat)) : Int)) (r_mv hT105) ?_
                refine O_p (.i .i64 lim2) (r_mv hT109) ?_
                refine O_call (Ev.mono (pdq_call ih (a := (m346 + 1)) (b := b1) (by omega) hc353 hn352 hl (by omega) (by omega) hg355e hH354) fun v371 H372 hq373 => ?_)
                obtain ⟨rfl, d374, c375, hp376, hs377, hn378, hc379, hH380⟩ := hq373
                have hg381 := hg355g _ hp376 hs377
                refine O_nil ?_
                refine C_region ?_
                refine O_p (.i .i64 (((m346 : Nat)) : Int)) (r_mv rfl) ?_
                refine O_p (.i .i64 (((m346 : Nat)) : Int)) (r_mv rfl) ?_
                refine O_nil ?_
                exact ⟨(m346 - a1), by omega, d374, c375, a1, m346, lim2, (decide ((((((b1 - a1) / 8) : Nat)) : Int) ≤ ((((b1 - m346) : Nat)) : Int))), bl347, rfl, hc379, hn378, by omega, by omega, by omega, hg381.1, fun z h1 h2 => by have h3 := hg381.2 z h1 h2; exact hp12 z (Go.Sort.permIn_trans _ _ _ _ _ hp98 h3.1) h3.2, hH380, hT103, hT104, rfl, hT109, rfl, rfl⟩
theorem pdq_all (m : Nat) : PdqOK m := by
  induction m using Nat.strongRecOn with
  | ind m ih => intro H R v c d n a b lim hm hd hn hl hab hb hB hH; exact pdq_step ih hm hd hn hl hab hb hB hH
theorem sort_all0 {H : AH} {R : HL} {v : AV} {c : List AV} {d : Array Int} {n : Nat} (hd : Sq 1 v c (dU d).flatten) (hn : d.size = n) (hl : n ≤ 1000000) (hH0 : Hs H (qseg v c ++ R)) : Ev tabS spS (.fn (.func 31) [] []) [v] H (fun r H' => r = .tup [] ∧ ∃ d' c', PermIn 0 n d d' ∧ SortedIn ltInt 0 n d' ∧ Sq 1 v c' (dU d').flatten ∧ Hs H' (qseg v c' ++ R)) := by
  refine Ev_C (F := x31) rfl ?_
  refine C_seq ?_
  refine C_region ?_
  refine O_p v (r_mv rfl) ?_
  refine O_p (.i .i64 (((n : Nat)) : Int)) (by exact (by exact r_lenOf rfl (hd.lenOf (u_flatn hn) (by decide)) hd.isSl)) ?_
  refine O_p (.i .i64 (((n : Nat)) : Int)) (r_mv rfl) ?_
  refine O_nil ?_
  refine C_region ?_
  refine O_p v (r_mv rfl) ?_
  refine O_p (.i .i64 (((n : Nat)) : Int)) (r_mv rfl) ?_
  refine O_p (.i .i64 (((n : Nat)) : Int)) (r_mv rfl) ?_
  refine O_p (.i .u64 ((n : Nat) : Int)) (by exact (by rw [r_cint' (m := ((n : Nat) : Int)) rfl (by rw [wrap_u64]; omega)])) ?_
  refine O_call (Ev.mono (blen_ev (n := n) hl hH0) fun v1 H2 hq3 => ?_)
  obtain ⟨l4, rfl, hl5, hp6, hH7⟩ := hq3
  refine O_call (Ev.mono (pdq_all n (a := 0) (b := n) (by omega) hd hn hl (Nat.zero_le _) (Nat.le_refl _) (Or.inl rfl) hH7) fun v8 H9 hq10 => ?_)
  obtain ⟨rfl, d11, c12, hp13, hs14, hn15, hc16, hH17⟩ := hq10
  refine O_nil ?_
  exact ⟨.inl rfl, [], rfl, rfl, d11, c12, hp13, hs14, hc16, hH17⟩
/-- Sorting is sorting, whatever the numbers. -/
theorem sort_all : SortOK 1000000 := by
  intro H R v c l hs hl hH
  refine Ev.mono (sort_all0 (d := l.toArray) (n := l.length) (by exact hs) (by simp) (by omega) hH) ?_
  rintro r H' ⟨rfl, d', c', g1, g2, h1, h2⟩
  have := Go.Sort.sorted_unique_holds Go.Sort.swo_ltInt (by simp only [ltInt, decide_eq_false_iff_not]; omega) l.toArray _ (by simpa using g1) (by simpa using g2)
  refine ⟨rfl, c', ?_, h2⟩
  have e : msort l = d'.toList := by rw [this]; rfl
  rw [e]
  exact h1


set_option linter.unusedVariables false
set_option linter.unusedSimpArgs false
theorem fwd_ev {H : AH} {R : HL} {s : Gp} {a : Nat} {S : HL} {n : Int} (hG : GpH s a S) (hH0 : Hs H (S ++ R)) : Ev tabS spA (.fn (.func 20) [] []) [.p (some (a, 0)), .i .u32 n] H (fun r H' => r = .tup [] ∧ ∃ S', GpH (s.fwd n) a S' ∧ Hs H' (S' ++ R)) := by
  obtain ⟨m, mb, dv, dc, hb, hd, rfl⟩ := hG
  obtain ⟨c, l, dl⟩ := s
  simp only at hb hd
  replace hH0 := hH0.assoc
  replace hH0 := hH0.assoc1
  refine Ev_C (F := x20) rfl ?_
  refine C_seq ?_
  refine C_region ?_
  refine O_box (z := [(.p (some (a, 0)))]) rfl fun n1 H2 hN3 => ?_
  have hH4 := hH0.new hN3
  refine O_nil ?_
  refine C_seq ?_
  refine C_seq ?_
  refine C_region ?_
  refine O_p (.p (some (a, 0))) (r_ld rfl hH4.get0 rfl) ?_
  refine O_p (.b false) (r_nilq_s rfl) ?_
  refine O_p (.b false) (r_mv rfl) ?_
  refine O_gk rfl ?_
  refine O_p (.p (some (a, 0))) (r_ld rfl hH4.get0 rfl) ?_
  refine O_gk rfl ?_
  refine O_p (.i .u32 n) (r_mv rfl) ?_
  refine O_gk rfl ?_
  have hH5 := (hH4.top1)
  refine O_call (Ev.mono (below_ev (n := n) hH5).sp fun v6 H7 hq8 => ?_)
  obtain ⟨rfl, hH9⟩ := hq8
  refine O_p (.b (blw c n)) (r_pick_f rfl rfl) ?_
  refine O_nil ?_
  refine C_cond (x := (blw c n)) rfl (fun hc10 => ?_) (fun hc10 => ?_)
  ·
    have hbl : blw c n = true := by rw [hc10]
    refine C_ret ?_
    refine nx_ret ?_
    have hH11 := (hH9.sub1)
    have hH12 := (((hH11.top2).top2).top2)
    have hst : Gp.fwd ⟨c, l, dl⟩ n = ⟨c, l, dl⟩ := by unfold Gp.fwd; rw [if_pos hbl]
    rw [hst]
    exact ⟨.inr rfl, [], rfl, rfl, _, ⟨m, _, _, _, hb, hd, rfl⟩, Hs.unc hH12⟩
  ·
    have hbl : ¬ blw c n = true := by rw [hc10]; decide
    refine C_skip ?_
    refine C_seq ?_
    refine C_region ?_
    refine O_p (.p (some (a, 0))) (r_ld rfl hH9.get1 rfl) ?_
    refine O_p (.i .u32 n) (r_mv rfl) ?_
    refine O_p (.p (some (a, 0))) (r_nilc rfl) ?_
    refine O_p (.p (some (a, 0))) (r_fadd' rfl rfl) ?_
    refine O_store (vs := [(.i .u32 n)]) (c' := [(.i .u32 n), (.m (some m)), dv]) rfl (by rfl) hH9.get0 rfl (List.cons_ne_nil _ _) (Nat.le_of_ble_eq_true rfl) rfl fun H13 hW14 => ?_
    have hH15 := hH9.wr0 hW14
    refine O_nil ?_
    refine C_seq ?_
    refine C_region ?_
    refine O_p (.p (some (a, 0))) (r_ld rfl hH15.get1 rfl) ?_
    refine O_p (.p (some (a, 0))) (r_nilc rfl) ?_
    refine O_p (.p (some (a, 1))) (r_fadd' rfl rfl) ?_
    refine O_p (.m (some m)) (r_ld rfl hH15.get0 rfl) ?_
    refine O_p (.fn (.func 35) [] [(.p (some (n1, 0)))]) rfl ?_
    have hH16 := (((hH15.top2).top1).top2)
    refine O_call (Ev.mono (del_ev hb hH16) fun v17 H18 hq19 => ?_)
    obtain ⟨rfl, bm20, hbm21, hH22⟩ := hq19
    refine O_nil ?_
    refine C_region ?_
    refine O_p (.p (some (a, 0))) (r_ld rfl hH22.get0 rfl) ?_
    have hH23 := ((hH22.top2).top2)
    refine O_call (Ev.mono (climb0_ev hbm21 hH23).sp fun v24 H25 hq26 => ?_)
    obtain ⟨rfl, bm27, hbm28, hH29⟩ := hq26
    refine O_nil ?_
    have hH30 := (hH29.sub2)
    have hH31 := (((hH30.top2).top2).top2)
    have hst : Gp.fwd ⟨c, l, dl⟩ n = Gp.climb ⟨n, l.filter (fun k => !blw n k), dl⟩ := by unfold Gp.fwd; rw [if_neg hbl]
    rw [hst]
    exact ⟨.inl rfl, [], rfl, rfl, _, ⟨m, _, _, _, hbm28, hd, rfl⟩, Hs.unc hH31⟩


set_option linter.unusedVariables false
set_option linter.unusedSimpArgs false
open Go.Sort (ltInt)
/-! ### The floor -/
def Gi (lo c : Int) (l : List Int) : Prop := l.Nodup ∧ ∀ y ∈ l, 0 ≤ y ∧ y < 4294967296 ∧ lo ≤ dst c y ∧ dst c y ≤ 1024
theorem gi_nil {lo c : Int} : Gi lo c [] := ⟨List.nodup_nil, fun y h => by simp at h⟩
theorem gi_climb : ∀ (k : Nat) (l : List Int) (c : Int), l.length ≤ k → Gi 1 c l → Gi 2 (climbF c l).1 (climbF c l).2
  | 0, l, c, h, _ => by
    have : l = [] := List.length_eq_zero_iff.1 (by omega)
    subst this; rw [climbF_stop (by simp)]; exact gi_nil
  | k + 1, l, c, h, hg => by
    by_cases hin : nxt c ∈ l
    · have h1 := udel_lt hin
      rw [climbF_step hin]
      refine gi_climb k _ _ (by omega) ⟨hg.1.sublist List.filter_sublist, fun y hy => ?_⟩
      unfold udel at hy
      rw [List.mem_filter, decide_eq_true_eq] at hy
      obtain ⟨g1, g2, g3, g4⟩ := hg.2 y hy.1
      have g5 := hy.2
      rw [dst_e] at g3 g4 ⊢
      rw [nxt_e] at g5 ⊢
      omega
    · rw [climbF_stop hin]
      refine ⟨hg.1, fun y hy => ?_⟩
      obtain ⟨g1, g2, g3, g4⟩ := hg.2 y hy
      have g5 : y ≠ nxt c := fun e => hin (e ▸ hy)
      show _ ∧ _ ∧ 2 ≤ dst c y ∧ dst c y ≤ 1024
      rw [dst_e] at g3 g4 ⊢
      rw [nxt_e] at g5
      omega
def Gp.Wf (s : Gp) : Prop := Gi 2 s.c s.l
theorem gi_uadd {c n : Int} {l : List Int} (h : Gi 2 c l) (h0 : 0 ≤ n) (h1 : n < 4294967296) (h2 : 1 ≤ dst c n) (h3 : dst c n ≤ 1024) : Gi 1 c (uadd l n) := by
  unfold uadd
  split
  · exact ⟨h.1, fun y hy => by have := h.2 y hy; omega⟩
  · rename_i hn
    refine ⟨?_, fun y hy => ?_⟩
    · rw [List.nodup_append]
      exact ⟨h.1, by simp, fun a ha b hb => by rw [List.mem_singleton.1 hb]; exact fun e => hn (e ▸ ha)⟩
    · rcases List.mem_append.1 hy with hy | hy
      · have := h.2 y hy; omega
      · rw [List.mem_singleton.1 hy]; exact ⟨h0, h1, h2, h3⟩
theorem gi_filter {c n : Int} {l : List Int} (h : Gi 2 c l) (hb : blw c n ≠ true) : Gi 1 n (l.filter fun k => !blw n k) ∧ (1024 ≤ dst c n → l.filter (fun k => !blw n k) = []) := by
  rw [Ne, blw_e] at hb
  have key : ∀ y, y ∈ l.filter (fun k => !blw n k) → y ∈ l ∧ 1 ≤ dst n y ∧ dst n y ≤ 1024 ∧ dst c n < 1024 := fun y hy => by
    rw [List.mem_filter] at hy
    obtain ⟨g1, g2, g3, g4⟩ := h.2 y hy.1
    have g5 : ¬ blw n y = true := by have := hy.2; simpa using this
    rw [blw_e] at g5
    refine ⟨hy.1, ?_⟩
    rw [dst_e] at g3 g4 g5 hb ⊢
    rw [dst_e]
    omega
  refine ⟨⟨h.1.sublist List.filter_sublist, fun y hy => ?_⟩, fun hd => ?_⟩
  · have := key y hy
    have h2 := h.2 y this.1
    omega
  · rw [List.eq_nil_iff_forall_not_mem]
    intro y hy
    have := key y hy
    omega
theorem Gp.fwd_len (s : Gp) (n : Int) : (s.fwd n).l.length ≤ s.l.length := by
  unfold Gp.fwd
  split
  · exact Nat.le_refl _
  · have := climb_len _ (s.l.filter fun k => !blw n k) n (Nat.le_refl _)
    have h2 := List.length_filter_le (fun k => !blw n k) s.l
    show (climbF n (s.l.filter fun k => !blw n k)).2.length ≤ _
    omega
theorem Gp.fwd_d (s : Gp) (n : Int) : (s.fwd n).d = s.d := by
  unfold Gp.fwd
  split <;> rfl
/-! ### Runs lie apart -/
def prevTo (out : List (Int × Int)) (i : Nat) : Int := if i = 0 then 0 else (out.getD (i - 1) (0, 0)).2
def RunOK (out : List (Int × Int)) : Prop := ∀ i, i < out.length → prevTo out i + 2 ≤ (out.getD i (0, 0)).1 ∧ (out.getD i (0, 0)).1 ≤ (out.getD i (0, 0)).2 ∧ (out.getD i (0, 0)).2 ≤ 1024 ∧ 0 ≤ prevTo out i
theorem getD_app_l {o : List (Int × Int)} {x : Int × Int} {i : Nat} (h : i < o.length) : (o ++ [x]).getD i (0, 0) = o.getD i (0, 0) := by
  rw [List.getD_eq_getElem?_getD, List.getElem?_append_left h, ← List.getD_eq_getElem?_getD]
theorem getD_app_r {o : List (Int × Int)} {x : Int × Int} : (o ++ [x]).getD o.length (0, 0) = x := by
  rw [List.getD_eq_getElem?_getD, List.getElem?_append_right (Nat.le_refl _)]; simp
theorem run_app {o : List (Int × Int)} {f t : Int} (h : RunOK o) (h1 : prevTo o o.length + 2 ≤ f) (h2 : f ≤ t) (h3 : t ≤ 1024) (h0 : 0 ≤ prevTo o o.length) : RunOK (o ++ [(f, t)]) ∧ prevTo (o ++ [(f, t)]) (o ++ [(f, t)]).length = t := by
  have hp : ∀ i, i ≤ o.length → prevTo (o ++ [(f, t)]) i = prevTo o i := fun i hi => by
    unfold prevTo
    split
    · rfl
    · rw [getD_app_l (by omega)]
  refine ⟨fun i hi => ?_, ?_⟩
  · rw [List.length_append, List.length_singleton] at hi
    rw [hp i (by omega)]
    by_cases e : i = o.length
    · subst e; rw [getD_app_r]; exact ⟨h1, h2, h3, h0⟩
    · rw [getD_app_l (by omega)]; exact h i (by omega)
  · unfold prevTo
    rw [List.length_append, List.length_singleton, if_neg (by omega), Nat.add_sub_cancel, getD_app_r]
theorem RunOK.pre {o : List (Int × Int)} {x : Int × Int} (h : RunOK (o ++ [x])) : RunOK o ∧ prevTo (o ++ [x]) o.length = prevTo o o.length := by
  have hp : ∀ i, i ≤ o.length → prevTo (o ++ [x]) i = prevTo o i := fun i hi => by
    unfold prevTo
    split
    · rfl
    · rw [getD_app_l (by omega)]
  refine ⟨fun i hi => ?_, hp _ (Nat.le_refl _)⟩
  have := h i (by rw [List.length_append, List.length_singleton]; omega)
  rw [hp i (by omega), getD_app_l hi] at this
  exact this
theorem snoc_cases {α : Type} (l : List α) : l = [] ∨ ∃ o x, l = o ++ [x] := by
  rcases List.eq_nil_or_concat l with h | ⟨o, x, h⟩
  · exact .inl h
  · exact .inr ⟨o, x, by simpa using h⟩
theorem set_last {o : List (Int × Int)} {x y : Int × Int} : (o ++ [x]).set ((o ++ [x]).length - 1) y = o ++ [y] := by
  rw [List.length_append, List.length_singleton, Nat.add_sub_cancel, List.set_append_right _ _ (Nat.le_refl _), Nat.sub_self]; rfl
theorem wrap_u16s {h : Int} (h0 : 0 ≤ h) (h1 : h ≤ 2000) : IntKind.u16.wrap h = h := by rw [wrap_u16]; omega
theorem wrap_u32s {h : Int} (h0 : 0 ≤ h) (h1 : h ≤ 2000) : IntKind.u32.wrap h = h := by rw [wrap_u32]; omega
theorem run_step {out : List (Int × Int)} {h : Int} (hR : RunOK out) (h0 : prevTo out out.length < h) (h2 : 2 ≤ h) (h3 : h ≤ 1024) : RunOK (runS out h) ∧ prevTo (runS out h) (runS out h).length = h := by
  rcases snoc_cases out with rfl | ⟨o, ⟨f, t⟩, rfl⟩
  · have e : runS [] h = [] ++ [(h, h)] := by unfold runS runJ; rw [wrap_u16s (h := h) (by omega) (by omega)]; simp
    rw [e]
    exact run_app (fun i hi => by simp at hi) (by show (0 : Int) + 2 ≤ h; omega) (Int.le_refl _) h3 (Int.le_refl _)
  · obtain ⟨g1, g2⟩ := hR.pre
    obtain ⟨k1, k2, k3, k4⟩ := hR o.length (by simp)
    rw [getD_app_r] at k1 k2 k3
    rw [g2] at k1 k4
    have hp : prevTo (o ++ [(f, t)]) (o ++ [(f, t)]).length = t := by
      unfold prevTo
      rw [List.length_append, List.length_singleton, if_neg (by omega), Nat.add_sub_cancel, getD_app_r]
    rw [hp] at h0
    simp only at k1 k2 k3
    have hj : runJ (o ++ [(f, t)]) h = decide (t + 1 = h) := by
      unfold runJ
      rw [show (o ++ [(f, t)]).length - 1 = o.length by simp, getD_app_r, wrap_u32s (h := t) (by omega) (by omega), wrap_u32s (by omega) (by omega)]
      simp
    unfold runS
    rw [hj]
    by_cases e : t + 1 = h
    · rw [if_pos (decide_eq_true e), set_last, show (o ++ [(f, t)]).length - 1 = o.length by simp, getD_app_r, wrap_u16s (h := t + 1) (by omega) (by omega), e]
      exact run_app g1 k1 (by omega) h3 k4
    · rw [if_neg (by rw [decide_eq_false e]; decide), wrap_u16s (by omega) (by omega)]
      exact run_app hR (by rw [hp]; omega) (Int.le_refl _) h3 (by rw [hp]; omega)
theorem heights_sorted {c : Int} {l : List Int} (h : Gi 2 c l) : (msort (l.map (dst c))).Pairwise (· < ·) ∧ ∀ x ∈ msort (l.map (dst c)), 2 ≤ x ∧ x ≤ 1024 := by
  have hP : (msort (l.map (dst c))).Perm (l.map (dst c)) := List.mergeSort_perm _ _
  constructor
  · have h1 : (msort (l.map (dst c))).Pairwise (fun x y => (!ltInt y x) = true) := List.pairwise_mergeSort (by intro a b c; simp [ltInt]; omega) (by intro a b; simp [ltInt]; omega) _
    have h2 : (l.map (dst c)).Nodup := by
      refine List.pairwise_map.2 (List.Pairwise.imp_of_mem (fun {a b} ha hb hab e => hab ?_) h.1)
      have := h.2 a ha
      have h9 := h.2 b hb
      rw [dst_e, dst_e] at e
      omega
    have h3 : (msort (l.map (dst c))).Nodup := hP.nodup_iff.2 h2
    refine (List.Pairwise.and h1 h3).imp fun {a b} hab => ?_
    have := hab.1
    have h9 := hab.2
    simp [ltInt] at this
    omega
  · intro x hx
    obtain ⟨y, hy, rfl⟩ := List.mem_map.1 (hP.mem_iff.1 hx)
    have := h.2 y hy
    omega
set_option linter.unusedVariables false
set_option linter.unusedSimpArgs false
/-! ### The document's row of marks -/
abbrev mB (l : List Bool) : List (List AV) := l.map fun b => [AV.b b]
theorem m_lens (l : List Bool) : ∀ r ∈ mB l, r.length = 1 := fun r hr => by obtain ⟨x, _, rfl⟩ := List.mem_map.1 hr; rfl
theorem m_get {l : List Bool} {i : Nat} (h : i < l.length) : (mB l)[i]? = some [.b (l.getD i false)] := by
  rw [List.getElem?_map, List.getElem?_eq_getElem h]
  simp [h]
theorem m_flatn {l : List Bool} {n : Nat} (h : l.length = n) : (mB l).flatten.length = n * 1 := h ▸ (flat_len (m_lens l)).trans (by rw [List.length_map])
theorem m_set {l : List Bool} {i : Nat} {e : Bool} : (mB l).set i [.b e] = mB (l.set i e) := by
  show (l.map _).set i _ = (l.set i e).map _
  rw [List.map_set]
theorem m_app (l : List Bool) (b : Bool) : (mB l).flatten ++ [AV.b b] = (mB (l ++ [b])).flatten := by simp
def nm (c : Int) (i : Nat) : Int := (c + i + 1) % 4294967296
def Mks (mk : List Bool) (c : Int) (l : List Int) : Prop := mk.length = 1024 ∧ ∀ i, i < 1024 → mk.getD i false = decide (nm c i ∈ l)
def Ds (s : Gp) (mk : List Bool) : Prop := Mks mk s.c s.l ∧ s.Wf ∧ 0 ≤ s.c ∧ s.c < 4294967296
def DpH (s : Gp) (a : Nat) (S : HL) : Prop := ∃ mv mc mk dv dc, Ds s mk ∧ Sq 1 mv mc (mB mk).flatten ∧ Sq 1 dv dc (lU s.d) ∧ S = [(a, some (.cells [.i .u32 s.c, mv, dv] true))] ++ (qseg mv mc ++ qseg dv dc)
theorem decide_iff {p q : Prop} [Decidable p] [Decidable q] (h : p ↔ q) : decide p = decide q := by by_cases hp : p <;> simp [hp, h.1, h.2] <;> simp_all
theorem nm_dst {c n : Int} {i : Nat} (h : dst c n = i + 1) (h0 : 0 ≤ n) (h1 : n < 4294967296) : nm c i = n := by unfold nm; rw [dst_e] at h; omega
theorem dst_nm {c : Int} {i : Nat} (h : i < 100000) : dst c (nm c i) = i + 1 := by unfold nm; rw [dst_e]; omega
theorem nm_nxt (c : Int) (i : Nat) : nm (nxt c) i = nm c (i + 1) := by unfold nm; rw [nxt_e]; omega
theorem mk_new (c : Int) : Mks (List.replicate 1024 false) c [] := ⟨List.length_replicate, fun i hi => by rw [List.getD_eq_getElem?_getD, List.getElem?_replicate]; simp [hi]⟩
theorem Mks.at {mk : List Bool} {c n : Int} {l : List Int} {i : Nat} (h : Mks mk c l) (hi : i < 1024) (hd : dst c n = i + 1) (h0 : 0 ≤ n) (h1 : n < 4294967296) : mk.getD i false = decide (n ∈ l) := by rw [h.2 i hi, nm_dst hd h0 h1]
theorem Mks.zero {mk : List Bool} {c : Int} {l : List Int} (h : Mks mk c l) : mk.getD 0 false = decide (nxt c ∈ l) := by
  rw [h.2 0 (by decide), show nm c 0 = nxt c by unfold nm; rw [nxt_e]; simp]
theorem Mks.climb {mk : List Bool} {c : Int} {l : List Int} (h : Mks mk c l) (hg : Gi 1 c l) : Mks (mk.drop 1 ++ [false]) (nxt c) (udel l (nxt c)) := by
  have hl := h.1
  refine ⟨by rw [List.length_append, List.length_drop]; simp; omega, fun i hi => ?_⟩
  rw [nm_nxt]
  by_cases e : i = 1023
  · subst e
    rw [List.getD_eq_getElem?_getD, List.getElem?_append_right (by rw [List.length_drop]; omega), List.length_drop, hl]
    refine (decide_eq_false fun hc => ?_).symm
    unfold udel at hc
    have := hg.2 _ (List.mem_filter.1 hc).1
    rw [dst_nm (by decide)] at this
    omega
  · rw [List.getD_eq_getElem?_getD, List.getElem?_append_left (by rw [List.length_drop]; omega), List.getElem?_drop, ← List.getD_eq_getElem?_getD, show 1 + i = i + 1 by omega, h.2 (i + 1) (by omega)]
    refine decide_iff ⟨fun hc => ?_, fun hc => ?_⟩
    · unfold udel
      refine List.mem_filter.2 ⟨hc, decide_eq_true fun e2 => ?_⟩
      unfold nm at e2
      rw [nxt_e] at e2
      omega
    · unfold udel at hc; exact (List.mem_filter.1 hc).1
theorem Mks.add {mk : List Bool} {c n : Int} {l : List Int} {i : Nat} (h : Mks mk c l) (hi : i < 1024) (hd : dst c n = i + 1) (h0 : 0 ≤ n) (h1 : n < 4294967296) : Mks (mk.set i true) c (uadd l n) := by
  have hl := h.1
  refine ⟨by rw [List.length_set]; exact hl, fun j hj => ?_⟩
  have hm : nm c j ∈ uadd l n ↔ (nm c j ∈ l ∨ nm c j = n) := by
    unfold uadd
    split
    · rename_i hin
      exact ⟨.inl, fun hc => hc.elim id fun e => e ▸ hin⟩
    · rw [List.mem_append, List.mem_singleton]
  rw [List.getD_eq_getElem?_getD, List.getElem?_set]
  by_cases e : i = j
  · subst e
    rw [if_pos rfl, if_pos (by omega)]
    exact (decide_eq_true (hm.2 (.inr (nm_dst hd h0 h1)))).symm
  · rw [if_neg e, ← List.getD_eq_getElem?_getD, h.2 j hj]
    refine decide_iff ⟨fun hc => hm.2 (.inl hc), fun hc => (hm.1 hc).elim id fun e2 => ?_⟩
    have := dst_nm (c := c) (i := j) (by omega)
    rw [e2, hd] at this
    omega
def FM (lm mk : List Bool) (h i : Nat) : Prop := lm.length = 1024 ∧ ∀ j, j < 1024 → lm.getD j false = (decide (j + h < i) && mk.getD (j + h) false)
theorem fm_new {mk : List Bool} {h : Nat} : FM (List.replicate 1024 false) mk h h := ⟨List.length_replicate, fun j hj => by rw [List.getD_eq_getElem?_getD, List.getElem?_replicate, if_pos hj, decide_eq_false (by omega)]; rfl⟩
theorem FM.step {lm mk : List Bool} {h i : Nat} (hf : FM lm mk h i) (hi : h ≤ i) (hj : i < 1024) : FM (lm.set (i - h) (mk.getD i false)) mk h (i + 1) := by
  refine ⟨by rw [List.length_set]; exact hf.1, fun j hj2 => ?_⟩
  rw [List.getD_eq_getElem?_getD, List.getElem?_set]
  by_cases e : i - h = j
  · have hl := hf.1
    rw [if_pos e, if_pos (by omega), decide_eq_true (by omega), show j + h = i by omega]; rfl
  · rw [if_neg e, ← List.getD_eq_getElem?_getD, hf.2 j hj2]
    congr 1
    exact decide_iff (by omega)
theorem Mks.fwd {lm mk : List Bool} {c n : Int} {l : List Int} {h i : Nat} (hm : Mks mk c l) (hg : Gi 2 c l) (hb : blw c n ≠ true) (hh : dst c n = h) (hf : FM lm mk h i) (hi : 1024 ≤ i) (hi2 : i ≤ 1024 ∨ i = h) : Mks lm n (l.filter fun k => !blw n k) := by
  refine ⟨hf.1, fun j hj => ?_⟩
  rw [hf.2 j hj]
  rw [Ne, blw_e] at hb
  have hmem : nm n j ∈ (l.filter fun k => !blw n k) ↔ nm n j ∈ l := by
    rw [List.mem_filter]
    refine ⟨fun hc => hc.1, fun hc => ⟨hc, ?_⟩⟩
    have : blw n (nm n j) = false := by
      rw [Bool.eq_false_iff, Ne, blw_e, dst_nm (by omega)]
      omega
    rw [this]; rfl
  by_cases e : j + h < 1024
  · rw [decide_eq_true (by omega), Bool.true_and, hm.2 (j + h) e]
    refine (decide_iff hmem).symm ▸ ?_
    rw [show nm c (j + h) = nm n j by unfold nm; rw [dst_e] at hh; omega]
  · rw [decide_eq_false (by omega), Bool.false_and]
    refine (decide_eq_false fun hc => ?_).symm
    have := hg.2 _ (hmem.1 hc)
    have h2 : dst c (nm n j) = dst c n + j + 1 := by unfold nm; rw [dst_e] at hh hb ⊢; rw [dst_e]; omega
    rw [h2, hh] at this
    omega
/-! ### Runs of marks -/
def RM (mk : List Bool) : Nat → List (Int × Int)
  | 0 => []
  | i + 1 => if mk.getD i false = true then runS (RM mk i) ((i : Int) + 1) else RM mk i
def HA (mk : List Bool) : Nat → List Int
  | 0 => []
  | i + 1 => if mk.getD i false = true then HA mk i ++ [(i : Int) + 1] else HA mk i
theorem ha_runs (mk : List Bool) : ∀ i, runsF (HA mk i) = RM mk i
  | 0 => rfl
  | i + 1 => by
    unfold HA RM
    split
    · rw [← ha_runs mk i]; unfold runsF; rw [List.foldl_append]; rfl
    · exact ha_runs mk i
theorem ha_mem (mk : List Bool) (h : Int) : ∀ i, h ∈ HA mk i ↔ ∃ j : Nat, j < i ∧ h = j + 1 ∧ mk.getD j false = true
  | 0 => ⟨fun hc => by simp [HA] at hc, fun ⟨j, hj, _⟩ => by omega⟩
  | i + 1 => by
    have ih := ha_mem mk h i
    unfold HA
    by_cases e : mk.getD i false = true
    · rw [if_pos e, List.mem_append, List.mem_singleton, ih]
      constructor
      · rintro (⟨j, h1, h2, h3⟩ | h1)
        · exact ⟨j, by omega, h2, h3⟩
        · exact ⟨i, by omega, h1, e⟩
      · rintro ⟨j, h1, h2, h3⟩
        by_cases e2 : j = i
        · subst e2; exact .inr h2
        · exact .inl ⟨j, by omega, h2, h3⟩
    · rw [if_neg e, ih]
      constructor
      · rintro ⟨j, h1, h2, h3⟩; exact ⟨j, by omega, h2, h3⟩
      · rintro ⟨j, h1, h2, h3⟩
        by_cases e2 : j = i
        · subst e2; exact absurd h3 e
        · exact ⟨j, by omega, h2, h3⟩
theorem ha_sorted (mk : List Bool) : ∀ i, (HA mk i).Pairwise (· < ·)
  | 0 => List.Pairwise.nil
  | i + 1 => by
    have ih := ha_sorted mk i
    unfold HA
    split
    · refine List.pairwise_append.2 ⟨ih, List.pairwise_singleton _ _, fun a ha b hb => ?_⟩
      rw [List.mem_singleton.1 hb]
      obtain ⟨j, h1, h2, _⟩ := (ha_mem mk a i).1 ha
      omega
    · exact ih
theorem sorted_ext : ∀ (a b : List Int), a.Pairwise (· < ·) → b.Pairwise (· < ·) → (∀ x, x ∈ a ↔ x ∈ b) → a = b
  | [], [], _, _, _ => rfl
  | [], y :: b, _, _, h => by have := (h y).2 (List.mem_cons_self ..); simp at this
  | x :: a, [], _, _, h => by have := (h x).1 (List.mem_cons_self ..); simp at this
  | x :: a, y :: b, ha, hb, h => by
    rw [List.pairwise_cons] at ha hb
    have hxy : x = y := by
      rcases List.mem_cons.1 ((h x).1 (List.mem_cons_self ..)) with e | e
      · exact e
      · rcases List.mem_cons.1 ((h y).2 (List.mem_cons_self ..)) with e2 | e2
        · exact e2.symm
        · have h1 := hb.1 x e
          have h2 := ha.1 y e2
          omega
    subst hxy
    rw [sorted_ext a b ha.2 hb.2 fun z => ?_]
    constructor
    · intro hz
      rcases List.mem_cons.1 ((h z).1 (List.mem_cons_of_mem _ hz)) with e | e
      · have := ha.1 z hz; omega
      · exact e
    · intro hz
      rcases List.mem_cons.1 ((h z).2 (List.mem_cons_of_mem _ hz)) with e | e
      · have := hb.1 z hz; omega
      · exact e
theorem ha_all {mk : List Bool} {c : Int} {l : List Int} (h : Mks mk c l) (hg : Gi 2 c l) : HA mk 1024 = msort (l.map (dst c)) := by
  refine sorted_ext _ _ (ha_sorted mk _) (heights_sorted hg).1 fun x => ?_
  rw [ha_mem, show x ∈ msort (l.map (dst c)) ↔ x ∈ l.map (dst c) from (List.mergeSort_perm _ _).mem_iff, List.mem_map]
  constructor
  · rintro ⟨j, h1, rfl, h3⟩
    rw [h.2 j h1, decide_eq_true_eq] at h3
    exact ⟨_, h3, dst_nm (by omega)⟩
  · rintro ⟨y, hy, rfl⟩
    obtain ⟨g1, g2, g3, g4⟩ := hg.2 y hy
    refine ⟨(dst c y - 1).toNat, by omega, by omega, ?_⟩
    rw [h.at (n := y) (by omega) (by omega) g1 g2]
    exact decide_eq_true hy
def cntM (mk : List Bool) : Nat → Nat
  | 0 => 0
  | i + 1 => if mk.getD i false = true then cntM mk i + 1 else cntM mk i
theorem ha_len (mk : List Bool) : ∀ i, (HA mk i).length = cntM mk i
  | 0 => rfl
  | i + 1 => by
    unfold HA cntM
    split
    · rw [List.length_append, List.length_singleton, ha_len mk i]
    · exact ha_len mk i
theorem cnt_le (mk : List Bool) : ∀ i, cntM mk i ≤ i
  | 0 => Nat.le_refl _
  | i + 1 => by
    have := cnt_le mk i
    unfold cntM
    split <;> omega
theorem cnt_all {mk : List Bool} {c : Int} {l : List Int} (h : Mks mk c l) (hg : Gi 2 c l) : cntM mk 1024 = l.length := by
  rw [← ha_len, ha_all h hg, msort_len, List.length_map]
theorem rm_all {mk : List Bool} {c : Int} {l : List Int} (h : Mks mk c l) (hg : Gi 2 c l) : blocksF c l = (RM mk 1024).take 64 := by
  unfold blocksF
  rw [← ha_all h hg, ha_runs]
theorem mk0 {mk : List Bool} {c : Int} {l : List Int} (h : Mks mk c l) (hg : Gi 2 c l) : mk.getD 0 false = false := by
  rw [h.zero]
  refine decide_eq_false fun hc => ?_
  have := hg.2 _ hc
  rw [dst_e, nxt_e] at this
  omega
theorem rm_ok {mk : List Bool} (h0 : mk.getD 0 false = false) : ∀ i, i ≤ 1024 → RunOK (RM mk i) ∧ prevTo (RM mk i) (RM mk i).length ≤ i
  | 0, _ => ⟨fun i hi => by simp [RM] at hi, by simp [RM, prevTo]⟩
  | i + 1, hi => by
    obtain ⟨h1, h2⟩ := rm_ok h0 i (by omega)
    unfold RM
    split
    · rename_i hm
      have : i ≠ 0 := fun e => by subst e; rw [h0] at hm; cases hm
      obtain ⟨r1, r2⟩ := run_step (h := (i : Int) + 1) h1 (by omega) (by omega) (by omega)
      exact ⟨r1, by rw [r2]; omega⟩
    · exact ⟨h1, by omega⟩
theorem rm_no {mk : List Bool} {i : Nat} (h : mk.getD i false = false) : RM mk (i + 1) = RM mk i := by show (if _ then _ else _ : List (Int × Int)) = _; rw [if_neg (by rw [h]; decide)]
theorem rm_yes {mk : List Bool} {i : Nat} (h : mk.getD i false = true) : RM mk (i + 1) = runS (RM mk i) ((i : Int) + 1) := by show (if _ then _ else _ : List (Int × Int)) = _; rw [if_pos h]
theorem run_new {out : List (Int × Int)} {h : Int} (hR : RunOK out) (h0 : prevTo out out.length + 1 < h) (h2 : 2 ≤ h) (h3 : h ≤ 1024) : runS out h = out ++ [(h, h)] := by
  rcases snoc_cases out with rfl | ⟨o, ⟨f, t⟩, rfl⟩
  · unfold runS runJ; rw [wrap_u16s (h := h) (by omega) (by omega)]; simp
  · have hp : prevTo (o ++ [(f, t)]) (o ++ [(f, t)]).length = t := by
      unfold prevTo
      rw [List.length_append, List.length_singleton, if_neg (by omega), Nat.add_sub_cancel, getD_app_r]
    obtain ⟨k1, k2, k3, k4⟩ := hR o.length (by simp)
    rw [getD_app_r] at k1 k2 k3
    simp only at k1 k2 k3
    have k5 := (hR.pre).2
    rw [k5] at k1 k4
    rw [hp] at h0
    unfold runS runJ
    rw [show (o ++ [(f, t)]).length - 1 = o.length by simp, getD_app_r, wrap_u32s (h := t) (by omega) (by omega), wrap_u32s (by omega) (by omega), decide_eq_false (show ¬ t + 1 = h by omega), Bool.and_false, if_neg (by decide), wrap_u16s (by omega) (by omega)]
theorem run_ext {out : List (Int × Int)} {f t : Int} (h0 : 0 ≤ t) (h3 : t ≤ 1024) : runS (out ++ [(f, t)]) (t + 1) = out ++ [(f, t + 1)] := by
  unfold runS runJ
  rw [show (out ++ [(f, t)]).length - 1 = out.length by simp, getD_app_r, wrap_u32s (h := t) (by omega) (by omega), wrap_u32s (by omega) (by omega), decide_eq_true rfl, Bool.and_true, if_pos (by simp), wrap_u16s (by omega) (by omega)]
  have := set_last (o := out) (x := (f, t)) (y := (f, t + 1))
  rwa [show (out ++ [(f, t)]).length - 1 = out.length by simp] at this
def Gap (mk : List Bool) (i : Nat) : Prop := i < 1024 → mk.getD i false = true → 1 ≤ i ∧ mk.getD (i - 1) false = false
theorem gap_new {mk : List Bool} {i : Nat} (h0 : mk.getD 0 false = false) (hg : Gap mk i) (hi : i < 1024) (hm : mk.getD i false = true) : RM mk (i + 1) = RM mk i ++ [((i : Int) + 1, (i : Int) + 1)] := by
  obtain ⟨h1, h2⟩ := hg hi hm
  obtain ⟨j, rfl⟩ : ∃ j, i = j + 1 := ⟨i - 1, by omega⟩
  obtain ⟨r1, r2⟩ := rm_ok h0 j (by omega)
  rw [Nat.add_sub_cancel] at h2
  rw [rm_yes hm]
  have e := rm_no h2
  exact run_new (by rw [e]; exact r1) (by rw [e]; omega) (by omega) (by omega)
theorem gap_ext {mk : List Bool} {i k : Nat} {out : List (Int × Int)} (h : RM mk (k + 1) = out ++ [((i : Int) + 1, (k : Int) + 1)]) (hk : k < 1024) (hm : mk.getD (k + 1) false = true) : RM mk (k + 1 + 1) = out ++ [((i : Int) + 1, ((k + 1 : Nat) : Int) + 1)] := by
  rw [rm_yes hm, h, show (((k + 1 : Nat)) : Int) + 1 = ((k : Int) + 1) + 1 by omega]
  exact run_ext (by omega) (by omega)
theorem gap_no {mk : List Bool} {i : Nat} (h : mk.getD i false = false) : Gap mk (i + 1) := fun _ _ => ⟨by omega, by rw [Nat.add_sub_cancel]; exact h⟩
theorem gap_stop {mk : List Bool} {k : Nat} (h : ¬ (k < 1024 ∧ mk.getD k false = true)) : Gap mk k := fun h1 h2 => absurd ⟨h1, h2⟩ h
theorem runS_app {A E : List (Int × Int)} {h : Int} (hE : E ≠ []) : ∃ E2, E2 ≠ [] ∧ runS (A ++ E) h = A ++ E2 := by
  have hl : 0 < E.length := List.length_pos_iff.2 hE
  unfold runS
  split
  · refine ⟨E.set (E.length - 1) _, fun e => ?_, by rw [List.set_append_right _ _ (by rw [List.length_append]; omega), List.length_append, show A.length + E.length - 1 - A.length = E.length - 1 by omega]⟩
    have := congrArg List.length e
    rw [List.length_set, List.length_nil] at this
    omega
  · exact ⟨E ++ [(_, _)], by simp, by rw [List.append_assoc]⟩
theorem rm_pre {mk : List Bool} {i : Nat} (h0 : mk.getD 0 false = false) (hg : Gap mk i) (hi : i ≤ 1024) : ∀ k, i + k ≤ 1024 → ∃ E, RM mk (i + k) = RM mk i ++ E ∧ (E = [] → k = 0 ∨ prevTo (RM mk (i + k)) (RM mk (i + k)).length < ((i + k : Nat) : Int))
  | 0, _ => ⟨[], by simp, fun _ => .inl rfl⟩
  | k + 1, hk => by
    obtain ⟨E, e1, e2⟩ := rm_pre h0 hg hi k (by omega)
    by_cases hm : mk.getD (i + k) false = true
    · by_cases hE : E = []
      · subst hE
        rw [List.append_nil] at e1
        refine ⟨[(((i + k : Nat) : Int) + 1, ((i + k : Nat) : Int) + 1)], ?_, fun e => by cases e⟩
        rw [← e1]
        rcases e2 rfl with rfl | h9
        · exact gap_new h0 hg (by omega) hm
        · have : i + k ≠ 0 := fun e => by rw [e, h0] at hm; cases hm
          rw [show i + (k + 1) = i + k + 1 by omega, rm_yes hm]
          exact run_new (rm_ok h0 _ (by omega)).1 (by omega) (by omega) (by omega)
      · obtain ⟨E2, g1, g2⟩ := runS_app (A := RM mk i) (h := ((i + k : Nat) : Int) + 1) hE
        exact ⟨E2, by rw [show i + (k + 1) = i + k + 1 by omega, rm_yes hm, e1]; exact g2, fun e => absurd e g1⟩
    · have hm2 : mk.getD (i + k) false = false := by simpa using hm
      have h5 := (rm_ok h0 (i + k) (by omega)).2
      refine ⟨E, by rw [show i + (k + 1) = i + k + 1 by omega, rm_no hm2]; exact e1, fun _ => .inr ?_⟩
      rw [show i + (k + 1) = i + k + 1 by omega, rm_no hm2]
      omega
theorem rm_done {mk : List Bool} {c : Int} {l : List Int} {i : Nat} (h : Mks mk c l) (hw : Gi 2 c l) (hg : Gap mk i) (hi : i ≤ 1024) (hl : (RM mk i).length ≤ 64) (hd : ¬ i < 1024 ∨ ¬ (RM mk i).length < 64) : RM mk i = blocksF c l := by
  rw [rm_all h hw]
  obtain ⟨E, e1, _⟩ := rm_pre (mk0 h hw) hg hi (1024 - i) (by omega)
  rw [show i + (1024 - i) = 1024 by omega] at e1
  rcases hd with hd | hd
  · obtain rfl : i = 1024 := by omega
    rw [List.take_of_length_le hl]
  · rw [e1, List.take_append_of_le_length (by omega), List.take_of_length_le hl]
/-! ### What the walks want -/
theorem mks_mB : List.replicate 1024 [AV.b false] = mB (List.replicate 1024 false) := by show _ = List.map _ _; rw [List.map_replicate]
theorem mk_new_sq (m : Nat) : Sq 1 (.sl (some (m, 0)) 1024 1024 0) (List.replicate 1024 [AV.b false]).flatten (mB (List.replicate 1024 false)).flatten := by rw [mks_mB]; exact Sq.full (.inl rfl) (m_flatn List.length_replicate)
theorem m_cut {mk : List Bool} : ((mB mk).drop 1).flatten ++ [AV.b false] = (mB (mk.drop 1 ++ [false])).flatten := by
  rw [← m_app]
  show (List.drop 1 (List.map _ mk)).flatten ++ _ = (List.map _ (mk.drop 1)).flatten ++ _
  rw [List.map_drop]
def stp (x y : Int) : Int := if x ≤ y then y - x else y + 4294967296 - x
theorem stp_dst {x y : Int} : IntKind.u32.wrap (stp x y) = dst x y := by
  unfold stp
  rw [wrap_u32, dst_e]
  split <;> omega
theorem has_hi {s : Gp} {n : Int} {h : Nat} (hh : dst s.c n = ((h : Nat) : Int)) (hz : h = 0 ∨ 2147483648 ≤ h) : s.has n = true := by
  unfold Gp.has
  have : blw s.c n = true := by rw [blw_e, hh]; omega
  rw [this]; rfl
theorem has_lo {s : Gp} {n : Int} {h : Nat} (hh : dst s.c n = ((h : Nat) : Int)) (hz : s.has n = false) : 1 ≤ h ∧ h < 2147483648 := by
  by_cases h2 : h = 0 ∨ 2147483648 ≤ h
  · rw [has_hi hh h2] at hz; cases hz
  · omega
theorem has_mk {s : Gp} {mk : List Bool} {n : Int} {h : Nat} (hD : Ds s mk) (h0 : 0 ≤ n) (h1 : n < 4294967296) (hh : dst s.c n = ((h : Nat) : Int)) (h2 : 1 ≤ h) (h3 : h ≤ 1024) : s.has n = mk.getD (h - 1) false := by
  unfold Gp.has
  have : blw s.c n = false := by rw [Bool.eq_false_iff, Ne, blw_e, hh]; omega
  rw [this, hD.1.at (by omega) (by omega) h0 h1]; rfl
theorem has_far {s : Gp} {n : Int} {h : Nat} (hw : s.Wf) (hh : dst s.c n = ((h : Nat) : Int)) (h2 : 1024 < h) (h3 : h < 2147483648) : s.has n = false := by
  unfold Gp.has
  have : blw s.c n = false := by rw [Bool.eq_false_iff, Ne, blw_e, hh]; omega
  rw [this, decide_eq_false fun hc => ?_]; rfl
  have := hw.2 n hc
  omega
theorem climb_norm : ∀ (k : Nat) (l : List Int) (c : Int), l.length ≤ k → 0 ≤ c → c < 4294967296 → 0 ≤ (climbF c l).1 ∧ (climbF c l).1 < 4294967296
  | 0, l, c, h, h0, h1 => by
    have : l = [] := List.length_eq_zero_iff.1 (by omega)
    subst this; rw [climbF_stop (by simp)]; exact ⟨h0, h1⟩
  | k + 1, l, c, h, h0, h1 => by
    by_cases hin : nxt c ∈ l
    · have h1 := udel_lt hin
      rw [climbF_step hin]
      exact climb_norm k _ _ (by omega) (by rw [nxt_e]; omega) (by rw [nxt_e]; omega)
    · rw [climbF_stop hin]; exact ⟨h0, h1⟩
theorem ds_climb {c : Int} {l dl : List Int} {mk : List Bool} (h : Mks mk (climbF c l).1 (climbF c l).2) (hg : Gi 1 c l) (h0 : 0 ≤ c) (h1 : c < 4294967296) : Ds (Gp.climb ⟨c, l, dl⟩) mk := ⟨h, gi_climb _ _ _ (Nat.le_refl _) hg, climb_norm _ _ _ (Nat.le_refl _) h0 h1⟩
theorem nat_dst (c n : Int) : ∃ h : Nat, dst c n = ((h : Nat) : Int) ∧ h < 4294967296 := ⟨(dst c n).toNat, by rw [dst_e]; omega, by rw [dst_e]; omega⟩
theorem blw_hi {c n : Int} {h : Nat} (hh : dst c n = ((h : Nat) : Int)) : blw c n = true ↔ (h = 0 ∨ 2147483648 ≤ h) := by rw [blw_e, hh]; omega
theorem gap0 {mk : List Bool} (h : mk.getD 0 false = false) : Gap mk 0 := fun _ h9 => by rw [h] at h9; cases h9
theorem gi_step {c : Int} {l : List Int} (hg : Gi 1 c l) : Gi 1 (nxt c) (udel l (nxt c)) := by
  refine ⟨hg.1.sublist List.filter_sublist, fun y hy => ?_⟩
  unfold udel at hy
  rw [List.mem_filter, decide_eq_true_eq] at hy
  obtain ⟨g1, g2, g3, g4⟩ := hg.2 y hy.1
  have g5 := hy.2
  rw [dst_e] at g3 g4 ⊢
  rw [nxt_e] at g5 ⊢
  omega
theorem stp_ev {H : AH} {R : HL} {x y : Int} (hx0 : 0 ≤ x) (hx1 : x < 4294967296) (hy0 : 0 ≤ y) (hy1 : y < 4294967296) (hH0 : Hs H R) : Ev tabS spS (.fn (.func 39) [] []) [.i .i64 x, .i .i64 y, .i .i64 4294967296] H (fun r H' => r = .i .i64 (stp x y) ∧ Hs H' R) := by
  refine Ev_C (F := x39) rfl ?_
  refine C_seq ?_
  refine C_region ?_
  refine O_p (.i .i64 0) (r_mv rfl) ?_
  refine O_nil ?_
  refine C_seq ?_
  refine C_seq ?_
  by_cases hxy : x ≤ y
  ·
    refine C_region ?_
    refine O_p (.i .i64 y) (r_mv rfl) ?_
    refine O_p (.i .i64 x) (r_mv rfl) ?_
    refine O_p (.b true) (by exact (by rw [r_geq rfl rfl, decide_eq_true (by omega)])) ?_
    refine O_nil ?_
    refine C_cond (x := true) rfl (fun _ => ?_) (fun h => by cases h)
    refine C_seq ?_
    refine C_region ?_
    refine O_p (.i .i64 y) (r_mv rfl) ?_
    refine O_p (.i .i64 x) (r_mv rfl) ?_
    refine O_p (.i .i64 (y - x)) (by exact (r_subi rfl rfl (wrap_i64 (by omega) (by omega)))) ?_
    refine O_p (.i .i64 (y - x)) (r_mv rfl) ?_
    refine O_nil ?_
    refine C_ret ?_
    refine nx_ret ?_
    exact ⟨.inr rfl, _, resL_one (r_tmp (v := (.i .i64 (y - x))) rfl), by unfold stp; rw [if_pos hxy]; rfl, hH0⟩
  ·
    refine C_region ?_
    refine O_p (.i .i64 y) (r_mv rfl) ?_
    refine O_p (.i .i64 x) (r_mv rfl) ?_
    refine O_p (.b false) (by exact (by rw [r_geq rfl rfl, decide_eq_false (by omega)])) ?_
    refine O_nil ?_
    refine C_cond (x := false) rfl (fun h => by cases h) (fun _ => ?_)
    refine C_skip ?_
    refine C_seq ?_
    refine C_region ?_
    refine O_p (.i .i64 y) (r_mv rfl) ?_
    refine O_p (.i .i64 4294967296) (r_mv rfl) ?_
    refine O_p (.i .i64 (y + 4294967296)) (by exact (r_addi rfl rfl (wrap_i64 (by omega) (by omega)))) ?_
    refine O_p (.i .i64 x) (r_mv rfl) ?_
    refine O_p (.i .i64 ((y + 4294967296) - x)) (by exact (r_subi rfl rfl (wrap_i64 (by omega) (by omega)))) ?_
    refine O_p (.i .i64 ((y + 4294967296) - x)) (r_mv rfl) ?_
    refine O_nil ?_
    refine C_ret ?_
    exact ⟨.inr rfl, _, resL_one (r_tmp (v := (.i .i64 ((y + 4294967296) - x))) rfl), by unfold stp; rw [if_neg hxy]; rfl, hH0⟩
theorem dst2_ev {H : AH} {R : HL} {x y : Int} (hx0 : 0 ≤ x) (hx1 : x < 4294967296) (hy0 : 0 ≤ y) (hy1 : y < 4294967296) (hH0 : Hs H R) : Ev tabS spS (.fn (.func 32) [] []) [.i .u32 x, .i .u32 y] H (fun r H' => r = .i .u32 (dst x y) ∧ Hs H' R) := by
  refine Ev_C (F := x32) rfl ?_
  refine C_seq ?_
  refine C_region ?_
  refine O_p (.i .u32 0) (r_mv rfl) ?_
  refine O_nil ?_
  refine C_seq ?_
  refine C_region ?_
  refine O_p (.i .u32 x) (r_mv rfl) ?_
  refine O_p (.i .i64 x) (by exact (by rw [r_cint' (m := x) rfl (wrap_i64 (by omega) (by omega))])) ?_
  refine O_p (.i .u32 y) (r_mv rfl) ?_
  refine O_p (.i .i64 y) (by exact (by rw [r_cint' (m := y) rfl (wrap_i64 (by omega) (by omega))])) ?_
  refine O_call (Ev.mono (stp_ev (x := x) (y := y) hx0 hx1 hy0 hy1 hH0) fun v1 H2 hq3 => ?_)
  obtain ⟨rfl, hH4⟩ := hq3
  refine O_p (.i .u32 (dst x y)) (by exact (by rw [r_cint' (m := dst x y) rfl stp_dst])) ?_
  refine O_p (.i .u32 (dst x y)) (r_mv rfl) ?_
  refine O_nil ?_
  refine C_ret ?_
  exact ⟨.inr rfl, _, resL_one (r_tmp (v := (.i .u32 (dst x y))) rfl), rfl, hH4⟩
theorem has2_ev {H : AH} {R : HL} {s : Gp} {a : Nat} {S : HL} {n : Int} (hG : DpH s a S) (hH0 : Hs H (S ++ R)) (hn0 : 0 ≤ n) (hn1 : n < 4294967296) : Ev tabS spS (.fn (.func 27) [] []) [.p (some (a, 0)), .i .u32 n] H (fun r H' => r = .b (s.has n) ∧ Hs H' (S ++ R)) := by
  obtain ⟨mv, mc, mk, dv, dc, hD, hms, hd, rfl⟩ := hG
  obtain ⟨c, l, dl⟩ := s
  simp only at hms hd
  have hmk : Mks mk c l := hD.1
  have hwf : Gi 2 c l := hD.2.1
  have hc0 : 0 ≤ c := hD.2.2.1
  have hc1 : c < 4294967296 := hD.2.2.2
  have hlm := hmk.1
  replace hH0 := hH0.assoc
  replace hH0 := hH0.assoc1
  obtain ⟨h, hh, hh2⟩ := nat_dst c n
  refine Ev_C (F := x27) rfl ?_
  refine C_seq ?_
  refine C_region ?_
  refine O_p (.b false) (r_mv rfl) ?_
  refine O_nil ?_
  refine C_seq ?_
  by_cases hz : h = 0
  ·
    refine C_region ?_
    refine O_p (.p (some (a, 0))) (r_mv rfl) ?_
    refine O_p (.p (some (a, 0))) (r_nilc rfl) ?_
    refine O_p (.p (some (a, 0))) (r_fadd' rfl rfl) ?_
    refine O_p (.i .u32 c) (r_ld rfl hH0.get0 rfl) ?_
    refine O_p (.i .u32 n) (r_mv rfl) ?_
    refine O_call (Ev.mono (dst2_ev (x := c) (y := n) hc0 hc1 hn0 hn1 hH0) fun v1 H2 hq3 => ?_)
    obtain ⟨rfl, hH4⟩ := hq3
    refine O_p (.i .i64 (((h : Nat)) : Int)) (by exact (by rw [r_cint' (m := ((h : Nat) : Int)) rfl (by rw [hh]; exact wrap_i64 (by omega) (by omega))])) ?_
    refine O_p (.i .i64 (((h : Nat)) : Int)) (r_mv rfl) ?_
    refine O_nil ?_
    refine C_seq ?_
    refine C_region ?_
    refine O_p (.i .i64 (((h : Nat)) : Int)) (r_mv rfl) ?_
    refine O_p (.b true) (by exact (by rw [r_eql rfl rfl, decide_eq_true (by omega)])) ?_
    refine O_p (.b true) (r_mv rfl) ?_
    refine O_gf rfl ?_
    refine O_gf rfl ?_
    refine O_p (.b true) (r_pick_t rfl rfl) ?_
    refine O_p (.b true) (r_mv rfl) ?_
    refine O_gf rfl ?_
    refine O_gf rfl ?_
    refine O_gf rfl ?_
    refine O_gu rfl ?_
    refine O_gu rfl ?_
    refine O_gu rfl ?_
    refine O_gu rfl ?_
    refine O_gu rfl ?_
    refine O_gu rfl ?_
    refine O_gu rfl ?_
    refine O_gu rfl ?_
    refine O_gf rfl ?_
    refine O_p (.b true) (r_pick_t rfl rfl) ?_
    refine O_p (.b true) (r_mv rfl) ?_
    refine O_nil ?_
    refine C_ret ?_
    have hH5 := (((hH4.top2).top2).top2)
    exact ⟨.inr rfl, _, resL_one (r_tmp (v := (.b true)) rfl), congrArg AV.b (Eq.symm (has_hi hh (.inl hz))), Hs.unc hH5⟩
  ·
    by_cases hb : 2147483648 ≤ h
    ·
      refine C_region ?_
      refine O_p (.p (some (a, 0))) (r_mv rfl) ?_
      refine O_p (.p (some (a, 0))) (r_nilc rfl) ?_
      refine O_p (.p (some (a, 0))) (r_fadd' rfl rfl) ?_
      refine O_p (.i .u32 c) (r_ld rfl hH0.get0 rfl) ?_
      refine O_p (.i .u32 n) (r_mv rfl) ?_
      refine O_call (Ev.mono (dst2_ev (x := c) (y := n) hc0 hc1 hn0 hn1 hH0) fun v6 H7 hq8 => ?_)
      obtain ⟨rfl, hH9⟩ := hq8
      refine O_p (.i .i64 (((h : Nat)) : Int)) (by exact (by rw [r_cint' (m := ((h : Nat) : Int)) rfl (by rw [hh]; exact wrap_i64 (by omega) (by omega))])) ?_
      refine O_p (.i .i64 (((h : Nat)) : Int)) (r_mv rfl) ?_
      refine O_nil ?_
      refine C_seq ?_
      refine C_region ?_
      refine O_p (.i .i64 (((h : Nat)) : Int)) (r_mv rfl) ?_
      refine O_p (.b false) (by exact (by rw [r_eql rfl rfl, decide_eq_false (by omega)])) ?_
      refine O_p (.b false) (r_mv rfl) ?_
      refine O_gk rfl ?_
      refine O_p (.i .i64 (((h : Nat)) : Int)) (r_mv rfl) ?_
      refine O_gk rfl ?_
      refine O_p (.b true) (by exact (by rw [r_geq rfl rfl, decide_eq_true (by omega)])) ?_
      refine O_p (.b true) (r_pick_f rfl rfl) ?_
      refine O_p (.b true) (r_mv rfl) ?_
      refine O_gf rfl ?_
      refine O_gf rfl ?_
      refine O_gf rfl ?_
      refine O_gu rfl ?_
      refine O_gu rfl ?_
      refine O_gu rfl ?_
      refine O_gu rfl ?_
      refine O_gu rfl ?_
      refine O_gu rfl ?_
      refine O_gu rfl ?_
      refine O_gu rfl ?_
      refine O_gf rfl ?_
      refine O_p (.b true) (r_pick_t rfl rfl) ?_
      refine O_p (.b true) (r_mv rfl) ?_
      refine O_nil ?_
      refine C_ret ?_
      have hH10 := (((hH9.top2).top2).top2)
      exact ⟨.inr rfl, _, resL_one (r_tmp (v := (.b true)) rfl), congrArg AV.b (Eq.symm (has_hi hh (.inr hb))), Hs.unc hH10⟩
    ·
      by_cases hm : h ≤ 1024
      ·
        refine C_region ?_
        refine O_p (.p (some (a, 0))) (r_mv rfl) ?_
        refine O_p (.p (some (a, 0))) (r_nilc rfl) ?_
        refine O_p (.p (some (a, 0))) (r_fadd' rfl rfl) ?_
        refine O_p (.i .u32 c) (r_ld rfl hH0.get0 rfl) ?_
        refine O_p (.i .u32 n) (r_mv rfl) ?_
        refine O_call (Ev.mono (dst2_ev (x := c) (y := n) hc0 hc1 hn0 hn1 hH0) fun v11 H12 hq13 => ?_)
        obtain ⟨rfl, hH14⟩ := hq13
        refine O_p (.i .i64 (((h : Nat)) : Int)) (by exact (by rw [r_cint' (m := ((h : Nat) : Int)) rfl (by rw [hh]; exact wrap_i64 (by omega) (by omega))])) ?_
        refine O_p (.i .i64 (((h : Nat)) : Int)) (r_mv rfl) ?_
        refine O_nil ?_
        refine C_seq ?_
        refine C_region ?_
        refine O_p (.i .i64 (((h : Nat)) : Int)) (r_mv rfl) ?_
        refine O_p (.b false) (by exact (by rw [r_eql rfl rfl, decide_eq_false (by omega)])) ?_
        refine O_p (.b false) (r_mv rfl) ?_
        refine O_gk rfl ?_
        refine O_p (.i .i64 (((h : Nat)) : Int)) (r_mv rfl) ?_
        refine O_gk rfl ?_
        refine O_p (.b false) (by exact (by rw [r_geq rfl rfl, decide_eq_false (by omega)])) ?_
        refine O_p (.b false) (r_pick_f rfl rfl) ?_
        refine O_p (.b false) (r_mv rfl) ?_
        refine O_gk rfl ?_
        refine O_p (.i .i64 (((h : Nat)) : Int)) (r_mv rfl) ?_
        refine O_gk rfl ?_
        refine O_p (.b true) (by exact (by rw [r_leq rfl rfl, decide_eq_true (by omega)])) ?_
        refine O_gk rfl ?_
        refine O_p (.b true) (r_mv rfl) ?_
        refine O_gk rfl ?_
        refine O_p (.p (some (a, 0))) (r_mv rfl) ?_
        refine O_gk rfl ?_
        refine O_p (.p (some (a, 0))) (r_nilc rfl) ?_
        refine O_gk rfl ?_
        refine O_p (.p (some (a, 1))) (r_fadd' rfl rfl) ?_
        refine O_gk rfl ?_
        refine O_p mv (r_ld rfl hH14.get0 rfl) ?_
        refine O_gk rfl ?_
        refine O_p (.i .i64 (((h : Nat)) : Int)) (r_mv rfl) ?_
        refine O_gk rfl ?_
        refine O_p (.i .i64 ((((h - 1) : Nat)) : Int)) (by exact (r_subn (a := h) (b := 1) rfl rfl (by omega) (by omega))) ?_
        refine O_gk rfl ?_
        refine O_q (by exact Sq.cell hms (m_lens mk) hH14.top1 rfl (i := (h - 1)) rfl (r := [(.b (mk.getD (h - 1) false))]) (m_get (l := mk) (i := (h - 1)) (by omega)) (by decide)) fun v16 hv15 => ?_
        obtain ⟨rb17, ro18, rfl, hrg19, hrt20, hrb21, hput22, hqs23⟩ := hv15
        refine O_gk rfl ?_
        refine O_p (.b (mk.getD (h - 1) false)) (r_ldR (q := 0) rfl ⟨_, _, hrg19, hrt20⟩ rfl) ?_
        refine O_gk rfl ?_
        refine O_p (.b (mk.getD (h - 1) false)) (r_pick_t rfl rfl) ?_
        refine O_p (.b (mk.getD (h - 1) false)) (r_pick_f rfl rfl) ?_
        refine O_p (.b (mk.getD (h - 1) false)) (r_mv rfl) ?_
        refine O_nil ?_
        refine C_ret ?_
        have hH24 := (((hH14.top2).top2).top2)
        exact ⟨.inr rfl, _, resL_one (r_tmp (v := (.b (mk.getD (h - 1) false))) rfl), congrArg AV.b (Eq.symm (has_mk hD hn0 hn1 hh (by omega) hm)), Hs.unc hH24⟩
      ·
        refine C_region ?_
        refine O_p (.p (some (a, 0))) (r_mv rfl) ?_
        refine O_p (.p (some (a, 0))) (r_nilc rfl) ?_
        refine O_p (.p (some (a, 0))) (r_fadd' rfl rfl) ?_
        refine O_p (.i .u32 c) (r_ld rfl hH0.get0 rfl) ?_
        refine O_p (.i .u32 n) (r_mv rfl) ?_
        refine O_call (Ev.mono (dst2_ev (x := c) (y := n) hc0 hc1 hn0 hn1 hH0) fun v25 H26 hq27 => ?_)
        obtain ⟨rfl, hH28⟩ := hq27
        refine O_p (.i .i64 (((h : Nat)) : Int)) (by exact (by rw [r_cint' (m := ((h : Nat) : Int)) rfl (by rw [hh]; exact wrap_i64 (by omega) (by omega))])) ?_
        refine O_p (.i .i64 (((h : Nat)) : Int)) (r_mv rfl) ?_
        refine O_nil ?_
        refine C_seq ?_
        refine C_region ?_
        refine O_p (.i .i64 (((h : Nat)) : Int)) (r_mv rfl) ?_
        refine O_p (.b false) (by exact (by rw [r_eql rfl rfl, decide_eq_false (by omega)])) ?_
        refine O_p (.b false) (r_mv rfl) ?_
        refine O_gk rfl ?_
        refine O_p (.i .i64 (((h : Nat)) : Int)) (r_mv rfl) ?_
        refine O_gk rfl ?_
        refine O_p (.b false) (by exact (by rw [r_geq rfl rfl, decide_eq_false (by omega)])) ?_
        refine O_p (.b false) (r_pick_f rfl rfl) ?_
        refine O_p (.b false) (r_mv rfl) ?_
        refine O_gk rfl ?_
        refine O_p (.i .i64 (((h : Nat)) : Int)) (r_mv rfl) ?_
        refine O_gk rfl ?_
        refine O_p (.b false) (by exact (by rw [r_leq rfl rfl, decide_eq_false (by omega)])) ?_
        refine O_gk rfl ?_
        refine O_p (.b false) (r_mv rfl) ?_
        refine O_gf rfl ?_
        refine O_gf rfl ?_
        refine O_gf rfl ?_
        refine O_gf rfl ?_
        refine O_gf rfl ?_
        refine O_gf rfl ?_
        refine O_gf rfl ?_
        refine O_gf rfl ?_
        refine O_gk rfl ?_
        refine O_p (.b false) (r_pick_f rfl rfl) ?_
        refine O_p (.b false) (r_pick_f rfl rfl) ?_
        refine O_p (.b false) (r_mv rfl) ?_
        refine O_nil ?_
        refine C_ret ?_
        have hH29 := (((hH28.top2).top2).top2)
        exact ⟨.inr rfl, _, resL_one (r_tmp (v := (.b false)) rfl), congrArg AV.b (Eq.symm (has_far hwf hh (by omega) (by omega))), Hs.unc hH29⟩
theorem climb2_ev {H : AH} {R : HL} {a : Nat} {c : Int} {l : List Int} {mv dv : AV} {mc : List AV} {mk : List Bool} (hmk : Mks mk c l) (hg : Gi 1 c l) (hms : Sq 1 mv mc (mB mk).flatten) (hH0 : Hs H ([(a, some (.cells [.i .u32 c, mv, dv] true))] ++ (qseg mv mc ++ R))) : Ev tabS spS (.fn (.func 33) [] []) [.p (some (a, 0))] H (fun r H' => r = .tup [] ∧ ∃ mv' mc' mk', Mks mk' (climbF c l).1 (climbF c l).2 ∧ Sq 1 mv' mc' (mB mk').flatten ∧ Hs H' ([(a, some (.cells [.i .u32 (climbF c l).1, mv', dv] true))] ++ (qseg mv' mc' ++ R))) := by
  refine Ev_C (F := x33) rfl ?_
  refine C_block ?_
  refine C_while (fun m1 T2 H3 => ∃ c1 : Int, ∃ l1 : List Int, ∃ mv1 : AV, ∃ mc1 : List AV, ∃ mk1 : List Bool, m1 = l1.length ∧ Mks mk1 c1 l1 ∧ Gi 1 c1 l1 ∧ Sq 1 mv1 mc1 (mB mk1).flatten ∧ climbF c1 l1 = climbF c l ∧ Hs H3 ([(a, some (.cells ([(.i .u32 c1), mv1, dv]) true))] ++ ((qseg mv1 mc1) ++ (R))) ∧ T2.get 0 = (.p (some (a, 0)))) (fun m1 T2 H3 hI4 => ?_) l.length _ _ ⟨c, l, mv, mc, mk, rfl, hmk, hg, hms, rfl, hH0, rfl⟩
  obtain ⟨c1, l1, mv1, mc1, mk1, hm5, hp6, hp7, hp8, hp9, hH11, hT10⟩ := hI4
  have hlm1 := hp6.1
  refine C_seq ?_
  refine C_seq ?_
  refine C_region ?_
  refine O_p (.p (some (a, 0))) (r_mv hT10) ?_
  refine O_p (.p (some (a, 0))) (r_nilc rfl) ?_
  refine O_p (.p (some (a, 1))) (r_fadd' rfl rfl) ?_
  refine O_p mv1 (r_ld rfl hH11.get0 rfl) ?_
  refine O_q (by exact Sq.cell hp8 (m_lens mk1) hH11.top1 rfl (i := 0) rfl (r := [(.b (mk1.getD 0 false))]) (m_get (l := mk1) (i := 0) (by omega)) (by decide)) fun v13 hv12 => ?_
  obtain ⟨rb14, ro15, rfl, hrg16, hrt17, hrb18, hput19, hqs20⟩ := hv12
  refine O_p (.b (mk1.getD 0 false)) (r_ldR (q := 0) rfl ⟨_, _, hrg16, hrt17⟩ rfl) ?_
  refine O_nil ?_
  refine C_cond (x := (mk1.getD 0 false)) rfl (fun hc21 => ?_) (fun hc21 => ?_)
  ·
    have hraw22 := hc21
    rw [hp6.zero] at hraw22
    have hin : nxt c1 ∈ l1 := of_decide_eq_true hraw22
    have hlt := udel_lt hin
    refine C_skip ?_
    refine C_block ?_
    refine C_seq ?_
    refine C_region ?_
    refine O_p (.p (some (a, 0))) (r_mv hT10) ?_
    refine O_p (.p (some (a, 0))) (r_mv hT10) ?_
    refine O_p (.p (some (a, 0))) (r_nilc rfl) ?_
    refine O_p (.p (some (a, 1))) (r_fadd' rfl rfl) ?_
    refine O_p mv1 (r_ld rfl hH11.get0 rfl) ?_
    refine O_q (by exact Sq.suf (i := 1) hp8 (m_lens mk1) (by decide) (by rw [List.length_map]; omega) rfl rfl (by rw [List.length_map]; omega)) fun v24 hv23 => ?_
    obtain ⟨hSq25, hqs26, qa27, qn28, qc29, qg30, rfl⟩ := hv23
    have hH32 := Hs.cong1 hH11 hqs26.symm
    refine O_bslice (c := [(.b false)]) rfl fun n33 H34 hN35 => ?_
    have hH36 := hH32.new hN35
    refine O_qh (by exact r_appq (n := 1023) (k := 1) (new := [(.b false)]) hH36.top2 hSq25 rfl rfl rfl (src_blk hH36.get0 (by rfl)) rfl (by decide) (by decide) (by rw [flat_len (fun r hr => m_lens mk1 r (List.mem_of_mem_drop hr)), List.length_drop, List.length_map, hlm1]) (by first | omega | (simp only [List.length_take, List.length_drop, List.length_append, List.length_cons, List.length_nil, beN_len] <;> omega))) fun o37 H38 hA40 => ?_
    obtain ⟨c39, hA40, hH41⟩ := hA40
    obtain ⟨qa42, ql43, qc44, qg45, rfl⟩ := hA40.isSl
    refine O_p (.p (some (a, 0))) (r_nilc rfl) ?_
    refine O_p (.p (some (a, 1))) (r_fadd' rfl rfl) ?_
    refine O_store (vs := [(.sl qa42 ql43 qc44 qg45)]) (c' := [(.i .u32 c1), (.sl qa42 ql43 qc44 qg45), dv]) rfl (by rfl) hH41.get2 rfl (List.cons_ne_nil _ _) (Nat.le_of_ble_eq_true rfl) rfl fun H46 hW47 => ?_
    have hH48 := hH41.wr2 hW47
    refine O_nil ?_
    refine C_region ?_
    refine O_p (.p (some (a, 0))) (r_mv hT10) ?_
    refine O_p (.p (some (a, 0))) (r_nilc rfl) ?_
    refine O_p (.p (some (a, 0))) (r_fadd' rfl rfl) ?_
    refine O_p (.i .u32 c1) (r_ld rfl hH48.get2 rfl) ?_
    refine O_p (.i .u32 (nxt c1)) (r_bin rfl rfl rfl) ?_
    refine O_p (.p (some (a, 0))) (r_nilc rfl) ?_
    refine O_p (.p (some (a, 0))) (r_fadd' rfl rfl) ?_
    refine O_store (vs := [(.i .u32 (nxt c1))]) (c' := [(.i .u32 (nxt c1)), (.sl qa42 ql43 qc44 qg45), dv]) rfl (by rfl) hH48.get2 rfl (List.cons_ne_nil _ _) (Nat.le_of_ble_eq_true rfl) rfl fun H49 hW50 => ?_
    have hH51 := hH48.wr2 hW50
    refine O_nil ?_
    have hH52 := (hH51.sub1)
    have hH53 := (hH52.top1)
    exact ⟨(udel l1 (nxt c1)).length, by omega, (nxt c1), (udel l1 (nxt c1)), (.sl qa42 ql43 qc44 qg45), c39, (mk1.drop 1 ++ [false]), rfl, hp6.climb hp7, gi_step hp7, by have h9 := hA40; rw [m_cut] at h9; exact h9, by rw [← hp9, climbF_step hin], hH53, hT10⟩
  ·
    have hraw54 := hc21
    rw [hp6.zero] at hraw54
    have hout : nxt c1 ∉ l1 := of_decide_eq_false hraw54
    refine C_exit ?_
    refine nx_exit ?_
    refine nx_exit ?_
    refine bk_hit ?_
    have hH55 := ((hH11.top1).top1)
    exact ⟨.inl rfl, [], rfl, rfl, mv1, mc1, mk1, by rw [← hp9, climbF_stop hout]; exact hp6, hp8, by rw [← hp9, climbF_stop hout]; exact hH55⟩
theorem add2_ev {H : AH} {R : HL} {s : Gp} {a : Nat} {S : HL} {n : Int} (hG : DpH s a S) (hH0 : Hs H (S ++ R)) (hn0 : 0 ≤ n) (hn1 : n < 4294967296) (hln : s.d.length ≤ 64) : Ev tabS spS (.fn (.func 19) [] []) [.p (some (a, 0)), .i .u32 n] H (fun r H' => r = .i .i64 (s.told n) ∧ ∃ S', DpH (s.add n) a S' ∧ Hs H' (S' ++ R)) := by
  obtain ⟨mv, mc, mk, dv, dc, hD, hms, hd, rfl⟩ := hG
  obtain ⟨c, l, dl⟩ := s
  simp only at hms hd
  have hmk : Mks mk c l := hD.1
  have hwf : Gi 2 c l := hD.2.1
  have hc0 : 0 ≤ c := hD.2.2.1
  have hc1 : c < 4294967296 := hD.2.2.2
  have hlm := hmk.1
  replace hH0 := hH0.assoc
  replace hH0 := hH0.assoc1
  obtain ⟨h, hh, hh2⟩ := nat_dst c n
  simp only at hln
  refine Ev_C (F := x19) rfl ?_
  refine C_seq ?_
  refine C_region ?_
  refine O_p (.i .i64 0) (r_mv rfl) ?_
  refine O_nil ?_
  refine C_seq ?_
  refine C_seq ?_
  refine C_region ?_
  refine O_p (.p (some (a, 0))) (r_mv rfl) ?_
  refine O_p (.i .u32 n) (r_mv rfl) ?_
  refine O_call (Ev.mono (has2_ev (s := ⟨c, l, dl⟩) (n := n) ⟨mv, mc, mk, dv, dc, hD, hms, hd, rfl⟩ (Hs.unc hH0) hn0 hn1) fun v1 H2 hq3 => ?_)
  obtain ⟨rfl, hH4⟩ := hq3
  have hH5 := Hs.assoc1 (Hs.assoc hH4)
  refine O_nil ?_
  refine C_cond (x := (Gp.has ⟨c, l, dl⟩ n)) rfl (fun hc6 => ?_) (fun hc6 => ?_)
  ·
    have hr7 := hc6
    try simp only [decide_eq_true_eq, decide_eq_false_iff_not, Bool.not_eq_true', Bool.not_eq_false', Bool.and_eq_true, Bool.or_eq_true, Bool.or_eq_false_iff, Bool.not_not, Bool.and_eq_false_iff] at hc6
    have hhas : Gp.has ⟨c, l, dl⟩ n = true := hr7
    refine C_seq ?_
    refine C_seq ?_
    refine C_region ?_
    refine O_p (.p (some (a, 0))) (r_mv rfl) ?_
    refine O_p (.p (some (a, 0))) (r_nilc rfl) ?_
    refine O_p (.p (some (a, 2))) (r_fadd' rfl rfl) ?_
    refine O_p dv (r_ld rfl hH5.get0 rfl) ?_
    refine O_p (.i .i64 (((dl.length : Nat)) : Int)) (by exact (by exact r_lenOf rfl (hd.lenOf (lU_len dl) (by decide)) hd.isSl)) ?_
    refine O_p (.b (decide ((((dl.length : Nat)) : Int) < 64))) (r_lss rfl rfl) ?_
    refine O_nil ?_
    refine C_cond (x := (decide ((((dl.length : Nat)) : Int) < 64))) rfl (fun hc8 => ?_) (fun hc8 => ?_)
    ·
      have hr9 := hc8
      try simp only [decide_eq_true_eq, decide_eq_false_iff_not, Bool.not_eq_true', Bool.not_eq_false', Bool.and_eq_true, Bool.or_eq_true, Bool.or_eq_false_iff, Bool.not_not, Bool.and_eq_false_iff] at hc8
      have hroom : dl.length < 64 := by omega
      refine C_region ?_
      refine O_p (.p (some (a, 0))) (r_mv rfl) ?_
      refine O_p (.p (some (a, 0))) (r_mv rfl) ?_
      refine O_p (.p (some (a, 0))) (r_nilc rfl) ?_
      refine O_p (.p (some (a, 2))) (r_fadd' rfl rfl) ?_
      refine O_p dv (r_ld rfl hH5.get0 rfl) ?_
      refine O_p (.i .u32 n) (r_mv rfl) ?_
      refine O_bslice (c := [(.i .u32 n)]) rfl fun n10 H11 hN12 => ?_
      have hH13 := hH5.new hN12
      refine O_qh (by exact r_appq (n := dl.length) (k := 1) (new := [(.i .u32 n)]) hH13.top3 hd rfl rfl rfl (src_blk hH13.get0 (by rfl)) rfl (by decide) (by decide) (lU_len dl) (by first | omega | (simp only [List.length_take, List.length_drop, List.length_append, List.length_cons, List.length_nil, beN_len] <;> omega))) fun o14 H15 hA17 => ?_
      obtain ⟨c16, hA17, hH18⟩ := hA17
      obtain ⟨qa19, ql20, qc21, qg22, rfl⟩ := hA17.isSl
      refine O_p (.p (some (a, 0))) (r_nilc rfl) ?_
      refine O_p (.p (some (a, 2))) (r_fadd' rfl rfl) ?_
      refine O_store (vs := [(.sl qa19 ql20 qc21 qg22)]) (c' := [(.i .u32 c), mv, (.sl qa19 ql20 qc21 qg22)]) rfl (by rfl) hH18.get2 rfl (List.cons_ne_nil _ _) (Nat.le_of_ble_eq_true rfl) rfl fun H23 hW24 => ?_
      have hH25 := hH18.wr2 hW24
      refine O_nil ?_
      refine C_seq ?_
      refine C_region ?_
      refine O_p (.i .i64 1) (r_mv rfl) ?_
      refine O_nil ?_
      refine C_ret ?_
      refine nx_ret ?_
      have hH26 := (hH25.sub1)
      have hH27 := ((hH26.top2).top2)
      have hst : Gp.add ⟨c, l, dl⟩ n = ⟨c, l, dl ++ [n]⟩ := by unfold Gp.add; rw [if_pos hhas, if_pos hroom]
      rw [hst]
      exact ⟨.inr rfl, _, resL_one (r_tmp (v := (.i .i64 1)) rfl), by unfold Gp.told; rw [if_pos hhas]; rfl, _, ⟨_, _, _, _, _, hD, hms, (by rw [← lU_app]; exact hA17), rfl⟩, Hs.unc hH27⟩
    ·
      have hr28 := hc8
      try simp only [decide_eq_true_eq, decide_eq_false_iff_not, Bool.not_eq_true', Bool.not_eq_false', Bool.and_eq_true, Bool.or_eq_true, Bool.or_eq_false_iff, Bool.not_not, Bool.and_eq_false_iff] at hc8
      have hroom : ¬ dl.length < 64 := by omega
      refine C_skip ?_
      refine C_seq ?_
      refine C_region ?_
      refine O_p (.i .i64 1) (r_mv rfl) ?_
      refine O_nil ?_
      refine C_ret ?_
      refine nx_ret ?_
      have hH29 := (((hH5.top2).top2).top2)
      have hst : Gp.add ⟨c, l, dl⟩ n = ⟨c, l, dl⟩ := by unfold Gp.add; rw [if_pos hhas, if_neg hroom]
      rw [hst]
      exact ⟨.inr rfl, _, resL_one (r_tmp (v := (.i .i64 1)) rfl), by unfold Gp.told; rw [if_pos hhas]; rfl, _, ⟨_, _, _, _, _, hD, hms, hd, rfl⟩, Hs.unc hH29⟩
  ·
    have hr30 := hc6
    try simp only [decide_eq_true_eq, decide_eq_false_iff_not, Bool.not_eq_true', Bool.not_eq_false', Bool.and_eq_true, Bool.or_eq_true, Bool.or_eq_false_iff, Bool.not_not, Bool.and_eq_false_iff] at hc6
    have hhas : Gp.has ⟨c, l, dl⟩ n = false := hr30
    have hpos := has_lo (s := ⟨c, l, dl⟩) hh hhas
    refine C_skip ?_
    refine C_seq ?_
    refine C_region ?_
    refine O_p (.p (some (a, 0))) (r_mv rfl) ?_
    refine O_p (.p (some (a, 0))) (r_nilc rfl) ?_
    refine O_p (.p (some (a, 0))) (r_fadd' rfl rfl) ?_
    refine O_p (.i .u32 c) (r_ld rfl hH5.get0 rfl) ?_
    refine O_p (.i .u32 n) (r_mv rfl) ?_
    refine O_call (Ev.mono (dst2_ev (x := c) (y := n) hc0 hc1 hn0 hn1 hH5) fun v31 H32 hq33 => ?_)
    obtain ⟨rfl, hH34⟩ := hq33
    refine O_p (.i .i64 (((h : Nat)) : Int)) (by exact (by rw [r_cint' (m := ((h : Nat) : Int)) rfl (by rw [hh]; exact wrap_i64 (by omega) (by omega))])) ?_
    refine O_p (.i .i64 (((h : Nat)) : Int)) (r_mv rfl) ?_
    refine O_nil ?_
    refine C_seq ?_
    refine C_seq ?_
    refine C_region ?_
    refine O_p (.i .i64 (((h : Nat)) : Int)) (r_mv rfl) ?_
    refine O_p (.b (decide (1024 < (((h : Nat)) : Int)))) (r_gtr rfl rfl) ?_
    refine O_nil ?_
    refine C_cond (x := (decide (1024 < (((h : Nat)) : Int)))) rfl (fun hc35 => ?_) (fun hc35 => ?_)
    ·
      have hr36 := hc35
      try simp only [decide_eq_true_eq, decide_eq_false_iff_not, Bool.not_eq_true', Bool.not_eq_false', Bool.and_eq_true, Bool.or_eq_true, Bool.or_eq_false_iff, Bool.not_not, Bool.and_eq_false_iff] at hc35
      have hfar : 1024 < dst c n := by rw [hh]; omega
      refine C_seq ?_
      refine C_region ?_
      refine O_p (.i .i64 2) (r_mv rfl) ?_
      refine O_nil ?_
      refine C_ret ?_
      refine nx_ret ?_
      have hH37 := (((hH34.top2).top2).top2)
      have hst : Gp.add ⟨c, l, dl⟩ n = ⟨c, l, dl⟩ := by unfold Gp.add; rw [if_neg (by rw [hhas]; decide), if_pos hfar]
      rw [hst]
      exact ⟨.inr rfl, _, resL_one (r_tmp (v := (.i .i64 2)) rfl), by unfold Gp.told; rw [if_neg (by rw [hhas]; decide), if_pos hfar]; rfl, _, ⟨_, _, _, _, _, hD, hms, hd, rfl⟩, Hs.unc hH37⟩
    ·
      have hr38 := hc35
      try simp only [decide_eq_true_eq, decide_eq_false_iff_not, Bool.not_eq_true', Bool.not_eq_false', Bool.and_eq_true, Bool.or_eq_true, Bool.or_eq_false_iff, Bool.not_not, Bool.and_eq_false_iff] at hc35
      have hfar : ¬ 1024 < dst c n := by rw [hh]; omega
      refine C_skip ?_
      refine C_seq ?_
      refine C_region ?_
      refine O_p (.p (some (a, 0))) (r_mv rfl) ?_
      refine O_p (.p (some (a, 0))) (r_nilc rfl) ?_
      refine O_p (.p (some (a, 1))) (r_fadd' rfl rfl) ?_
      refine O_p mv (r_ld rfl hH34.get0 rfl) ?_
      refine O_p (.i .i64 (((h : Nat)) : Int)) (r_mv rfl) ?_
      refine O_p (.i .i64 ((((h - 1) : Nat)) : Int)) (by exact (r_subn (a := h) (b := 1) rfl rfl (by omega) (by omega))) ?_
      refine O_q (by exact Sq.cell hms (m_lens mk) hH34.top1 rfl (i := (h - 1)) rfl (r := [(.b (mk.getD (h - 1) false))]) (m_get (l := mk) (i := (h - 1)) (by omega)) (by decide)) fun v40 hv39 => ?_
      obtain ⟨rb41, ro42, rfl, hrg43, hrt44, hrb45, hput46, hqs47⟩ := hv39
      refine O_store (vs := [(.b true)]) (c' := (putAt mc (ro42 + 0) [(.b true)])) rfl (by rfl) hrg43 rfl (List.cons_ne_nil _ _) (by have := hrb45; show _ + 1 ≤ _; omega) rfl fun H48 hW49 => ?_
      have hH51 := Hs.cong1 (Hs.wr1 (Hs.cong1 hH34 (hqs47 _)) hW49) (hqs47 _).symm
      have hSq50 := hput46 0 [(.b true)] [(.b true)] (Nat.le_of_ble_eq_true rfl) rfl
      obtain ⟨mm52, he53⟩ : ∃ z : List Bool, z = mk.set (h - 1) true := ⟨_, rfl⟩
      have hs54 : Sq 1 mv (putAt mc (ro42 + 0) [(.b true)]) (mB mm52).flatten := by rw [he53, ← m_set]; exact hSq50
      have hl55 : mm52.length = 1024 := by rw [he53, List.length_set]; exact hlm
      refine O_nil ?_
      refine C_seq ?_
      refine C_region ?_
      refine O_p (.p (some (a, 0))) (r_mv rfl) ?_
      have hH56 := ((hH51.top1).top1)
      have hM2 : Mks mm52 c (uadd l n) := by rw [he53]; exact hmk.add (i := h - 1) (by omega) (by omega) hn0 hn1
      have hg1 : Gi 1 c (uadd l n) := gi_uadd hwf hn0 hn1 (by omega) (by omega)
      refine O_call (Ev.mono (climb2_ev (c := c) (l := (uadd l n)) hM2 hg1 hs54 hH56) fun v57 H58 hq59 => ?_)
      obtain ⟨rfl, mv60, mc61, mk62, hMk63, hms64, hH65⟩ := hq59
      have hlm66 := hMk63.1
      refine O_nil ?_
      refine C_seq ?_
      refine C_region ?_
      refine O_p (.i .i64 0) (r_mv rfl) ?_
      refine O_nil ?_
      refine C_ret ?_
      have hH67 := (((hH65.top2).top2).top2)
      have hst : Gp.add ⟨c, l, dl⟩ n = Gp.climb ⟨c, uadd l n, dl⟩ := by unfold Gp.add; rw [if_neg (by rw [hhas]; decide), if_neg hfar]
      rw [hst]
      exact ⟨.inr rfl, _, resL_one (r_tmp (v := (.i .i64 0)) rfl), by unfold Gp.told; rw [if_neg (by rw [hhas]; decide), if_neg hfar]; rfl, _, ⟨_, _, _, _, _, (ds_climb hMk63 hg1 hc0 hc1), hms64, hd, rfl⟩, Hs.unc hH67⟩
theorem len2_ev {H : AH} {R : HL} {s : Gp} {a : Nat} {S : HL} (hG : DpH s a S) (hH0 : Hs H (S ++ R)) : Ev tabS spS (.fn (.func 24) [] []) [.p (some (a, 0))] H (fun r H' => r = .i .i64 ((s.l.length : Nat) : Int) ∧ Hs H' (S ++ R)) := by
  obtain ⟨mv, mc, mk, dv, dc, hD, hms, hd, rfl⟩ := hG
  obtain ⟨c, l, dl⟩ := s
  simp only at hms hd
  have hmk : Mks mk c l := hD.1
  have hwf : Gi 2 c l := hD.2.1
  have hc0 : 0 ≤ c := hD.2.2.1
  have hc1 : c < 4294967296 := hD.2.2.2
  have hlm := hmk.1
  replace hH0 := hH0.assoc
  replace hH0 := hH0.assoc1
  refine Ev_C (F := x24) rfl ?_
  refine C_seq ?_
  refine C_region ?_
  refine O_p (.i .i64 0) (r_mv rfl) ?_
  refine O_nil ?_
  refine C_seq ?_
  refine C_region ?_
  refine O_p (.i .i64 0) (r_mv rfl) ?_
  refine O_nil ?_
  refine C_seq ?_
  refine C_seq ?_
  refine C_region ?_
  refine O_p (.i .i64 0) (r_mv rfl) ?_
  refine O_nil ?_
  refine C_block ?_
  have hcl := cnt_le mk
  refine C_while (fun m1 T2 H3 => ∃ i : Nat, m1 = 1024 - i ∧ i ≤ 1024 ∧ Hs H3 ([(a, some (.cells ([(.i .u32 c), mv, dv]) true))] ++ ((qseg mv mc) ++ ((qseg dv dc) ++ (R)))) ∧ T2.get 0 = (.p (some (a, 0))) ∧ T2.get 3 = (.i .i64 ((((cntM mk i) : Nat)) : Int)) ∧ T2.get 4 = (.i .i64 (((i : Nat)) : Int))) (fun m1 T2 H3 hI4 => ?_) 1024 _ _ ⟨0, rfl, by omega, hH0, rfl, rfl, rfl⟩
  obtain ⟨i, hm5, hp6, hH10, hT7, hT8, hT9⟩ := hI4
  refine C_seq ?_
  refine C_seq ?_
  refine C_region ?_
  refine O_p (.i .i64 (((i : Nat)) : Int)) (r_mv hT9) ?_
  refine O_p (.b (decide ((((i : Nat)) : Int) < 1024))) (r_lss rfl rfl) ?_
  refine O_nil ?_
  refine C_cond (x := (decide ((((i : Nat)) : Int) < 1024))) rfl (fun hc11 => ?_) (fun hc11 => ?_)
  ·
    have hraw12 := hc11
    try simp only [decide_eq_true_eq, decide_eq_false_iff_not, Bool.not_eq_true', Bool.not_eq_false', Bool.and_eq_true, Bool.or_eq_true, Bool.or_eq_false_iff, Bool.not_not, Bool.and_eq_false_iff] at hc11
    refine C_skip ?_
    refine C_seq ?_
    refine C_block ?_
    refine C_seq ?_
    refine C_region ?_
    have hci := hcl i
    refine O_p (.p (some (a, 0))) (r_mv hT7) ?_
    refine O_p (.p (some (a, 0))) (r_nilc rfl) ?_
    refine O_p (.p (some (a, 1))) (r_fadd' rfl rfl) ?_
    refine O_p mv (r_ld rfl hH10.get0 rfl) ?_
    refine O_p (.i .i64 (((i : Nat)) : Int)) (r_mv hT9) ?_
    refine O_q (by exact Sq.cell hms (m_lens mk) hH10.top1 rfl (i := i) rfl (r := [(.b (mk.getD i false))]) (m_get (l := mk) (i := i) (by omega)) (by decide)) fun v14 hv13 => ?_
    obtain ⟨rb15, ro16, rfl, hrg17, hrt18, hrb19, hput20, hqs21⟩ := hv13
    refine O_p (.b (mk.getD i false)) (r_ldR (q := 0) rfl ⟨_, _, hrg17, hrt18⟩ rfl) ?_
    refine O_nil ?_
    refine C_cond (x := (mk.getD i false)) rfl (fun hc22 => ?_) (fun hc22 => ?_)
    ·
      have hraw23 := hc22
      try simp only [decide_eq_true_eq, decide_eq_false_iff_not, Bool.not_eq_true', Bool.not_eq_false', Bool.and_eq_true, Bool.or_eq_true, Bool.or_eq_false_iff, Bool.not_not, Bool.and_eq_false_iff] at hc22
      have hmk1 : mk.getD i false = true := hraw23
      refine C_region ?_
      refine O_p (.i .i64 ((((cntM mk i) : Nat)) : Int)) (r_mv hT8) ?_
      refine O_p (.i .i64 (((((cntM mk i) : Nat)) : Int) + 1)) (by exact (r_addi rfl rfl (wrap_i64 (by omega) (by omega)))) ?_
      refine O_p (.i .i64 (((((cntM mk i) : Nat)) : Int) + 1)) (r_mv rfl) ?_
      refine O_nil ?_
      refine C_region ?_
      refine O_p (.i .i64 (((i : Nat)) : Int)) (r_mv hT9) ?_
      refine O_p (.i .i64 ((((i : Nat)) : Int) + 1)) (by exact (r_addi rfl rfl (wrap_i64 (by omega) (by omega)))) ?_
      refine O_p (.i .i64 ((((i : Nat)) : Int) + 1)) (r_mv rfl) ?_
      refine O_nil ?_
      have hH24 := (((hH10.top2).top2).top2)
      exact ⟨1024 - (i + 1), by omega, (i + 1), rfl, by omega, hH24, hT7, (by rw [show cntM mk (i + 1) = cntM mk i + 1 by show (if _ then _ else _ : Nat) = _; rw [if_pos hmk1]]; exact rfl), rfl⟩
    ·
      have hraw25 := hc22
      try simp only [decide_eq_true_eq, decide_eq_false_iff_not, Bool.not_eq_true', Bool.not_eq_false', Bool.and_eq_true, Bool.or_eq_true, Bool.or_eq_false_iff, Bool.not_not, Bool.and_eq_false_iff] at hc22
      have hmk1 : mk.getD i false = false := hraw25
      refine C_skip ?_
      refine C_region ?_
      refine O_p (.i .i64 (((i : Nat)) : Int)) (r_mv hT9) ?_
      refine O_p (.i .i64 ((((i : Nat)) : Int) + 1)) (by exact (r_addi rfl rfl (wrap_i64 (by omega) (by omega)))) ?_
      refine O_p (.i .i64 ((((i : Nat)) : Int) + 1)) (r_mv rfl) ?_
      refine O_nil ?_
      have hH26 := (((hH10.top2).top2).top2)
      exact ⟨1024 - (i + 1), by omega, (i + 1), rfl, by omega, hH26, hT7, (by rw [show cntM mk (i + 1) = cntM mk i by show (if _ then _ else _ : Nat) = _; rw [if_neg (by rw [hmk1]; decide)]]; exact hT8), rfl⟩
  ·
    have hraw27 := hc11
    try simp only [decide_eq_true_eq, decide_eq_false_iff_not, Bool.not_eq_true', Bool.not_eq_false', Bool.and_eq_true, Bool.or_eq_true, Bool.or_eq_false_iff, Bool.not_not, Bool.and_eq_false_iff] at hc11
    refine C_exit ?_
    refine nx_exit ?_
    refine nx_exit ?_
    refine bk_hit ?_
    refine C_seq ?_
    refine C_region ?_
    refine O_p (.i .i64 ((((cntM mk i) : Nat)) : Int)) (r_mv hT8) ?_
    refine O_p (.i .i64 ((((cntM mk i) : Nat)) : Int)) (r_mv rfl) ?_
    refine O_nil ?_
    refine C_ret ?_
    have hH28 := (((hH10.top2).top2).top2)
    have hi9 : i = 1024 := by omega
    exact ⟨.inr rfl, _, resL_one (r_tmp (v := (.i .i64 ((((cntM mk i) : Nat)) : Int))) rfl), by rw [hi9, cnt_all hmk hwf]; rfl, Hs.unc hH28⟩
theorem dups20_ev {H : AH} {R : HL} {a : Nat} {x0 x1 x2 : AV} (hH0 : Hs H ([(a, some (.cells [x0, x1, x2] true))] ++ R)) (h2 : x2.one = true) : Ev tabS spS (.fn (.func 23) [] []) [.p (some (a, 0))] H (fun r H' => r = x2 ∧ Hs H' ([(a, some (.cells [x0, x1, .sl none 0 0 0] true))] ++ R)) := by
  refine Ev_C (F := x23) rfl ?_
  refine C_seq ?_
  refine C_region ?_
  refine O_p (.sl none 0 0 0) (r_mv rfl) ?_
  refine O_nil ?_
  refine C_seq ?_
  refine C_region ?_
  refine O_p (.p (some (a, 0))) (r_mv rfl) ?_
  refine O_p (.p (some (a, 0))) (r_nilc rfl) ?_
  refine O_p (.p (some (a, 2))) (r_fadd' rfl rfl) ?_
  refine O_p x2 (r_ld rfl hH0.get0 rfl) ?_
  refine O_p x2 (r_mv rfl) ?_
  refine O_nil ?_
  refine C_seq ?_
  refine C_region ?_
  refine O_p (.p (some (a, 0))) (r_mv rfl) ?_
  refine O_p (.p (some (a, 0))) (r_nilc rfl) ?_
  refine O_p (.p (some (a, 2))) (r_fadd' rfl rfl) ?_
  refine O_store (vs := [(.sl none 0 0 0)]) (c' := [x0, x1, (.sl none 0 0 0)]) rfl (by rfl) hH0.get0 rfl (List.cons_ne_nil _ _) (Nat.le_of_ble_eq_true rfl) rfl fun H1 hW2 => ?_
  have hH3 := hH0.wr0 hW2
  refine O_nil ?_
  refine C_seq ?_
  refine C_region ?_
  refine O_p x2 (r_mv rfl) ?_
  refine O_p x2 (r_mv rfl) ?_
  refine O_nil ?_
  refine C_ret ?_
  exact ⟨.inr rfl, _, resL_one (r_tmp (v := x2) rfl), rfl, hH3⟩
theorem dups2_ev {H : AH} {R : HL} {s : Gp} {a : Nat} {S : HL} (hG : DpH s a S) (hH0 : Hs H (S ++ R)) : Ev tabS spS (.fn (.func 23) [] []) [.p (some (a, 0))] H (fun r H' => ∃ dc S', Sq 1 r dc (lU s.d) ∧ DpH ⟨s.c, s.l, []⟩ a S' ∧ Hs H' (S' ++ (qseg r dc ++ R))) := by
  obtain ⟨mv, mc, mk, dv, dc, hD, hms, hd, rfl⟩ := hG
  have ho : dv.one = true := by obtain ⟨a, l, c, g, rfl⟩ := hd.isSl; rfl
  refine Ev.mono (dups20_ev hH0.assoc ho) ?_
  rintro r H' ⟨rfl, h⟩
  refine ⟨dc, _, hd, ⟨mv, mc, mk, .sl none 0 0 0, [], hD, hms, Sq.nil, rfl⟩, ?_⟩
  have := h.assoc1
  exact Hs.unc (K := []) this
theorem new2_ev {H : AH} {R : HL} {n : Int} (hH0 : Hs H R) : Ev tabS spS (.fn (.func 18) [] []) [.i .u32 n] H (fun r H' => ∃ a S, r = .p (some (a, 0)) ∧ DpH ⟨IntKind.u32.wrap (n - 1), [], []⟩ a S ∧ Hs H' (S ++ R)) := by
  refine Ev_C (F := x18) rfl ?_
  refine C_seq ?_
  refine C_region ?_
  refine O_p (.p none) (r_mv rfl) ?_
  refine O_nil ?_
  refine C_seq ?_
  refine C_region ?_
  refine O_p (.i .u32 n) (r_mv rfl) ?_
  refine O_p (.i .u32 (IntKind.u32.wrap (n - 1))) (r_bin rfl rfl rfl) ?_
  refine O_mks (n := 1024) rfl rfl (by decide) (by decide) fun m1 H2 hN3 => ?_
  have hH4 := Hs.new hH0 hN3
  refine O_p (.agg [(.i .u32 (IntKind.u32.wrap (n - 1))), (.sl (some (m1, 0)) 1024 1024 0), (.sl none 0 0 0)]) (r_build rfl) ?_
  refine O_box (z := [(.i .u32 (IntKind.u32.wrap (n - 1))), (.sl (some (m1, 0)) 1024 1024 0), (.sl none 0 0 0)]) rfl fun n5 H6 hN7 => ?_
  have hH8 := hH4.new hN7
  refine O_p (.p (some (n5, 0))) (r_mv rfl) ?_
  refine O_nil ?_
  refine C_ret ?_
  have hH9 := ((hH8.top1).top1)
  exact ⟨.inr rfl, _, resL_one (r_tmp (v := (.p (some (n5, 0)))) rfl), n5, _, rfl, ⟨_, _, _, .sl none 0 0 0, [], ⟨mk_new _, gi_nil, by rw [wrap_u32]; show 0 ≤ (_ : Int) % _; omega, by rw [wrap_u32]; show (_ : Int) % _ < _; omega⟩, (mk_new_sq m1), Sq.nil, rfl⟩, Hs.unc (K := []) hH9⟩
theorem fwd2_ev {H : AH} {R : HL} {s : Gp} {a : Nat} {S : HL} {n : Int} (hG : DpH s a S) (hH0 : Hs H (S ++ R)) (hn0 : 0 ≤ n) (hn1 : n < 4294967296) : Ev tabS spS (.fn (.func 21) [] []) [.p (some (a, 0)), .i .u32 n] H (fun r H' => r = .tup [] ∧ ∃ S', DpH (s.fwd n) a S' ∧ Hs H' (S' ++ R)) := by
  obtain ⟨mv, mc, mk, dv, dc, hD, hms, hd, rfl⟩ := hG
  obtain ⟨c, l, dl⟩ := s
  simp only at hms hd
  have hmk : Mks mk c l := hD.1
  have hwf : Gi 2 c l := hD.2.1
  have hc0 : 0 ≤ c := hD.2.2.1
  have hc1 : c < 4294967296 := hD.2.2.2
  have hlm := hmk.1
  replace hH0 := hH0.assoc
  replace hH0 := hH0.assoc1
  obtain ⟨h, hh, hh2⟩ := nat_dst c n
  refine Ev_C (F := x21) rfl ?_
  refine C_seq ?_
  by_cases hz : h = 0
  ·
    refine C_region ?_
    refine O_p (.p (some (a, 0))) (r_mv rfl) ?_
    refine O_p (.p (some (a, 0))) (r_nilc rfl) ?_
    refine O_p (.p (some (a, 0))) (r_fadd' rfl rfl) ?_
    refine O_p (.i .u32 c) (r_ld rfl hH0.get0 rfl) ?_
    refine O_p (.i .u32 n) (r_mv rfl) ?_
    refine O_call (Ev.mono (dst2_ev (x := c) (y := n) hc0 hc1 hn0 hn1 hH0) fun v1 H2 hq3 => ?_)
    obtain ⟨rfl, hH4⟩ := hq3
    refine O_p (.i .i64 (((h : Nat)) : Int)) (by exact (by rw [r_cint' (m := ((h : Nat) : Int)) rfl (by rw [hh]; exact wrap_i64 (by omega) (by omega))])) ?_
    refine O_p (.i .i64 (((h : Nat)) : Int)) (r_mv rfl) ?_
    refine O_nil ?_
    refine C_seq ?_
    refine C_seq ?_
    refine C_region ?_
    refine O_p (.i .i64 (((h : Nat)) : Int)) (r_mv rfl) ?_
    refine O_p (.b true) (by exact (by rw [r_eql rfl rfl, decide_eq_true (by omega)])) ?_
    refine O_p (.b true) (r_mv rfl) ?_
    refine O_gf rfl ?_
    refine O_gf rfl ?_
    refine O_p (.b true) (r_pick_t rfl rfl) ?_
    refine O_nil ?_
    refine C_cond (x := true) rfl (fun _ => ?_) (fun h => by cases h)
    refine C_ret ?_
    refine nx_ret ?_
    have hH5 := (((hH4.top2).top2).top2)
    have hst : Gp.fwd ⟨c, l, dl⟩ n = ⟨c, l, dl⟩ := by unfold Gp.fwd; rw [if_pos ((blw_hi hh).2 (by omega))]
    rw [hst]
    exact ⟨.inr rfl, [], rfl, rfl, _, ⟨_, _, _, _, _, hD, hms, hd, rfl⟩, Hs.unc hH5⟩
  ·
    by_cases hb : 2147483648 ≤ h
    ·
      refine C_region ?_
      refine O_p (.p (some (a, 0))) (r_mv rfl) ?_
      refine O_p (.p (some (a, 0))) (r_nilc rfl) ?_
      refine O_p (.p (some (a, 0))) (r_fadd' rfl rfl) ?_
      refine O_p (.i .u32 c) (r_ld rfl hH0.get0 rfl) ?_
      refine O_p (.i .u32 n) (r_mv rfl) ?_
      refine O_call (Ev.mono (dst2_ev (x := c) (y := n) hc0 hc1 hn0 hn1 hH0) fun v6 H7 hq8 => ?_)
      obtain ⟨rfl, hH9⟩ := hq8
      refine O_p (.i .i64 (((h : Nat)) : Int)) (by exact (by rw [r_cint' (m := ((h : Nat) : Int)) rfl (by rw [hh]; exact wrap_i64 (by omega) (by omega))])) ?_
      refine O_p (.i .i64 (((h : Nat)) : Int)) (r_mv rfl) ?_
      refine O_nil ?_
      refine C_seq ?_
      refine C_seq ?_
      refine C_region ?_
      refine O_p (.i .i64 (((h : Nat)) : Int)) (r_mv rfl) ?_
      refine O_p (.b false) (by exact (by rw [r_eql rfl rfl, decide_eq_false (by omega)])) ?_
      refine O_p (.b false) (r_mv rfl) ?_
      refine O_gk rfl ?_
      refine O_p (.i .i64 (((h : Nat)) : Int)) (r_mv rfl) ?_
      refine O_gk rfl ?_
      refine O_p (.b true) (by exact (by rw [r_geq rfl rfl, decide_eq_true (by omega)])) ?_
      refine O_p (.b true) (r_pick_f rfl rfl) ?_
      refine O_nil ?_
      refine C_cond (x := true) rfl (fun _ => ?_) (fun h => by cases h)
      refine C_ret ?_
      refine nx_ret ?_
      have hH10 := (((hH9.top2).top2).top2)
      have hst : Gp.fwd ⟨c, l, dl⟩ n = ⟨c, l, dl⟩ := by unfold Gp.fwd; rw [if_pos ((blw_hi hh).2 (by omega))]
      rw [hst]
      exact ⟨.inr rfl, [], rfl, rfl, _, ⟨_, _, _, _, _, hD, hms, hd, rfl⟩, Hs.unc hH10⟩
    ·
      refine C_region ?_
      refine O_p (.p (some (a, 0))) (r_mv rfl) ?_
      refine O_p (.p (some (a, 0))) (r_nilc rfl) ?_
      refine O_p (.p (some (a, 0))) (r_fadd' rfl rfl) ?_
      refine O_p (.i .u32 c) (r_ld rfl hH0.get0 rfl) ?_
      refine O_p (.i .u32 n) (r_mv rfl) ?_
      refine O_call (Ev.mono (dst2_ev (x := c) (y := n) hc0 hc1 hn0 hn1 hH0) fun v11 H12 hq13 => ?_)
      obtain ⟨rfl, hH14⟩ := hq13
      refine O_p (.i .i64 (((h : Nat)) : Int)) (by exact (by rw [r_cint' (m := ((h : Nat) : Int)) rfl (by rw [hh]; exact wrap_i64 (by omega) (by omega))])) ?_
      refine O_p (.i .i64 (((h : Nat)) : Int)) (r_mv rfl) ?_
      refine O_nil ?_
      refine C_seq ?_
      refine C_seq ?_
      refine C_region ?_
      refine O_p (.i .i64 (((h : Nat)) : Int)) (r_mv rfl) ?_
      refine O_p (.b false) (by exact (by rw [r_eql rfl rfl, decide_eq_false (by omega)])) ?_
      refine O_p (.b false) (r_mv rfl) ?_
      refine O_gk rfl ?_
      refine O_p (.i .i64 (((h : Nat)) : Int)) (r_mv rfl) ?_
      refine O_gk rfl ?_
      refine O_p (.b false) (by exact (by rw [r_geq rfl rfl, decide_eq_false (by omega)])) ?_
      refine O_p (.b false) (r_pick_f rfl rfl) ?_
      refine O_nil ?_
      refine C_cond (x := false) rfl (fun h => by cases h) (fun _ => ?_)
      refine C_skip ?_
      refine C_seq ?_
      refine C_region ?_
      refine O_mks (n := 1024) rfl rfl (by decide) (by decide) fun m15 H16 hN17 => ?_
      have hH18 := Hs.new hH14 hN17
      refine O_p (.sl (some (m15, 0)) 1024 1024 0) (r_mv rfl) ?_
      refine O_nil ?_
      refine C_seq ?_
      refine C_seq ?_
      refine C_region ?_
      refine O_p (.i .i64 (((h : Nat)) : Int)) (r_mv rfl) ?_
      refine O_p (.i .i64 (((h : Nat)) : Int)) (r_mv rfl) ?_
      refine O_nil ?_
      refine C_block ?_
      have hH19 := ((((hH18.top3).top3).top3).top3)
      refine C_while (fun m20 T21 H22 => ∃ lc : List AV, ∃ lm : List Bool, ∃ i : Nat, m20 = 1024 - i ∧ Sq 1 (.sl (some (m15, 0)) 1024 1024 0) lc (mB lm).flatten ∧ FM lm mk h i ∧ h ≤ i ∧ (i ≤ 1024 ∨ i = h) ∧ Hs H22 ((qseg (.sl (some (m15, 0)) 1024 1024 0) lc) ++ ([(a, some (.cells ([(.i .u32 c), mv, dv]) true))] ++ ((qseg mv mc) ++ ((qseg dv dc) ++ (R))))) ∧ T21.get 0 = (.p (some (a, 0))) ∧ T21.get 1 = (.i .u32 n) ∧ T21.get 4 = (.i .i64 (((h : Nat)) : Int)) ∧ T21.get 5 = (.sl (some (m15, 0)) 1024 1024 0) ∧ T21.get 6 = (.i .i64 (((i : Nat)) : Int))) (fun m20 T21 H22 hI23 => ?_) (1024 - h) _ _ ⟨(List.replicate 1024 [AV.b false]).flatten, (List.replicate 1024 false), h, rfl, (mk_new_sq m15), fm_new, Nat.le_refl _, .inr rfl, hH19, rfl, rfl, rfl, rfl, rfl⟩
      obtain ⟨lc, lm, i, hm24, hp25, hp26, hp27, hp28, hH34, hT29, hT30, hT31, hT32, hT33⟩ := hI23
      have hll := hp26.1
      refine C_seq ?_
      refine C_seq ?_
      refine C_region ?_
      refine O_p (.i .i64 (((i : Nat)) : Int)) (r_mv hT33) ?_
      refine O_p (.b (decide ((((i : Nat)) : Int) < 1024))) (r_lss rfl rfl) ?_
      refine O_nil ?_
      refine C_cond (x := (decide ((((i : Nat)) : Int) < 1024))) rfl (fun hc35 => ?_) (fun hc35 => ?_)
      ·
        try simp only [decide_eq_true_eq, decide_eq_false_iff_not, Bool.not_eq_true', Bool.not_eq_false', Bool.and_eq_true, Bool.or_eq_true, Bool.or_eq_false_iff, Bool.not_not, Bool.and_eq_false_iff] at hc35
        refine C_skip ?_
        refine C_seq ?_
        refine C_block ?_
        refine C_region ?_
        refine O_p (.sl (some (m15, 0)) 1024 1024 0) (r_mv hT32) ?_
        refine O_p (.i .i64 (((i : Nat)) : Int)) (r_mv hT33) ?_
        refine O_p (.i .i64 (((h : Nat)) : Int)) (r_mv hT31) ?_
        refine O_p (.i .i64 ((((i - h) : Nat)) : Int)) (by exact (r_subn (a := i) (b := h) rfl rfl (by omega) (by omega))) ?_
        refine O_p (.p (some (a, 0))) (r_mv hT29) ?_
        refine O_p (.p (some (a, 0))) (r_nilc rfl) ?_
        refine O_p (.p (some (a, 1))) (r_fadd' rfl rfl) ?_
        refine O_p mv (r_ld rfl hH34.get1 rfl) ?_
        refine O_p (.i .i64 (((i : Nat)) : Int)) (r_mv hT33) ?_
        refine O_q (by exact Sq.cell hms (m_lens mk) hH34.top2 rfl (i := i) rfl (r := [(.b (mk.getD i false))]) (m_get (l := mk) (i := i) (by omega)) (by decide)) fun v37 hv36 => ?_
        obtain ⟨rb38, ro39, rfl, hrg40, hrt41, hrb42, hput43, hqs44⟩ := hv36
        refine O_p (.b (mk.getD i false)) (r_ldR (q := 0) rfl ⟨_, _, hrg40, hrt41⟩ rfl) ?_
        refine O_q (by exact Sq.cell hp25 (m_lens lm) hH34.top0 rfl (i := (i - h)) rfl (r := [(.b (lm.getD (i - h) false))]) (m_get (l := lm) (i := (i - h)) (by omega)) (by decide)) fun v46 hv45 => ?_
        obtain ⟨rb47, ro48, rfl, hrg49, hrt50, hrb51, hput52, hqs53⟩ := hv45
        refine O_store (vs := [(.b (mk.getD i false))]) (c' := (putAt lc (ro48 + 0) [(.b (mk.getD i false))])) rfl (by rfl) hrg49 rfl (List.cons_ne_nil _ _) (by have := hrb51; show _ + 1 ≤ _; omega) rfl fun H54 hW55 => ?_
        have hH57 := Hs.cong0 (Hs.wr0 (Hs.cong0 hH34 (hqs53 _)) hW55) (hqs53 _).symm
        have hSq56 := hput52 0 [(.b (mk.getD i false))] [(.b (mk.getD i false))] (Nat.le_of_ble_eq_true rfl) rfl
        obtain ⟨mm58, he59⟩ : ∃ z : List Bool, z = lm.set (i - h) (mk.getD i false) := ⟨_, rfl⟩
        have hs60 : Sq 1 (.sl (some (m15, 0)) 1024 1024 0) (putAt lc (ro48 + 0) [(.b (mk.getD i false))]) (mB mm58).flatten := by rw [he59, ← m_set]; exact hSq56
        have hl61 : mm58.length = 1024 := by rw [he59, List.length_set]; exact hll
        refine O_nil ?_
        refine C_region ?_
        refine O_p (.i .i64 (((i : Nat)) : Int)) (r_mv hT33) ?_
        refine O_p (.i .i64 ((((i : Nat)) : Int) + 1)) (by exact (r_addi rfl rfl (wrap_i64 (by omega) (by omega)))) ?_
        refine O_p (.i .i64 ((((i : Nat)) : Int) + 1)) (r_mv rfl) ?_
        refine O_nil ?_
        have hH62 := ((((hH57.top3).top3).top3).top3)
        exact ⟨1024 - (i + 1), by omega, (putAt lc (ro48 + 0) [(.b (mk.getD i false))]), mm58, (i + 1), rfl, hs60, by rw [he59]; exact hp26.step (by omega) (by omega), by omega, by omega, hH62, hT29, hT30, hT31, hT32, rfl⟩
      ·
        try simp only [decide_eq_true_eq, decide_eq_false_iff_not, Bool.not_eq_true', Bool.not_eq_false', Bool.and_eq_true, Bool.or_eq_true, Bool.or_eq_false_iff, Bool.not_not, Bool.and_eq_false_iff] at hc35
        refine C_exit ?_
        refine nx_exit ?_
        refine nx_exit ?_
        refine bk_hit ?_
        refine C_seq ?_
        refine C_region ?_
        refine O_p (.p (some (a, 0))) (r_mv hT29) ?_
        refine O_p (.sl (some (m15, 0)) 1024 1024 0) (r_mv hT32) ?_
        refine O_p (.p (some (a, 0))) (r_nilc rfl) ?_
        refine O_p (.p (some (a, 1))) (r_fadd' rfl rfl) ?_
        refine O_store (vs := [(.sl (some (m15, 0)) 1024 1024 0)]) (c' := [(.i .u32 c), (.sl (some (m15, 0)) 1024 1024 0), dv]) rfl (by rfl) hH34.get1 rfl (List.cons_ne_nil _ _) (Nat.le_of_ble_eq_true rfl) rfl fun H63 hW64 => ?_
        have hH65 := hH34.wr1 hW64
        refine O_nil ?_
        refine C_seq ?_
        refine C_region ?_
        refine O_p (.p (some (a, 0))) (r_mv hT29) ?_
        refine O_p (.i .u32 n) (r_mv hT30) ?_
        refine O_p (.p (some (a, 0))) (r_nilc rfl) ?_
        refine O_p (.p (some (a, 0))) (r_fadd' rfl rfl) ?_
        refine O_store (vs := [(.i .u32 n)]) (c' := [(.i .u32 n), (.sl (some (m15, 0)) 1024 1024 0), dv]) rfl (by rfl) hH65.get1 rfl (List.cons_ne_nil _ _) (Nat.le_of_ble_eq_true rfl) rfl fun H66 hW67 => ?_
        have hH68 := hH65.wr1 hW67
        refine O_nil ?_
        refine C_region ?_
        refine O_p (.p (some (a, 0))) (r_mv hT29) ?_
        have hH69 := (hH68.top1)
        have hnb : blw c n ≠ true := by rw [Ne, blw_hi hh]; omega
        have hM2 : Mks lm n (l.filter fun k => !blw n k) := hmk.fwd hwf hnb hh hp26 (by omega) hp28
        have hg1 := (gi_filter hwf hnb).1
        refine O_call (Ev.mono (climb2_ev (c := n) (l := (l.filter fun k => !blw n k)) hM2 hg1 hp25 hH69) fun v70 H71 hq72 => ?_)
        obtain ⟨rfl, mv73, mc74, mk75, hMk76, hms77, hH78⟩ := hq72
        have hlm79 := hMk76.1
        refine O_nil ?_
        have hH80 := (hH78.sub2)
        have hH81 := (((hH80.top2).top2).top2)
        have hst : Gp.fwd ⟨c, l, dl⟩ n = Gp.climb ⟨n, l.filter (fun k => !blw n k), dl⟩ := by unfold Gp.fwd; rw [if_neg hnb]
        rw [hst]
        exact ⟨.inl rfl, [], rfl, rfl, _, ⟨_, _, _, _, _, (ds_climb hMk76 hg1 hn0 hn1), hms77, hd, rfl⟩, Hs.unc hH81⟩
theorem blocks2_ev {H : AH} {R : HL} {s : Gp} {a : Nat} {S : HL} (hG : DpH s a S) (hH0 : Hs H (S ++ R)) : Ev tabS spS (.fn (.func 26) [] []) [.p (some (a, 0))] H (fun r H' => ∃ rc, Sq 2 r rc (rw2 (blocksF s.c s.l)).flatten ∧ Hs H' (S ++ (qseg r rc ++ R))) := by
  obtain ⟨mv, mc, mk, dv, dc, hD, hms, hd, rfl⟩ := hG
  obtain ⟨c, l, dl⟩ := s
  simp only at hms hd
  have hmk : Mks mk c l := hD.1
  have hwf : Gi 2 c l := hD.2.1
  have hc0 : 0 ≤ c := hD.2.2.1
  have hc1 : c < 4294967296 := hD.2.2.2
  have hlm := hmk.1
  replace hH0 := hH0.assoc
  replace hH0 := hH0.assoc1
  refine Ev_C (F := x26) rfl ?_
  refine C_seq ?_
  refine C_region ?_
  refine O_p (.sl none 0 0 0) (r_mv rfl) ?_
  refine O_nil ?_
  refine C_seq ?_
  refine C_region ?_
  refine O_p (.sl none 0 0 0) (r_mv rfl) ?_
  refine O_nil ?_
  refine C_seq ?_
  refine C_seq ?_
  refine C_region ?_
  refine O_p (.i .i64 0) (r_mv rfl) ?_
  refine O_nil ?_
  refine C_block ?_
  have hH1 := (((hH0.top2).top2).top2)
  have h00 := mk0 hmk hwf
  refine C_while (fun m2 T3 H4 => ∃ ov : AV, ∃ oc : List AV, ∃ i : Nat, m2 = 1024 - i ∧ i ≤ 1024 ∧ Sq 2 ov oc (rw2 (RM mk i)).flatten ∧ (RM mk i).length ≤ 64 ∧ Gap mk i ∧ Hs H4 ([(a, some (.cells ([(.i .u32 c), mv, dv]) true))] ++ ((qseg ov oc) ++ ((qseg mv mc) ++ ((qseg dv dc) ++ (R))))) ∧ T3.get 0 = (.p (some (a, 0))) ∧ T3.get 3 = ov ∧ T3.get 4 = (.i .i64 (((i : Nat)) : Int))) (fun m2 T3 H4 hI5 => ?_) 1024 _ _ ⟨(.sl none 0 0 0), [], 0, rfl, by omega, Sq.nil, Nat.zero_le _, gap0 h00, Hs.nil1 hH1, rfl, rfl, rfl⟩
  obtain ⟨ov, oc, i, hm6, hp7, hp8, hp9, hp10, hH14, hT11, hT12, hT13⟩ := hI5
  refine C_seq ?_
  refine C_seq ?_
  by_cases hi9 : i < 1024
  ·
    refine C_region ?_
    refine O_p (.i .i64 (((i : Nat)) : Int)) (r_mv hT13) ?_
    refine O_p (.b true) (by exact (by rw [r_lss rfl rfl, decide_eq_true (by omega)])) ?_
    refine O_p (.b true) (r_mv rfl) ?_
    refine O_gk rfl ?_
    refine O_p ov (r_mv hT12) ?_
    refine O_gk rfl ?_
    refine O_p (.i .i64 ((((RM mk i).length : Nat)) : Int)) (by exact (by exact r_lenOf rfl (hp8.lenOf (rw2_len (RM mk i)) (by decide)) hp8.isSl)) ?_
    refine O_gk rfl ?_
    refine O_p (.b (decide (((((RM mk i).length : Nat)) : Int) < 64))) (r_lss rfl rfl) ?_
    refine O_p (.b (decide (((((RM mk i).length : Nat)) : Int) < 64))) (r_pick_t rfl rfl) ?_
    refine O_nil ?_
    refine C_cond (x := (decide (((((RM mk i).length : Nat)) : Int) < 64))) rfl (fun hc15 => ?_) (fun hc15 => ?_)
    ·
      have hraw16 := hc15
      try simp only [decide_eq_true_eq, decide_eq_false_iff_not, Bool.not_eq_true', Bool.not_eq_false', Bool.and_eq_true, Bool.or_eq_true, Bool.or_eq_false_iff, Bool.not_not, Bool.and_eq_false_iff] at hc15
      refine C_skip ?_
      refine C_seq ?_
      refine C_block ?_
      refine C_seq ?_
      refine C_seq ?_
      refine C_region ?_
      refine O_p (.p (some (a, 0))) (r_mv hT11) ?_
      refine O_p (.p (some (a, 0))) (r_nilc rfl) ?_
      refine O_p (.p (some (a, 1))) (r_fadd' rfl rfl) ?_
      refine O_p mv (r_ld rfl hH14.get0 rfl) ?_
      refine O_p (.i .i64 (((i : Nat)) : Int)) (r_mv hT13) ?_
      refine O_q (by exact Sq.cell hms (m_lens mk) hH14.top2 rfl (i := i) rfl (r := [(.b (mk.getD i false))]) (m_get (l := mk) (i := i) (by omega)) (by decide)) fun v18 hv17 => ?_
      obtain ⟨rb19, ro20, rfl, hrg21, hrt22, hrb23, hput24, hqs25⟩ := hv17
      refine O_p (.b (mk.getD i false)) (r_ldR (q := 0) rfl ⟨_, _, hrg21, hrt22⟩ rfl) ?_
      refine O_p (.b (!(mk.getD i false))) (r_not rfl) ?_
      refine O_nil ?_
      refine C_cond (x := (!(mk.getD i false))) rfl (fun hc26 => ?_) (fun hc26 => ?_)
      ·
        have hraw27 := hc26
        try simp only [decide_eq_true_eq, decide_eq_false_iff_not, Bool.not_eq_true', Bool.not_eq_false', Bool.and_eq_true, Bool.or_eq_true, Bool.or_eq_false_iff, Bool.not_not, Bool.and_eq_false_iff] at hc26
        have hmk1 : mk.getD i false = false := by have h9 := hraw27; simpa using h9
        refine C_exit ?_
        refine nx_exit ?_
        refine bk_hit ?_
        refine C_region ?_
        refine O_p (.i .i64 (((i : Nat)) : Int)) (r_mv hT13) ?_
        refine O_p (.i .i64 ((((i : Nat)) : Int) + 1)) (by exact (r_addi rfl rfl (wrap_i64 (by omega) (by omega)))) ?_
        refine O_p (.i .i64 ((((i : Nat)) : Int) + 1)) (r_mv rfl) ?_
        refine O_nil ?_
        have hH28 := ((((hH14.top3).top3).top3).top3)
        exact ⟨(1024 - (i + 1)), by omega, ov, oc, (i + 1), rfl, by omega, by rw [rm_no hmk1]; exact hp8, by rw [rm_no hmk1]; exact hp9, gap_no hmk1, hH28, hT11, hT12, rfl⟩
      ·
        have hraw29 := hc26
        try simp only [decide_eq_true_eq, decide_eq_false_iff_not, Bool.not_eq_true', Bool.not_eq_false', Bool.and_eq_true, Bool.or_eq_true, Bool.or_eq_false_iff, Bool.not_not, Bool.and_eq_false_iff] at hc26
        have hmk1 : mk.getD i false = true := by have h9 := hraw29; simpa using h9
        refine C_skip ?_
        refine C_seq ?_
        refine C_region ?_
        refine O_p (.i .i64 (((i : Nat)) : Int)) (r_mv hT13) ?_
        refine O_p (.i .i64 (((i : Nat)) : Int)) (r_mv rfl) ?_
        refine O_nil ?_
        refine C_cut (fun T30 H31 => ∃ kx : Nat, i ≤ kx ∧ kx < 1024 ∧ RM mk (kx + 1) = RM mk i ++ [((i : Int) + 1, (kx : Int) + 1)] ∧ Gap mk (kx + 1) ∧ Hs H31 ([(a, some (.cells ([(.i .u32 c), mv, dv]) true))] ++ ((qseg ov oc) ++ ((qseg mv mc) ++ ((qseg dv dc) ++ (R))))) ∧ T30.get 0 = (.p (some (a, 0))) ∧ T30.get 3 = ov ∧ T30.get 4 = (.i .i64 (((i : Nat)) : Int)) ∧ T30.get 5 = (.i .i64 (((kx : Nat)) : Int))) ?_ (fun T30 H31 hI32 => ?_)
        ·
          refine C_block ?_
          refine C_while (fun m33 T34 H35 => ∃ k : Nat, m33 = 1024 - k ∧ i ≤ k ∧ k < 1024 ∧ RM mk (k + 1) = RM mk i ++ [((i : Int) + 1, (k : Int) + 1)] ∧ Hs H35 ([(a, some (.cells ([(.i .u32 c), mv, dv]) true))] ++ ((qseg ov oc) ++ ((qseg mv mc) ++ ((qseg dv dc) ++ (R))))) ∧ T34.get 0 = (.p (some (a, 0))) ∧ T34.get 3 = ov ∧ T34.get 4 = (.i .i64 (((i : Nat)) : Int)) ∧ T34.get 5 = (.i .i64 (((k : Nat)) : Int))) (fun m33 T34 H35 hI36 => ?_) (1024 - i) _ _ ⟨i, rfl, Nat.le_refl _, by omega, gap_new h00 hp10 (by omega) hmk1, hH14, hT11, hT12, hT13, rfl⟩
          obtain ⟨k, hm37, hp38, hp39, hp40, hH45, hT41, hT42, hT43, hT44⟩ := hI36
          refine C_seq ?_
          refine C_seq ?_
          by_cases hk9 : k + 1 < 1024
          ·
            refine C_region ?_
            refine O_p (.i .i64 (((k : Nat)) : Int)) (r_mv hT44) ?_
            refine O_p (.i .i64 ((((k : Nat)) : Int) + 1)) (by exact (r_addi rfl rfl (wrap_i64 (by omega) (by omega)))) ?_
            refine O_p (.b true) (by exact (by rw [r_lss rfl rfl, decide_eq_true (by omega)])) ?_
            refine O_p (.b true) (r_mv rfl) ?_
            refine O_gk rfl ?_
            refine O_p (.p (some (a, 0))) (r_mv hT41) ?_
            refine O_gk rfl ?_
            refine O_p (.p (some (a, 0))) (r_nilc rfl) ?_
            refine O_gk rfl ?_
            refine O_p (.p (some (a, 1))) (r_fadd' rfl rfl) ?_
            refine O_gk rfl ?_
            refine O_p mv (r_ld rfl hH45.get0 rfl) ?_
            refine O_gk rfl ?_
            refine O_p (.i .i64 (((k : Nat)) : Int)) (r_mv hT44) ?_
            refine O_gk rfl ?_
            refine O_p (.i .i64 ((((k : Nat)) : Int) + 1)) (by exact (r_addi rfl rfl (wrap_i64 (by omega) (by omega)))) ?_
            refine O_gk rfl ?_
            refine O_q (by exact Sq.cell hms (m_lens mk) hH45.top2 rfl (i := (k + 1)) rfl (r := [(.b (mk.getD (k + 1) false))]) (m_get (l := mk) (i := (k + 1)) (by omega)) (by decide)) fun v47 hv46 => ?_
            obtain ⟨rb48, ro49, rfl, hrg50, hrt51, hrb52, hput53, hqs54⟩ := hv46
            refine O_gk rfl ?_
            refine O_p (.b (mk.getD (k + 1) false)) (r_ldR (q := 0) rfl ⟨_, _, hrg50, hrt51⟩ rfl) ?_
            refine O_p (.b (mk.getD (k + 1) false)) (r_pick_t rfl rfl) ?_
            refine O_nil ?_
            refine C_cond (x := (mk.getD (k + 1) false)) rfl (fun hc55 => ?_) (fun hc55 => ?_)
            ·
              have hraw56 := hc55
              try simp only [decide_eq_true_eq, decide_eq_false_iff_not, Bool.not_eq_true', Bool.not_eq_false', Bool.and_eq_true, Bool.or_eq_true, Bool.or_eq_false_iff, Bool.not_not, Bool.and_eq_false_iff] at hc55
              have hmk2 : mk.getD (k + 1) false = true := hraw56
              refine C_skip ?_
              refine C_block ?_
              refine C_region ?_
              refine O_p (.i .i64 (((k : Nat)) : Int)) (r_mv hT44) ?_
              refine O_p (.i .i64 ((((k : Nat)) : Int) + 1)) (by exact (r_addi rfl rfl (wrap_i64 (by omega) (by omega)))) ?_
              refine O_p (.i .i64 ((((k : Nat)) : Int) + 1)) (r_mv rfl) ?_
              refine O_nil ?_
              have hH57 := ((((hH45.top3).top3).top3).top3)
              exact ⟨1024 - (k + 1), by omega, (k + 1), rfl, by omega, by omega, gap_ext hp40 hp39 hmk2, hH57, hT41, hT42, hT43, rfl⟩
            ·
              have hraw58 := hc55
              try simp only [decide_eq_true_eq, decide_eq_false_iff_not, Bool.not_eq_true', Bool.not_eq_false', Bool.and_eq_true, Bool.or_eq_true, Bool.or_eq_false_iff, Bool.not_not, Bool.and_eq_false_iff] at hc55
              have hst : ¬ (k + 1 < 1024 ∧ mk.getD (k + 1) false = true) := fun h9 => by rw [hraw58] at h9; cases h9.2
              refine C_exit ?_
              refine nx_exit ?_
              refine nx_exit ?_
              refine bk_hit ?_
              have hH59 := ((((hH45.top3).top3).top3).top3)
              exact ⟨rfl, k, hp38, hp39, hp40, gap_stop hst, hH59, hT41, hT42, hT43, hT44⟩
          ·
            have hst : ¬ (k + 1 < 1024 ∧ mk.getD (k + 1) false = true) := fun h9 => hk9 h9.1
            refine C_region ?_
            refine O_p (.i .i64 (((k : Nat)) : Int)) (r_mv hT44) ?_
            refine O_p (.i .i64 ((((k : Nat)) : Int) + 1)) (by exact (r_addi rfl rfl (wrap_i64 (by omega) (by omega)))) ?_
            refine O_p (.b false) (by exact (by rw [r_lss rfl rfl, decide_eq_false (by omega)])) ?_
            refine O_p (.b false) (r_mv rfl) ?_
            refine O_gf rfl ?_
            refine O_gf rfl ?_
            refine O_gf rfl ?_
            refine O_gf rfl ?_
            refine O_gf rfl ?_
            refine O_gf rfl ?_
            refine O_gf rfl ?_
            refine O_gf rfl ?_
            refine O_p (.b false) (r_pick_f rfl rfl) ?_
            refine O_nil ?_
            refine C_cond (x := false) rfl (fun h => by cases h) (fun _ => ?_)
            refine C_exit ?_
            refine nx_exit ?_
            refine nx_exit ?_
            refine bk_hit ?_
            have hH60 := ((((hH45.top3).top3).top3).top3)
            exact ⟨rfl, k, hp38, hp39, hp40, gap_stop hst, hH60, hT41, hT42, hT43, hT44⟩
        ·
          obtain ⟨kx, hp61, hp62, hp63, hp64, hH69, hT65, hT66, hT67, hT68⟩ := hI32
          refine C_seq ?_
          refine C_region ?_
          refine O_p ov (r_mv hT66) ?_
          refine O_p (.i .i64 (((i : Nat)) : Int)) (r_mv hT67) ?_
          refine O_p (.i .i64 ((((i : Nat)) : Int) + 1)) (by exact (r_addi rfl rfl (wrap_i64 (by omega) (by omega)))) ?_
          refine O_p (.i .u16 ((((i : Nat)) : Int) + 1)) (by exact (by rw [r_cint' (m := ((((i : Nat)) : Int) + 1)) rfl (by rw [wrap_u16]; omega)])) ?_
          refine O_p (.i .i64 (((kx : Nat)) : Int)) (r_mv hT68) ?_
          refine O_p (.i .i64 ((((kx : Nat)) : Int) + 1)) (by exact (r_addi rfl rfl (wrap_i64 (by omega) (by omega)))) ?_
          refine O_p (.i .u16 ((((kx : Nat)) : Int) + 1)) (by exact (by rw [r_cint' (m := ((((kx : Nat)) : Int) + 1)) rfl (by rw [wrap_u16]; omega)])) ?_
          refine O_p (.agg [(.i .u16 ((((i : Nat)) : Int) + 1)), (.i .u16 ((((kx : Nat)) : Int) + 1))]) (r_build rfl) ?_
          refine O_bslice (c := [(.i .u16 ((((i : Nat)) : Int) + 1)), (.i .u16 ((((kx : Nat)) : Int) + 1))]) rfl fun n70 H71 hN72 => ?_
          have hH73 := hH69.new hN72
          refine O_qh (by exact r_appq (n := (RM mk i).length) (k := 1) (new := [(.i .u16 ((((i : Nat)) : Int) + 1)), (.i .u16 ((((kx : Nat)) : Int) + 1))]) hH73.top2 hp8 rfl rfl rfl (src_blk hH73.get0 (by rfl)) rfl (by decide) (by decide) (rw2_len (RM mk i)) (by first | omega | (simp only [List.length_take, List.length_drop, List.length_append, List.length_cons, List.length_nil, beN_len] <;> omega))) fun o74 H75 hA77 => ?_
          obtain ⟨c76, hA77, hH78⟩ := hA77
          refine O_p o74 (r_mv rfl) ?_
          refine O_nil ?_
          refine C_region ?_
          refine O_p (.i .i64 (((kx : Nat)) : Int)) (r_mv hT68) ?_
          refine O_p (.i .i64 (((kx : Nat)) : Int)) (r_mv rfl) ?_
          refine O_nil ?_
          refine C_region ?_
          refine O_p (.i .i64 (((kx : Nat)) : Int)) (r_mv rfl) ?_
          refine O_p (.i .i64 ((((kx : Nat)) : Int) + 1)) (by exact (r_addi rfl rfl (wrap_i64 (by omega) (by omega)))) ?_
          refine O_p (.i .i64 ((((kx : Nat)) : Int) + 1)) (r_mv rfl) ?_
          refine O_nil ?_
          have hH79 := (hH78.sub1)
          have hH80 := ((((hH79.top3).top3).top2).top3)
          exact ⟨(1024 - (kx + 1)), by omega, o74, c76, (kx + 1), rfl, by omega, by have h9 := hA77; rw [rw2_app, ← hp63] at h9; exact h9, by rw [hp63, List.length_append, List.length_singleton]; omega, hp64, hH80, hT65, rfl, rfl⟩
    ·
      have hraw81 := hc15
      try simp only [decide_eq_true_eq, decide_eq_false_iff_not, Bool.not_eq_true', Bool.not_eq_false', Bool.and_eq_true, Bool.or_eq_true, Bool.or_eq_false_iff, Bool.not_not, Bool.and_eq_false_iff] at hc15
      refine C_exit ?_
      refine nx_exit ?_
      refine nx_exit ?_
      refine bk_hit ?_
      refine C_seq ?_
      refine C_region ?_
      refine O_p ov (r_mv hT12) ?_
      refine O_p ov (r_mv rfl) ?_
      refine O_nil ?_
      refine C_ret ?_
      have hH82 := ((((hH14.top1).top3).top3).top3)
      exact ⟨.inr rfl, _, resL_one (r_tmp (v := ov) rfl), oc, by rw [← rm_done hmk hwf hp10 hp7 hp9 (.inr (by omega))]; exact hp8, Hs.unc hH82⟩
  ·
    refine C_region ?_
    refine O_p (.i .i64 (((i : Nat)) : Int)) (r_mv hT13) ?_
    refine O_p (.b false) (by exact (by rw [r_lss rfl rfl, decide_eq_false (by omega)])) ?_
    refine O_p (.b false) (r_mv rfl) ?_
    refine O_gf rfl ?_
    refine O_gf rfl ?_
    refine O_gf rfl ?_
    refine O_p (.b false) (r_pick_f rfl rfl) ?_
    refine O_nil ?_
    refine C_cond (x := false) rfl (fun h => by cases h) (fun _ => ?_)
    refine C_exit ?_
    refine nx_exit ?_
    refine nx_exit ?_
    refine bk_hit ?_
    refine C_seq ?_
    refine C_region ?_
    refine O_p ov (r_mv hT12) ?_
    refine O_p ov (r_mv rfl) ?_
    refine O_nil ?_
    refine C_ret ?_
    have hH83 := ((((hH14.top1).top3).top3).top3)
    exact ⟨.inr rfl, _, resL_one (r_tmp (v := ov) rfl), oc, by rw [← rm_done hmk hwf hp10 hp7 hp9 (.inl hi9)]; exact hp8, Hs.unc hH83⟩
end Go.Proofs.Ytjheedfobmlalaa.E
