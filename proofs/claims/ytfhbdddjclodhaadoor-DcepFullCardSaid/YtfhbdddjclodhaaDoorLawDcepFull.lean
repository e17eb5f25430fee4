/- DcepFull, for every input, without conditions. -/
import Derived.Test.YtfhbdddjclodhaaDoorF
import Derived.Test.YtfhbdddjclodhaaDoorT2
namespace Go.Proofs.YtfhbdddjclodhaaDoor.E
open Go.RowKit (Below)
open Go.Lib
set_option linter.unusedVariables false
set_option linter.unusedSimpArgs false
def chX (l : List UInt8) : Ch := ⟨1, 0, 0, 0, l, [], false, false⟩
def fullA (even : Bool) (K i : Nat) : List Ch := (List.range K).map fun j => if (ownB j even && decide (j < i)) = true then chX [120] else ch0
def ownL (even : Bool) (i : Nat) : List Nat := (List.range i).filter fun j => ownB j even
def u16L (l : List Nat) : List AV := l.map fun j => .i .u16 ((j : Nat) : Int)
section
variable {even : Bool} {K i s : Nat}
theorem fullA_len : (fullA even K i).length = K := by simp [fullA]
theorem fullA_at {j : Nat} (h : j < K) : (fullA even K i).getD j ch0 = if (ownB j even && decide (j < i)) = true then chX [120] else ch0 := by
  unfold fullA
  rw [List.getD_eq_getElem?_getD, List.getElem?_map, List.getElem?_range h]; rfl
theorem fullA_0 : fullA even K 0 = List.replicate K ch0 := by
  unfold fullA
  apply List.ext_getElem
  · simp
  · intro j h1 h2; simp
theorem fullA_set (h : ownB i even = true) : (fullA even K i).set i (chX [120]) = fullA even K (i + 1) := by
  apply List.ext_getElem
  · simp [fullA]
  · intro j h1 h2
    rw [List.getElem_set]
    simp only [fullA, List.getElem_map, List.getElem_range]
    by_cases e : i = j
    · subst e; rw [if_pos rfl, if_pos (by rw [h]; simp)]
    · rw [if_neg e]
      have : decide (j < i) = decide (j < i + 1) := by by_cases h : j < i <;> simp [h] <;> omega
      rw [this]
theorem fullA_not (h : ownB i even = false) : fullA even K (i + 1) = fullA even K i := by
  unfold fullA
  apply List.map_congr_left
  intro j _
  by_cases e : j = i
  · subst e; rw [h]; rfl
  · have : decide (j < i + 1) = decide (j < i) := by by_cases h : j < i <;> simp [h] <;> omega
    rw [this]
theorem fullA_hit (hi : i < K) (h : ownB i even = true) : askK (fullA even K i) even = some i := by
  refine askK_hit (by rw [fullA_len]; exact hi) ?_ fun j hj => ?_
  · unfold askB; rw [h, fullA_at hi, if_neg (by simp)]; rfl
  · unfold askB
    rw [fullA_at (by omega)]
    cases hb : ownB j even
    · rfl
    · rw [if_pos (by simp [hj])]; rfl
theorem fullA_end : askK (fullA even K K) even = none := by
  refine askK_none fun j hj => ?_
  rw [fullA_len] at hj
  unfold askB
  rw [fullA_at hj]
  cases hb : ownB j even
  · rfl
  · rw [if_pos (by simp [hj])]; rfl
theorem full_set (hs : s < K) (c : Ch) (hc : c.st ≠ 0) : askK ((fullA even K K).set s c) even = none := by
  refine askK_none fun j hj => ?_
  rw [List.length_set, fullA_len] at hj
  unfold askB
  by_cases e : s = j
  · subst e
    rw [List.getD_eq_getElem?_getD, List.getElem?_set_self (by rw [fullA_len]; exact hs), Option.getD_some, decide_eq_false hc, Bool.and_false]
  · rw [List.getD_eq_getElem?_getD, List.getElem?_set_ne e, ← List.getD_eq_getElem?_getD, fullA_at hj]
    cases hb : ownB j even
    · rfl
    · rw [if_pos (by simp [hj])]; rfl
theorem full_free (hs : s < K) (ho : ownB s even = true) : askK ((fullA even K K).set s ch0) even = some s := by
  refine askK_hit (by rw [List.length_set, fullA_len]; exact hs) ?_ fun j hj => ?_
  · unfold askB
    rw [ho, List.getD_eq_getElem?_getD, List.getElem?_set_self (by rw [fullA_len]; exact hs)]; rfl
  · unfold askB
    rw [List.getD_eq_getElem?_getD, List.getElem?_set_ne (by omega), ← List.getD_eq_getElem?_getD, fullA_at (by omega)]
    cases hb : ownB j even
    · rfl
    · rw [if_pos (by simp; omega)]; rfl
theorem full_getD (hs : s < K) (c : Ch) : ((fullA even K K).set s c).getD s ch0 = c := by
  rw [List.getD_eq_getElem?_getD, List.getElem?_set_self (by rw [fullA_len]; exact hs)]; rfl
theorem set_full (c d : Ch) : ((fullA even K K).set s c).set s d = (fullA even K K).set s d := List.set_set ..
theorem ownL_succ_own (h : ownB i even = true) : u16L (ownL even (i + 1)) = u16L (ownL even i) ++ [.i .u16 ((i : Nat) : Int)] := by
  unfold u16L ownL
  rw [List.range_succ, List.filter_append, List.map_append]
  simp [h]
theorem ownL_succ_not (h : ownB i even = false) : ownL even (i + 1) = ownL even i := by
  unfold ownL
  rw [List.range_succ, List.filter_append]
  simp [h]
theorem ownL_pos (h : 2 ≤ K) : 0 < (ownL even K).length := by
  rw [List.length_pos_iff]
  intro h0
  have key : ∀ j, j < K → ownB j even = false := fun j hj => by
    have := List.filter_eq_nil_iff.1 h0 j (List.mem_range.2 hj)
    simpa using this
  have h1 := key 0 (by omega)
  have h2 := key 1 (by omega)
  cases even <;> simp [ownB] at h1 h2
theorem ownL_at {m : Nat} (h : m < (ownL even K).length) : ∃ s, (ownL even K)[m]? = some s ∧ s < K ∧ ownB s even = true := by
  refine ⟨(ownL even K)[m], List.getElem?_eq_getElem h, ?_⟩
  have := List.getElem_mem h
  unfold ownL at this
  rw [List.mem_filter, List.mem_range] at this
  exact this
theorem ownL_len : (ownL even i).length ≤ i := by
  unfold ownL
  exact Nat.le_trans (List.length_filter_le ..) (by rw [List.length_range]; exact Nat.le_refl _)
theorem clamp_in {k : Nat} (h : 1 ≤ k) (h2 : k ≤ 64) : clampN (k : Int) = k := by unfold clampN; rw [if_neg (by omega)]; rfl
end
theorem encX : encE 0 [120] [] = 0 := by decide +kernel
theorem encY : encE 0 [121] [] = 0 := by decide +kernel
theorem enc00 : encE 0 [] [] = 0 := by decide +kernel
theorem okL_full {even : Bool} {K : Nat} : ∀ (k : Nat) (c : Ch), (fullA even K K)[k]? = some c → okC c := fun k c h => by
  unfold fullA at h
  rw [List.getElem?_map] at h
  cases hr : (List.range K)[k]? with
  | none => rw [hr] at h; cases h
  | some j =>
    rw [hr] at h
    simp only [Option.map_some, Option.some.injEq] at h
    subst h
    split
    · exact ⟨.inr (.inl rfl), fun _ => ⟨rfl, rfl⟩⟩
    · exact ⟨.inl rfl, fun _ => ⟨rfl, rfl⟩⟩
theorem okL_set {cs : List Ch} {s : Nat} {d : Ch} (h : ∀ (k : Nat) (c : Ch), cs[k]? = some c → okC c) (hd : okC d) : ∀ (k : Nat) (c : Ch), (cs.set s d)[k]? = some c → okC c := fun k c hk => by
  rw [List.getElem?_set] at hk
  split at hk
  · split at hk
    · simp only [Option.some.injEq] at hk; subst hk; exact hd
    · cases hk
  · exact h k c hk
theorem ok3 (m t : Bool) (l : List UInt8) : okC ⟨3, 0, 0, 0, l, [], m, t⟩ := ⟨.inr (.inr (.inr rfl)), fun h => absurd rfl h⟩
set_option maxRecDepth 100000 in
set_option maxHeartbeats 1000000 in
theorem run7 (H0 : AH) (hok0 : H0.Ok) (htb0 : Tb H0) (even : Bool) (n at_ : Int) : Ev tabV spV (.fn (.func 7) [] []) [.b even, .i .i64 n, .i .i64 at_] H0 (fun v _ => v = .b true) := by
  have hH0 := allL_hs hok0
  refine Ev_C (F := x7) rfl ?_
  refine C_seq ?_
  refine C_region ?_
  refine O_p (.b false) (r_mv rfl) ?_
  refine O_nil ?_
  refine C_seq ?_
  refine C_region ?_
  refine O_call (Ev.mono (awake_ev (Tb.ro htb0 hok0 hH0.top0)) fun v1 H2 hq3 => ?_)
  obtain ⟨rfl, hq3⟩ := hq3
  subst H2
  refine O_p (.b true) (r_mv rfl) ?_
  refine O_nil ?_
  refine C_seq ?_
  refine C_region ?_
  refine O_p (.i .i64 n) (r_mv rfl) ?_
  obtain ⟨q, hq, hlq⟩ := and_nat n 30 (by decide)
  refine O_p (.i .i64 (((q : Nat)) : Int)) (by exact (by rw [← hq]; exact r_bin rfl rfl rfl)) ?_
  refine O_p (.i .i64 (2 + (((q : Nat)) : Int))) (by exact (r_addi rfl rfl (wrap_i64 (by omega) (by omega)))) ?_
  refine O_p (.i .i64 (2 + (((q : Nat)) : Int))) (r_mv rfl) ?_
  refine O_nil ?_
  refine C_seq ?_
  refine C_region ?_
  refine O_p (.b even) (r_mv rfl) ?_
  refine O_p (.i .i64 (2 + (((q : Nat)) : Int))) (r_mv rfl) ?_
  refine O_call (Ev.mono (tnew_ev even (2 + (q : Int)) hH0) fun v4 H5 hq6 => ?_)
  rw [show ((2 : Int) + (q : Int)) = ((2 + q : Nat) : Int) by omega, clamp_in (by omega) (by omega), ← fullA_0 (even := even)] at hq6
  obtain ⟨T7, L8, rfl, hH9⟩ := hq6
  refine O_p (.p (some (T7, 0))) (r_mv rfl) ?_
  refine O_nil ?_
  refine C_seq ?_
  refine C_region ?_
  refine O_p (.sl none 0 0 0) (r_mv rfl) ?_
  refine O_nil ?_
  refine C_seq ?_
  refine C_seq ?_
  refine C_region ?_
  refine O_p (.i .i64 0) (r_mv rfl) ?_
  refine O_nil ?_
  refine C_block ?_
  have hH10 := (Hs.addnil hH9 : Hs _ (qseg (.sl none 0 0 0) [] ++ _))
  have hH11 := ((((hH10.top3).top3).top3).top3)
  refine C_while (fun m12 T13 H14 => ∃ ow : AV, ∃ cw : List AV, ∃ i : Nat, m12 = (2 + q) - i ∧ i ≤ 2 + q ∧ Sq 1 ow cw (u16L (ownL even i)) ∧ Hs H14 ((qseg ow cw) ++ ([(T7, some (.cells ([(.sl (some (L8, 0)) (fullA even (2 + q) i).length (fullA even (2 + q) i).length 0), (.b even)]) true))] ++ ([(L8, some (.cells (((fullA even (2 + q) i).map Ch.row).flatten) true))] ++ ((allL H0) ++ ([]))))) ∧ T13.get 0 = (.b even) ∧ T13.get 2 = (.i .i64 at_) ∧ T13.get 7 = (.b true) ∧ T13.get 8 = (.i .i64 (2 + (((q : Nat)) : Int))) ∧ T13.get 9 = (.p (some (T7, 0))) ∧ T13.get 10 = ow ∧ T13.get 11 = (.i .i64 (((i : Nat)) : Int))) (fun m12 T13 H14 hI15 => ?_) (2 + q) _ _ ⟨_, _, 0, rfl, by omega, Sq.nil, hH11, rfl, rfl, rfl, rfl, rfl, rfl, rfl⟩
  obtain ⟨ow, cw, i, hm16, hp17, hp18, hH26, hT19, hT20, hT21, hT22, hT23, hT24, hT25⟩ := hI15
  have hol := ownL_len (even := even) (i := i)
  refine C_seq ?_
  refine C_seq ?_
  refine C_region ?_
  refine O_p (.i .i64 (((i : Nat)) : Int)) (r_mv hT25) ?_
  refine O_p (.i .i64 (2 + (((q : Nat)) : Int))) (r_mv hT22) ?_
  refine O_p (.b (decide ((((i : Nat)) : Int) < (2 + (((q : Nat)) : Int))))) (r_lss rfl rfl) ?_
  refine O_nil ?_
  refine C_cond (x := (decide ((((i : Nat)) : Int) < (2 + (((q : Nat)) : Int))))) rfl (fun hc27 => ?_) (fun hc27 => ?_)
  ·
    have hr28 := hc27
    try simp only [decide_eq_true_eq, decide_eq_false_iff_not, Bool.not_eq_true', Bool.not_eq_false', Bool.and_eq_true, Bool.or_eq_true, Bool.or_eq_false_iff, Bool.not_not, Bool.and_eq_false_iff] at hc27
    refine C_skip ?_
    refine C_seq ?_
    refine C_block ?_
    refine C_seq ?_
    refine C_seq ?_
    refine C_region ?_
    refine O_p (.i .i64 (((i : Nat)) : Int)) (r_mv hT25) ?_
    refine O_p (.i .i64 ((((i % 2) : Nat)) : Int)) (by exact (r_remn (a := i) (b := 2) rfl rfl (by omega))) ?_
    refine O_p (.b (decide (((((i % 2) : Nat)) : Int) = 0))) (r_eql rfl rfl) ?_
    refine O_p (.b even) (r_mv hT19) ?_
    refine O_p (.b (!((decide (((((i % 2) : Nat)) : Int) = 0)) == even))) (r_beq rfl rfl) ?_
    refine O_nil ?_
    refine C_cond (x := (!((decide (((((i % 2) : Nat)) : Int) = 0)) == even))) rfl (fun hc29 => ?_) (fun hc29 => ?_)
    ·
      have hr30 := hc29
      try simp only [decide_eq_true_eq, decide_eq_false_iff_not, Bool.not_eq_true', Bool.not_eq_false', Bool.and_eq_true, Bool.or_eq_true, Bool.or_eq_false_iff, Bool.not_not, Bool.and_eq_false_iff] at hc29
      have hown : ownB i even = false := by have h := hr30; unfold ownB; simpa using h
      refine C_exit ?_
      refine nx_exit ?_
      refine bk_hit ?_
      refine C_region ?_
      refine O_p (.i .i64 (((i : Nat)) : Int)) (r_mv hT25) ?_
      refine O_p (.i .i64 ((((i : Nat)) : Int) + 1)) (by exact (r_addi rfl rfl (wrap_i64 (by omega) (by omega)))) ?_
      refine O_p (.i .i64 ((((i : Nat)) : Int) + 1)) (r_mv rfl) ?_
      refine O_nil ?_
      have hH31 := hH26
      rw [← fullA_not hown] at hH31
      have hH32 := ((((hH31.top3).top3).top3).top3)
      exact ⟨(2 + q) - (i + 1), by omega, ow, cw, (i + 1), rfl, by omega, by rw [ownL_succ_not hown]; exact hp18, hH32, hT19, hT20, hT21, hT22, hT23, hT24, rfl⟩
    ·
      have hr33 := hc29
      try simp only [decide_eq_true_eq, decide_eq_false_iff_not, Bool.not_eq_true', Bool.not_eq_false', Bool.and_eq_true, Bool.or_eq_true, Bool.or_eq_false_iff, Bool.not_not, Bool.and_eq_false_iff] at hc29
      have hown : ownB i even = true := by have h := hr33; unfold ownB; simpa using h
      have hiK : i < 2 + q := by omega
      refine C_skip ?_
      refine C_seq ?_
      refine C_region ?_
      refine O_p (.p (some (T7, 0))) (r_mv hT23) ?_
      refine O_p (.agg [(.i .u8 0), (.i .u16 0), (.i .u32 0), (.s ⟨#[120]⟩), (.s ⟨#[]⟩)]) (r_build rfl) ?_
      have hH34 := (((hH26.top3).top3).top3)
      refine O_call (Ev.mono (ask_ok hok0 htb0 0 0 0 ([120] : List UInt8) [] (by decide) (by decide) (by decide) (by decide) (by decide) encX (by simp only [List.length_set, fullA_len]; omega) hH34) fun v35 H36 hq37 => ?_)
      rw [show askS (fullA even (2 + q) i) even 0 [120] [] = ((i : Nat) : Int) by unfold askS; rw [if_neg (by rw [encX]; decide), fullA_hit hiK hown]] at hq37
      rw [show askE (fullA even (2 + q) i) even 0 [120] [] = 0 by unfold askE; rw [if_neg (by rw [encX]; decide), fullA_hit hiK hown]] at hq37
      rw [show askC (fullA even (2 + q) i) even 0 0 0 [120] [] = (fullA even (2 + q) i).set i (chX [120]) by unfold askC; rw [if_neg (by rw [encX]; decide), fullA_hit hiK hown]; rfl] at hq37
      rw [fullA_set hown] at hq37
      obtain ⟨o38, c39, rfl, hsq40, hH41⟩ := hq37
      have hH42 := (hH41.sub0)
      refine O_p (.tup [(.i .u16 ((i : Nat) : Int)), o38, (.i .i64 0)]) (r_mv rfl) ?_
      refine O_p (.i .u16 ((i : Nat) : Int)) (r_ext rfl rfl) ?_
      refine O_p o38 (r_ext rfl rfl) ?_
      refine O_p (.i .i64 0) (r_ext rfl rfl) ?_
      refine O_p (.i .u16 ((i : Nat) : Int)) (r_mv rfl) ?_
      refine O_p o38 (r_mv rfl) ?_
      refine O_p (.i .i64 0) (r_mv rfl) ?_
      refine O_nil ?_
      refine C_seq ?_
      refine C_seq ?_
      refine C_region ?_
      refine O_p (.i .i64 0) (r_mv rfl) ?_
      refine O_p (.b false) (r_bin rfl rfl rfl) ?_
      refine O_p (.b false) (r_mv rfl) ?_
      refine O_gs (v := (.i .u16 ((i : Nat) : Int))) rfl (r_mv rfl) ?_
      refine O_gs (v := (.i .i64 (((i : Nat)) : Int))) rfl (by exact (r_cint' rfl (wrap_i64 (by omega) (by omega)))) ?_
      refine O_gs (v := (.i .i64 (((i : Nat)) : Int))) rfl (r_mv hT25) ?_
      refine O_gs (v := (.b false)) rfl (by exact (by rw [r_neq rfl rfl, decide_eq_true (by first | omega | assumption)]; rfl)) ?_
      refine O_p (.b false) (r_pick_f rfl rfl) ?_
      refine O_nil ?_
      refine C_cond (x := false) rfl (fun h => by cases h) (fun _ => ?_)
      refine C_skip ?_
      refine C_region ?_
      refine O_p ow (r_mv hT24) ?_
      refine O_p (.i .u16 ((i : Nat) : Int)) (r_mv rfl) ?_
      refine O_bslice (c := [(.i .u16 ((i : Nat) : Int))]) rfl fun n43 H44 hN45 => ?_
      have hH46 := hH42.new hN45
      refine O_qh (by exact r_appq (n := (ownL even i).length) (k := 1) (new := [(.i .u16 ((i : Nat) : Int))]) hH46.top4 hp18 rfl rfl rfl (src_blk hH46.get0 (by rfl)) rfl (by decide) (by decide) (by unfold u16L; rw [List.length_map, Nat.mul_one]) (by first | omega | (simp only [List.length_take, List.length_drop, List.length_append, List.length_cons, List.length_nil, beN_len] <;> omega))) fun o47 H48 hA50 => ?_
      obtain ⟨c49, hA50, hH51⟩ := hA50
      refine O_p o47 (r_mv rfl) ?_
      refine O_nil ?_
      refine C_region ?_
      refine O_p (.i .i64 (((i : Nat)) : Int)) (r_mv hT25) ?_
      refine O_p (.i .i64 ((((i : Nat)) : Int) + 1)) (by exact (r_addi rfl rfl (wrap_i64 (by omega) (by omega)))) ?_
      refine O_p (.i .i64 ((((i : Nat)) : Int) + 1)) (r_mv rfl) ?_
      refine O_nil ?_
      have hH52 := (hH51.sub1)
      have hH53 := ((((hH52.top3).top3).top3).top3)
      exact ⟨(2 + q) - (i + 1), by omega, o47, c49, (i + 1), rfl, by omega, by rw [ownL_succ_own hown]; exact hA50, hH53, hT19, hT20, hT21, hT22, hT23, rfl, rfl⟩
  ·
    have hr54 := hc27
    try simp only [decide_eq_true_eq, decide_eq_false_iff_not, Bool.not_eq_true', Bool.not_eq_false', Bool.and_eq_true, Bool.or_eq_true, Bool.or_eq_false_iff, Bool.not_not, Bool.and_eq_false_iff] at hc27
    have hi : i = 2 + q := by omega
    subst hi
    have hop := ownL_pos (even := even) (K := 2 + q) (by omega)
    refine C_exit ?_
    refine nx_exit ?_
    refine nx_exit ?_
    refine bk_hit ?_
    refine C_seq ?_
    refine C_region ?_
    refine O_p (.p (some (T7, 0))) (r_mv hT23) ?_
    refine O_p (.agg [(.i .u8 0), (.i .u16 0), (.i .u32 0), (.s ⟨#[]⟩), (.s ⟨#[]⟩)]) (r_build rfl) ?_
    have hH55 := (((hH26.top3).top3).top3)
    refine O_call (Ev.mono (ask_ok hok0 htb0 0 0 0 ([] : List UInt8) [] (by decide) (by decide) (by decide) (by decide) (by decide) enc00 (by simp only [List.length_set, fullA_len]; omega) hH55) fun v56 H57 hq58 => ?_)
    rw [show askS (fullA even (2 + q) (2 + q)) even 0 [] [] = 0 by unfold askS; rw [if_neg (by rw [enc00]; decide), fullA_end]] at hq58
    rw [show askE (fullA even (2 + q) (2 + q)) even 0 [] [] = 9 by unfold askE; rw [if_neg (by rw [enc00]; decide), fullA_end]] at hq58
    rw [show askC (fullA even (2 + q) (2 + q)) even 0 0 0 [] [] = (fullA even (2 + q) (2 + q)) by unfold askC; rw [if_neg (by rw [enc00]; decide), fullA_end]] at hq58
    obtain ⟨o59, c60, rfl, hsq61, hH62⟩ := hq58
    have hH63 := (hH62.sub0)
    refine O_p (.tup [(.i .u16 0), o59, (.i .i64 9)]) (r_mv rfl) ?_
    refine O_p (.i .u16 0) (r_ext rfl rfl) ?_
    refine O_p o59 (r_ext rfl rfl) ?_
    refine O_p (.i .i64 9) (r_ext rfl rfl) ?_
    refine O_p (.i .u16 0) (r_mv rfl) ?_
    refine O_p o59 (r_mv rfl) ?_
    refine O_p (.i .i64 9) (r_mv rfl) ?_
    refine O_nil ?_
    refine C_seq ?_
    refine C_seq ?_
    refine C_region ?_
    refine O_p (.i .i64 9) (r_mv rfl) ?_
    refine O_p (.b false) (r_bin rfl rfl rfl) ?_
    refine O_p (.b false) (r_mv rfl) ?_
    refine O_gs (v := ow) rfl (r_mv hT24) ?_
    refine O_gs (v := (.i .i64 ((((ownL even (2 + q)).length : Nat)) : Int))) rfl (by exact (by exact r_lenOf rfl (hp18.lenOf (by unfold u16L; rw [List.length_map, Nat.mul_one]) (by decide)) hp18.isSl)) ?_
    refine O_gs (v := (.b false)) rfl (by exact (by rw [r_eql rfl rfl, decide_eq_false (by first | omega | assumption)])) ?_
    refine O_p (.b false) (r_pick_f rfl rfl) ?_
    refine O_nil ?_
    refine C_cond (x := false) rfl (fun h => by cases h) (fun _ => ?_)
    refine C_skip ?_
    refine C_seq ?_
    refine C_region ?_
    refine O_p ow (r_mv hT24) ?_
    refine O_p (.i .i64 at_) (r_mv hT20) ?_
    obtain ⟨q64, hq64, hlq64⟩ := and_nat at_ 65535 (by decide)
    refine O_p (.i .i64 (((q64 : Nat)) : Int)) (by exact (by rw [← hq64]; exact r_bin rfl rfl rfl)) ?_
    refine O_p ow (r_mv hT24) ?_
    refine O_p (.i .i64 ((((ownL even (2 + q)).length : Nat)) : Int)) (by exact (by exact r_lenOf rfl (hp18.lenOf (by unfold u16L; rw [List.length_map, Nat.mul_one]) (by decide)) hp18.isSl)) ?_
    refine O_p (.i .i64 ((((q64 % (ownL even (2 + q)).length) : Nat)) : Int)) (by exact (r_remn (a := q64) (b := (ownL even (2 + q)).length) rfl rfl (by omega))) ?_
    obtain ⟨s, hsm, hsK, hso⟩ := ownL_at (even := even) (K := 2 + q) (m := (q64 % (ownL even (2 + q)).length)) (Nat.mod_lt _ hop)
    have hs16 : s < 65536 := by omega
    have hgs : (fullA even (2 + q) (2 + q)).getD s ch0 = chX [120] := by rw [fullA_at hsK, if_pos (by rw [hso, decide_eq_true hsK]; rfl)]
    refine O_q (by exact Sq.ix hp18 hH63.top3 rfl (i := (q64 % (ownL even (2 + q)).length)) rfl (y := .i .u16 ((s : Nat) : Int)) (by unfold u16L; rw [List.getElem?_map, hsm]; rfl)) fun v65 hv66 => ?_
    refine O_p (.i .u16 ((s : Nat) : Int)) (hv66.load rfl) ?_
    refine O_p (.i .u16 ((s : Nat) : Int)) (r_mv rfl) ?_
    refine O_nil ?_
    refine C_seq ?_
    refine C_region ?_
    refine O_p (.p (some (T7, 0))) (r_mv hT23) ?_
    refine O_p (.i .u16 ((s : Nat) : Int)) (r_mv rfl) ?_
    have hH67 := ((hH63.top1).top1)
    refine O_call (Ev.mono (close_in (cs := fullA even (2 + q) (2 + q)) (k := s) hs16 (by simp only [List.length_set, fullA_len]; omega) (by simp only [List.length_set, fullA_len]; omega) okL_full hH67) fun v68 H69 hq70 => ?_)
    rw [show closeE (fullA even (2 + q) (2 + q)) s = 0 by unfold closeE; rw [hgs]; rfl] at hq70
    rw [show closeC (fullA even (2 + q) (2 + q)) s = (fullA even (2 + q) (2 + q)).set s ((chX [120]).to 3) by unfold closeC; rw [hgs]; rfl] at hq70
    obtain ⟨rfl, hH71⟩ := hq70
    refine O_p (.i .i64 0) (r_mv rfl) ?_
    refine O_nil ?_
    refine C_seq ?_
    refine C_region ?_
    refine O_p (.p (some (T7, 0))) (r_mv hT23) ?_
    refine O_p (.agg [(.i .u8 0), (.i .u16 0), (.i .u32 0), (.s ⟨#[]⟩), (.s ⟨#[]⟩)]) (r_build rfl) ?_
    have hH72 := (((hH71.top2).top2).top2)
    refine O_call (Ev.mono (ask_ok hok0 htb0 0 0 0 ([] : List UInt8) [] (by decide) (by decide) (by decide) (by decide) (by decide) enc00 (by simp only [List.length_set, fullA_len]; omega) hH72) fun v73 H74 hq75 => ?_)
    rw [show askS ((fullA even (2 + q) (2 + q)).set s ((chX [120]).to 3)) even 0 [] [] = 0 by unfold askS; rw [if_neg (by rw [enc00]; decide), full_set hsK _ (by decide)]] at hq75
    rw [show askE ((fullA even (2 + q) (2 + q)).set s ((chX [120]).to 3)) even 0 [] [] = 9 by unfold askE; rw [if_neg (by rw [enc00]; decide), full_set hsK _ (by decide)]] at hq75
    rw [show askC ((fullA even (2 + q) (2 + q)).set s ((chX [120]).to 3)) even 0 0 0 [] [] = ((fullA even (2 + q) (2 + q)).set s ((chX [120]).to 3)) by unfold askC; rw [if_neg (by rw [enc00]; decide), full_set hsK _ (by decide)]] at hq75
    obtain ⟨o76, c77, rfl, hsq78, hH79⟩ := hq75
    have hH80 := (hH79.sub0)
    refine O_p (.tup [(.i .u16 0), o76, (.i .i64 9)]) (r_mv rfl) ?_
    refine O_p (.i .u16 0) (r_ext rfl rfl) ?_
    refine O_p o76 (r_ext rfl rfl) ?_
    refine O_p (.i .i64 9) (r_ext rfl rfl) ?_
    refine O_p (.i .u16 0) (r_mv rfl) ?_
    refine O_p o76 (r_mv rfl) ?_
    refine O_p (.i .i64 9) (r_mv rfl) ?_
    refine O_nil ?_
    refine C_seq ?_
    refine C_region ?_
    refine O_p (.p (some (T7, 0))) (r_mv hT23) ?_
    refine O_p (.i .u16 ((s : Nat) : Int)) (r_mv rfl) ?_
    have hH81 := ((hH80.top1).top1)
    refine O_call (Ev.mono (freed_in (cs := (fullA even (2 + q) (2 + q)).set s ((chX [120]).to 3)) (k := s) hs16 (by simp only [List.length_set, fullA_len]; omega) (by simp only [List.length_set, fullA_len]; omega) (okL_set okL_full (ok3 _ _ _)) hH81) fun v82 H83 hq84 => ?_)
    rw [show freedC ((fullA even (2 + q) (2 + q)).set s ((chX [120]).to 3)) s = (fullA even (2 + q) (2 + q)).set s (((chX [120]).to 3).shut true false) by unfold freedC; rw [full_getD hsK, if_pos (by rfl), set_full]] at hq84
    obtain ⟨rfl, hH85⟩ := hq84
    refine O_nil ?_
    refine C_seq ?_
    refine C_region ?_
    refine O_p (.p (some (T7, 0))) (r_mv hT23) ?_
    refine O_p (.i .u16 ((s : Nat) : Int)) (r_mv rfl) ?_
    have hH86 := ((hH85.top1).top1)
    refine O_call (Ev.mono (gone_in (cs := (fullA even (2 + q) (2 + q)).set s (((chX [120]).to 3).shut true false)) (k := s) hs16 (by simp only [List.length_set, fullA_len]; omega) (by simp only [List.length_set, fullA_len]; omega) (okL_set okL_full (ok3 _ _ _)) hH86) fun v87 H88 hq89 => ?_)
    rw [show goneB ((fullA even (2 + q) (2 + q)).set s (((chX [120]).to 3).shut true false)) s = false by unfold goneB; rw [full_getD hsK]; rfl] at hq89
    rw [show goneC ((fullA even (2 + q) (2 + q)).set s (((chX [120]).to 3).shut true false)) s = (fullA even (2 + q) (2 + q)).set s ch0 by unfold goneC; rw [full_getD hsK, if_neg (by decide), set_full]; rfl] at hq89
    obtain ⟨rfl, hH90⟩ := hq89
    refine O_p (.b false) (r_mv rfl) ?_
    refine O_nil ?_
    refine C_seq ?_
    refine C_region ?_
    refine O_p (.p (some (T7, 0))) (r_mv hT23) ?_
    refine O_p (.agg [(.i .u8 0), (.i .u16 0), (.i .u32 0), (.s ⟨#[121]⟩), (.s ⟨#[]⟩)]) (r_build rfl) ?_
    have hH91 := (((hH90.top2).top2).top2)
    refine O_call (Ev.mono (ask_ok hok0 htb0 0 0 0 ([121] : List UInt8) [] (by decide) (by decide) (by decide) (by decide) (by decide) encY (by simp only [List.length_set, fullA_len]; omega) hH91) fun v92 H93 hq94 => ?_)
    rw [show askS ((fullA even (2 + q) (2 + q)).set s ch0) even 0 [121] [] = ((s : Nat) : Int) by unfold askS; rw [if_neg (by rw [encY]; decide), full_free hsK hso]] at hq94
    rw [show askE ((fullA even (2 + q) (2 + q)).set s ch0) even 0 [121] [] = 0 by unfold askE; rw [if_neg (by rw [encY]; decide), full_free hsK hso]] at hq94
    rw [show askC ((fullA even (2 + q) (2 + q)).set s ch0) even 0 0 0 [121] [] = ((fullA even (2 + q) (2 + q)).set s ch0).set s (chX [121]) by unfold askC; rw [if_neg (by rw [encY]; decide), full_free hsK hso]; rfl] at hq94
    rw [set_full] at hq94
    obtain ⟨o95, c96, rfl, hsq97, hH98⟩ := hq94
    have hH99 := (hH98.sub0)
    refine O_p (.tup [(.i .u16 ((s : Nat) : Int)), o95, (.i .i64 0)]) (r_mv rfl) ?_
    refine O_p (.i .u16 ((s : Nat) : Int)) (r_ext rfl rfl) ?_
    refine O_p o95 (r_ext rfl rfl) ?_
    refine O_p (.i .i64 0) (r_ext rfl rfl) ?_
    refine O_p (.i .u16 ((s : Nat) : Int)) (r_mv rfl) ?_
    refine O_p o95 (r_mv rfl) ?_
    refine O_p (.i .i64 0) (r_mv rfl) ?_
    refine O_nil ?_
    refine C_seq ?_
    refine C_region ?_
    refine O_p (.b true) (r_mv hT21) ?_
    refine O_p (.b true) (r_mv rfl) ?_
    refine O_gs (v := (.i .i64 0)) rfl (r_mv rfl) ?_
    refine O_gs (v := (.b true)) rfl (r_bin rfl rfl rfl) ?_
    refine O_p (.b true) (r_pick_t rfl rfl) ?_
    refine O_p (.b true) (r_mv rfl) ?_
    refine O_gs (v := (.i .i64 9)) rfl (r_mv rfl) ?_
    refine O_gs (v := (.b true)) rfl (r_bin rfl rfl rfl) ?_
    refine O_p (.b true) (r_pick_t rfl rfl) ?_
    refine O_p (.b true) (r_mv rfl) ?_
    refine O_gs (v := (.b false)) rfl (r_mv rfl) ?_
    refine O_gs (v := (.b true)) rfl (r_un rfl rfl) ?_
    refine O_p (.b true) (r_pick_t rfl rfl) ?_
    refine O_p (.b true) (r_mv rfl) ?_
    refine O_gs (v := (.i .i64 0)) rfl (r_mv rfl) ?_
    refine O_gs (v := (.b true)) rfl (r_bin rfl rfl rfl) ?_
    refine O_p (.b true) (r_pick_t rfl rfl) ?_
    refine O_p (.b true) (r_mv rfl) ?_
    refine O_gs (v := (.i .u16 ((s : Nat) : Int))) rfl (r_mv rfl) ?_
    refine O_gs (v := (.i .u16 ((s : Nat) : Int))) rfl (r_mv rfl) ?_
    refine O_gs (v := (.b true)) rfl (r_eqq rfl rfl) ?_
    refine O_p (.b true) (r_pick_t rfl rfl) ?_
    refine O_p (.b true) (r_mv rfl) ?_
    refine O_gs (v := (.p (some (T7, 0)))) rfl (r_mv hT23) ?_
    refine O_gs (v := (.i .u16 ((s : Nat) : Int))) rfl (r_mv rfl) ?_
    have hH100 := ((hH99.top1).top1)
    refine O_gcall rfl (Ev.mono (openg_in (cs := (fullA even (2 + q) (2 + q)).set s (chX [121])) (k := s) hs16 (by simp only [List.length_set, fullA_len]; omega) (by simp only [List.length_set, fullA_len]; omega) hH100) fun v101 H102 hq103 => ?_)
    rw [full_getD hsK] at hq103
    obtain ⟨rfl, hH104⟩ := hq103
    refine O_gs (v := (.s (txt [121]))) rfl (r_fld rfl rfl) ?_
    refine O_gs (v := (.b true)) rfl (by exact (by rw [r_eqt (a := ([121] : List UInt8)) (b := ([121] : List UInt8)) rfl rfl, decide_eq_true rfl])) ?_
    refine O_p (.b true) (r_pick_t rfl rfl) ?_
    refine O_p (.b true) (r_mv rfl) ?_
    refine O_nil ?_
    refine C_ret ?_
    exact ⟨.inr rfl, _, resL_one (r_tmp (v := .b true) rfl), rfl⟩
set_option maxRecDepth 100000 in
theorem law7 (W : World) (ρ : Rho) (H : AH) (xs : List AV) (args : Array Value) (hR : Rel Tryd.prog W.heap.size W ρ H W) (hro : RO H) (hT : ∀ n b, tabs0.get n = some b → H.get n = some b) (hv : VRL ρ xs args.toList) (ht : TypedVs Tryd.prog H 9 Tryd.f7.params.toList xs) :
    Calls Tryd.prog 7 args W fun e w' => e = .returned (.bool true) ∧ Below W.heap.size W w' := by
  rw [Tryd.params7] at ht
  obtain ⟨a0, xs, rfl, g0, a1, xs, rfl, g1, a2, xs, rfl, g2, rfl⟩ := ht
  obtain ⟨even, rfl⟩ := typedV_bool Tryd.underlying4 g0
  obtain ⟨n, rfl, _⟩ := typedV_int Tryd.underlying3 g1
  obtain ⟨at_, rfl, _⟩ := typedV_int Tryd.underlying3 g2
  obtain ⟨k, v, H', hex, rfl⟩ := run7 H hR.aok (Tb.of hT) even n at_
  exact law_of mixed tabV_ok spV_ok hex hR hv
end Go.Proofs.YtfhbdddjclodhaaDoor.E
namespace Go.Proofs.YtfhbdddjclodhaaDoor.dcepFull
open Go.ChangeShapes Go.WideShapes Go.RowKit Go.ChangeAt
set_option linter.unusedVariables false
theorem types : (Tryd.f7.params.toList.all fun t => E.fit Tryd.prog 9 t && (Tryd.prog.readableRec t && decide (t < Tryd.prog.types.size))) = true := by kernel_rfl
set_option maxRecDepth 100000 in
theorem lifted (os : Os) (started : os.Started) (H : Type) (enc : TypeId × Value → H) :
    ReturnsInHanded {} Tryd.checked os 7 .any (fun w args => (Rows.dcepFullSpec.pre enc Tryd.prog Tryd.f7 Rows.dcepFullRow.domain false w args ∧ laidMetH Tryd.prog E.laid18 w) ∧ sizedMet enc Tryd.prog Tryd.f7 (OpenSpec.ofChange Rows.dcepFullSpec) false w args) (Rows.dcepFullSpec.post enc Tryd.prog Tryd.f7 false true false false) :=
  E.law_liftedG (C := Tryd.checked) (k := 9) (tb := 4) (X := fun w => laidMetH Tryd.prog E.laid18 w) E.laid (fun _ _ hh h => h.of_heap hh) (fun W h => E.Rel.tabs E.globals2 (E.tabs18 h)) E.tabs0_ro E.own18 started (by kernel_rfl) Tryd.func7
    (ChangeSpec.witness_shaped (enc := enc) (C := Tryd.checked) (os := os) (X := fun w _ => laidMetH Tryd.prog E.laid18 w) false (World.laidAll Tryd.prog os E.laid18) #[.bool false, .int .i64 0, .int .i64 0] 8 (World.laidAll_os _ _ _)
      (World.shaped_of_ZipB (by kernel_rfl) (by kernel_rfl)) (by kernel_rfl) (by kernel_rfl) (by kernel_rfl)
      (by rw [MakeChecks.laidMetH_plain _ _ _ (by kernel_rfl)]; exact laidMet_laidAll _ (by kernel_rfl) (by kernel_rfl)))
    rfl rfl Tryd.underlying4 (fun t ht => by have h := List.all_eq_true.1 types t ht; simp only [Bool.and_eq_true, decide_eq_true_eq] at h; exact h)
    (fun ds hd => by
      rw [Tryd.params7] at hd
      match ds, hd with
      | [d0, d1, d2], _ => rfl) E.law7
theorem over : Rows.dcepFullRow.holds Tryd.pinned (OpenSpec.ofChange Rows.dcepFullSpec) :=
  OpenClaim.holds_of_wide 7 Tryd.f7 rfl rfl rfl rfl rfl rfl rfl ⟨rfl, rfl, rfl, rfl, rfl⟩ rfl rfl rfl rfl rfl (by kernel_rfl) Tryd.func7 (by kernel_rfl)
    (of_decide_eq_true (by kernel_rfl)) (by unfold Func.isWrapper; first | (rw [if_pos (by decide +kernel)]; kernel_rfl) | (rw [if_neg (by decide +kernel)]; exact ⟨rfl, rfl⟩))
    (fun os started H enc _ => lifted os started H enc)
theorem card : Claim7.holds Tryd.pinned (.plain (OpenSpec.ofChange Rows.dcepFullSpec)) Rows.dcepFullCard :=
  Claim7.holds_tied_plain_at .later [] [.data, .pinned] true (true, "840fe89f1718999666760e2798cb68f93cfa0fb72f9e95c902c9bbcf5ac830c4") false over (fun _ h => by cases h) (by kernel_rfl) (fun _ h => by cases h) dcepFull_row_tie rfl ⟨rfl, rfl⟩ (by kernel_rfl) rfl
    (fun f fn hf hfn => by
      obtain rfl : f = 7 := Option.some.inj ((show Tryd.prog.funcNamed "bollard/bollardlaw18.DcepFull" = some 7 by kernel_rfl).symm.trans hf) |>.symm
      obtain rfl : fn = Tryd.f7 := (Option.some.inj (Tryd.func7.symm.trans hfn)).symm
      exact ⟨by kernel_rfl, fun j t ht => by
        rw [Tryd.params7] at ht
        have hm : t ∈ [4, 3, 3] := by simpa using Array.mem_of_getElem? ht
        have hall : ([4, 3, 3].all fun u => !Tryd.prog.wantsStandIn u) = true := by kernel_rfl
        exact (show Tryd.prog.wantsStandIn t = false by simpa using List.all_eq_true.1 hall t hm)⟩)
    (by kernel_rfl)
end Go.Proofs.YtfhbdddjclodhaaDoor.dcepFull
namespace Go.Proofs.YtfhbdddjclodhaaDoor
/-- The card, under a short name, for the claim. -/
theorem dcepFull_holds : Rows.DcepFullCardSaid := dcepFull.card
#print axioms dcepFull_holds
end Go.Proofs.YtfhbdddjclodhaaDoor
