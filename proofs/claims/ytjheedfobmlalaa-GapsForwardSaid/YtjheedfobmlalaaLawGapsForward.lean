/- GapsForward, for every input, without conditions. -/
import Derived.Test.YtjheedfobmlalaaF
import Derived.Test.YtjheedfobmlalaaRows
import Derived.ProofKit
import Derived.OpenShut
namespace Go.Proofs.Ytjheedfobmlalaa.E
open Go.RowKit (Below)
set_option linter.unusedVariables false
set_option linter.unusedSimpArgs false
theorem and30 (m : Int) : ∃ k : Nat, IntKind.u32.wrap ((BitVec.ofInt 32 m &&& BitVec.ofInt 32 1073741823).toNat : Int) = (k : Int) ∧ k < 1073741824 := by
  refine ⟨(BitVec.ofInt 32 m &&& BitVec.ofInt 32 1073741823).toNat, ?_, ?_⟩
  · have h : (BitVec.ofInt 32 m &&& BitVec.ofInt 32 1073741823).toNat < 2 ^ 32 := BitVec.isLt _
    rw [wrap_u32]; omega
  · rw [BitVec.toNat_and]
    have h : (BitVec.ofInt 32 1073741823).toNat = 1073741823 := by decide
    rw [h]
    exact Nat.lt_of_le_of_lt Nat.and_le_right (by decide)
theorem climb_adv : ∀ (k : Nat) (l : List Int) (c : Int), l.length ≤ k → ∃ j : Nat, j ≤ l.length ∧ ((climbF c l).1 - c - j) % 4294967296 = 0
  | 0, l, c, h => by
    have : l = [] := List.length_eq_zero_iff.1 (by omega)
    subst this; rw [climbF_stop (by simp)]; exact ⟨0, by simp, by simp⟩
  | k + 1, l, c, h => by
    by_cases hin : nxt c ∈ l
    · have h1 := udel_lt hin
      rw [climbF_step hin]
      obtain ⟨j, g1, g2⟩ := climb_adv k (udel l (nxt c)) (nxt c) (by omega)
      refine ⟨j + 1, by omega, ?_⟩
      rw [nxt_e] at g2 ⊢
      omega
    · rw [climbF_stop hin]; exact ⟨0, by simp, by simp⟩
theorem fwd_facts {s : Gp} {d m : Nat} (hd : d < 1073741824) (hm : m < 1073741824) (hl : s.l.length ≤ 1000) :
    (s.fwd (IntKind.u32.wrap (s.c + d))).has (IntKind.u32.wrap (s.c + d)) = true ∧ (d : Int) ≤ dst s.c (s.fwd (IntKind.u32.wrap (s.c + d))).c ∧
    (s.has (IntKind.u32.wrap (s.c + m)) = true → (s.fwd (IntKind.u32.wrap (s.c + d))).has (IntKind.u32.wrap (s.c + m)) = true) ∧ (s.fwd (IntKind.u32.wrap (s.c + d))).l.length ≤ s.l.length := by
  obtain ⟨n, hn⟩ : ∃ n, n = IntKind.u32.wrap (s.c + d) := ⟨_, rfl⟩
  obtain ⟨x, hx⟩ : ∃ x, x = IntKind.u32.wrap (s.c + m) := ⟨_, rfl⟩
  rw [← hn, ← hx]
  rw [wrap_u32] at hn hx
  have dn : dst s.c n = d := by rw [dst_e]; omega
  have dx : dst s.c x = m := by rw [dst_e]; omega
  by_cases hb : blw s.c n = true
  · have e : s.fwd n = s := by unfold Gp.fwd; rw [if_pos hb]
    rw [e]
    have hd0 : d = 0 := by rw [blw_e, dn] at hb; omega
    refine ⟨by unfold Gp.has; rw [hb]; rfl, ?_, fun h => h, Nat.le_refl _⟩
    rw [dst_e]; omega
  · have e : s.fwd n = Gp.climb ⟨n, s.l.filter (fun k => !blw n k), s.d⟩ := by unfold Gp.fwd; rw [if_neg hb]
    rw [e]
    obtain ⟨L, hL⟩ : ∃ L, L = s.l.filter (fun k => !blw n k) := ⟨_, rfl⟩
    rw [← hL]
    have hLl : L.length ≤ s.l.length := by rw [hL]; exact List.length_filter_le _ _
    obtain ⟨j, j1, j2⟩ := climb_adv L.length L n (Nat.le_refl _)
    have hlen := climb_len L.length L n (Nat.le_refl _)
    refine ⟨?_, ?_, fun h => ?_, ?_⟩
    · show (blw (climbF n L).1 n || _) = true
      rw [climb_below L.length L n 0 (Nat.le_refl _) (by rw [dst_e]; omega) (by omega)]; rfl
    · show (d : Int) ≤ dst s.c (climbF n L).1
      rw [dst_e] at dn ⊢
      omega
    · show (blw (climbF n L).1 x || decide (x ∈ (climbF n L).2)) = true
      by_cases hmd : m ≤ d
      · rw [climb_below L.length L n (d - m) (Nat.le_refl _) (by rw [dst_e]; omega) (by omega)]; rfl
      · refine climb_has L.length L n (Nat.le_refl _) (by omega) ?_
        rw [hL, List.mem_filter]
        constructor
        · unfold Gp.has at h
          rw [Bool.or_eq_true, blw_e, dx, decide_eq_true_eq] at h
          rcases h with h | h
          · omega
          · exact h
        · have : blw n x = false := by
            rw [Bool.eq_false_iff]
            intro hc
            rw [blw_e, dst_e] at hc
            omega
          rw [this]; rfl
    · show (climbF n L).2.length ≤ _
      omega
set_option maxRecDepth 100000 in
set_option maxHeartbeats 4000000 in
theorem run7 (H0 : AH) (hok0 : H0.Ok) (a0 : Int) (v : AV) (ol : List (Int × Int)) (nq mq : Int) (hv : ∀ H', Hs H' (allL H0) → Rw 2 H' v (ol.map opRow)) : Ev tabA spA (.fn (.func 7) [] []) [.i .u32 a0, v, .i .u32 nq, .i .u32 mq] H0 (fun v _ => v = .b true) := by
  have hH0 : Hs H0 (allL H0 ++ []) := allL_hs hok0
  refine Ev_C (F := x7) rfl ?_
  refine C_seq ?_
  refine C_region ?_
  refine O_p (.b false) (r_mv rfl) ?_
  refine O_nil ?_
  refine C_seq ?_
  refine C_region ?_
  refine O_call (Ev.mono (awake_ev hH0) fun v1 H2 hq3 => ?_)
  obtain ⟨rfl, hH4⟩ := hq3
  refine O_p (.b true) (r_mv rfl) ?_
  refine O_nil ?_
  refine C_seq ?_
  refine C_seq ?_
  refine C_region ?_
  refine O_p v (r_mv rfl) ?_
  refine O_p (.i .i64 (((ol.length : Nat)) : Int)) (r_lenOf (v := v) (n := ol.length) rfl ((hv _ hH4.top0.fst).lenOf (List.length_map ..)) (hv _ hH4.top0.fst).isSl) ?_
  refine O_p (.b (decide (100 < (((ol.length : Nat)) : Int)))) (r_gtr rfl rfl) ?_
  refine O_nil ?_
  refine C_cond (x := (decide (100 < (((ol.length : Nat)) : Int)))) rfl (fun hc5 => ?_) (fun hc5 => ?_)
  ·
    try simp only [decide_eq_true_eq, decide_eq_false_iff_not, Bool.not_eq_true', Bool.not_eq_false', Bool.and_eq_true, Bool.or_eq_true, Bool.or_eq_false_iff, Bool.not_not, Bool.and_eq_false_iff] at hc5
    refine C_seq ?_
    refine C_region ?_
    refine O_p (.b true) (r_mv rfl) ?_
    refine O_p (.b true) (r_mv rfl) ?_
    refine O_nil ?_
    refine C_ret ?_
    refine nx_ret ?_
    exact ⟨.inr rfl, _, resL_one (r_tmp (v := .b true) rfl), rfl⟩
  ·
    try simp only [decide_eq_true_eq, decide_eq_false_iff_not, Bool.not_eq_true', Bool.not_eq_false', Bool.and_eq_true, Bool.or_eq_true, Bool.or_eq_false_iff, Bool.not_not, Bool.and_eq_false_iff] at hc5
    have hlen : ol.length ≤ 100 := by omega
    refine C_skip ?_
    refine C_seq ?_
    refine C_region ?_
    refine O_p (.i .u32 a0) (r_mv rfl) ?_
    refine O_call (Ev.mono (new_ev hH4).sp fun v6 H7 hq8 => ?_)
    obtain ⟨ga, S0, rfl, hG0, hHn⟩ := hq8
    refine O_p (.p (some (ga, 0))) (r_mv rfl) ?_
    refine O_nil ?_
    refine C_seq ?_
    refine C_seq ?_
    refine C_region ?_
    refine O_p (.i .i64 0) (r_mv rfl) ?_
    refine O_nil ?_
    refine C_block ?_
    have hH9 := ((hHn.top1).top1)
    refine C_while (fun m10 T11 H12 => ∃ s : Gp, ∃ S : HL, ∃ i : Nat, m10 = ol.length - i ∧ i ≤ ol.length ∧ GpH s ga S ∧ s.d.length ≤ 64 ∧ s.l.length ≤ i ∧ Hs H12 (S ++ ((allL H0) ++ ([]))) ∧ T11.get 0 = (.i .u32 a0) ∧ T11.get 1 = v ∧ T11.get 2 = (.i .u32 nq) ∧ T11.get 3 = (.i .u32 mq) ∧ T11.get 9 = (.b true) ∧ T11.get 10 = (.p (some (ga, 0))) ∧ T11.get 11 = (.i .i64 (((i : Nat)) : Int))) (fun m10 T11 H12 hI13 => ?_) ol.length _ _ ⟨(⟨IntKind.u32.wrap (a0 - 1), [], []⟩ : Gp), S0, 0, rfl, Nat.zero_le _, hG0, (Nat.zero_le 64), Nat.le_refl _, hH9, rfl, rfl, rfl, rfl, rfl, rfl, rfl⟩
    obtain ⟨s, S, i, hm14, hp15, hp16, hp17, hp18, hH26, hT19, hT20, hT21, hT22, hT23, hT24, hT25⟩ := hI13
    refine C_seq ?_
    refine C_seq ?_
    refine C_region ?_
    refine O_p (.i .i64 (((i : Nat)) : Int)) (r_mv hT25) ?_
    refine O_p v (r_mv hT20) ?_
    refine O_p (.i .i64 (((ol.length : Nat)) : Int)) (r_lenOf (v := v) (n := ol.length) rfl ((hv _ hH26.top1.fst).lenOf (List.length_map ..)) (hv _ hH26.top1.fst).isSl) ?_
    refine O_p (.b (decide ((((i : Nat)) : Int) < (((ol.length : Nat)) : Int)))) (r_lss rfl rfl) ?_
    refine O_nil ?_
    refine C_cond (x := (decide ((((i : Nat)) : Int) < (((ol.length : Nat)) : Int)))) rfl (fun hc27 => ?_) (fun hc27 => ?_)
    ·
      try simp only [decide_eq_true_eq, decide_eq_false_iff_not, Bool.not_eq_true', Bool.not_eq_false', Bool.and_eq_true, Bool.or_eq_true, Bool.or_eq_false_iff, Bool.not_not, Bool.and_eq_false_iff] at hc27
      refine C_skip ?_
      refine C_seq ?_
      refine C_block ?_
      refine C_region ?_
      have hil : i < ol.length := by omega
      obtain ⟨o, hoi⟩ : ∃ y, ol[i]? = some y := ⟨_, List.getElem?_eq_getElem hil⟩
      refine O_p (.p (some (ga, 0))) (r_mv hT24) ?_
      refine O_p (.i .u32 a0) (r_mv hT19) ?_
      refine O_p v (r_mv hT20) ?_
      refine O_p (.i .i64 (((i : Nat)) : Int)) (r_mv hT25) ?_
      refine O_q (by exact Rw.row (hv _ hH26.top1.fst) rfl (i := i) rfl (r := [(.i .i64 o.1), (.i .u32 o.2)]) (op_row hoi)) fun v29 hv28 => ?_
      obtain ⟨rb30, ro31, rfl, hr32⟩ := hv28
      refine O_p (.p (some (rb30, (ro31 + 1)))) (r_fadd' rfl rfl) ?_
      refine O_p (.i .u32 o.2) (r_ldR (q := 1) rfl (hr32 _ (hv _ hH26.top1.fst)) rfl) ?_
      refine O_p (.i .u32 (IntKind.u32.wrap (a0 + o.2))) (r_bin rfl rfl rfl) ?_
      refine O_call (Ev.mono (add_ev (n := (IntKind.u32.wrap (a0 + o.2))) hp16 hH26 hp17).sp fun v33 H34 hq35 => ?_)
      obtain ⟨rfl, S36, hG37, hH38⟩ := hq35
      refine O_nil ?_
      refine C_region ?_
      refine O_p (.i .i64 (((i : Nat)) : Int)) (r_mv hT25) ?_
      refine O_p (.i .i64 ((((i : Nat)) : Int) + 1)) (by exact (r_addi rfl rfl (wrap_i64 (by omega) (by omega)))) ?_
      refine O_p (.i .i64 ((((i : Nat)) : Int) + 1)) (r_mv rfl) ?_
      refine O_nil ?_
      have hH39 := ((hH38.top1).top1)
      exact ⟨ol.length - (i + 1), by omega, (Gp.add s (IntKind.u32.wrap (a0 + o.2))), S36, (i + 1), rfl, by omega, hG37, (Gp.add_d s (IntKind.u32.wrap (a0 + o.2)) hp17), by have := Gp.add_len s (IntKind.u32.wrap (a0 + o.2)); omega, hH39, hT19, hT20, hT21, hT22, hT23, hT24, rfl⟩
    ·
      try simp only [decide_eq_true_eq, decide_eq_false_iff_not, Bool.not_eq_true', Bool.not_eq_false', Bool.and_eq_true, Bool.or_eq_true, Bool.or_eq_false_iff, Bool.not_not, Bool.and_eq_false_iff] at hc27
      refine C_exit ?_
      refine nx_exit ?_
      refine nx_exit ?_
      refine bk_hit ?_
      refine C_seq ?_
      refine C_region ?_
      refine O_p (.p (some (ga, 0))) (r_mv hT24) ?_
      refine O_call (Ev.mono (cum_ev hp16 hH26).sp fun v40 H41 hq42 => ?_)
      obtain ⟨rfl, hH43⟩ := hq42
      refine O_p (.i .u32 s.c) (r_mv rfl) ?_
      refine O_nil ?_
      refine C_seq ?_
      refine C_region ?_
      refine O_p (.i .u32 nq) (r_mv hT21) ?_
      obtain ⟨dk, hdk, hdkl⟩ := and30 nq
      refine O_p (.i .u32 ((dk : Nat) : Int)) (by exact (by rw [← hdk]; exact r_bin rfl rfl rfl)) ?_
      refine O_p (.i .u32 ((dk : Nat) : Int)) (r_mv rfl) ?_
      refine O_nil ?_
      refine C_seq ?_
      refine C_region ?_
      refine O_p (.i .u32 s.c) (r_mv rfl) ?_
      refine O_p (.i .u32 mq) (r_mv hT22) ?_
      obtain ⟨mk, hmk, hmkl⟩ := and30 mq
      refine O_p (.i .u32 ((mk : Nat) : Int)) (by exact (by rw [← hmk]; exact r_bin rfl rfl rfl)) ?_
      refine O_p (.i .u32 (IntKind.u32.wrap (s.c + ((mk : Nat) : Int)))) (r_bin rfl rfl rfl) ?_
      refine O_p (.i .u32 (IntKind.u32.wrap (s.c + ((mk : Nat) : Int)))) (r_mv rfl) ?_
      refine O_nil ?_
      refine C_seq ?_
      refine C_region ?_
      refine O_p (.p (some (ga, 0))) (r_mv hT24) ?_
      refine O_p (.i .u32 (IntKind.u32.wrap (s.c + ((mk : Nat) : Int)))) (r_mv rfl) ?_
      refine O_call (Ev.mono (has_ev (n := (IntKind.u32.wrap (s.c + ((mk : Nat) : Int)))) hp16 hH43).sp fun v44 H45 hq46 => ?_)
      obtain ⟨rfl, hH47⟩ := hq46
      refine O_p (.b (Gp.has s (IntKind.u32.wrap (s.c + ((mk : Nat) : Int))))) (r_mv rfl) ?_
      refine O_nil ?_
      refine C_seq ?_
      refine C_region ?_
      refine O_p (.p (some (ga, 0))) (r_mv hT24) ?_
      refine O_p (.i .u32 s.c) (r_mv rfl) ?_
      refine O_p (.i .u32 ((dk : Nat) : Int)) (r_mv rfl) ?_
      refine O_p (.i .u32 (IntKind.u32.wrap (s.c + ((dk : Nat) : Int)))) (r_bin rfl rfl rfl) ?_
      refine O_call (Ev.mono (fwd_ev (n := (IntKind.u32.wrap (s.c + ((dk : Nat) : Int)))) hp16 hH47) fun v48 H49 hq50 => ?_)
      obtain ⟨rfl, S51, hG52, hH53⟩ := hq50
      obtain ⟨hf1, hf2, hf3, hf4⟩ := fwd_facts (s := s) hdkl hmkl (by omega)
      refine O_nil ?_
      refine C_seq ?_
      by_cases hhas : Gp.has s (IntKind.u32.wrap (s.c + ((mk : Nat) : Int))) = true
      ·
        have hh2 := hf3 hhas
        refine C_region ?_
        refine O_p (.b true) (r_mv hT23) ?_
        refine O_p (.b true) (r_mv rfl) ?_
        refine O_gk rfl ?_
        refine O_p (.p (some (ga, 0))) (r_mv hT24) ?_
        refine O_gk rfl ?_
        refine O_p (.i .u32 s.c) (r_mv rfl) ?_
        refine O_gk rfl ?_
        refine O_p (.i .u32 ((dk : Nat) : Int)) (r_mv rfl) ?_
        refine O_gk rfl ?_
        refine O_p (.i .u32 (IntKind.u32.wrap (s.c + ((dk : Nat) : Int)))) (r_bin rfl rfl rfl) ?_
        refine O_gk rfl ?_
        refine O_call (Ev.mono (has_ev (n := (IntKind.u32.wrap (s.c + ((dk : Nat) : Int)))) hG52 hH53).sp fun v54 H55 hq56 => ?_)
        obtain ⟨rfl, hH57⟩ := hq56
        rw [hf1]
        refine O_p (.b true) (r_pick_t rfl rfl) ?_
        refine O_p (.b true) (r_mv rfl) ?_
        refine O_gk rfl ?_
        refine O_p (.i .u32 s.c) (r_mv rfl) ?_
        refine O_gk rfl ?_
        refine O_p (.p (some (ga, 0))) (r_mv hT24) ?_
        refine O_gk rfl ?_
        refine O_call (Ev.mono (cum_ev hG52 hH57).sp fun v58 H59 hq60 => ?_)
        obtain ⟨rfl, hH61⟩ := hq60
        refine O_gk rfl ?_
        refine O_call (Ev.mono (dist_ev (x := s.c) (y := (Gp.fwd s (IntKind.u32.wrap (s.c + ((dk : Nat) : Int)))).c) hH61).sp fun v62 H63 hq64 => ?_)
        obtain ⟨rfl, hH65⟩ := hq64
        refine O_gk rfl ?_
        refine O_p (.i .u32 ((dk : Nat) : Int)) (r_mv rfl) ?_
        refine O_gk rfl ?_
        refine O_p (.b true) (by exact (by rw [r_geq rfl rfl, decide_eq_true hf2])) ?_
        refine O_p (.b true) (r_pick_t rfl rfl) ?_
        refine O_p (.b true) (r_mv rfl) ?_
        refine O_gk rfl ?_
        refine O_p (.b true) (r_mv (congrArg AV.b hhas)) ?_
        refine O_gk rfl ?_
        refine O_p (.b false) (r_un rfl rfl) ?_
        refine O_gk rfl ?_
        refine O_p (.b false) (r_mv rfl) ?_
        refine O_gk rfl ?_
        refine O_p (.p (some (ga, 0))) (r_mv hT24) ?_
        refine O_gk rfl ?_
        refine O_p (.i .u32 (IntKind.u32.wrap (s.c + ((mk : Nat) : Int)))) (r_mv rfl) ?_
        refine O_gk rfl ?_
        refine O_call (Ev.mono (has_ev (n := (IntKind.u32.wrap (s.c + ((mk : Nat) : Int)))) hG52 hH65).sp fun v66 H67 hq68 => ?_)
        obtain ⟨rfl, hH69⟩ := hq68
        rw [hh2]
        refine O_gk rfl ?_
        refine O_p (.b true) (r_pick_f rfl rfl) ?_
        refine O_p (.b true) (r_pick_t rfl rfl) ?_
        refine O_p (.b true) (r_mv rfl) ?_
        refine O_gk rfl ?_
        refine O_p (.p (some (ga, 0))) (r_mv hT24) ?_
        refine O_gk rfl ?_
        refine O_call (Ev.mono (len_ev hG52 hH69).sp fun v70 H71 hq72 => ?_)
        obtain ⟨rfl, hH73⟩ := hq72
        refine O_gk rfl ?_
        refine O_p v (r_mv hT20) ?_
        refine O_gk rfl ?_
        refine O_p (.i .i64 (((ol.length : Nat)) : Int)) (r_lenOf (v := v) (n := ol.length) rfl ((hv _ hH73.top1.fst).lenOf (List.length_map ..)) (hv _ hH73.top1.fst).isSl) ?_
        refine O_gk rfl ?_
        refine O_p (.b true) (by exact (by rw [r_leq rfl rfl, decide_eq_true (by omega)])) ?_
        refine O_p (.b true) (r_pick_t rfl rfl) ?_
        refine O_p (.b true) (r_mv rfl) ?_
        refine O_nil ?_
        refine C_ret ?_
        exact ⟨.inr rfl, _, resL_one (r_tmp (v := .b true) rfl), rfl⟩
      ·
        have hhf : Gp.has s (IntKind.u32.wrap (s.c + ((mk : Nat) : Int))) = false := by simpa using hhas
        refine C_region ?_
        refine O_p (.b true) (r_mv hT23) ?_
        refine O_p (.b true) (r_mv rfl) ?_
        refine O_gk rfl ?_
        refine O_p (.p (some (ga, 0))) (r_mv hT24) ?_
        refine O_gk rfl ?_
        refine O_p (.i .u32 s.c) (r_mv rfl) ?_
        refine O_gk rfl ?_
        refine O_p (.i .u32 ((dk : Nat) : Int)) (r_mv rfl) ?_
        refine O_gk rfl ?_
        refine O_p (.i .u32 (IntKind.u32.wrap (s.c + ((dk : Nat) : Int)))) (r_bin rfl rfl rfl) ?_
        refine O_gk rfl ?_
        refine O_call (Ev.mono (has_ev (n := (IntKind.u32.wrap (s.c + ((dk : Nat) : Int)))) hG52 hH53).sp fun v74 H75 hq76 => ?_)
        obtain ⟨rfl, hH77⟩ := hq76
        rw [hf1]
        refine O_p (.b true) (r_pick_t rfl rfl) ?_
        refine O_p (.b true) (r_mv rfl) ?_
        refine O_gk rfl ?_
        refine O_p (.i .u32 s.c) (r_mv rfl) ?_
        refine O_gk rfl ?_
        refine O_p (.p (some (ga, 0))) (r_mv hT24) ?_
        refine O_gk rfl ?_
        refine O_call (Ev.mono (cum_ev hG52 hH77).sp fun v78 H79 hq80 => ?_)
        obtain ⟨rfl, hH81⟩ := hq80
        refine O_gk rfl ?_
        refine O_call (Ev.mono (dist_ev (x := s.c) (y := (Gp.fwd s (IntKind.u32.wrap (s.c + ((dk : Nat) : Int)))).c) hH81).sp fun v82 H83 hq84 => ?_)
        obtain ⟨rfl, hH85⟩ := hq84
        refine O_gk rfl ?_
        refine O_p (.i .u32 ((dk : Nat) : Int)) (r_mv rfl) ?_
        refine O_gk rfl ?_
        refine O_p (.b true) (by exact (by rw [r_geq rfl rfl, decide_eq_true hf2])) ?_
        refine O_p (.b true) (r_pick_t rfl rfl) ?_
        refine O_p (.b true) (r_mv rfl) ?_
        refine O_gk rfl ?_
        refine O_p (.b false) (r_mv (congrArg AV.b hhf)) ?_
        refine O_gk rfl ?_
        refine O_p (.b true) (r_un rfl rfl) ?_
        refine O_gk rfl ?_
        refine O_p (.b true) (r_mv rfl) ?_
        refine O_gf rfl ?_
        refine O_gf rfl ?_
        refine O_gf rfl ?_
        refine O_gk rfl ?_
        refine O_p (.b true) (r_pick_t rfl rfl) ?_
        refine O_p (.b true) (r_pick_t rfl rfl) ?_
        refine O_p (.b true) (r_mv rfl) ?_
        refine O_gk rfl ?_
        refine O_p (.p (some (ga, 0))) (r_mv hT24) ?_
        refine O_gk rfl ?_
        refine O_call (Ev.mono (len_ev hG52 hH85).sp fun v86 H87 hq88 => ?_)
        obtain ⟨rfl, hH89⟩ := hq88
        refine O_gk rfl ?_
        refine O_p v (r_mv hT20) ?_
        refine O_gk rfl ?_
        refine O_p (.i .i64 (((ol.length : Nat)) : Int)) (r_lenOf (v := v) (n := ol.length) rfl ((hv _ hH89.top1.fst).lenOf (List.length_map ..)) (hv _ hH89.top1.fst).isSl) ?_
        refine O_gk rfl ?_
        refine O_p (.b true) (by exact (by rw [r_leq rfl rfl, decide_eq_true (by omega)])) ?_
        refine O_p (.b true) (r_pick_t rfl rfl) ?_
        refine O_p (.b true) (r_mv rfl) ?_
        refine O_nil ?_
        refine C_ret ?_
        exact ⟨.inr rfl, _, resL_one (r_tmp (v := .b true) rfl), rfl⟩
set_option maxRecDepth 100000 in
theorem law7 (W : World) (ρ : Rho) (H : AH) (xs : List AV) (args : Array Value) (hR : Rel Try.prog W.heap.size W ρ H W) (hro : RO H) (hv : VRL ρ xs args.toList) (ht : TypedVs Try.prog H 9 Try.f7.params.toList xs) :
    Calls Try.prog 7 args W fun e w' => e = .returned (.bool true) ∧ Below W.heap.size W w' := by
  rw [Try.params7] at ht
  obtain ⟨a0, xs, rfl, g0, a1, xs, rfl, g1, a2, xs, rfl, g2, a3, xs, rfl, g3, rfl⟩ := ht
  obtain ⟨a0, rfl, wa0⟩ := typedV_int Try.underlying22 g0
  obtain ⟨ol, hol⟩ := opsT hR.aok (typedV_slice Try.underlying36 g1)
  obtain ⟨n, rfl, wn⟩ := typedV_int Try.underlying22 g2
  obtain ⟨m, rfl, wm⟩ := typedV_int Try.underlying22 g3
  obtain ⟨k, v, H', hex, rfl⟩ := run7 H hR.aok a0 _ ol n m hol
  exact law_of mixed tabA_ok spA_ok hex hR hv
end Go.Proofs.Ytjheedfobmlalaa.E
namespace Go.Proofs.Ytjheedfobmlalaa.gapsForward
open Go.ChangeShapes Go.WideShapes Go.RowKit
set_option linter.unusedVariables false
theorem own : ownKnob Try.prog.godebug = none := by kernel_rfl
theorem types : (Try.f7.params.toList.all fun t => E.fit Try.prog 9 t && (Try.prog.readableRec t && decide (t < Try.prog.types.size))) = true := by kernel_rfl
set_option maxRecDepth 100000 in
theorem lifted (os : Os) (started : os.Started) (H : Type) (enc : TypeId × Value → H) :
    ReturnsInHanded {} Try.checked os 7 .any (Rows.gapsForwardSpec.pre6 enc Try.prog Try.f7 Rows.gapsForwardRow.domain false) (Rows.gapsForwardSpec.post enc Try.prog Try.f7 false true false false) :=
  E.law_lifted (C := Try.checked) (k := 9) (tb := 4) E.globals0 E.laid own started (by kernel_rfl) Try.func7
    (ChangeSpec.witness6 (enc := enc) (C := Try.checked) false ⟨#[], #[.int .u32 0, .slice none 0 0, .int .u32 0, .int .u32 0], []⟩ 8 (by kernel_rfl) (by kernel_rfl) (by kernel_rfl) (by kernel_rfl))
    rfl rfl Try.underlying4 (fun t ht => by have h := List.all_eq_true.1 types t ht; simp only [Bool.and_eq_true, decide_eq_true_eq] at h; exact h)
    (fun ds hd => by
      rw [Try.params7] at hd
      match ds, hd with
      | [d0, d1, d2, d3], _ => rfl) E.law7
theorem over : Rows.gapsForwardRow.holds Try.pinned (OpenSpec.ofChange Rows.gapsForwardSpec) :=
  OpenClaim.holds_of_wide 7 Try.f7 rfl rfl rfl rfl rfl rfl rfl ⟨rfl, rfl, rfl, rfl, rfl⟩ rfl rfl rfl rfl rfl (by kernel_rfl) Try.func7 (by kernel_rfl)
    (of_decide_eq_true (by kernel_rfl)) (by unfold Func.isWrapper; first | (rw [if_pos (by decide +kernel)]; kernel_rfl) | (rw [if_neg (by decide +kernel)]; exact ⟨rfl, rfl⟩))
    (fun os started H enc _ => lifted os started H enc)
end Go.Proofs.Ytjheedfobmlalaa.gapsForward
namespace Go.Proofs.Ytjheedfobmlalaa
/-- The row, under a short name, for the claim. -/
theorem gapsForward_holds : Rows.GapsForwardSaid := gapsForward.over
#print axioms gapsForward_holds
end Go.Proofs.Ytjheedfobmlalaa
