/- Queues of chunks: the document's queue: what is skipped. It bears no condition. -/
import Derived.Test.YtipcacpaadgagaaQQ4
namespace Go.Proofs.Ytipcacpaadgagaa.E
set_option linter.unusedVariables false
set_option linter.unusedSimpArgs false
theorem frB_all : ((List.range 256).all fun n => frB ((n : Nat) : Int) == decide (((n : Nat) : Int) / 4 % 2 = 1)) = true := by kernel_rfl
theorem frB_iff {f : Int} (h : 0 ≤ f ∧ f < 256) : frB f = decide (f / 4 % 2 = 1) := by
 have h1 := List.all_eq_true.1 frB_all f.toNat (List.mem_range.2 (by omega))
 have h2 : ((f.toNat : Nat) : Int) = f := Int.toNat_of_nonneg h.1
 rw [h2] at h1
 exact eq_of_beq h1
theorem fwN_end {l : List Ea} {i : Nat} (h1 : ∀ e ∈ l.take i, 3 ≤ e.st) (hi : i ≤ l.length) (h2 : i = l.length ∨ ∃ e, l[i]? = some e ∧ e.st < 3) : fwN l = i := by
  refine Nat.le_antisymm ?_ ?_
  · rcases h2 with rfl | ⟨e, he, hs⟩
    · exact fwN_le
    · refine Nat.le_of_not_lt fun h9 => ?_
      have := fx_ne h9 he
      rw [decide_eq_true hs] at this; cases this
  · refine Nat.le_of_not_lt fun h9 => ?_
    have hl : fwN l < l.length := by omega
    have h3 := fx_yes (P := fun e : Ea => decide (e.st < 3)) (w := l) (i := fwN l) rfl (List.getElem?_eq_getElem hl)
    have h4 := h1 l[fwN l] (mem_take_at (List.getElem?_eq_getElem hl) h9)
    have h5 := of_decide_eq_true h3
    omega
theorem fwN_pre {l : List Ea} {i : Nat} {e : Ea} (hi : i < fwN l) (h : l[i]? = some e) : 3 ≤ e.st := by
 have := fx_ne (P := fun e : Ea => decide (e.st < 3)) hi h
 have := of_decide_eq_false this
 omega
theorem fwS_skip {out : List (Int × Int)} {e : Ea} (h : e.st = 3 ∨ frB e.c.f = true) : fwS out e = out := by unfold fwS; rw [if_pos h]
theorem fwS_new {out : List (Int × Int)} {e : Ea} (h : ¬ (e.st = 3 ∨ frB e.c.f = true)) (hk : out.length ≤ out.findIdx (skP e.c.o)) : fwS out e = out ++ [(e.c.o, e.c.i)] := by unfold fwS; rw [if_neg h, if_neg (by omega)]
theorem fwS_old {out : List (Int × Int)} {e : Ea} {k : Nat} (h : ¬ (e.st = 3 ∨ frB e.c.f = true)) (hk : out.findIdx (skP e.c.o) = k) (hl : k < out.length) : fwS out e = out.set k (e.c.o, e.c.i) := by unfold fwS; rw [if_neg h, hk, if_pos hl]
theorem sk_set {l : List (Int × Int)} {k : Nat} {p : Int × Int} : (l.map skR).set k [.i .u16 p.1, .i .u16 p.2] = (l.set k p).map skR := by rw [List.map_set]
theorem set_end {α : Type} {l : List α} {a b : α} : (l ++ [a]).set l.length b = l ++ [b] := by rw [List.set_append_right (h := Nat.le_refl _), Nat.sub_self]; rfl
def bnd (x : Int) : Nat := (BitVec.ofInt 64 x &&& BitVec.ofInt 64 1099511627775).toNat
theorem bnd_wrap (x : Int) : IntKind.i64.wrap ((bnd x : Nat) : Int) = ((bnd x : Nat) : Int) ∧ bnd x ≤ 1099511627775 := by
 have h := and_mask (n := 64) x 1099511627775 (by omega)
 have h2 : bnd x ≤ 1099511627775 := Int.ofNat_le.1 h.2
 exact ⟨wrap_i64 (by omega) (by omega), h2⟩
theorem bounded2_ev {H : AH} {R : HL} {a : Int} (hH0 : Hs H R) : Ev tabA spA (.fn (.func 16) [] []) [.i .i64 a] H (fun r H' => r = .i .i64 ((bnd a : Nat) : Int) ∧ Hs H' R) := by
 refine Ev_C (F := x16) rfl ?_
 refine C_seq  (C_region  (pv (.i .i64 0) rfl (O_nil  (C_seq  (C_region  (pv (.i .i64 a) rfl (O_p (.i .i64 (IntKind.i64.wrap ((BitVec.ofInt 64 a &&& BitVec.ofInt 64 1099511627775).toNat : Int))) (r_bin rfl rfl rfl) (pv (.i .i64 (IntKind.i64.wrap ((BitVec.ofInt 64 a &&& BitVec.ofInt 64 1099511627775).toNat : Int))) rfl (O_nil  (C_ret  ?_))))))))))
 exact ⟨.inr rfl, _, resL_one (r_tmp (v := (.i .i64 (IntKind.i64.wrap ((BitVec.ofInt 64 a &&& BitVec.ofInt 64 1099511627775).toNat : Int)))) rfl), by rw [← (bnd_wrap a).1]; rfl, hH0⟩
theorem sskip_ev {H : AH} {R : HL} {a b : AV} {ac bc : List AV} {os : List (Int × Int)} (ha : Sq 2 a ac (os.map skR).flatten) (hb : Sq 2 b bc (os.map skR).flatten) (hol : os.length ≤ 100000) (hH0 : Hs H (qseg a ac ++ (qseg b bc ++ R))) : Ev tabA spA (.fn (.func 55) [] []) [a, b] H (fun r H' => r = .b true ∧ Hs H' (qseg a ac ++ (qseg b bc ++ R))) := by
 refine Ev_C (F := x55) rfl ?_
 refine C_seq  (C_region  (pv (.b false) rfl (O_nil  (C_seq  (C_seq  (C_region  (pv a rfl (O_p (.i .i64 (((os.length : Nat)) : Int)) (by exact (by exact r_lenOf rfl (ha.lenOf ((flat_len (sk_lens os)).trans (by rw [List.length_map])) (by decide)) ha.isSl)) (pv b rfl (O_p (.i .i64 (((os.length : Nat)) : Int)) (by exact (by exact r_lenOf rfl (hb.lenOf ((flat_len (sk_lens os)).trans (by rw [List.length_map])) (by decide)) hb.isSl)) (O_p (.b false) (r_nqq rfl rfl) (O_nil  ?_))))))))))))
 refine C_cond (x := false) rfl (fun h => by cases h) (fun _ => ?_)
 refine C_skip  (C_seq  (C_seq  (C_region  (pv (.i .i64 0) rfl (O_nil  (C_block  ?_))))))
 refine C_while (fun m1 T2 H3 => ∃ k : Nat, m1 = os.length - k ∧ k ≤ os.length ∧ Hs H3 ((qseg a ac) ++ ((qseg b bc) ++ (R))) ∧ T2.get 0 = a ∧ T2.get 1 = b ∧ T2.get 5 = (.i .i64 (((k : Nat)) : Int))) (fun m1 T2 H3 hI4 => ?_) os.length _ _ ⟨0, rfl, Nat.zero_le _, hH0, rfl, rfl, rfl⟩
 obtain ⟨k, hm5, hp6, hH10, hT7, hT8, hT9⟩ := hI4
 refine C_seq  (C_seq  (C_region  (pv (nI k) hT9 (pv a hT7 (O_p (.i .i64 (((os.length : Nat)) : Int)) (by exact (by exact r_lenOf rfl (ha.lenOf ((flat_len (sk_lens os)).trans (by rw [List.length_map])) (by decide)) ha.isSl)) (O_p (.b (decide ((((k : Nat)) : Int) < (((os.length : Nat)) : Int)))) (r_lss rfl rfl) (O_nil  ?_)))))))
 refine C_cond (x := (decide ((((k : Nat)) : Int) < (((os.length : Nat)) : Int)))) rfl (fun hc11 => ?_) (fun hc11 => ?_)
 ·
  try simp only [dz1, dz2, dz3, dz4, dz5, dz6, dz7, dz8, dz9] at hc11
  refine C_skip  (C_seq  (C_block  (C_seq  ?_)))
  refine C_draw fun b12 H13 hbase14 hA15 => ?_
  have hH16 := hH10.keep (by have := hA15.1; omega) (fun q _ => hA15.2 q) ((hH10.old).aside hA15).ok
  have hkl : k < os.length := by omega
  obtain ⟨p, hpk⟩ : ∃ p, os[k]? = some p := ⟨_, List.getElem?_eq_getElem hkl⟩
  refine D_l (v := a) rfl rfl rfl (r_mv hT7) (D_l (v := (nI k)) rfl rfl rfl (r_mv hT9) ?_)
  refine D_q rfl rfl rfl (by exact Sq.cell ha (sk_lens os) hH16.top0 rfl (i := k) rfl (r := [(.i .u16 p.1), (.i .u16 p.2)]) (sk_get hpk) (by decide)) fun v18 hv17 => ?_
  obtain ⟨rb19, ro20, rfl, hrg21, hrt22, hrb23, hput24, hqs25⟩ := hv17
  refine D_l (v := (.p (some (rb19, (ro20 + 0))))) rfl rfl rfl (r_fadd' rfl rfl) (D_l (v := b) rfl rfl rfl (r_mv hT8) (D_l (v := (nI k)) rfl rfl rfl (r_mv hT9) ?_))
  refine D_q rfl rfl rfl (by exact Sq.cell hb (sk_lens os) hH16.top1 rfl (i := k) rfl (r := [(.i .u16 p.1), (.i .u16 p.2)]) (sk_get hpk) (by decide)) fun v27 hv26 => ?_
  obtain ⟨rb28, ro29, rfl, hrg30, hrt31, hrb32, hput33, hqs34⟩ := hv26
  refine D_l (v := (.p (some (rb28, (ro29 + 0))))) rfl rfl rfl (r_fadd' rfl rfl) (D_r (v := (.i .u16 p.1)) rfl rfl rfl (r_ldR (q := 0) rfl ⟨_, _, hrg21, hrt22⟩ rfl) (D_r (v := (.i .u16 p.1)) rfl rfl rfl (r_ldR (q := 0) rfl ⟨_, _, hrg30, hrt31⟩ rfl) (D_l (v := (.b false)) rfl rfl rfl (r_nqq rfl rfl) (D_l (v := (.b false)) rfl rfl rfl (r_mv rfl) (D_gk rfl (D_l (v := a) rfl rfl rfl (r_mv hT7) (D_gk rfl (D_l (v := (nI k)) rfl rfl rfl (r_mv hT9) (D_gk rfl ?_)))))))))
  refine D_q rfl rfl rfl (by exact Sq.cell ha (sk_lens os) hH16.top0 rfl (i := k) rfl (r := [(.i .u16 p.1), (.i .u16 p.2)]) (sk_get hpk) (by decide)) fun v36 hv35 => ?_
  obtain ⟨rb37, ro38, rfl, hrg39, hrt40, hrb41, hput42, hqs43⟩ := hv35
  refine D_gk rfl (D_l (v := (.p (some (rb37, (ro38 + 1))))) rfl rfl rfl (r_fadd' rfl rfl) (D_gk rfl (D_l (v := b) rfl rfl rfl (r_mv hT8) (D_gk rfl (D_l (v := (nI k)) rfl rfl rfl (r_mv hT9) (D_gk rfl ?_))))))
  refine D_q rfl rfl rfl (by exact Sq.cell hb (sk_lens os) hH16.top1 rfl (i := k) rfl (r := [(.i .u16 p.1), (.i .u16 p.2)]) (sk_get hpk) (by decide)) fun v45 hv44 => ?_
  obtain ⟨rb46, ro47, rfl, hrg48, hrt49, hrb50, hput51, hqs52⟩ := hv44
  refine D_gk rfl (D_l (v := (.p (some (rb46, (ro47 + 1))))) rfl rfl rfl (r_fadd' rfl rfl) (D_gk rfl (D_r (v := (.i .u16 p.2)) rfl rfl rfl (r_ldR (q := 1) rfl ⟨_, _, hrg39, hrt40⟩ rfl) (D_gk rfl (D_r (v := (.i .u16 p.2)) rfl rfl rfl (r_ldR (q := 1) rfl ⟨_, _, hrg48, hrt49⟩ rfl) (D_gk rfl (D_l (v := (.b false)) rfl rfl rfl (r_nqq rfl rfl) (D_l (v := (.b false)) rfl rfl rfl (r_pick_f rfl rfl) (D_nil  ?_)))))))))
  refine C_cond (x := false) rfl (fun h => by cases h) (fun _ => ?_)
  refine C_skip  (C_region  (pv (nI k) hT9 (O_p (.i .i64 ((((k : Nat)) : Int) + 1)) (by exact (r_addi rfl rfl (wrap_i64 (by omega) (by omega)))) (pv (.i .i64 ((((k : Nat)) : Int) + 1)) rfl (O_nil  ?_)))))
  have hH53 := ((hH16.top1).top1)
  exact ⟨os.length - (k + 1), by omega, (k + 1), rfl, by omega, hH53, hT7, hT8, rfl⟩
 ·
  try simp only [dz1, dz2, dz3, dz4, dz5, dz6, dz7, dz8, dz9] at hc11
  refine C_exit  (nx_exit  (nx_exit  (bk_hit  (C_seq  (C_region  (pv (.b true) rfl (O_nil  (C_ret  ?_))))))))
  have hH54 := ((hH10.top1).top1)
  exact ⟨.inr rfl, _, resL_one (r_tmp (v := (.b true)) rfl), rfl, hH54⟩
set_option maxHeartbeats 2000000 in
theorem rfwd_raw {H : AH} {R : HL} {F n : Nat} {lv : AV} {lc : List AV} {nx cn : Int} {q0 : List Te} (hlv : Sq 19 lv lc (q0.map teRow).flatten) (hn : q0.length = n) (hql : n ≤ 100000) (hst4 : ∀ e ∈ (q0.map Te.e), e.st ≤ 4) (hfl8 : ∀ e ∈ (q0.map Te.e), 0 ≤ e.c.f ∧ e.c.f < 256) (hH0 : Hs H ([(F, some (.cells [lv, .i .u32 nx, .i .i64 cn] true))] ++ (qseg lv lc ++ R))) : Ev tabA spA (.fn (.func 53) [] []) [.p (some (F, 0))] H (fun r H' => ∃ (ov : AV) (oc : List AV), r = .tup [.i .u32 (fwM (q0.map Te.e) nx), ov, .b (decide (0 < (fwX (q0.map Te.e))))] ∧ Sq 2 ov oc ((fwO ((q0.map Te.e).take (fwX (q0.map Te.e)))).map skR).flatten ∧ Hs H' (qseg ov oc ++ ([(F, some (.cells [lv, .i .u32 nx, .i .i64 cn] true))] ++ (qseg lv lc ++ R)))) := by
 refine Ev_C (F := x53) rfl ?_
 refine C_seq  (C_region  (pv (.i .u32 0) rfl (pv (.sl none 0 0 0) rfl (pv (.b false) rfl (O_nil  (C_seq  (C_region  (pv (.i .i64 (-1)) rfl (O_nil  ?_)))))))))
 refine C_cut (fun T1 H2 => ∃ la : Int, la = (((fwX (q0.map Te.e)) : Nat) : Int) - 1 ∧ Hs H2 ([(F, some (.cells ([lv, (.i .u32 nx), (.i .i64 cn)]) true))] ++ ((qseg lv lc) ++ (R))) ∧ T1.get 0 = (.p (some (F, 0))) ∧ T1.get 5 = (.i .i64 la)) ?_ (fun T1 H2 hI3 => ?_)
 ·
  refine C_seq  (C_region  (pv (.i .i64 0) rfl (O_nil  (C_block  ?_))))
  refine C_while (fun m4 T5 H6 => ∃ la : Int, ∃ i : Nat, m4 = n - i ∧ i ≤ n ∧ la = (((fwE ((q0.map Te.e).take i)) : Nat) : Int) - 1 ∧ (∀ e ∈ (q0.map Te.e).take i, 3 ≤ e.st) ∧ Hs H6 ([(F, some (.cells ([lv, (.i .u32 nx), (.i .i64 cn)]) true))] ++ ((qseg lv lc) ++ (R))) ∧ T5.get 0 = (.p (some (F, 0))) ∧ T5.get 5 = (.i .i64 la) ∧ T5.get 6 = (.i .i64 (((i : Nat)) : Int))) (fun m4 T5 H6 hI7 => ?_) n _ _ ⟨(-1), 0, rfl, Nat.zero_le _, by rw [List.take_zero]; rfl, (fun e he => by rw [List.take_zero] at he; cases he), hH0, rfl, rfl, rfl⟩
  obtain ⟨la, i, hm8, hp9, hp10, hp11, hH15, hT12, hT13, hT14⟩ := hI7
  refine C_seq  (C_seq  ?_)
  by_cases hil : i < n
  ·
   obtain ⟨x, hxi⟩ : ∃ x, q0[i]? = some x := ⟨_, List.getElem?_eq_getElem (by omega)⟩
   refine C_region  (pv (nI i) hT14 (pv (pT F 0) hT12 (O_p (pT F 0) (r_nilc rfl) (pf (pT F 0) rfl rfl (O_p lv (r_ld rfl hH15.get0 rfl) (O_p (nI n) (by exact (by exact r_lenOf rfl (hlv.lenOf (te_flatn hn) (by decide)) hlv.isSl)) (O_p (.b true) (by exact (by rw [r_lss rfl rfl, decide_eq_true (by omega)])) (pv (.b true) rfl (O_gk rfl (pv (pT F 0) hT12 (O_gk rfl (O_p (pT F 0) (r_nilc rfl) (O_gk rfl ?_)))))))))))))
   refine pf (pT F 0) rfl rfl (O_gk rfl (O_p lv (r_ld rfl hH15.get0 rfl) (O_gk rfl (pv (nI i) hT14 (O_gk rfl ?_)))))
   refine O_q (by exact Sq.cell hlv (te_lens q0) hH15.top1 rfl (i := i) rfl (r := teRow x) (te_get hxi) (by decide)) fun v17 hv16 => ?_
   obtain ⟨rb18, ro19, rfl, hrg20, hrt21, hrb22, hput23, hqs24⟩ := hv16
   refine O_gk rfl (pf (.p (some (rb18, (ro19 + 13)))) rfl rfl (O_gk rfl (O_p (.i .i64 x.e.st) (r_ldR (q := 13) rfl ⟨_, _, hrg20, hrt21⟩ rfl) (O_gk rfl (O_p (.b (decide (3 ≤ x.e.st))) (r_geq rfl rfl) (O_p (.b (decide (3 ≤ x.e.st))) (r_pick_t rfl rfl) (O_nil  ?_)))))))
   refine C_cond (x := (decide (3 ≤ x.e.st))) rfl (fun hc25 => ?_) (fun hc25 => ?_)
   ·
    try simp only [dz1, dz2, dz3, dz4, dz5, dz6, dz7, dz8, dz9] at hc25
    refine C_skip  (C_seq  (C_block  (C_seq  (C_region  (pv (pT F 0) hT12 (O_p (pT F 0) (r_nilc rfl) (pf (pT F 0) rfl rfl (O_p lv (r_ld rfl hH15.get0 rfl) (pv (nI i) hT14 ?_)))))))))
    refine O_q (by exact Sq.cell hlv (te_lens q0) hH15.top1 rfl (i := i) rfl (r := teRow x) (te_get hxi) (by decide)) fun v27 hv26 => ?_
    obtain ⟨rb28, ro29, rfl, hrg30, hrt31, hrb32, hput33, hqs34⟩ := hv26
    refine pf (.p (some (rb28, (ro29 + 13)))) rfl rfl (O_p (.i .i64 x.e.st) (r_ldR (q := 13) rfl ⟨_, _, hrg30, hrt31⟩ rfl) (O_p (.b (decide (x.e.st = 4))) (r_eql rfl rfl) (O_nil  ?_)))
    refine C_cond (x := (decide (x.e.st = 4))) rfl (fun hc35 => ?_) (fun hc35 => ?_)
    ·
     try simp only [dz1, dz2, dz3, dz4, dz5, dz6, dz7, dz8, dz9] at hc35
     have hs4 : x.e.st = 4 := hc35
     refine C_region  (pv (nI i) hT14 (pv (nI i) rfl (O_nil  (C_region  (pv (nI i) hT14 (O_p (.i .i64 ((((i : Nat)) : Int) + 1)) (by exact (r_addi rfl rfl (wrap_i64 (by omega) (by omega)))) (pv (.i .i64 ((((i : Nat)) : Int) + 1)) rfl (O_nil  ?_))))))))
     have hH36 := ((hH15.top1).top1)
     exact ⟨n - (i + 1), by omega, (((i : Nat)) : Int), (i + 1), rfl, by omega, by rw [fwE_at (te_e hxi), if_pos hs4]; omega, (fun e he => by rw [take_at (te_e hxi)] at he; rcases List.mem_append.1 he with h9 | h9; exact hp11 e h9; rw [List.mem_singleton.1 h9]; omega), hH36, hT12, rfl, rfl⟩
    ·
     try simp only [dz1, dz2, dz3, dz4, dz5, dz6, dz7, dz8, dz9] at hc35
     have hs4 : ¬ x.e.st = 4 := hc35
     refine C_skip  (C_region  (pv (nI i) hT14 (O_p (.i .i64 ((((i : Nat)) : Int) + 1)) (by exact (r_addi rfl rfl (wrap_i64 (by omega) (by omega)))) (pv (.i .i64 ((((i : Nat)) : Int) + 1)) rfl (O_nil  ?_)))))
     have hH37 := ((hH15.top1).top1)
     exact ⟨n - (i + 1), by omega, la, (i + 1), rfl, by omega, by rw [fwE_at (te_e hxi), if_neg hs4]; exact hp10, (fun e he => by rw [take_at (te_e hxi)] at he; rcases List.mem_append.1 he with h9 | h9; exact hp11 e h9; rw [List.mem_singleton.1 h9]; omega), hH37, hT12, hT13, rfl⟩
   ·
    try simp only [dz1, dz2, dz3, dz4, dz5, dz6, dz7, dz8, dz9] at hc25
    have hNi : fwN (q0.map Te.e) = i := fwN_end hp11 (by rw [List.length_map]; omega) (.inr ⟨x.e, te_e hxi, by omega⟩)
    refine C_exit  (nx_exit  (nx_exit  (bk_hit  ?_)))
    have hH38 := ((hH15.top1).top1)
    exact ⟨rfl, la, by show la = ((fwE ((q0.map Te.e).take (fwN (q0.map Te.e))) : Nat) : Int) - 1; rw [hNi]; exact hp10, hH38, hT12, hT13⟩
  ·
   have hNi : fwN (q0.map Te.e) = i := fwN_end hp11 (by rw [List.length_map]; omega) (.inl (by rw [List.length_map]; omega))
   refine C_region  (pv (nI i) hT14 (pv (pT F 0) hT12 (O_p (pT F 0) (r_nilc rfl) (pf (pT F 0) rfl rfl (O_p lv (r_ld rfl hH15.get0 rfl) (O_p (nI n) (by exact (by exact r_lenOf rfl (hlv.lenOf (te_flatn hn) (by decide)) hlv.isSl)) (O_p (.b false) (by exact (by rw [r_lss rfl rfl, decide_eq_false (by omega)])) (pv (.b false) rfl (O_gf rfl (O_gf rfl (O_gf rfl (O_gf rfl (O_gf rfl ?_)))))))))))))
   refine O_gf rfl (O_gf rfl (O_gf rfl (O_gf rfl (O_p (.b false) (r_pick_f rfl rfl) (O_nil  ?_)))))
   refine C_cond (x := false) rfl (fun h => by cases h) (fun _ => ?_)
   refine C_exit  (nx_exit  (nx_exit  (bk_hit  ?_)))
   have hH39 := ((hH15.top1).top1)
   exact ⟨rfl, la, by show la = ((fwE ((q0.map Te.e).take (fwN (q0.map Te.e))) : Nat) : Int) - 1; rw [hNi]; exact hp10, hH39, hT12, hT13⟩
 ·
  obtain ⟨la, hp40, hH43, hT41, hT42⟩ := hI3
  have hfl := fwX_le (l := (q0.map Te.e))
  rw [List.length_map, hn] at hfl
  have hla := hp40
  refine C_seq  (C_seq  (C_region  (pv (.i .i64 la) hT42 (O_p (.b (decide (la < 0))) (r_lss rfl rfl) (O_nil  ?_)))))
  refine C_cond (x := (decide (la < 0))) rfl (fun hc44 => ?_) (fun hc44 => ?_)
  ·
   try simp only [dz1, dz2, dz3, dz4, dz5, dz6, dz7, dz8, dz9] at hc44
   refine C_seq  (C_region  (pv (pT F 0) hT41 ?_))
   have hH45 := ((hH43.top1).top1)
   refine O_call (Ev.mono (rfloor_raw hlv hn hql hH45) fun v46 H47 hq48 => ?_)
   obtain ⟨rfl, hH49⟩ := hq48
   refine pv (.i .u32 (floorA nx n)) rfl (pv (.sl none 0 0 0) rfl (pv (.b false) rfl (O_nil  (C_ret  (nx_ret  ?_)))))
   have hH50 := ((hH49.top1).top1)
   have hf0 : (fwX (q0.map Te.e)) = 0 := by omega
   exact ⟨.inr rfl, _, resL_cons (r_tmp (v := (.i .u32 (floorA nx n))) rfl) (resL_cons (r_tmp (v := (.sl none 0 0 0)) rfl) (resL_one (r_tmp (v := (.b false)) rfl))), .sl none 0 0 0, [], by unfold fwM; rw [if_pos hf0, hf0, List.length_map, hn]; rfl, by rw [hf0, List.take_zero]; exact Sq.nil, hH50⟩
  ·
   try simp only [dz1, dz2, dz3, dz4, dz5, dz6, dz7, dz8, dz9] at hc44
   refine C_skip  (C_seq  (C_region  (pv (.sl none 0 0 0) rfl (O_nil  (C_seq  (C_seq  (C_region  (pv (.i .i64 0) rfl (O_nil  (C_block  ?_))))))))))
   have hH51 := ((hH43.top1).top1)
   have hla2 : 0 < (fwX (q0.map Te.e)) := by omega
   refine C_while (fun m52 T53 H54 => ∃ ov : AV, ∃ oc : List AV, ∃ j : Nat, m52 = (fwX (q0.map Te.e)) - j ∧ j ≤ (fwX (q0.map Te.e)) ∧ Sq 2 ov oc ((fwO ((q0.map Te.e).take j)).map skR).flatten ∧ Hs H54 ([(F, some (.cells ([lv, (.i .u32 nx), (.i .i64 cn)]) true))] ++ ((qseg lv lc) ++ ((qseg ov oc) ++ (R)))) ∧ T53.get 0 = (.p (some (F, 0))) ∧ T53.get 5 = (.i .i64 la) ∧ T53.get 7 = ov ∧ T53.get 8 = (.i .i64 (((j : Nat)) : Int))) (fun m52 T53 H54 hI55 => ?_) (fwX (q0.map Te.e)) _ _ ⟨(.sl none 0 0 0), [], 0, rfl, Nat.zero_le _, by rw [List.take_zero]; exact Sq.nil, hH51, hT41, hT42, rfl, rfl⟩
   obtain ⟨ov, oc, j, hm56, hp57, hp58, hH63, hT59, hT60, hT61, hT62⟩ := hI55
   have hov := hp58
   have hol := fwO_len (l := (q0.map Te.e)) (j := j)
   refine C_seq  (C_seq  (C_region  (pv (nI j) hT62 (pv (.i .i64 la) hT60 (O_p (.b (decide ((((j : Nat)) : Int) ≤ la))) (r_leq rfl rfl) (O_nil  ?_))))))
   refine C_cond (x := (decide ((((j : Nat)) : Int) ≤ la))) rfl (fun hc64 => ?_) (fun hc64 => ?_)
   ·
    try simp only [dz1, dz2, dz3, dz4, dz5, dz6, dz7, dz8, dz9] at hc64
    refine C_skip  (C_seq  (C_block  (C_seq  ?_)))
    have hjx : j < (fwX (q0.map Te.e)) := by omega
    obtain ⟨x, hxi⟩ : ∃ x, q0[j]? = some x := ⟨_, List.getElem?_eq_getElem (by omega)⟩
    have hx3 : 3 ≤ x.e.st := fwN_pre (Nat.lt_of_lt_of_le hjx (fwE_le fwN_le)) (te_e hxi)
    have hxm := List.mem_map_of_mem (f := Te.e) (List.mem_of_getElem? hxi)
    have hx4 := hst4 _ hxm
    have hxf := hfl8 _ hxm
    have hfb := frB_iff hxf
    by_cases hg4 : x.e.st = 4
    ·
     by_cases hfr : x.e.c.f / 4 % 2 = 1
     ·
      have hsk : x.e.st = 3 ∨ frB x.e.c.f = true := .inr (by rw [hfb, decide_eq_true hfr])
      refine C_region  (pv (pT F 0) hT59 (O_p (pT F 0) (r_nilc rfl) (pf (pT F 0) rfl rfl (O_p lv (r_ld rfl hH63.get0 rfl) (pv (nI j) hT62 ?_)))))
      refine O_q (by exact Sq.cell hlv (te_lens q0) hH63.top1 rfl (i := j) rfl (r := teRow x) (te_get hxi) (by decide)) fun v66 hv65 => ?_
      obtain ⟨rb67, ro68, rfl, hrg69, hrt70, hrb71, hput72, hqs73⟩ := hv65
      refine pf (.p (some (rb67, (ro68 + 0)))) rfl rfl (O_p (.agg [(.i .u8 x.e.c.k), (.i .u8 x.e.c.f), (.i .u32 x.e.a), (.i .u32 x.e.c.b), (.i .u16 x.e.c.o), (.i .u16 x.e.c.i), (.i .u32 x.e.c.p), x.e.c.x1, x.e.c.x2, x.e.c.x3, x.e.c.x4, x.dv]) (r_ldRA (q := 0) rfl ⟨_, _, hrg69, hrt70⟩ rfl) ?_)
      refine O_alloc fun n74 H75 hN76 => ?_
      have hH77 := hH63.new hN76
      refine O_store (vs := [(.i .u8 x.e.c.k), (.i .u8 x.e.c.f), (.i .u32 x.e.a), (.i .u32 x.e.c.b), (.i .u16 x.e.c.o), (.i .u16 x.e.c.i), (.i .u32 x.e.c.p), x.e.c.x1, x.e.c.x2, x.e.c.x3, x.e.c.x4, x.dv]) (c' := [(.i .u8 x.e.c.k), (.i .u8 x.e.c.f), (.i .u32 x.e.a), (.i .u32 x.e.c.b), (.i .u16 x.e.c.o), (.i .u16 x.e.c.i), (.i .u32 x.e.c.p), x.e.c.x1, x.e.c.x2, x.e.c.x3, x.e.c.x4, x.dv]) rfl (by rfl) hH77.get0 rfl (List.cons_ne_nil _ _) (Nat.le_of_ble_eq_true rfl) (putAt_all rfl) fun H78 hW79 => ?_
      have hH80 := hH77.wr0 hW79
      refine O_nil  (C_seq  (C_seq  (C_region  (pv (pT F 0) hT59 (O_p (pT F 0) (r_nilc rfl) (pf (pT F 0) rfl rfl (O_p lv (r_ld rfl hH80.get1 rfl) (pv (nI j) hT62 ?_))))))))
      refine O_q (by exact Sq.cell hlv (te_lens q0) hH80.top2 rfl (i := j) rfl (r := teRow x) (te_get hxi) (by decide)) fun v82 hv81 => ?_
      obtain ⟨rb83, ro84, rfl, hrg85, hrt86, hrb87, hput88, hqs89⟩ := hv81
      refine pf (.p (some (rb83, (ro84 + 13)))) rfl rfl (O_p (.i .i64 x.e.st) (r_ldR (q := 13) rfl ⟨_, _, hrg85, hrt86⟩ rfl) (O_p (.b false) (by exact (by rw [r_neq rfl rfl, decide_eq_true hg4]; rfl)) (pv (.b false) rfl (O_gk rfl (pf (pT n74 1) rfl rfl (O_gk rfl (O_p (.i .u8 x.e.c.f) (r_ld rfl hH80.get0 rfl) (O_gk rfl (O_p (.i .u8 (x.e.c.f / 4)) (by exact (r_quou rfl rfl (by omega) (by omega) (by rw [wrap_u8]; omega))) (O_gk rfl (O_p (.i .u8 ((x.e.c.f / 4) % 2)) (by exact (r_remu rfl rfl (by omega) (by omega))) (O_gk rfl (O_p (.b true) (by exact (by rw [r_eql rfl rfl, decide_eq_true hfr])) ?_)))))))))))))
      refine O_p (.b true) (r_pick_f rfl rfl) (O_nil  ?_)
      refine C_cond (x := true) rfl (fun _ => ?_) (fun h => by cases h)
      refine C_exit  (nx_exit  (bk_hit  (C_region  (pv (nI j) hT62 (O_p (.i .i64 ((((j : Nat)) : Int) + 1)) (by exact (r_addi rfl rfl (wrap_i64 (by omega) (by omega)))) (pv (.i .i64 ((((j : Nat)) : Int) + 1)) rfl (O_nil  ?_)))))))
      have hH90 := (hH80.sub0)
      have hH91 := (((hH90.top2).top2).top2)
      exact ⟨(fwX (q0.map Te.e)) - (j + 1), by omega, ov, oc, (j + 1), rfl, by omega, by rw [fwO_at (te_e hxi), fwS_skip hsk]; exact hov, hH91, hT59, hT60, hT61, rfl⟩
     ·
      have hnk : ¬ (x.e.st = 3 ∨ frB x.e.c.f = true) := fun h9 => by rcases h9 with h9 | h9; omega; rw [hfb, decide_eq_false hfr] at h9; cases h9
      refine C_region  (pv (pT F 0) hT59 (O_p (pT F 0) (r_nilc rfl) (pf (pT F 0) rfl rfl (O_p lv (r_ld rfl hH63.get0 rfl) (pv (nI j) hT62 ?_)))))
      refine O_q (by exact Sq.cell hlv (te_lens q0) hH63.top1 rfl (i := j) rfl (r := teRow x) (te_get hxi) (by decide)) fun v93 hv92 => ?_
      obtain ⟨rb94, ro95, rfl, hrg96, hrt97, hrb98, hput99, hqs100⟩ := hv92
      refine pf (.p (some (rb94, (ro95 + 0)))) rfl rfl (O_p (.agg [(.i .u8 x.e.c.k), (.i .u8 x.e.c.f), (.i .u32 x.e.a), (.i .u32 x.e.c.b), (.i .u16 x.e.c.o), (.i .u16 x.e.c.i), (.i .u32 x.e.c.p), x.e.c.x1, x.e.c.x2, x.e.c.x3, x.e.c.x4, x.dv]) (r_ldRA (q := 0) rfl ⟨_, _, hrg96, hrt97⟩ rfl) ?_)
      refine O_alloc fun n101 H102 hN103 => ?_
      have hH104 := hH63.new hN103
      refine O_store (vs := [(.i .u8 x.e.c.k), (.i .u8 x.e.c.f), (.i .u32 x.e.a), (.i .u32 x.e.c.b), (.i .u16 x.e.c.o), (.i .u16 x.e.c.i), (.i .u32 x.e.c.p), x.e.c.x1, x.e.c.x2, x.e.c.x3, x.e.c.x4, x.dv]) (c' := [(.i .u8 x.e.c.k), (.i .u8 x.e.c.f), (.i .u32 x.e.a), (.i .u32 x.e.c.b), (.i .u16 x.e.c.o), (.i .u16 x.e.c.i), (.i .u32 x.e.c.p), x.e.c.x1, x.e.c.x2, x.e.c.x3, x.e.c.x4, x.dv]) rfl (by rfl) hH104.get0 rfl (List.cons_ne_nil _ _) (Nat.le_of_ble_eq_true rfl) (putAt_all rfl) fun H105 hW106 => ?_
      have hH107 := hH104.wr0 hW106
      refine O_nil  (C_seq  (C_seq  (C_region  (pv (pT F 0) hT59 (O_p (pT F 0) (r_nilc rfl) (pf (pT F 0) rfl rfl (O_p lv (r_ld rfl hH107.get1 rfl) (pv (nI j) hT62 ?_))))))))
      refine O_q (by exact Sq.cell hlv (te_lens q0) hH107.top2 rfl (i := j) rfl (r := teRow x) (te_get hxi) (by decide)) fun v109 hv108 => ?_
      obtain ⟨rb110, ro111, rfl, hrg112, hrt113, hrb114, hput115, hqs116⟩ := hv108
      refine pf (.p (some (rb110, (ro111 + 13)))) rfl rfl (O_p (.i .i64 x.e.st) (r_ldR (q := 13) rfl ⟨_, _, hrg112, hrt113⟩ rfl) (O_p (.b false) (by exact (by rw [r_neq rfl rfl, decide_eq_true hg4]; rfl)) (pv (.b false) rfl (O_gk rfl (pf (pT n101 1) rfl rfl (O_gk rfl (O_p (.i .u8 x.e.c.f) (r_ld rfl hH107.get0 rfl) (O_gk rfl (O_p (.i .u8 (x.e.c.f / 4)) (by exact (r_quou rfl rfl (by omega) (by omega) (by rw [wrap_u8]; omega))) (O_gk rfl (O_p (.i .u8 ((x.e.c.f / 4) % 2)) (by exact (r_remu rfl rfl (by omega) (by omega))) (O_gk rfl (O_p (.b false) (by exact (by rw [r_eql rfl rfl, decide_eq_false hfr])) ?_)))))))))))))
      refine O_p (.b false) (r_pick_f rfl rfl) (O_nil  ?_)
      refine C_cond (x := false) rfl (fun h => by cases h) (fun _ => ?_)
      refine C_skip  (C_seq  (C_region  (pv (.i .i64 0) rfl (O_nil  (C_seq  (C_block  ?_))))))
      have hH117 := (((hH107.top3).top3).top3)
      refine C_while (fun m118 T119 H120 => ∃ k : Nat, m118 = (fwO ((q0.map Te.e).take j)).length - k ∧ k ≤ (fwO ((q0.map Te.e).take j)).length ∧ k ≤ (fwO ((q0.map Te.e).take j)).findIdx (skP x.e.c.o) ∧ Hs H120 ([(F, some (.cells ([lv, (.i .u32 nx), (.i .i64 cn)]) true))] ++ ((qseg lv lc) ++ ((qseg ov oc) ++ ([(n101, some (.cells ([(.i .u8 x.e.c.k), (.i .u8 x.e.c.f), (.i .u32 x.e.a), (.i .u32 x.e.c.b), (.i .u16 x.e.c.o), (.i .u16 x.e.c.i), (.i .u32 x.e.c.p), x.e.c.x1, x.e.c.x2, x.e.c.x3, x.e.c.x4, x.dv]) true))] ++ (R))))) ∧ T119.get 0 = (.p (some (F, 0))) ∧ T119.get 5 = (.i .i64 la) ∧ T119.get 7 = ov ∧ T119.get 8 = (.i .i64 (((j : Nat)) : Int)) ∧ T119.get 9 = (.p (some (n101, 0))) ∧ T119.get 10 = (.i .i64 (((k : Nat)) : Int))) (fun m118 T119 H120 hI121 => ?_) (fwO ((q0.map Te.e).take j)).length _ _ ⟨0, rfl, Nat.zero_le _, Nat.zero_le _, hH117, hT59, hT60, hT61, hT62, rfl, rfl⟩
      obtain ⟨k, hm122, hp123, hp124, hH131, hT125, hT126, hT127, hT128, hT129, hT130⟩ := hI121
      refine C_seq  (C_seq  ?_)
      by_cases hkl : k < (fwO ((q0.map Te.e).take j)).length
      ·
       obtain ⟨p, hpk⟩ : ∃ p, (fwO ((q0.map Te.e).take j))[k]? = some p := ⟨_, List.getElem?_eq_getElem hkl⟩
       refine C_draw fun b132 H133 hbase134 hA135 => ?_
       have hH136 := hH131.keep (by have := hA135.1; omega) (fun q _ => hA135.2 q) ((hH131.old).aside hA135).ok
       refine D_l (v := (nI k)) rfl rfl rfl (r_mv hT130) (D_l (v := ov) rfl rfl rfl (r_mv hT127) (D_l (v := (.i .i64 ((((fwO ((q0.map Te.e).take j)).length : Nat)) : Int))) rfl rfl rfl (by exact (by exact r_lenOf rfl (hov.lenOf ((flat_len (sk_lens (fwO ((q0.map Te.e).take j)))).trans (by rw [List.length_map])) (by decide)) hov.isSl)) (D_l (v := (.b true)) rfl rfl rfl (by exact (by rw [r_lss rfl rfl, decide_eq_true (by omega)])) (D_l (v := (.b true)) rfl rfl rfl (r_mv rfl) (D_gk rfl (D_l (v := ov) rfl rfl rfl (r_mv hT127) (D_gk rfl (D_l (v := (nI k)) rfl rfl rfl (r_mv hT130) (D_gk rfl ?_)))))))))
       refine D_q rfl rfl rfl (by exact Sq.cell hov (sk_lens (fwO ((q0.map Te.e).take j))) hH136.top2 rfl (i := k) rfl (r := [(.i .u16 p.1), (.i .u16 p.2)]) (sk_get hpk) (by decide)) fun v138 hv137 => ?_
       obtain ⟨rb139, ro140, rfl, hrg141, hrt142, hrb143, hput144, hqs145⟩ := hv137
       refine D_gk rfl (D_l (v := (.p (some (rb139, (ro140 + 0))))) rfl rfl rfl (r_fadd' rfl rfl) (D_gk rfl (D_l (v := (pT n101 4)) rfl rfl rfl (r_fadd' hT129 rfl) (D_gk rfl (D_r (v := (.i .u16 p.1)) rfl rfl rfl (r_ldR (q := 0) rfl ⟨_, _, hrg141, hrt142⟩ rfl) (D_gk rfl (D_r (v := (.i .u16 x.e.c.o)) rfl rfl rfl (r_ld rfl hH136.get3 rfl) (D_gk rfl (D_l (v := (.b (!decide (p.1 = x.e.c.o)))) rfl rfl rfl (r_neq rfl rfl) (D_l (v := (.b (!decide (p.1 = x.e.c.o)))) rfl rfl rfl (r_pick_t rfl rfl) (D_nil  ?_)))))))))))
       refine C_cond (x := (!decide (p.1 = x.e.c.o))) rfl (fun hc146 => ?_) (fun hc146 => ?_)
       ·
        try simp only [dz1, dz2, dz3, dz4, dz5, dz6, dz7, dz8, dz9] at hc146
        have hpe : ¬ p.1 = x.e.c.o := by simpa using hc146
        refine C_skip  (C_block  (C_region  (pv (nI k) hT130 (O_p (.i .i64 ((((k : Nat)) : Int) + 1)) (by exact (r_addi rfl rfl (wrap_i64 (by omega) (by omega)))) (pv (.i .i64 ((((k : Nat)) : Int) + 1)) rfl (O_nil  ?_))))))
        have hH147 := ((((hH136.top3).top3).top3).top3)
        exact ⟨(fwO ((q0.map Te.e).take j)).length - (k + 1), by omega, (k + 1), rfl, by omega, fx_next hp124 hpk (decide_eq_false hpe), hH147, hT125, hT126, hT127, hT128, hT129, rfl⟩
       ·
        try simp only [dz1, dz2, dz3, dz4, dz5, dz6, dz7, dz8, dz9] at hc146
        have hpe : p.1 = x.e.c.o := by simpa using hc146
        refine C_exit  (nx_exit  (nx_exit  (bk_hit  (C_seq  (C_seq  (C_region  ?_))))))
        have hfk := fx_at hp124 hpk (decide_eq_true hpe)
        refine pv (nI k) hT130 (pv ov hT127 (O_p (.i .i64 ((((fwO ((q0.map Te.e).take j)).length : Nat)) : Int)) (by exact (by exact r_lenOf rfl (hov.lenOf ((flat_len (sk_lens (fwO ((q0.map Te.e).take j)))).trans (by rw [List.length_map])) (by decide)) hov.isSl)) (O_p (.b false) (by exact (by rw [r_eql rfl rfl, decide_eq_false (by omega)])) (O_nil  ?_))))
        refine C_cond (x := false) rfl (fun h => by cases h) (fun _ => ?_)
        refine C_skip  (C_region  (pv ov hT127 (pv (nI k) hT130 (O_p (pT n101 5) (r_fadd' hT129 rfl) (O_p (.i .u16 x.e.c.i) (r_ld rfl hH136.get3 rfl) ?_)))))
        refine O_q (by exact Sq.cell hov (sk_lens (fwO ((q0.map Te.e).take j))) hH136.top2 rfl (i := k) rfl (r := [(.i .u16 p.1), (.i .u16 p.2)]) (sk_get hpk) (by decide)) fun v149 hv148 => ?_
        obtain ⟨rb150, ro151, rfl, hrg152, hrt153, hrb154, hput155, hqs156⟩ := hv148
        refine pf (.p (some (rb150, (ro151 + 1)))) rfl rfl ?_
        refine O_store (vs := [(.i .u16 x.e.c.i)]) (c' := (putAt oc (ro151 + 1) [(.i .u16 x.e.c.i)])) rfl (by rfl) hrg152 rfl (List.cons_ne_nil _ _) (by have := hrb154; show _ + 1 ≤ _; omega) rfl fun H157 hW158 => ?_
        have hH160 := Hs.cong2 (Hs.wr2 (Hs.cong2 hH136 (hqs156 _)) hW158) (hqs156 _).symm
        have hSq159 := hput155 1 [(.i .u16 x.e.c.i)] [(.i .u16 p.1), (.i .u16 x.e.c.i)] (Nat.le_of_ble_eq_true rfl) rfl
        refine O_nil  (C_region  (pv (nI j) hT128 (O_p (.i .i64 ((((j : Nat)) : Int) + 1)) (by exact (r_addi rfl rfl (wrap_i64 (by omega) (by omega)))) (pv (.i .i64 ((((j : Nat)) : Int) + 1)) rfl (O_nil  ?_)))))
        have hH161 := (hH160.sub3)
        have hH162 := (((hH161.top2).top2).top2)
        exact ⟨(fwX (q0.map Te.e)) - (j + 1), by omega, ov, (putAt oc (ro151 + 1) [(.i .u16 x.e.c.i)]), (j + 1), rfl, by omega, by rw [fwO_at (te_e hxi), fwS_old hnk hfk hkl]; have h9 := hSq159; rw [hpe, sk_set (p := (x.e.c.o, x.e.c.i))] at h9; exact h9, hH162, hT125, hT126, hT127, rfl⟩
      ·
       have hkl2 := hkl
       clear hkl
       have hkl : k = (fwO ((q0.map Te.e).take j)).length := by omega
       refine C_draw fun b163 H164 hbase165 hA166 => ?_
       have hH167 := hH131.keep (by have := hA166.1; omega) (fun q _ => hA166.2 q) ((hH131.old).aside hA166).ok
       refine D_l (v := (nI k)) rfl rfl rfl (r_mv hT130) (D_l (v := ov) rfl rfl rfl (r_mv hT127) (D_l (v := (.i .i64 ((((fwO ((q0.map Te.e).take j)).length : Nat)) : Int))) rfl rfl rfl (by exact (by exact r_lenOf rfl (hov.lenOf ((flat_len (sk_lens (fwO ((q0.map Te.e).take j)))).trans (by rw [List.length_map])) (by decide)) hov.isSl)) (D_l (v := (.b false)) rfl rfl rfl (by exact (by rw [r_lss rfl rfl, decide_eq_false (by omega)])) (D_l (v := (.b false)) rfl rfl rfl (r_mv rfl) (D_gf rfl (D_gf rfl (D_gf rfl (D_gf rfl (D_gf rfl (D_gf rfl (D_gf rfl (D_gf rfl (D_l (v := (.b false)) rfl rfl rfl (r_pick_f rfl rfl) ?_)))))))))))))
       refine D_nil  ?_
       refine C_cond (x := false) rfl (fun h => by cases h) (fun _ => ?_)
       refine C_exit  (nx_exit  (nx_exit  (bk_hit  (C_seq  (C_seq  (C_region  (pv (nI k) hT130 (pv ov hT127 (O_p (.i .i64 ((((fwO ((q0.map Te.e).take j)).length : Nat)) : Int)) (by exact (by exact r_lenOf rfl (hov.lenOf ((flat_len (sk_lens (fwO ((q0.map Te.e).take j)))).trans (by rw [List.length_map])) (by decide)) hov.isSl)) (O_p (.b true) (by exact (by rw [r_eql rfl rfl, decide_eq_true (by omega)])) (O_nil  ?_)))))))))))
       refine C_cond (x := true) rfl (fun _ => ?_) (fun h => by cases h)
       refine C_region  (pv ov hT127 (O_p (pT n101 4) (r_fadd' hT129 rfl) (O_p (.i .u16 x.e.c.o) (r_ld rfl hH167.get3 rfl) (O_p (.agg [(.i .u16 x.e.c.o), (.i .u16 0)]) (r_build rfl) ?_))))
       refine O_bslice (c := [(.i .u16 x.e.c.o), (.i .u16 0)]) rfl fun n168 H169 hN170 => ?_
       have hH171 := hH167.new hN170
       refine O_qh (by exact r_appq (n := (fwO ((q0.map Te.e).take j)).length) (k := 1) (new := [(.i .u16 x.e.c.o), (.i .u16 0)]) hH171.top3 hov rfl rfl rfl (src_blk hH171.get0 (by rfl)) rfl (by decide) (by decide) ((flat_len (sk_lens (fwO ((q0.map Te.e).take j)))).trans (by rw [List.length_map])) (by first | omega | (simp only [List.length_take, List.length_drop, List.length_append, List.length_cons, List.length_nil, beN_len] <;> omega))) fun o172 H173 hA175 => ?_
       obtain ⟨c174, hA175, hH176⟩ := hA175
       refine pv o172 rfl (O_nil  (C_region  ?_))
       have hs177 : Sq 2 o172 c174 (((fwO ((q0.map Te.e).take j)) ++ [(x.e.c.o, 0)]).map skR).flatten := by rw [sk_app]; exact hA175
       refine pv o172 rfl (pv (nI k) hT130 (O_p (pT n101 5) (r_fadd' hT129 rfl) (O_p (.i .u16 x.e.c.i) (r_ld rfl hH176.get4 rfl) ?_)))
       refine O_q (by exact Sq.cell hs177 (sk_lens ((fwO ((q0.map Te.e).take j)) ++ [(x.e.c.o, 0)])) hH176.top0 rfl (i := k) rfl (r := [(.i .u16 x.e.c.o), (.i .u16 0)]) (sk_get (p := (x.e.c.o, 0)) (by rw [hkl, List.getElem?_append_right (Nat.le_refl _), Nat.sub_self]; rfl)) (by decide)) fun v179 hv178 => ?_
       obtain ⟨rb180, ro181, rfl, hrg182, hrt183, hrb184, hput185, hqs186⟩ := hv178
       refine pf (.p (some (rb180, (ro181 + 1)))) rfl rfl ?_
       refine O_store (vs := [(.i .u16 x.e.c.i)]) (c' := (putAt c174 (ro181 + 1) [(.i .u16 x.e.c.i)])) rfl (by rfl) hrg182 rfl (List.cons_ne_nil _ _) (by have := hrb184; show _ + 1 ≤ _; omega) rfl fun H187 hW188 => ?_
       have hH190 := Hs.cong0 (Hs.wr0 (Hs.cong0 hH176 (hqs186 _)) hW188) (hqs186 _).symm
       have hSq189 := hput185 1 [(.i .u16 x.e.c.i)] [(.i .u16 x.e.c.o), (.i .u16 x.e.c.i)] (Nat.le_of_ble_eq_true rfl) rfl
       refine O_nil  (C_region  (pv (nI j) hT128 (O_p (.i .i64 ((((j : Nat)) : Int) + 1)) (by exact (r_addi rfl rfl (wrap_i64 (by omega) (by omega)))) (pv (.i .i64 ((((j : Nat)) : Int) + 1)) rfl (O_nil  ?_)))))
       have hH191 := ((hH190.sub1).sub3)
       have hH192 := ((hH191.top2).top2)
       exact ⟨(fwX (q0.map Te.e)) - (j + 1), by omega, o172, (putAt c174 (ro181 + 1) [(.i .u16 x.e.c.i)]), (j + 1), rfl, by omega, by rw [fwO_at (te_e hxi), fwS_new hnk (by omega)]; have h9 := hSq189; rw [sk_set (p := (x.e.c.o, x.e.c.i)), hkl, set_end] at h9; exact h9, hH192, hT125, hT126, rfl, rfl⟩
    ·
     have hsk : x.e.st = 3 ∨ frB x.e.c.f = true := .inl (by omega)
     refine C_region  (pv (pT F 0) hT59 (O_p (pT F 0) (r_nilc rfl) (pf (pT F 0) rfl rfl (O_p lv (r_ld rfl hH63.get0 rfl) (pv (nI j) hT62 ?_)))))
     refine O_q (by exact Sq.cell hlv (te_lens q0) hH63.top1 rfl (i := j) rfl (r := teRow x) (te_get hxi) (by decide)) fun v194 hv193 => ?_
     obtain ⟨rb195, ro196, rfl, hrg197, hrt198, hrb199, hput200, hqs201⟩ := hv193
     refine pf (.p (some (rb195, (ro196 + 0)))) rfl rfl (O_p (.agg [(.i .u8 x.e.c.k), (.i .u8 x.e.c.f), (.i .u32 x.e.a), (.i .u32 x.e.c.b), (.i .u16 x.e.c.o), (.i .u16 x.e.c.i), (.i .u32 x.e.c.p), x.e.c.x1, x.e.c.x2, x.e.c.x3, x.e.c.x4, x.dv]) (r_ldRA (q := 0) rfl ⟨_, _, hrg197, hrt198⟩ rfl) ?_)
     refine O_alloc fun n202 H203 hN204 => ?_
     have hH205 := hH63.new hN204
     refine O_store (vs := [(.i .u8 x.e.c.k), (.i .u8 x.e.c.f), (.i .u32 x.e.a), (.i .u32 x.e.c.b), (.i .u16 x.e.c.o), (.i .u16 x.e.c.i), (.i .u32 x.e.c.p), x.e.c.x1, x.e.c.x2, x.e.c.x3, x.e.c.x4, x.dv]) (c' := [(.i .u8 x.e.c.k), (.i .u8 x.e.c.f), (.i .u32 x.e.a), (.i .u32 x.e.c.b), (.i .u16 x.e.c.o), (.i .u16 x.e.c.i), (.i .u32 x.e.c.p), x.e.c.x1, x.e.c.x2, x.e.c.x3, x.e.c.x4, x.dv]) rfl (by rfl) hH205.get0 rfl (List.cons_ne_nil _ _) (Nat.le_of_ble_eq_true rfl) (putAt_all rfl) fun H206 hW207 => ?_
     have hH208 := hH205.wr0 hW207
     refine O_nil  (C_seq  (C_seq  (C_region  (pv (pT F 0) hT59 (O_p (pT F 0) (r_nilc rfl) (pf (pT F 0) rfl rfl (O_p lv (r_ld rfl hH208.get1 rfl) (pv (nI j) hT62 ?_))))))))
     refine O_q (by exact Sq.cell hlv (te_lens q0) hH208.top2 rfl (i := j) rfl (r := teRow x) (te_get hxi) (by decide)) fun v210 hv209 => ?_
     obtain ⟨rb211, ro212, rfl, hrg213, hrt214, hrb215, hput216, hqs217⟩ := hv209
     refine pf (.p (some (rb211, (ro212 + 13)))) rfl rfl (O_p (.i .i64 x.e.st) (r_ldR (q := 13) rfl ⟨_, _, hrg213, hrt214⟩ rfl) (O_p (.b true) (by exact (by rw [r_neq rfl rfl, decide_eq_false hg4]; rfl)) (pv (.b true) rfl (O_gf rfl (O_gf rfl (O_gf rfl (O_gf rfl (O_gf rfl (O_p (.b true) (r_pick_t rfl rfl) (O_nil  ?_))))))))))
     refine C_cond (x := true) rfl (fun _ => ?_) (fun h => by cases h)
     refine C_exit  (nx_exit  (bk_hit  (C_region  (pv (nI j) hT62 (O_p (.i .i64 ((((j : Nat)) : Int) + 1)) (by exact (r_addi rfl rfl (wrap_i64 (by omega) (by omega)))) (pv (.i .i64 ((((j : Nat)) : Int) + 1)) rfl (O_nil  ?_)))))))
     have hH218 := (hH208.sub0)
     have hH219 := (((hH218.top2).top2).top2)
     exact ⟨(fwX (q0.map Te.e)) - (j + 1), by omega, ov, oc, (j + 1), rfl, by omega, by rw [fwO_at (te_e hxi), fwS_skip hsk]; exact hov, hH219, hT59, hT60, hT61, rfl⟩
   ·
    try simp only [dz1, dz2, dz3, dz4, dz5, dz6, dz7, dz8, dz9] at hc64
    refine C_exit  (nx_exit  (nx_exit  (bk_hit  (C_seq  (C_region  ?_)))))
    have hjx : j = (fwX (q0.map Te.e)) := by omega
    have hlan : la = ((((fwX (q0.map Te.e)) - 1 : Nat)) : Int) := by omega
    obtain ⟨x, hxi⟩ : ∃ x, q0[(fwX (q0.map Te.e)) - 1]? = some x := ⟨_, List.getElem?_eq_getElem (by omega)⟩
    refine pv (pT F 0) hT59 (O_p (pT F 0) (r_nilc rfl) (pf (pT F 0) rfl rfl (O_p lv (r_ld rfl hH63.get0 rfl) (O_p (.i .i64 (((((fwX (q0.map Te.e)) - 1) : Nat)) : Int)) (by exact (r_mv (Eq.trans hT60 (by rw [hlan])))) ?_))))
    refine O_q (by exact Sq.cell hlv (te_lens q0) hH63.top1 rfl (i := ((fwX (q0.map Te.e)) - 1)) rfl (r := teRow x) (te_get hxi) (by decide)) fun v221 hv220 => ?_
    obtain ⟨rb222, ro223, rfl, hrg224, hrt225, hrb226, hput227, hqs228⟩ := hv220
    refine pf (.p (some (rb222, (ro223 + 0)))) rfl rfl (pf (.p (some (rb222, (ro223 + 2)))) rfl rfl (O_p (.i .u32 x.e.a) (r_ldR (q := 2) rfl ⟨_, _, hrg224, hrt225⟩ rfl) (pv ov hT61 (pv (.i .u32 x.e.a) rfl (pv ov rfl (pv (.b true) rfl (O_nil  (C_ret  ?_))))))))
    have hH229 := (((hH63.top1).top1).top2)
    have hH230 := (((hH229.top2).top2).top2)
    exact ⟨.inr rfl, _, resL_cons (r_tmp (v := (.i .u32 x.e.a)) rfl) (resL_cons (r_tmp (v := ov) rfl) (resL_one (r_tmp (v := (.b true)) rfl))), ov, oc, by unfold fwM; rw [if_neg (by omega), te_e hxi, decide_eq_true hla2]; rfl, by rw [← hjx]; exact hov, hH230⟩
set_option linter.unusedVariables false
set_option linter.unusedSimpArgs false
theorem same06_ev {H : AH} {R B : HL} {v : AV} {rows : List (List AV)} (hv : ∀ H', Hs H' B → Rw 2 H' v rows) (hq : ∀ (i : Nat) (r : List AV), rows[i]? = some r → PmQ B r) (hl : rows.length ≤ 9223372036854775807) (hH0 : Hs H (B ++ R)) : Ev tabA spA (.fn (.func 75) [] []) [v, v] H (fun r H' => r = .b true ∧ Hs H' (B ++ R)) := by
 refine Ev_C (F := x75) rfl ?_
 refine C_seq  (C_region  (pv (.b false) rfl (O_nil  (C_seq  (C_seq  (C_region  (pv v rfl (O_p (.i .i64 (((rows.length : Nat)) : Int)) (r_lenOf (v := v) (n := rows.length) rfl ((hv _ hH0.top0.fst).lenOf rfl) (hv _ hH0.top0.fst).isSl) (pv v rfl (O_p (.i .i64 (((rows.length : Nat)) : Int)) (r_lenOf (v := v) (n := rows.length) rfl ((hv _ hH0.top0.fst).lenOf rfl) (hv _ hH0.top0.fst).isSl) (O_p (.b false) (r_nqq rfl rfl) (O_nil  ?_))))))))))))
 refine C_cond (x := false) rfl (fun h => by cases h) (fun _ => ?_)
 refine C_skip  (C_seq  (C_seq  (C_region  (pv (.i .i64 0) rfl (O_nil  (C_block  ?_))))))
 refine C_while (fun m1 T2 H3 => ∃ i : Nat, m1 = rows.length - i ∧ i ≤ rows.length ∧ Hs H3 (B ++ (R)) ∧ T2.get 0 = v ∧ T2.get 1 = v ∧ T2.get 5 = (.i .i64 (((i : Nat)) : Int))) (fun m1 T2 H3 hI4 => ?_) rows.length _ _ ⟨0, rfl, Nat.zero_le _, hH0, rfl, rfl, rfl⟩
 obtain ⟨i, hm5, hp6, hH10, hT7, hT8, hT9⟩ := hI4
 refine C_seq  (C_seq  (C_region  (pv (nI i) hT9 (pv v hT7 (O_p (.i .i64 (((rows.length : Nat)) : Int)) (r_lenOf (v := v) (n := rows.length) rfl ((hv _ hH10.top0.fst).lenOf rfl) (hv _ hH10.top0.fst).isSl) (O_p (.b (decide ((((i : Nat)) : Int) < (((rows.length : Nat)) : Int)))) (r_lss rfl rfl) (O_nil  ?_)))))))
 refine C_cond (x := (decide ((((i : Nat)) : Int) < (((rows.length : Nat)) : Int)))) rfl (fun hc11 => ?_) (fun hc11 => ?_)
 ·
  try simp only [dz1, dz2, dz3, dz4, dz5, dz6, dz7, dz8, dz9] at hc11
  refine C_skip  (C_seq  (C_block  (C_seq  ?_)))
  refine C_draw fun b12 H13 hbase14 hA15 => ?_
  have hH16 := hH10.keep (by have := hA15.1; omega) (fun q _ => hA15.2 q) ((hH10.old).aside hA15).ok
  have hil : i < rows.length := by omega
  obtain ⟨r, hri⟩ : ∃ r, rows[i]? = some r := ⟨_, List.getElem?_eq_getElem hil⟩
  obtain ⟨pk, pa, pc, pd, rfl, _, hpb⟩ := hq i r hri
  refine D_l (v := v) rfl rfl rfl (r_mv hT7) (D_l (v := (nI i)) rfl rfl rfl (r_mv hT9) ?_)
  refine D_q rfl rfl rfl (by exact Rw.row (hv _ hH16.top0.fst) rfl (i := i) rfl (r := [(.i .u16 pk), (.sl pa pd.length pc 0)]) hri) fun v18 hv17 => ?_
  obtain ⟨rb19, ro20, rfl, hr21⟩ := hv17
  refine D_l (v := (.p (some (rb19, (ro20 + 0))))) rfl rfl rfl (r_fadd' rfl rfl) (D_l (v := v) rfl rfl rfl (r_mv hT8) (D_l (v := (nI i)) rfl rfl rfl (r_mv hT9) ?_))
  refine D_q rfl rfl rfl (by exact Rw.row (hv _ hH16.top0.fst) rfl (i := i) rfl (r := [(.i .u16 pk), (.sl pa pd.length pc 0)]) hri) fun v23 hv22 => ?_
  obtain ⟨rb24, ro25, rfl, hr26⟩ := hv22
  refine D_l (v := (.p (some (rb24, (ro25 + 0))))) rfl rfl rfl (r_fadd' rfl rfl) (D_r (v := (.i .u16 pk)) rfl rfl rfl (r_ldR (q := 0) rfl (hr21 _ (hv _ hH16.top0.fst)) rfl) (D_r (v := (.i .u16 pk)) rfl rfl rfl (r_ldR (q := 0) rfl (hr26 _ (hv _ hH16.top0.fst)) rfl) (D_l (v := (.b false)) rfl rfl rfl (r_nqq rfl rfl) (D_l (v := (.b false)) rfl rfl rfl (r_mv rfl) (D_gk rfl (D_l (v := v) rfl rfl rfl (r_mv hT7) (D_gk rfl (D_l (v := (nI i)) rfl rfl rfl (r_mv hT9) (D_gk rfl ?_)))))))))
  refine D_q rfl rfl rfl (by exact Rw.row (hv _ hH16.top0.fst) rfl (i := i) rfl (r := [(.i .u16 pk), (.sl pa pd.length pc 0)]) hri) fun v28 hv27 => ?_
  obtain ⟨rb29, ro30, rfl, hr31⟩ := hv27
  refine D_gk rfl (D_l (v := (.p (some (rb29, (ro30 + 1))))) rfl rfl rfl (r_fadd' rfl rfl) (D_gk rfl (D_l (v := v) rfl rfl rfl (r_mv hT8) (D_gk rfl (D_l (v := (nI i)) rfl rfl rfl (r_mv hT9) (D_gk rfl ?_))))))
  refine D_q rfl rfl rfl (by exact Rw.row (hv _ hH16.top0.fst) rfl (i := i) rfl (r := [(.i .u16 pk), (.sl pa pd.length pc 0)]) hri) fun v33 hv32 => ?_
  obtain ⟨rb34, ro35, rfl, hr36⟩ := hv32
  refine D_gk rfl (D_l (v := (.p (some (rb34, (ro35 + 1))))) rfl rfl rfl (r_fadd' rfl rfl) (D_gk rfl (D_r (v := (.sl pa pd.length pc 0)) rfl rfl rfl (r_ldR (q := 1) rfl (hr31 _ (hv _ hH16.top0.fst)) rfl) (D_gk rfl (D_r (v := (.s (txt pd))) rfl rfl rfl ((hpb _ hH16.top0.fst).text rfl) (D_gk rfl (D_r (v := (.sl pa pd.length pc 0)) rfl rfl rfl (r_ldR (q := 1) rfl (hr36 _ (hv _ hH16.top0.fst)) rfl) (D_gk rfl (D_r (v := (.s (txt pd))) rfl rfl rfl ((hpb _ hH16.top0.fst).text rfl) (D_gk rfl (D_l (v := (.b false)) rfl rfl rfl (by exact (by rw [r_eqtn (a := pd) (b := pd) rfl rfl, decide_eq_true rfl]; rfl)) (D_l (v := (.b false)) rfl rfl rfl (r_pick_f rfl rfl) (D_nil  ?_)))))))))))))
  refine C_cond (x := false) rfl (fun h => by cases h) (fun _ => ?_)
  refine C_skip  (C_region  (pv (nI i) hT9 (O_p (.i .i64 ((((i : Nat)) : Int) + 1)) (by exact (r_addi rfl rfl (wrap_i64 (by omega) (by omega)))) (pv (.i .i64 ((((i : Nat)) : Int) + 1)) rfl (O_nil  ?_)))))
  exact ⟨rows.length - (i + 1), by omega, (i + 1), rfl, by omega, hH16, hT7, hT8, rfl⟩
 ·
  try simp only [dz1, dz2, dz3, dz4, dz5, dz6, dz7, dz8, dz9] at hc11
  refine C_exit  (nx_exit  (nx_exit  (bk_hit  (C_seq  (C_region  (pv (.b true) rfl (O_nil  (C_ret  ?_))))))))
  exact ⟨.inr rfl, _, resL_one (r_tmp (v := (.b true)) rfl), rfl, hH10⟩
set_option maxHeartbeats 1000000 in
theorem same07_ev {H : AH} {R D B : HL} {c : Cx} {a : Int} {d1 d2 : AV} (hg : CxG B c) (h1 : OctIn D d1 c.d) (h2 : OctIn B d2 c.d) (hH0 : Hs H (D ++ (B ++ R))) : Ev tabA spA (.fn (.func 68) [] []) [.agg (cxRow c a d1), .agg (cxRow c a d2)] H (fun r H' => r = .b true ∧ Hs H' (D ++ (B ++ R))) := by
 obtain ⟨pa, pc, pg, rfl, phg, phc, phm, phb⟩ := h1
 obtain ⟨qa, qc, qg, rfl, qhg, qhc, qhm, qhb⟩ := h2
 obtain ⟨a7, n7, c7, r7, e7, m7, l7, w7, q7⟩ := hg.b
 obtain ⟨a8, n8, c8, r8, e8, m8, l8, w8, q8⟩ := hg.d
 obtain ⟨a9, n9, c9, r9, e9, m9, l9, w9, q9⟩ := hg.s
 obtain ⟨a10, n10, c10, r10, e10, m10, l10, w10, q10⟩ := hg.p
 rw [e7] at w7
 rw [e8] at w8
 rw [e9] at w9
 rw [e10] at w10
 unfold cxRow
 rw [e7, e8, e9, e10]
 refine Ev_C (F := x68) rfl ?_
 refine C_seq  (C_region  ?_)
 refine O_box (z := [(.i .u8 c.k), (.i .u8 c.f), (.i .u32 a), (.i .u32 c.b), (.i .u16 c.o), (.i .u16 c.i), (.i .u32 c.p), (.sl a7 n7 c7 0), (.sl a8 n8 c8 0), (.sl a9 n9 c9 0), (.sl a10 n10 c10 0), (.sl pa c.d.length pc pg)]) rfl fun n1 H2 hN3 => ?_
 have hH4 := hH0.new hN3
 refine O_box (z := [(.i .u8 c.k), (.i .u8 c.f), (.i .u32 a), (.i .u32 c.b), (.i .u16 c.o), (.i .u16 c.i), (.i .u32 c.p), (.sl a7 n7 c7 0), (.sl a8 n8 c8 0), (.sl a9 n9 c9 0), (.sl a10 n10 c10 0), (.sl qa c.d.length qc qg)]) rfl fun n5 H6 hN7 => ?_
 have hH8 := hH4.new hN7
 refine pv (.b false) rfl (O_nil  (C_seq  (C_seq  (C_region  (pf (pT n1 0) rfl rfl (O_p (.i .u8 c.k) (r_ld rfl hH8.get1 rfl) (pf (pT n5 0) rfl rfl (O_p (.i .u8 c.k) (r_ld rfl hH8.get0 rfl) (O_p (.b false) (r_nqq rfl rfl) (pv (.b false) rfl (O_gk rfl (pf (pT n1 1) rfl rfl (O_gk rfl ?_)))))))))))))
 refine O_p (.i .u8 c.f) (r_ld rfl hH8.get1 rfl) (O_gk rfl (pf (pT n5 1) rfl rfl (O_gk rfl (O_p (.i .u8 c.f) (r_ld rfl hH8.get0 rfl) (O_gk rfl (O_p (.b false) (r_nqq rfl rfl) (O_p (.b false) (r_pick_f rfl rfl) (pv (.b false) rfl (O_gk rfl (pf (pT n1 2) rfl rfl (O_gk rfl (O_p (.i .u32 a) (r_ld rfl hH8.get1 rfl) (O_gk rfl ?_)))))))))))))
 refine pf (pT n5 2) rfl rfl (O_gk rfl (O_p (.i .u32 a) (r_ld rfl hH8.get0 rfl) (O_gk rfl (O_p (.b false) (r_nqq rfl rfl) (O_p (.b false) (r_pick_f rfl rfl) (pv (.b false) rfl (O_gk rfl (pf (pT n1 3) rfl rfl (O_gk rfl (O_p (.i .u32 c.b) (r_ld rfl hH8.get1 rfl) (O_gk rfl (pf (pT n5 3) rfl rfl (O_gk rfl ?_)))))))))))))
 refine O_p (.i .u32 c.b) (r_ld rfl hH8.get0 rfl) (O_gk rfl (O_p (.b false) (r_nqq rfl rfl) (O_p (.b false) (r_pick_f rfl rfl) (pv (.b false) rfl (O_gk rfl (pf (pT n1 4) rfl rfl (O_gk rfl (O_p (.i .u16 c.o) (r_ld rfl hH8.get1 rfl) (O_gk rfl (pf (pT n5 4) rfl rfl (O_gk rfl (O_p (.i .u16 c.o) (r_ld rfl hH8.get0 rfl) (O_gk rfl ?_)))))))))))))
 refine O_p (.b false) (r_nqq rfl rfl) (O_p (.b false) (r_pick_f rfl rfl) (pv (.b false) rfl (O_gk rfl (pf (pT n1 5) rfl rfl (O_gk rfl (O_p (.i .u16 c.i) (r_ld rfl hH8.get1 rfl) (O_gk rfl (pf (pT n5 5) rfl rfl (O_gk rfl (O_p (.i .u16 c.i) (r_ld rfl hH8.get0 rfl) (O_gk rfl (O_p (.b false) (r_nqq rfl rfl) (O_p (.b false) (r_pick_f rfl rfl) ?_)))))))))))))
 refine pv (.b false) rfl (O_gk rfl (pf (pT n1 6) rfl rfl (O_gk rfl (O_p (.i .u32 c.p) (r_ld rfl hH8.get1 rfl) (O_gk rfl (pf (pT n5 6) rfl rfl (O_gk rfl (O_p (.i .u32 c.p) (r_ld rfl hH8.get0 rfl) (O_gk rfl (O_p (.b false) (r_nqq rfl rfl) (O_p (.b false) (r_pick_f rfl rfl) (pv (.b false) rfl (O_gk rfl ?_)))))))))))))
 refine pf (pT n1 11) rfl rfl (O_gk rfl (O_p (.sl pa c.d.length pc pg) (r_ld rfl hH8.get1 rfl) (O_gk rfl (O_p (.s (txt c.d)) ((phb _ hH8.top2.fst).text rfl) (O_gk rfl (pf (pT n5 11) rfl rfl (O_gk rfl (O_p (.sl qa c.d.length qc qg) (r_ld rfl hH8.get0 rfl) (O_gk rfl (O_p (.s (txt c.d)) ((qhb _ hH8.top3.fst).text rfl) (O_gk rfl (O_p (.b false) (by exact (by rw [r_eqtn (a := c.d) (b := c.d) rfl rfl, decide_eq_true rfl]; rfl)) (O_p (.b false) (r_pick_f rfl rfl) ?_)))))))))))))
 refine pv (.b false) rfl (O_gk rfl (pf (pT n1 10) rfl rfl (O_gk rfl (O_p (.sl a10 n10 c10 0) (r_ld rfl hH8.get1 rfl) (O_gk rfl (pf (pT n5 10) rfl rfl (O_gk rfl (O_p (.sl a10 n10 c10 0) (r_ld rfl hH8.get0 rfl) (O_gk rfl ?_)))))))))
 have hH9 := (hH8.top3)
 refine O_call (Ev.mono (same06_ev w10 q10 (by omega) hH9) fun v10 H11 hq12 => ?_)
 obtain ⟨rfl, hH13⟩ := hq12
 refine O_gk rfl (O_p (.b false) (r_un rfl rfl) (O_p (.b false) (r_pick_f rfl rfl) (pv (.b false) rfl (O_gk rfl (pf (pT n1 7) rfl rfl (O_gk rfl (O_p (.sl a7 n7 c7 0) (r_ld rfl hH13.get2 rfl) (O_gk rfl (O_p (nI n7) (r_len rfl) (O_gk rfl (pf (pT n5 7) rfl rfl (O_gk rfl (O_p (.sl a7 n7 c7 0) (r_ld rfl hH13.get1 rfl) ?_)))))))))))))
 refine O_gk rfl (O_p (nI n7) (r_len rfl) (O_gk rfl (O_p (.b false) (r_nqq rfl rfl) (O_p (.b false) (r_pick_f rfl rfl) (pv (.b false) rfl (O_gk rfl (pf (pT n1 8) rfl rfl (O_gk rfl (O_p (.sl a8 n8 c8 0) (r_ld rfl hH13.get2 rfl) (O_gk rfl (O_p (nI n8) (r_len rfl) (O_gk rfl (pf (pT n5 8) rfl rfl ?_)))))))))))))
 refine O_gk rfl (O_p (.sl a8 n8 c8 0) (r_ld rfl hH13.get1 rfl) (O_gk rfl (O_p (nI n8) (r_len rfl) (O_gk rfl (O_p (.b false) (r_nqq rfl rfl) (O_p (.b false) (r_pick_f rfl rfl) (pv (.b false) rfl (O_gk rfl (pf (pT n1 9) rfl rfl (O_gk rfl (O_p (.sl a9 n9 c9 0) (r_ld rfl hH13.get2 rfl) (O_gk rfl (O_p (nI n9) (r_len rfl) ?_)))))))))))))
 refine O_gk rfl (pf (pT n5 9) rfl rfl (O_gk rfl (O_p (.sl a9 n9 c9 0) (r_ld rfl hH13.get1 rfl) (O_gk rfl (O_p (nI n9) (r_len rfl) (O_gk rfl (O_p (.b false) (r_nqq rfl rfl) (O_p (.b false) (r_pick_f rfl rfl) (O_nil  ?_)))))))))
 refine C_cond (x := false) rfl (fun h => by cases h) (fun _ => ?_)
 refine C_skip  (C_seq  (C_seq  (C_region  (pv (.i .i64 0) rfl (O_nil  (C_block  ?_))))))
 have hH14 := (((hH13.top3).top2).top3)
 refine C_while (fun m15 T16 H17 => ∃ i : Nat, m15 = n7 - i ∧ i ≤ n7 ∧ Hs H17 ([(n1, some (.cells ([(.i .u8 c.k), (.i .u8 c.f), (.i .u32 a), (.i .u32 c.b), (.i .u16 c.o), (.i .u16 c.i), (.i .u32 c.p), (.sl a7 n7 c7 0), (.sl a8 n8 c8 0), (.sl a9 n9 c9 0), (.sl a10 n10 c10 0), (.sl pa c.d.length pc pg)]) true))] ++ ([(n5, some (.cells ([(.i .u8 c.k), (.i .u8 c.f), (.i .u32 a), (.i .u32 c.b), (.i .u16 c.o), (.i .u16 c.i), (.i .u32 c.p), (.sl a7 n7 c7 0), (.sl a8 n8 c8 0), (.sl a9 n9 c9 0), (.sl a10 n10 c10 0), (.sl qa c.d.length qc qg)]) true))] ++ (D ++ (B ++ (R))))) ∧ T16.get 2 = (.p (some (n1, 0))) ∧ T16.get 3 = (.p (some (n5, 0))) ∧ T16.get 5 = (.i .i64 (((i : Nat)) : Int))) (fun m15 T16 H17 hI18 => ?_) n7 _ _ ⟨0, rfl, Nat.zero_le _, hH14, rfl, rfl, rfl⟩
 obtain ⟨i, hm19, hp20, hH24, hT21, hT22, hT23⟩ := hI18
 refine C_seq  (C_seq  (C_region  (pv (nI i) hT23 (O_p (pT n1 7) (r_fadd' hT21 rfl) (O_p (.sl a7 n7 c7 0) (r_ld rfl hH24.get0 rfl) (O_p (nI n7) (r_len rfl) (O_p (.b (decide ((((i : Nat)) : Int) < (((n7 : Nat)) : Int)))) (r_lss rfl rfl) (O_nil  ?_))))))))
 refine C_cond (x := (decide ((((i : Nat)) : Int) < (((n7 : Nat)) : Int)))) rfl (fun hc25 => ?_) (fun hc25 => ?_)
 ·
  try simp only [dz1, dz2, dz3, dz4, dz5, dz6, dz7, dz8, dz9] at hc25
  refine C_skip  (C_seq  (C_block  (C_seq  ?_)))
  refine C_draw fun b26 H27 hbase28 hA29 => ?_
  have hH30 := hH24.keep (by have := hA29.1; omega) (fun q _ => hA29.2 q) ((hH24.old).aside hA29).ok
  have hil : i < n7 := by omega
  obtain ⟨r, hri7⟩ : ∃ r, r7[i]? = some r := ⟨_, List.getElem?_eq_getElem (by omega)⟩
  obtain ⟨u, v, rfl⟩ := q7 i r hri7
  refine D_l (v := (pT n1 7)) rfl rfl rfl (r_fadd' hT21 rfl) (D_l (v := (nI i)) rfl rfl rfl (r_mv hT23) (D_l (v := (pT n5 7)) rfl rfl rfl (r_fadd' hT22 rfl) (D_l (v := (nI i)) rfl rfl rfl (r_mv hT23) (D_r (v := (.sl a7 n7 c7 0)) rfl rfl rfl (r_ld rfl hH30.get0 rfl) ?_))))
  refine D_q rfl rfl rfl (by exact Rw.row (w7 _ hH30.top3.fst) rfl (i := i) rfl (r := [(.i .u16 u), (.i .u16 v)]) hri7) fun v32 hv31 => ?_
  obtain ⟨rb33, ro34, rfl, hr35⟩ := hv31
  refine D_l (v := (.p (some (rb33, (ro34 + 0))))) rfl rfl rfl (r_fadd' rfl rfl) (D_r (v := (.i .u16 u)) rfl rfl rfl (r_ldR (q := 0) rfl (hr35 _ (w7 _ hH30.top3.fst)) rfl) (D_r (v := (.sl a7 n7 c7 0)) rfl rfl rfl (r_ld rfl hH30.get1 rfl) ?_))
  refine D_q rfl rfl rfl (by exact Rw.row (w7 _ hH30.top3.fst) rfl (i := i) rfl (r := [(.i .u16 u), (.i .u16 v)]) hri7) fun v37 hv36 => ?_
  obtain ⟨rb38, ro39, rfl, hr40⟩ := hv36
  refine D_l (v := (.p (some (rb38, (ro39 + 0))))) rfl rfl rfl (r_fadd' rfl rfl) (D_r (v := (.i .u16 u)) rfl rfl rfl (r_ldR (q := 0) rfl (hr40 _ (w7 _ hH30.top3.fst)) rfl) (D_l (v := (.b false)) rfl rfl rfl (r_nqq rfl rfl) (D_l (v := (.b false)) rfl rfl rfl (r_mv rfl) (D_gk rfl (D_l (v := (pT n1 7)) rfl rfl rfl (r_fadd' hT21 rfl) (D_gk rfl (D_l (v := (nI i)) rfl rfl rfl (r_mv hT23) (D_gk rfl (D_l (v := (pT n5 7)) rfl rfl rfl (r_fadd' hT22 rfl) (D_gk rfl (D_l (v := (nI i)) rfl rfl rfl (r_mv hT23) (D_gk rfl (D_r (v := (.sl a7 n7 c7 0)) rfl rfl rfl (r_ld rfl hH30.get0 rfl) ?_)))))))))))))
  refine D_gk rfl ?_
  refine D_q rfl rfl rfl (by exact Rw.row (w7 _ hH30.top3.fst) rfl (i := i) rfl (r := [(.i .u16 u), (.i .u16 v)]) hri7) fun v42 hv41 => ?_
  obtain ⟨rb43, ro44, rfl, hr45⟩ := hv41
  refine D_gk rfl (D_l (v := (.p (some (rb43, (ro44 + 1))))) rfl rfl rfl (r_fadd' rfl rfl) (D_gk rfl (D_r (v := (.i .u16 v)) rfl rfl rfl (r_ldR (q := 1) rfl (hr45 _ (w7 _ hH30.top3.fst)) rfl) (D_gk rfl (D_r (v := (.sl a7 n7 c7 0)) rfl rfl rfl (r_ld rfl hH30.get1 rfl) (D_gk rfl ?_))))))
  refine D_q rfl rfl rfl (by exact Rw.row (w7 _ hH30.top3.fst) rfl (i := i) rfl (r := [(.i .u16 u), (.i .u16 v)]) hri7) fun v47 hv46 => ?_
  obtain ⟨rb48, ro49, rfl, hr50⟩ := hv46
  refine D_gk rfl (D_l (v := (.p (some (rb48, (ro49 + 1))))) rfl rfl rfl (r_fadd' rfl rfl) (D_gk rfl (D_r (v := (.i .u16 v)) rfl rfl rfl (r_ldR (q := 1) rfl (hr50 _ (w7 _ hH30.top3.fst)) rfl) (D_gk rfl (D_l (v := (.b false)) rfl rfl rfl (r_nqq rfl rfl) (D_l (v := (.b false)) rfl rfl rfl (r_pick_f rfl rfl) (D_nil  ?_)))))))
  refine C_cond (x := false) rfl (fun h => by cases h) (fun _ => ?_)
  refine C_skip  (C_region  (pv (nI i) hT23 (O_p (.i .i64 ((((i : Nat)) : Int) + 1)) (by exact (r_addi rfl rfl (wrap_i64 (by omega) (by omega)))) (pv (.i .i64 ((((i : Nat)) : Int) + 1)) rfl (O_nil  ?_)))))
  have hH51 := ((((hH30.top3).top3).top3).top3)
  exact ⟨n7 - (i + 1), by omega, (i + 1), rfl, by omega, hH51, hT21, hT22, rfl⟩
 ·
  try simp only [dz1, dz2, dz3, dz4, dz5, dz6, dz7, dz8, dz9] at hc25
  refine C_exit  (nx_exit  (nx_exit  (bk_hit  (C_seq  (C_seq  (C_region  (pv (.i .i64 0) rfl (O_nil  (C_block  ?_)))))))))
  have hH52 := ((((hH24.top3).top3).top3).top3)
  refine C_while (fun m53 T54 H55 => ∃ i : Nat, m53 = n8 - i ∧ i ≤ n8 ∧ Hs H55 ([(n1, some (.cells ([(.i .u8 c.k), (.i .u8 c.f), (.i .u32 a), (.i .u32 c.b), (.i .u16 c.o), (.i .u16 c.i), (.i .u32 c.p), (.sl a7 n7 c7 0), (.sl a8 n8 c8 0), (.sl a9 n9 c9 0), (.sl a10 n10 c10 0), (.sl pa c.d.length pc pg)]) true))] ++ ([(n5, some (.cells ([(.i .u8 c.k), (.i .u8 c.f), (.i .u32 a), (.i .u32 c.b), (.i .u16 c.o), (.i .u16 c.i), (.i .u32 c.p), (.sl a7 n7 c7 0), (.sl a8 n8 c8 0), (.sl a9 n9 c9 0), (.sl a10 n10 c10 0), (.sl qa c.d.length qc qg)]) true))] ++ (D ++ (B ++ (R))))) ∧ T54.get 2 = (.p (some (n1, 0))) ∧ T54.get 3 = (.p (some (n5, 0))) ∧ T54.get 6 = (.i .i64 (((i : Nat)) : Int))) (fun m53 T54 H55 hI56 => ?_) n8 _ _ ⟨0, rfl, Nat.zero_le _, hH52, hT21, hT22, rfl⟩
  obtain ⟨i, hm57, hp58, hH62, hT59, hT60, hT61⟩ := hI56
  refine C_seq  (C_seq  (C_region  (pv (nI i) hT61 (O_p (pT n1 8) (r_fadd' hT59 rfl) (O_p (.sl a8 n8 c8 0) (r_ld rfl hH62.get0 rfl) (O_p (nI n8) (r_len rfl) (O_p (.b (decide ((((i : Nat)) : Int) < (((n8 : Nat)) : Int)))) (r_lss rfl rfl) (O_nil  ?_))))))))
  refine C_cond (x := (decide ((((i : Nat)) : Int) < (((n8 : Nat)) : Int)))) rfl (fun hc63 => ?_) (fun hc63 => ?_)
  ·
   try simp only [dz1, dz2, dz3, dz4, dz5, dz6, dz7, dz8, dz9] at hc63
   refine C_skip  (C_seq  (C_block  (C_seq  ?_)))
   refine C_draw fun b64 H65 hbase66 hA67 => ?_
   have hH68 := hH62.keep (by have := hA67.1; omega) (fun q _ => hA67.2 q) ((hH62.old).aside hA67).ok
   have hil : i < n8 := by omega
   obtain ⟨r, hri8⟩ : ∃ r, r8[i]? = some r := ⟨_, List.getElem?_eq_getElem (by omega)⟩
   obtain ⟨u, rfl⟩ := q8 i r hri8
   refine D_l (v := (pT n1 8)) rfl rfl rfl (r_fadd' hT59 rfl) (D_l (v := (nI i)) rfl rfl rfl (r_mv hT61) (D_l (v := (pT n5 8)) rfl rfl rfl (r_fadd' hT60 rfl) (D_l (v := (nI i)) rfl rfl rfl (r_mv hT61) (D_r (v := (.sl a8 n8 c8 0)) rfl rfl rfl (r_ld rfl hH68.get0 rfl) ?_))))
   refine D_q rfl rfl rfl (by exact Rw.row (w8 _ hH68.top3.fst) rfl (i := i) rfl (r := [(.i .u32 u)]) hri8) fun v70 hv69 => ?_
   obtain ⟨rb71, ro72, rfl, hr73⟩ := hv69
   refine D_r (v := (.i .u32 u)) rfl rfl rfl (r_ldR (q := 0) rfl (hr73 _ (w8 _ hH68.top3.fst)) rfl) (D_r (v := (.sl a8 n8 c8 0)) rfl rfl rfl (r_ld rfl hH68.get1 rfl) ?_)
   refine D_q rfl rfl rfl (by exact Rw.row (w8 _ hH68.top3.fst) rfl (i := i) rfl (r := [(.i .u32 u)]) hri8) fun v75 hv74 => ?_
   obtain ⟨rb76, ro77, rfl, hr78⟩ := hv74
   refine D_r (v := (.i .u32 u)) rfl rfl rfl (r_ldR (q := 0) rfl (hr78 _ (w8 _ hH68.top3.fst)) rfl) (D_l (v := (.b false)) rfl rfl rfl (r_nqq rfl rfl) (D_nil  ?_))
   refine C_cond (x := false) rfl (fun h => by cases h) (fun _ => ?_)
   refine C_skip  (C_region  (pv (nI i) hT61 (O_p (.i .i64 ((((i : Nat)) : Int) + 1)) (by exact (r_addi rfl rfl (wrap_i64 (by omega) (by omega)))) (pv (.i .i64 ((((i : Nat)) : Int) + 1)) rfl (O_nil  ?_)))))
   have hH79 := ((((hH68.top3).top3).top3).top3)
   exact ⟨n8 - (i + 1), by omega, (i + 1), rfl, by omega, hH79, hT59, hT60, rfl⟩
  ·
   try simp only [dz1, dz2, dz3, dz4, dz5, dz6, dz7, dz8, dz9] at hc63
   refine C_exit  (nx_exit  (nx_exit  (bk_hit  (C_seq  (C_seq  (C_region  (pv (.i .i64 0) rfl (O_nil  (C_block  ?_)))))))))
   have hH80 := ((((hH62.top3).top3).top3).top3)
   refine C_while (fun m81 T82 H83 => ∃ i : Nat, m81 = n9 - i ∧ i ≤ n9 ∧ Hs H83 ([(n1, some (.cells ([(.i .u8 c.k), (.i .u8 c.f), (.i .u32 a), (.i .u32 c.b), (.i .u16 c.o), (.i .u16 c.i), (.i .u32 c.p), (.sl a7 n7 c7 0), (.sl a8 n8 c8 0), (.sl a9 n9 c9 0), (.sl a10 n10 c10 0), (.sl pa c.d.length pc pg)]) true))] ++ ([(n5, some (.cells ([(.i .u8 c.k), (.i .u8 c.f), (.i .u32 a), (.i .u32 c.b), (.i .u16 c.o), (.i .u16 c.i), (.i .u32 c.p), (.sl a7 n7 c7 0), (.sl a8 n8 c8 0), (.sl a9 n9 c9 0), (.sl a10 n10 c10 0), (.sl qa c.d.length qc qg)]) true))] ++ (D ++ (B ++ (R))))) ∧ T82.get 2 = (.p (some (n1, 0))) ∧ T82.get 3 = (.p (some (n5, 0))) ∧ T82.get 7 = (.i .i64 (((i : Nat)) : Int))) (fun m81 T82 H83 hI84 => ?_) n9 _ _ ⟨0, rfl, Nat.zero_le _, hH80, hT59, hT60, rfl⟩
   obtain ⟨i, hm85, hp86, hH90, hT87, hT88, hT89⟩ := hI84
   refine C_seq  (C_seq  (C_region  (pv (nI i) hT89 (O_p (pT n1 9) (r_fadd' hT87 rfl) (O_p (.sl a9 n9 c9 0) (r_ld rfl hH90.get0 rfl) (O_p (nI n9) (r_len rfl) (O_p (.b (decide ((((i : Nat)) : Int) < (((n9 : Nat)) : Int)))) (r_lss rfl rfl) (O_nil  ?_))))))))
   refine C_cond (x := (decide ((((i : Nat)) : Int) < (((n9 : Nat)) : Int)))) rfl (fun hc91 => ?_) (fun hc91 => ?_)
   ·
    try simp only [dz1, dz2, dz3, dz4, dz5, dz6, dz7, dz8, dz9] at hc91
    refine C_skip  (C_seq  (C_block  (C_seq  ?_)))
    refine C_draw fun b92 H93 hbase94 hA95 => ?_
    have hH96 := hH90.keep (by have := hA95.1; omega) (fun q _ => hA95.2 q) ((hH90.old).aside hA95).ok
    have hil : i < n9 := by omega
    obtain ⟨r, hri9⟩ : ∃ r, r9[i]? = some r := ⟨_, List.getElem?_eq_getElem (by omega)⟩
    obtain ⟨u, v, rfl⟩ := q9 i r hri9
    refine D_l (v := (pT n1 9)) rfl rfl rfl (r_fadd' hT87 rfl) (D_l (v := (nI i)) rfl rfl rfl (r_mv hT89) (D_l (v := (pT n5 9)) rfl rfl rfl (r_fadd' hT88 rfl) (D_l (v := (nI i)) rfl rfl rfl (r_mv hT89) (D_r (v := (.sl a9 n9 c9 0)) rfl rfl rfl (r_ld rfl hH96.get0 rfl) ?_))))
    refine D_q rfl rfl rfl (by exact Rw.row (w9 _ hH96.top3.fst) rfl (i := i) rfl (r := [(.i .u16 u), (.i .u16 v)]) hri9) fun v98 hv97 => ?_
    obtain ⟨rb99, ro100, rfl, hr101⟩ := hv97
    refine D_l (v := (.p (some (rb99, (ro100 + 0))))) rfl rfl rfl (r_fadd' rfl rfl) (D_r (v := (.i .u16 u)) rfl rfl rfl (r_ldR (q := 0) rfl (hr101 _ (w9 _ hH96.top3.fst)) rfl) (D_r (v := (.sl a9 n9 c9 0)) rfl rfl rfl (r_ld rfl hH96.get1 rfl) ?_))
    refine D_q rfl rfl rfl (by exact Rw.row (w9 _ hH96.top3.fst) rfl (i := i) rfl (r := [(.i .u16 u), (.i .u16 v)]) hri9) fun v103 hv102 => ?_
    obtain ⟨rb104, ro105, rfl, hr106⟩ := hv102
    refine D_l (v := (.p (some (rb104, (ro105 + 0))))) rfl rfl rfl (r_fadd' rfl rfl) (D_r (v := (.i .u16 u)) rfl rfl rfl (r_ldR (q := 0) rfl (hr106 _ (w9 _ hH96.top3.fst)) rfl) (D_l (v := (.b false)) rfl rfl rfl (r_nqq rfl rfl) (D_l (v := (.b false)) rfl rfl rfl (r_mv rfl) (D_gk rfl (D_l (v := (pT n1 9)) rfl rfl rfl (r_fadd' hT87 rfl) (D_gk rfl (D_l (v := (nI i)) rfl rfl rfl (r_mv hT89) (D_gk rfl (D_l (v := (pT n5 9)) rfl rfl rfl (r_fadd' hT88 rfl) (D_gk rfl (D_l (v := (nI i)) rfl rfl rfl (r_mv hT89) (D_gk rfl (D_r (v := (.sl a9 n9 c9 0)) rfl rfl rfl (r_ld rfl hH96.get0 rfl) ?_)))))))))))))
    refine D_gk rfl ?_
    refine D_q rfl rfl rfl (by exact Rw.row (w9 _ hH96.top3.fst) rfl (i := i) rfl (r := [(.i .u16 u), (.i .u16 v)]) hri9) fun v108 hv107 => ?_
    obtain ⟨rb109, ro110, rfl, hr111⟩ := hv107
    refine D_gk rfl (D_l (v := (.p (some (rb109, (ro110 + 1))))) rfl rfl rfl (r_fadd' rfl rfl) (D_gk rfl (D_r (v := (.i .u16 v)) rfl rfl rfl (r_ldR (q := 1) rfl (hr111 _ (w9 _ hH96.top3.fst)) rfl) (D_gk rfl (D_r (v := (.sl a9 n9 c9 0)) rfl rfl rfl (r_ld rfl hH96.get1 rfl) (D_gk rfl ?_))))))
    refine D_q rfl rfl rfl (by exact Rw.row (w9 _ hH96.top3.fst) rfl (i := i) rfl (r := [(.i .u16 u), (.i .u16 v)]) hri9) fun v113 hv112 => ?_
    obtain ⟨rb114, ro115, rfl, hr116⟩ := hv112
    refine D_gk rfl (D_l (v := (.p (some (rb114, (ro115 + 1))))) rfl rfl rfl (r_fadd' rfl rfl) (D_gk rfl (D_r (v := (.i .u16 v)) rfl rfl rfl (r_ldR (q := 1) rfl (hr116 _ (w9 _ hH96.top3.fst)) rfl) (D_gk rfl (D_l (v := (.b false)) rfl rfl rfl (r_nqq rfl rfl) (D_l (v := (.b false)) rfl rfl rfl (r_pick_f rfl rfl) (D_nil  ?_)))))))
    refine C_cond (x := false) rfl (fun h => by cases h) (fun _ => ?_)
    refine C_skip  (C_region  (pv (nI i) hT89 (O_p (.i .i64 ((((i : Nat)) : Int) + 1)) (by exact (r_addi rfl rfl (wrap_i64 (by omega) (by omega)))) (pv (.i .i64 ((((i : Nat)) : Int) + 1)) rfl (O_nil  ?_)))))
    have hH117 := ((((hH96.top3).top3).top3).top3)
    exact ⟨n9 - (i + 1), by omega, (i + 1), rfl, by omega, hH117, hT87, hT88, rfl⟩
   ·
    try simp only [dz1, dz2, dz3, dz4, dz5, dz6, dz7, dz8, dz9] at hc91
    refine C_exit  (nx_exit  (nx_exit  (bk_hit  (C_seq  (C_region  (pv (.b true) rfl (O_nil  (C_ret  ?_))))))))
    have hH118 := ((hH90.sub0).sub0)
    have hH119 := ((hH118.top1).top1)
    exact ⟨.inr rfl, _, resL_one (r_tmp (v := (.b true)) rfl), rfl, hH119⟩
theorem same08_ev {H : AH} {R D B : HL} {a b : AV} {ac bc : List AV} {rows1 rows2 : List (List AV)} {cs : List (Cx × Int)} (ha : Sq 12 a ac rows1.flatten) (hb : Sq 12 b bc rows2.flatten) (h1 : CxsR D rows1 cs) (h2 : CxsR B rows2 cs) (hg : ∀ c ∈ cs, CxG B c.1) (hl : cs.length ≤ 100000) (hH0 : Hs H (qseg a ac ++ (qseg b bc ++ (D ++ (B ++ R))))) : Ev tabA spA (.fn (.func 48) [] []) [a, b] H (fun r H' => r = .b true ∧ Hs H' (qseg a ac ++ (qseg b bc ++ (D ++ (B ++ R))))) := by
 refine Ev_C (F := x48) rfl ?_
 refine C_seq  (C_region  (pv (.b false) rfl (O_nil  (C_seq  (C_seq  (C_region  (pv a rfl (O_p (.i .i64 (((cs.length : Nat)) : Int)) (by exact (by exact r_lenOf rfl (ha.lenOf ((flat_len h1.lens).trans (by rw [h1.1])) (by decide)) ha.isSl)) (pv b rfl (O_p (.i .i64 (((cs.length : Nat)) : Int)) (by exact (by exact r_lenOf rfl (hb.lenOf ((flat_len h2.lens).trans (by rw [h2.1])) (by decide)) hb.isSl)) (O_p (.b false) (r_nqq rfl rfl) (O_nil  ?_))))))))))))
 refine C_cond (x := false) rfl (fun h => by cases h) (fun _ => ?_)
 refine C_skip  (C_seq  (C_seq  (C_region  (pv (.i .i64 0) rfl (O_nil  (C_block  ?_))))))
 refine C_while (fun m1 T2 H3 => ∃ i : Nat, m1 = cs.length - i ∧ i ≤ cs.length ∧ Hs H3 ((qseg a ac) ++ ((qseg b bc) ++ (D ++ (B ++ (R))))) ∧ T2.get 0 = a ∧ T2.get 1 = b ∧ T2.get 5 = (.i .i64 (((i : Nat)) : Int))) (fun m1 T2 H3 hI4 => ?_) cs.length _ _ ⟨0, rfl, Nat.zero_le _, hH0, rfl, rfl, rfl⟩
 obtain ⟨i, hm5, hp6, hH10, hT7, hT8, hT9⟩ := hI4
 refine C_seq  (C_seq  (C_region  (pv (nI i) hT9 (pv a hT7 (O_p (.i .i64 (((cs.length : Nat)) : Int)) (by exact (by exact r_lenOf rfl (ha.lenOf ((flat_len h1.lens).trans (by rw [h1.1])) (by decide)) ha.isSl)) (O_p (.b (decide ((((i : Nat)) : Int) < (((cs.length : Nat)) : Int)))) (r_lss rfl rfl) (O_nil  ?_)))))))
 refine C_cond (x := (decide ((((i : Nat)) : Int) < (((cs.length : Nat)) : Int)))) rfl (fun hc11 => ?_) (fun hc11 => ?_)
 ·
  try simp only [dz1, dz2, dz3, dz4, dz5, dz6, dz7, dz8, dz9] at hc11
  refine C_skip  (C_seq  (C_block  (C_seq  ?_)))
  refine C_draw fun b12 H13 hbase14 hA15 => ?_
  have hH16 := hH10.keep (by have := hA15.1; omega) (fun q _ => hA15.2 q) ((hH10.old).aside hA15).ok
  have hil : i < cs.length := by omega
  obtain ⟨x, dv1, hxi, hr1, ho1⟩ := h1.get hil
  obtain ⟨y, dv2, hyi, hr2, ho2⟩ := h2.get hil
  rw [hxi] at hyi
  cases hyi
  have hgx := hg x (List.mem_of_getElem? hxi)
  unfold cxRow at hr1 hr2
  refine D_l (v := a) rfl rfl rfl (r_mv hT7) (D_l (v := (nI i)) rfl rfl rfl (r_mv hT9) ?_)
  refine D_q rfl rfl rfl (by exact Sq.cell ha h1.lens hH16.top0 rfl (i := i) rfl (r := [(.i .u8 x.1.k), (.i .u8 x.1.f), (.i .u32 x.2), (.i .u32 x.1.b), (.i .u16 x.1.o), (.i .u16 x.1.i), (.i .u32 x.1.p), x.1.x1, x.1.x2, x.1.x3, x.1.x4, dv1]) hr1 (by decide)) fun v18 hv17 => ?_
  obtain ⟨rb19, ro20, rfl, hrg21, hrt22, hrb23, hput24, hqs25⟩ := hv17
  refine D_l (v := b) rfl rfl rfl (r_mv hT8) (D_l (v := (nI i)) rfl rfl rfl (r_mv hT9) ?_)
  refine D_q rfl rfl rfl (by exact Sq.cell hb h2.lens hH16.top1 rfl (i := i) rfl (r := [(.i .u8 x.1.k), (.i .u8 x.1.f), (.i .u32 x.2), (.i .u32 x.1.b), (.i .u16 x.1.o), (.i .u16 x.1.i), (.i .u32 x.1.p), x.1.x1, x.1.x2, x.1.x3, x.1.x4, dv2]) hr2 (by decide)) fun v27 hv26 => ?_
  obtain ⟨rb28, ro29, rfl, hrg30, hrt31, hrb32, hput33, hqs34⟩ := hv26
  refine D_r (v := (.agg [(.i .u8 x.1.k), (.i .u8 x.1.f), (.i .u32 x.2), (.i .u32 x.1.b), (.i .u16 x.1.o), (.i .u16 x.1.i), (.i .u32 x.1.p), x.1.x1, x.1.x2, x.1.x3, x.1.x4, dv1])) rfl rfl rfl (r_ldRA (q := 0) rfl ⟨_, _, hrg21, hrt22⟩ rfl) (D_r (v := (.agg [(.i .u8 x.1.k), (.i .u8 x.1.f), (.i .u32 x.2), (.i .u32 x.1.b), (.i .u16 x.1.o), (.i .u16 x.1.i), (.i .u32 x.1.p), x.1.x1, x.1.x2, x.1.x3, x.1.x4, dv2])) rfl rfl rfl (r_ldRA (q := 0) rfl ⟨_, _, hrg30, hrt31⟩ rfl) ?_)
  have hH35 := ((hH16.top3).top3)
  refine D_call (Ev.mono (same07_ev (c := x.1) (a := x.2) hgx ho1 ho2 hH35) fun v36 H37 hq38 => ?_)
  obtain ⟨rfl, hH39⟩ := hq38
  refine And.intro (And.intro (Or.inl rfl) (And.intro (Or.inl rfl) True.intro)) (D_l (v := (.b false)) rfl rfl rfl (r_un rfl rfl) (D_nil  ?_))
  refine C_cond (x := false) rfl (fun h => by cases h) (fun _ => ?_)
  refine C_skip  (C_region  (pv (nI i) hT9 (O_p (.i .i64 ((((i : Nat)) : Int) + 1)) (by exact (r_addi rfl rfl (wrap_i64 (by omega) (by omega)))) (pv (.i .i64 ((((i : Nat)) : Int) + 1)) rfl (O_nil  ?_)))))
  have hH40 := ((((hH39.top1).top1).top3).top3)
  exact ⟨cs.length - (i + 1), by omega, (i + 1), rfl, by omega, hH40, hT7, hT8, rfl⟩
 ·
  try simp only [dz1, dz2, dz3, dz4, dz5, dz6, dz7, dz8, dz9] at hc11
  refine C_exit  (nx_exit  (nx_exit  (bk_hit  (C_seq  (C_region  (pv (.b true) rfl (O_nil  (C_ret  ?_))))))))
  have hH41 := ((((hH10.top3).top3).top3).top3)
  exact ⟨.inr rfl, _, resL_one (r_tmp (v := (.b true)) rfl), rfl, hH41⟩
set_option linter.unusedVariables false
set_option linter.unusedSimpArgs false
def mkS (s : List Bool × Nat) (x : Nat × Bool) : List Bool × Nat := if x.2 = true ∧ s.1[x.1]? = some false then (s.1.set x.1 true, s.2 + 1) else s
theorem mkS_yes {b : List Bool} {n t : Nat} (h : b[t]? = some false) : mkS (b, n) (t, true) = (b.set t true, n + 1) := if_pos ⟨rfl, h⟩
theorem mkS_no {s : List Bool × Nat} {x : Nat × Bool} (h : ¬ (x.2 = true ∧ s.1[x.1]? = some false)) : mkS s x = s := if_neg h
theorem mkS_len : ∀ (l : List (Nat × Bool)) (s : List Bool × Nat), (l.foldl mkS s).1.length = s.1.length
  | [], s => rfl
  | x :: l, s => by
    rw [List.foldl_cons, mkS_len l]
    unfold mkS
    split
    · exact List.length_set
    · rfl
theorem mkS_get : ∀ (l : List (Nat × Bool)) (s : List Bool × Nat) (t : Nat), (l.foldl mkS s).1[t]? = some true ↔ s.1[t]? = some true ∨ (t < s.1.length ∧ (t, true) ∈ l)
  | [], s, t => by simp
  | x :: l, s, t => by
    rw [List.foldl_cons, mkS_get l]
    by_cases h : x.2 = true ∧ s.1[x.1]? = some false
    · obtain ⟨x1, x2⟩ := x
      obtain ⟨b, n⟩ := s
      obtain ⟨rfl, h2⟩ := h
      have hl := (List.getElem?_eq_some_iff.1 h2).1
      rw [mkS_yes h2]
      dsimp only at h2 hl ⊢
      rw [List.length_set, List.getElem?_set]
      by_cases he : x1 = t
      · subst he
        rw [if_pos rfl, if_pos hl]
        constructor
        · intro _; exact .inr ⟨hl, List.mem_cons_self ..⟩
        · intro _; exact .inl rfl
      · rw [if_neg he, List.mem_cons]
        constructor
        · rintro (h | ⟨h, h3⟩); exact .inl h; exact .inr ⟨h, .inr h3⟩
        · rintro (h | ⟨h, h3 | h3⟩)
          · exact .inl h
          · exact absurd (congrArg Prod.fst h3).symm he
          · exact .inr ⟨h, h3⟩
    · rw [mkS_no h, List.mem_cons]
      constructor
      · rintro (h | ⟨h, h3⟩); exact .inl h; exact .inr ⟨h, .inr h3⟩
      · rintro (h1 | ⟨h1, h3 | h3⟩)
        · exact .inl h1
        · subst h3
          cases hb : s.1[t]? with
          | none => rw [List.getElem?_eq_none_iff] at hb; omega
          | some v => cases v with
            | true => exact .inl rfl
            | false => exact absurd ⟨rfl, hb⟩ h
        · exact .inr ⟨h1, h3⟩
theorem mkS_cnt : ∀ (l : List (Nat × Bool)) (s : List Bool × Nat), (l.foldl mkS s).2 + s.1.count true = s.2 + (l.foldl mkS s).1.count true
  | [], s => rfl
  | x :: l, s => by
    rw [List.foldl_cons]
    have h1 := mkS_cnt l (mkS s x)
    have h2 : (mkS s x).2 + s.1.count true = s.2 + (mkS s x).1.count true := by
      unfold mkS
      split
      · rename_i h
        obtain ⟨hl, he⟩ := List.getElem?_eq_some_iff.1 h.2
        dsimp only
        rw [List.count_set hl, he]
        simp; omega
      · rfl
    omega
theorem mkS_same {l1 l2 : List (Nat × Bool)} {s : List Bool × Nat} (h : ∀ t, t < s.1.length → ((t, true) ∈ l1 ↔ (t, true) ∈ l2)) : l1.foldl mkS s = l2.foldl mkS s := by
  have hb : (l1.foldl mkS s).1 = (l2.foldl mkS s).1 := by
    refine List.ext_getElem? fun t => ?_
    by_cases ht : t < s.1.length
    · have e1 := mkS_get l1 s t
      have e2 := mkS_get l2 s t
      have l1' : t < (l1.foldl mkS s).1.length := by rw [mkS_len]; exact ht
      have l2' : t < (l2.foldl mkS s).1.length := by rw [mkS_len]; exact ht
      rw [List.getElem?_eq_getElem l1'] at e1 ⊢
      rw [List.getElem?_eq_getElem l2'] at e2 ⊢
      have e3 : ((l1.foldl mkS s).1[t] = true ↔ (l2.foldl mkS s).1[t] = true) := by
        have f1 : some ((l1.foldl mkS s).1[t]) = some true ↔ (l1.foldl mkS s).1[t] = true := by rw [Option.some.injEq]
        have f2 : some ((l2.foldl mkS s).1[t]) = some true ↔ (l2.foldl mkS s).1[t] = true := by rw [Option.some.injEq]
        rw [← f1, ← f2, e1, e2]
        constructor
        · rintro (h1 | ⟨h1, h2⟩); exact .inl h1; exact .inr ⟨h1, (h t ht).1 h2⟩
        · rintro (h1 | ⟨h1, h2⟩); exact .inl h1; exact .inr ⟨h1, (h t ht).2 h2⟩
      rw [Bool.eq_iff_iff.2 e3]
    · rw [List.getElem?_eq_none (by rw [mkS_len]; omega), List.getElem?_eq_none (by rw [mkS_len]; omega)]
  have h1 := mkS_cnt l1 s
  have h2 := mkS_cnt l2 s
  rw [hb] at h1
  exact Prod.ext hb (by omega)
def SameP (pl cur : List Po) : Prop := cur.length = pl.length ∧ ∀ (t : Nat) (p : Po), pl[t]? = some p → ∃ g, cur[t]? = some ⟨p.m, p.un, p.tr, g⟩
theorem SameP.ms {pl cur : List Po} (h : SameP pl cur) : cur.map Po.m = pl.map Po.m := List.ext_getElem? fun t => by
  rw [List.getElem?_map, List.getElem?_map]
  cases hp : pl[t]? with
  | none => rw [List.getElem?_eq_none_iff] at hp; rw [List.getElem?_eq_none (by rw [h.1]; exact hp)]
  | some p => obtain ⟨g, hg⟩ := h.2 t p hp; rw [hg]; rfl
theorem nodup_inj {α : Type} : ∀ {l : List α} {i j : Nat} {x : α}, l.Nodup → l[i]? = some x → l[j]? = some x → i = j
  | [], i, j, x, _, hi, _ => by cases hi
  | a :: l, 0, 0, x, _, _, _ => rfl
  | a :: l, 0, j + 1, x, h, hi, hj => by
    have e : a = x := by simpa using hi
    exact absurd (e ▸ List.mem_of_getElem? (show l[j]? = some x by simpa using hj)) (List.nodup_cons.1 h).1
  | a :: l, i + 1, 0, x, h, hi, hj => by
    have e : a = x := by simpa using hj
    exact absurd (e ▸ List.mem_of_getElem? (show l[i]? = some x by simpa using hi)) (List.nodup_cons.1 h).1
  | a :: l, i + 1, j + 1, x, h, hi, hj => congrArg Nat.succ (nodup_inj (List.nodup_cons.1 h).2 (by simpa using hi) (by simpa using hj))
theorem po_idx {pl : List Po} {t : Nat} {p : Po} (hnd : (pl.map Po.m).Nodup) (h : pl[t]? = some p) : pl.findIdx (pmP p.m) = t := by
 obtain ⟨ht, hp⟩ := List.getElem?_eq_some_iff.1 h
 have hlt : pl.findIdx (pmP p.m) < pl.length := List.findIdx_lt_length_of_exists ⟨p, List.mem_of_getElem? h, decide_eq_true rfl⟩
 have h1 := of_decide_eq_true (fx_yes (P := pmP p.m) rfl (List.getElem?_eq_getElem hlt))
 exact nodup_inj hnd (x := p.m) (by rw [List.getElem?_map, List.getElem?_eq_getElem hlt]; exact congrArg some h1) (by rw [List.getElem?_map, h]; rfl)
theorem overE_same {now : Int} {e : Ea} {p p2 : Po} (h1 : p2.un = p.un) (h2 : p2.tr = p.tr) : overE now e p2 = overE now e p := by unfold overE; rw [h1, h2]
def stP (mp : List Nat) (now : Int) (pl : List Po) (z : Ea × Nat) : Nat × Bool := (pl.findIdx (pmP z.2), decide (z.1.st ∈ [0, 1, 2, 3]) && (decide (z.2 ∈ mp) && match pl[pl.findIdx (pmP z.2)]? with
  | some p => overE now z.1 p
  | none => false))
theorem exP_mark {mp : List Nat} {now : Int} {pl : List Po} (hnd : (pl.map Po.m).Nodup) : ∀ (l : List (Ea × Nat)) (cur : List Po) (n : Nat), (∀ z ∈ l, ∃ p ∈ pl, p.m = z.2) → SameP pl cur →
    SameP pl (l.foldl (exP mp now) (cur, n)).1 ∧ ((l.foldl (exP mp now) (cur, n)).1.map Po.gv, (l.foldl (exP mp now) (cur, n)).2) = (l.map (stP mp now pl)).foldl mkS (cur.map Po.gv, n)
  | [], cur, n, _, h => ⟨h, rfl⟩
  | z :: l, cur, n, hz, h => by
    obtain ⟨p, hp, hpm⟩ := hz z (List.mem_cons_self ..)
    obtain ⟨t, ht⟩ := List.getElem?_of_mem hp
    have hix := po_idx hnd ht
    obtain ⟨g, hg⟩ := h.2 t p ht
    have hix2 : cur.findIdx (pmP p.m) = t := by
      have := po_idx (pl := cur) (p := ⟨p.m, p.un, p.tr, g⟩) (by rw [h.ms]; exact hnd) hg
      exact this
    have hlc := (List.getElem?_eq_some_iff.1 hg).1
    have hgv : (cur.map Po.gv)[t]? = some g := by rw [List.getElem?_map, hg]; rfl
    rw [List.foldl_cons, List.map_cons, List.foldl_cons]
    have key : SameP pl (exP mp now (cur, n) z).1 ∧ ((exP mp now (cur, n) z).1.map Po.gv, (exP mp now (cur, n) z).2) = mkS (cur.map Po.gv, n) (stP mp now pl z) := by
      by_cases hc : z.1.st ∈ [0, 1, 2, 3] ∧ z.2 ∈ mp
      · by_cases ho : g = false ∧ overE now z.1 p = true
        · have e1 : exP mp now (cur, n) z = (cur.set t ⟨p.m, p.un, p.tr, true⟩, n + 1) := by
            unfold exP
            rw [exStep_yes (p := ⟨p.m, p.un, p.tr, g⟩) hc.1 hc.2 (by rw [← hpm, hix2]; exact hg) ho.1 ((overE_same (p := p) rfl rfl).trans ho.2), ← hpm, hix2]
          have e2 : stP mp now pl z = (t, true) := by unfold stP; rw [← hpm, hix, ht]; dsimp only; rw [decide_eq_true hc.1, hpm, decide_eq_true hc.2, ho.2]; rfl
          rw [e1, e2, mkS_yes (by rw [hgv, ho.1])]
          refine ⟨⟨by rw [List.length_set]; exact h.1, fun s p' hp' => ?_⟩, by rw [List.map_set]⟩
          rw [List.getElem?_set]
          by_cases hs : t = s
          · subst hs
            rw [if_pos rfl, if_pos hlc]
            rw [ht] at hp'; cases hp'; exact ⟨true, rfl⟩
          · rw [if_neg hs]; exact h.2 s p' hp'
        · have e1 : exP mp now (cur, n) z = (cur, n) := by
            unfold exP
            exact exStep_no (p := ⟨p.m, p.un, p.tr, g⟩) (by rw [← hpm, hix2]; exact hg) (fun h9 => ho ⟨h9.1, (overE_same (p := p) (p2 := ⟨p.m, p.un, p.tr, g⟩) rfl rfl).symm.trans h9.2⟩)
          rw [e1]
          refine ⟨h, (mkS_no fun h9 => ho ?_).symm⟩
          have h8 : (stP mp now pl z).1 = t := by unfold stP; rw [← hpm]; exact hix
          rw [h8, hgv] at h9
          refine ⟨by have := h9.2; simpa using this, ?_⟩
          have h7 := h9.1
          unfold stP at h7
          rw [← hpm, hix, ht] at h7
          dsimp only at h7
          rw [Bool.and_eq_true, Bool.and_eq_true] at h7
          exact h7.2.2
      · have e1 : exP mp now (cur, n) z = (cur, n) := by
          unfold exP
          by_cases hs : z.1.st ∈ [0, 1, 2, 3]
          · exact exStep_mem fun h9 => hc ⟨hs, h9⟩
          · exact exStep_st hs
        rw [e1]
        refine ⟨h, (mkS_no fun h9 => hc ?_).symm⟩
        have h7 := h9.1
        unfold stP at h7
        dsimp only at h7
        rw [Bool.and_eq_true, Bool.and_eq_true] at h7
        exact ⟨of_decide_eq_true h7.1, of_decide_eq_true h7.2.1⟩
    have ih := exP_mark (mp := mp) (now := now) hnd l (exP mp now (cur, n) z).1 (exP mp now (cur, n) z).2 (fun y hy => hz y (List.mem_cons_of_mem _ hy)) key.1
    rw [← key.2]
    exact ih
def phE (b : List Bool) (x : Te) : Te := if b[x.z.k.toNat]? = some true then ⟨x.e.setSt 4, x.z, x.dv⟩ else x
theorem setSt4 {e : Ea} (h : e.st = 4) : e.setSt 4 = e := by
 obtain ⟨c, a, st, s, t, m⟩ := e
 have h2 : st = 4 := h
 subst h2; rfl
theorem phE_z {b : List Bool} {x : Te} : (phE b x).z = x.z := by unfold phE; split <;> rfl
def stR (now : Int) (q : List Te) (x : Te) : Nat × Bool := (x.z.k.toNat, ovR now x.z.k q)
theorem exR_mark {now : Int} {q : List Te} {b0 : List Bool} (hk : ∀ x ∈ q, 0 ≤ x.z.k ∧ x.z.k.toNat < b0.length) (h0 : ∀ x ∈ q, b0[x.z.k.toNat]? = some true → x.e.st = 4) : ∀ (j : Nat), j ≤ q.length → ∃ (b : List Bool) (n : Nat),
    ((q.take j).map (stR now q)).foldl mkS (b0, 0) = (b, n) ∧ (List.range j).foldl (exR now) (q, 0) = (q.map (phE b), n)
  | 0, _ => ⟨b0, 0, rfl, by
      show (q, 0) = _
      congr 1
      refine (List.map_id' q).symm.trans (List.map_congr_left fun x hx => ?_)
      unfold phE
      split
      · rename_i h; rw [setSt4 (h0 x hx h)]
      · rfl⟩
  | j + 1, hj => by
    obtain ⟨b, n, h1, h2⟩ := exR_mark hk h0 j (by omega)
    have hx : q[j]? = some q[j] := List.getElem?_eq_getElem (by omega)
    generalize q[j] = x at hx
    have hxm := List.mem_of_getElem? hx
    obtain ⟨hk0, hkl⟩ := hk x hxm
    have hbl : b.length = b0.length := by have := mkS_len ((q.take j).map (stR now q)) (b0, 0); rw [h1] at this; exact this
    have hT : ((q.take (j + 1)).map (stR now q)).foldl mkS (b0, 0) = mkS (b, n) (stR now q x) := by rw [take_at hx, List.map_append, List.foldl_append, h1]; rfl
    have hR : (List.range (j + 1)).foldl (exR now) (q, 0) = exR now (q.map (phE b), n) j := by rw [exR_at, h2]
    have hxg : (q.map (phE b))[j]? = some (phE b x) := by rw [List.getElem?_map, hx]; rfl
    have hkn : ((x.z.k.toNat : Nat) : Int) = x.z.k := Int.toNat_of_nonneg hk0
    have hR2 : exR now (q.map (phE b), n) j = if ovR now x.z.k (q.map (phE b)) = true then (gvR x.z.k (q.map (phE b)), n + 1) else (q.map (phE b), n) := by
      unfold exR; dsimp only; rw [hxg]; dsimp only; rw [phE_z]
    cases hb : b[x.z.k.toNat]? with
    | none => rw [List.getElem?_eq_none_iff] at hb; omega
    | some v => cases v with
      | true =>
        have ho : ovR now x.z.k (q.map (phE b)) = false := by
          unfold ovR
          rw [List.any_map, show q.any (ovO x.z.k ∘ phE b) = false from ?_, Bool.false_and]
          rw [List.any_eq_false]
          intro y hy h9
          unfold ovO at h9
          simp only [Function.comp, phE_z, Bool.and_eq_true, decide_eq_true_eq] at h9
          have h8 := h9.2
          unfold phE at h8
          rw [h9.1, if_pos hb] at h8
          exact absurd h8 (by show ¬ (4 : Int) < 3; decide)
        refine ⟨b, n, ?_, ?_⟩
        · rw [hT, mkS_no]
          intro h9
          have := h9.2
          unfold stR at this
          dsimp only at this
          rw [hb] at this; cases this
        · rw [hR, hR2, if_neg (by rw [ho]; exact Bool.false_ne_true)]
      | false =>
        have hsame : ∀ y ∈ q, y.z.k = x.z.k → phE b y = y := fun y hy hyk => by unfold phE; rw [hyk, hb, if_neg (by decide)]
        have ho : ovR now x.z.k (q.map (phE b)) = ovR now x.z.k q := by
          unfold ovR
          rw [List.any_map, List.any_map]
          have ha : ∀ P : Te → Bool, (∀ y ∈ q, P (phE b y) = P y) → q.any (P ∘ phE b) = q.any P := fun P hP => by
            rw [Bool.eq_iff_iff, List.any_eq_true, List.any_eq_true]
            constructor
            · rintro ⟨y, hy, h9⟩; exact ⟨y, hy, by rw [← hP y hy]; exact h9⟩
            · rintro ⟨y, hy, h9⟩; exact ⟨y, hy, by show P (phE b y) = true; rw [hP y hy]; exact h9⟩
          rw [ha (ovO x.z.k) fun y hy => (by
            by_cases hyk : y.z.k = x.z.k
            · rw [hsame y hy hyk]
            · unfold ovO; rw [phE_z, decide_eq_false hyk]; rfl), ha (ovL x.z.k now) fun y hy => (by
            by_cases hyk : y.z.k = x.z.k
            · rw [hsame y hy hyk]
            · unfold ovL; rw [phE_z, decide_eq_false hyk]; rfl)]
        rw [hT, hR, hR2, ho]
        by_cases hc : ovR now x.z.k q = true
        · refine ⟨b.set x.z.k.toNat true, n + 1, ?_, ?_⟩
          · rw [show stR now q x = (x.z.k.toNat, true) from by unfold stR; rw [hc], mkS_yes hb]
          · rw [if_pos hc]
            congr 1
            unfold gvR
            rw [List.map_map]
            refine List.map_congr_left fun y hy => ?_
            simp only [Function.comp]
            by_cases hyk : y.z.k = x.z.k
            · rw [hsame y hy hyk]
              unfold gvE phE
              rw [if_pos hyk, hyk, List.getElem?_set_self (by omega), if_pos rfl]
            · have hyn : ¬ x.z.k.toNat = y.z.k.toNat := fun h9 => hyk (by have := (hk y hy).1; omega)
              unfold gvE
              rw [phE_z, if_neg hyk]
              unfold phE
              rw [List.getElem?_set_ne hyn]
              split <;> rfl
        · refine ⟨b, n, ?_, by rw [if_neg hc]⟩
          rw [mkS_no]
          intro h9
          exact hc h9.1
structure Tie2 (q : List Te) (ms : List Nat) (pl : List Po) : Prop where
  len : ms.length = q.length
  tie : ∀ (k : Nat) (x : Te) (m : Nat), q[k]? = some x → ms[k]? = some m → ∃ (t : Nat) (p : Po), x.z.k = ((t : Nat) : Int) ∧ pl[t]? = some p ∧ p.m = m ∧ p.un = x.z.un ∧ p.tr = x.z.tr
  gv : ∀ (k : Nat) (x : Te) (t : Nat) (p : Po), q[k]? = some x → x.z.k = ((t : Nat) : Int) → pl[t]? = some p → p.gv = true → x.e.st = 4
  st : ∀ x ∈ q, 0 ≤ x.e.st ∧ x.e.st ≤ 4
theorem Tie2.at {q : List Te} {ms : List Nat} {pl : List Po} (h : Tie2 q ms pl) {x : Te} (hx : x ∈ q) : ∃ (k : Nat) (m t : Nat) (p : Po), q[k]? = some x ∧ ms[k]? = some m ∧ x.z.k = ((t : Nat) : Int) ∧ pl[t]? = some p ∧ p.m = m ∧ p.un = x.z.un ∧ p.tr = x.z.tr := by
 obtain ⟨k, hk⟩ := List.getElem?_of_mem hx
 have hl := (List.getElem?_eq_some_iff.1 hk).1
 have hm : ms[k]? = some (ms[k]'(by rw [h.len]; exact hl)) := List.getElem?_eq_getElem _
 obtain ⟨t, p, h1⟩ := h.tie k x _ hk hm
 exact ⟨k, _, t, p, hk, hm, h1⟩
theorem zip_at {α β : Type} {l : List α} {m : List β} {k : Nat} {a : α} {b : β} (h1 : l[k]? = some a) (h2 : m[k]? = some b) : (a, b) ∈ l.zip m := List.mem_of_getElem? (i := k) (by rw [List.getElem?_zip_eq_some]; exact ⟨h1, h2⟩)
theorem at_zip {α β : Type} {l : List α} {m : List β} {a : α} {b : β} (h : (a, b) ∈ l.zip m) : ∃ k : Nat, l[k]? = some a ∧ m[k]? = some b := by
 obtain ⟨k, hk⟩ := List.getElem?_of_mem h
 rw [List.getElem?_zip_eq_some] at hk
 exact ⟨k, hk⟩
theorem te_at {q : List Te} {k : Nat} {e : Ea} (h : (q.map Te.e)[k]? = some e) : ∃ x, q[k]? = some x ∧ x.e = e := by
  rw [List.getElem?_map] at h
  cases hq : q[k]? with
  | none => rw [hq] at h; cases h
  | some x => rw [hq] at h; exact ⟨x, rfl, Option.some.inj h⟩
theorem st_in3 {s : Int} : s ∈ [(0 : Int), 1, 2, 3] ↔ s = 0 ∨ s = 1 ∨ s = 2 ∨ s = 3 := by simp
theorem st_in2 {s : Int} : s ∈ [(0 : Int), 1, 2] ↔ s = 0 ∨ s = 1 ∨ s = 2 := by simp
theorem late_over {now : Int} {x : Te} {p : Po} (h1 : p.un = x.z.un) (h2 : p.tr = x.z.tr) : lateR now x = overE now x.e p := by unfold lateR overE; rw [h1, h2]
theorem mark_iff {now : Int} {q : List Te} {ms : List Nat} {pl : List Po} {mp : List Nat} (h : Tie2 q ms pl) (hnd : (pl.map Po.m).Nodup) (hmp : ∀ k, k ∈ mp ↔ ∃ z ∈ (q.map Te.e).zip ms, z.1.st ∈ [0, 1, 2] ∧ z.2 = k) (t : Nat) :
    (t, true) ∈ q.map (stR now q) ↔ (t, true) ∈ ((q.map Te.e).zip ms).map (stP mp now pl) := by
  constructor
  · intro h1
    obtain ⟨x, hx, he⟩ := List.mem_map.1 h1
    unfold stR at he
    have e1 : x.z.k.toNat = t := congrArg Prod.fst he
    have e2 : ovR now x.z.k q = true := congrArg Prod.snd he
    unfold ovR at e2
    rw [Bool.and_eq_true, List.any_eq_true, List.any_eq_true] at e2
    obtain ⟨⟨y, hy, hy2⟩, w, hw, hw2⟩ := e2
    unfold ovO at hy2
    unfold ovL at hw2
    rw [Bool.and_eq_true] at hy2 hw2
    have hyk := of_decide_eq_true hy2.1
    have hys := of_decide_eq_true hy2.2
    have hwk := of_decide_eq_true hw2.1
    obtain ⟨ky, my, ty, py, hky, hmy, hty, hpy, hpmy, huy, htry⟩ := h.at hy
    obtain ⟨kw, mw, tw, pw, hkw, hmw, htw, hpw, hpmw, huw, htrw⟩ := h.at hw
    have et : ty = t ∧ tw = t := by omega
    obtain ⟨e5, e6⟩ := et
    rw [e5] at hpy hty
    rw [e6] at hpw htw
    rw [hpy] at hpw
    cases hpw
    have hsy := h.st y hy
    have hys2 : y.e.st ∈ [(0 : Int), 1, 2] := st_in2.2 (by omega)
    have hmm : my ∈ mp := (hmp my).2 ⟨(y.e, my), zip_at (te_e hky) hmy, hys2, rfl⟩
    have hix : pl.findIdx (pmP my) = t := hpmy ▸ po_idx hnd hpy
    -- the entry by which it is over
    have hsel : ∃ v ∈ (q.map Te.e).zip ms, v.2 = my ∧ v.1.st ∈ [(0 : Int), 1, 2, 3] ∧ overE now v.1 py = true := by
      have hl : overE now w.e py = true := by rw [← late_over huw htrw]; exact hw2.2
      by_cases hu : (decide (0 ≤ py.un) && decide (py.un < now)) = true
      · refine ⟨(y.e, my), zip_at (te_e hky) hmy, rfl, st_in3.2 (by show y.e.st = 0 ∨ y.e.st = 1 ∨ y.e.st = 2 ∨ y.e.st = 3; omega), ?_⟩
        unfold overE; rw [hu]; rfl
      · have h9 := hl
        unfold overE at h9
        rw [Eq.mp (Bool.not_eq_true _) hu, Bool.false_or, Bool.and_eq_true, Bool.and_eq_true] at h9
        have hs := of_decide_eq_true h9.1.2
        exact ⟨(w.e, mw), zip_at (te_e hkw) hmw, by rw [← hpmw, ← hpmy], st_in3.2 (by show w.e.st = 0 ∨ w.e.st = 1 ∨ w.e.st = 2 ∨ w.e.st = 3; omega), hl⟩
    obtain ⟨v, hv, hvm, hvs, hvo⟩ := hsel
    refine List.mem_map.2 ⟨v, hv, ?_⟩
    unfold stP
    rw [hvm, hix, hpy]
    dsimp only
    rw [decide_eq_true hvs, decide_eq_true hmm, hvo]; rfl
  · intro h1
    obtain ⟨⟨e, m⟩, hz, he⟩ := List.mem_map.1 h1
    unfold stP at he
    have e1 : pl.findIdx (pmP m) = t := congrArg Prod.fst he
    have e2 := congrArg Prod.snd he
    dsimp only at e2
    rw [Bool.and_eq_true, Bool.and_eq_true] at e2
    obtain ⟨k, hk, hm⟩ := at_zip hz
    obtain ⟨x, hx, rfl⟩ := te_at hk
    obtain ⟨tx, p, h2, h3, rfl, h5, h6⟩ := h.tie k x m hx hm
    have hix := po_idx hnd h3
    rw [hix] at e1
    subst e1
    rw [hix, h3] at e2
    dsimp only at e2
    obtain ⟨z2, hz2, hs2, hm2⟩ := (hmp p.m).1 (of_decide_eq_true e2.2.1)
    obtain ⟨ky, hky, hmy⟩ := at_zip (a := z2.1) (b := z2.2) hz2
    obtain ⟨y, hy, hye⟩ := te_at hky
    obtain ⟨ty, py, h2y, h3y, h4y, h5y, h6y⟩ := h.tie ky y z2.2 hy hmy
    have hty : ty = tx := by have := po_idx hnd h3y; rw [h4y, hm2, hix] at this; exact this.symm
    have hxm := List.mem_of_getElem? hx
    refine List.mem_map.2 ⟨x, hxm, ?_⟩
    unfold stR
    have e3 : x.z.k.toNat = tx := by omega
    rw [e3]
    congr 1
    unfold ovR
    rw [Bool.and_eq_true, List.any_eq_true, List.any_eq_true]
    refine ⟨⟨y, List.mem_of_getElem? hy, ?_⟩, x, hxm, ?_⟩
    · unfold ovO
      rw [decide_eq_true (show y.z.k = x.z.k by omega), decide_eq_true (show y.e.st < 3 by rw [hye]; have := st_in2.1 hs2; omega)]; rfl
    · unfold ovL
      rw [decide_eq_true rfl, late_over h5 h6, e2.2.2]; rfl
theorem gvOf_at {pl : List Po} {t : Nat} {p : Po} (hnd : (pl.map Po.m).Nodup) (h : pl[t]? = some p) : gvOf pl p.m = p.gv := by unfold gvOf; rw [po_idx hnd h, h]
theorem exp_same {now : Int} {q q2 : List Te} {ms mp : List Nat} {pl pl2 : List Po} {n2 cnt : Nat} (h : Tie2 q ms pl) (hnd : (pl.map Po.m).Nodup) (hmp : ∀ k, k ∈ mp ↔ ∃ z ∈ (q.map Te.e).zip ms, z.1.st ∈ [0, 1, 2] ∧ z.2 = k)
    (hP : ((q.map Te.e).zip ms).foldl (exP mp now) (pl, 0) = (pl2, n2)) (hR : (q2, cnt) = (List.range q.length).foldl (exR now) (q, 0)) :
    cnt = n2 ∧ q2.map Te.e = ((q.map Te.e).zip ms).map (exE pl2) ∧ q2.map Te.z = q.map Te.z ∧ SameP pl pl2 ∧ Tie2 q2 ms pl2 := by
  have hz : ∀ z ∈ (q.map Te.e).zip ms, ∃ p ∈ pl, p.m = z.2 := fun z hz => by
    obtain ⟨k, hk, hm⟩ := at_zip (a := z.1) (b := z.2) hz
    obtain ⟨x, hx, _⟩ := te_at hk
    obtain ⟨t, p, _, h2, h3, _⟩ := h.tie k x _ hx hm
    exact ⟨p, List.mem_of_getElem? h2, h3⟩
  obtain ⟨hs, hm⟩ := exP_mark (mp := mp) (now := now) hnd _ pl 0 hz ⟨rfl, fun t p hp => ⟨p.gv, hp⟩⟩
  rw [hP] at hs hm
  dsimp only at hs hm
  have hk : ∀ x ∈ q, 0 ≤ x.z.k ∧ x.z.k.toNat < (pl.map Po.gv).length := fun x hx => by
    obtain ⟨k, m, t, p, _, _, h1, h2, _⟩ := h.at hx
    have := (List.getElem?_eq_some_iff.1 h2).1
    rw [List.length_map]; omega
  have hgt : ∀ x ∈ q, ∀ {cur : List Po} {t : Nat}, x.z.k = ((t : Nat) : Int) → (cur.map Po.gv)[x.z.k.toNat]? = (cur[t]?).map Po.gv := fun x hx cur t ht => by
    rw [show x.z.k.toNat = t by omega, List.getElem?_map]
  have h0 : ∀ x ∈ q, (pl.map Po.gv)[x.z.k.toNat]? = some true → x.e.st = 4 := fun x hx hg => by
    obtain ⟨k, m, t, p, h1, _, h2, h3, _⟩ := h.at hx
    rw [hgt x hx h2, h3] at hg
    exact h.gv k x t p h1 h2 h3 (Option.some.inj hg)
  obtain ⟨b, n, hb, hq⟩ := exR_mark (now := now) hk h0 q.length (Nat.le_refl _)
  rw [List.take_length] at hb
  rw [← hR] at hq
  have e1 : q2 = q.map (phE b) := congrArg Prod.fst hq
  have e2 : cnt = n := congrArg Prod.snd hq
  have hsame := mkS_same (s := (pl.map Po.gv, 0)) (l1 := q.map (stR now q)) (l2 := ((q.map Te.e).zip ms).map (stP mp now pl)) fun t _ => mark_iff h hnd hmp t
  rw [hb, ← hm] at hsame
  have e3 : b = pl2.map Po.gv := congrArg Prod.fst hsame
  have e4 : n = n2 := congrArg Prod.snd hsame
  have hnd2 : (pl2.map Po.m).Nodup := by rw [hs.ms]; exact hnd
  have hph : ∀ (k : Nat) (x : Te) (m : Nat), q[k]? = some x → ms[k]? = some m → (phE b x).e = exE pl2 (x.e, m) := fun k x m hx hmk => by
    have hxm := List.mem_of_getElem? hx
    obtain ⟨t, p, h1, h2, rfl, _⟩ := h.tie k x m hx hmk
    obtain ⟨g, hg⟩ := hs.2 t p h2
    have hb2 : b[x.z.k.toNat]? = some g := by rw [e3, hgt x hxm h1, hg]; rfl
    have hgo : gvOf pl2 p.m = g := gvOf_at (p := ⟨p.m, p.un, p.tr, g⟩) hnd2 hg
    unfold phE exE
    rw [hb2, hgo]
    cases g with
    | false => rw [if_neg (by decide), if_neg (by simp)]
    | true =>
      rw [if_pos rfl]
      by_cases h4 : x.e.st = 4
      · rw [if_neg (fun h9 => by have := st_in3.1 h9.1; dsimp only at this; omega)]
        exact setSt4 h4
      · have := h.st x hxm
        rw [if_pos ⟨st_in3.2 (by dsimp only; omega), rfl⟩]
  have hes : q2.map Te.e = ((q.map Te.e).zip ms).map (exE pl2) := List.ext_getElem? fun k => by
    rw [e1, List.map_map, List.getElem?_map, List.getElem?_map]
    cases hx : q[k]? with
    | none =>
      rw [List.getElem?_eq_none_iff] at hx
      rw [List.getElem?_eq_none (by rw [List.length_zip, List.length_map]; omega)]; rfl
    | some x =>
      have hl := (List.getElem?_eq_some_iff.1 hx).1
      have hmk : ms[k]? = some (ms[k]'(by rw [h.len]; exact hl)) := List.getElem?_eq_getElem _
      have hzk : ((q.map Te.e).zip ms)[k]? = some (x.e, ms[k]'(by rw [h.len]; exact hl)) := by rw [List.getElem?_zip_eq_some]; exact ⟨te_e hx, hmk⟩
      rw [hzk]
      exact congrArg some (hph k x _ hx hmk)
  have hzs : q2.map Te.z = q.map Te.z := by rw [e1, List.map_map]; exact List.map_congr_left fun x _ => phE_z
  have hat : ∀ (k : Nat) (y : Te), q2[k]? = some y → ∃ x, q[k]? = some x ∧ y = phE b x := fun k y hy => by
    rw [e1, List.getElem?_map] at hy
    cases hx : q[k]? with
    | none => rw [hx] at hy; cases hy
    | some x => rw [hx] at hy; exact ⟨x, rfl, (Option.some.inj hy).symm⟩
  refine ⟨e2.trans e4, hes, hzs, hs, ⟨by rw [h.len, e1, List.length_map], fun k y m hy hmk => ?_, fun k y t p hy ht hp hg => ?_, fun y hy => ?_⟩⟩
  · obtain ⟨x, hx, rfl⟩ := hat k y hy
    obtain ⟨t, p, h1, h2, h3, h4, h5⟩ := h.tie k x m hx hmk
    obtain ⟨g, hg⟩ := hs.2 t p h2
    rw [phE_z]
    exact ⟨t, _, h1, hg, h3, h4, h5⟩
  · obtain ⟨x, hx, rfl⟩ := hat k y hy
    rw [phE_z] at ht
    have hb2 : b[x.z.k.toNat]? = some true := by rw [e3, hgt x (List.mem_of_getElem? hx) ht, hp]; exact congrArg some hg
    unfold phE
    rw [if_pos hb2]; rfl
  · obtain ⟨k, hk2⟩ := List.getElem?_of_mem hy
    obtain ⟨x, hx, rfl⟩ := hat k y hk2
    have := h.st x (List.mem_of_getElem? hx)
    unfold phE
    split
    · exact ⟨by show (0 : Int) ≤ 4; decide, by show (4 : Int) ≤ 4; decide⟩
    · exact this
set_option linter.unusedVariables false
set_option linter.unusedSimpArgs false
def Tq (F : Nat) (q : List Te) (nx cn : Int) (B L : HL) : Prop := ∃ (lv : AV) (lc : List AV), Sq 19 lv lc (q.map teRow).flatten ∧ (∀ x ∈ q, OctIn B x.dv x.e.c.d) ∧ L = [(F, some (.cells [lv, .i .u32 nx, .i .i64 cn] true))] ++ qseg lv lc
section
variable {H : AH} {F : Nat} {q : List Te} {nx cn : Int} {B L R : HL}
theorem tq_new0 (a : Int) : Tq F [] a 0 B ([(F, some (.cells [.sl none 0 0 0, .i .u32 a, .i .i64 0] true))] ++ []) := ⟨.sl none 0 0 0, [], Sq.nil, fun x hx => (by cases hx), rfl⟩
theorem tq_time (h : Tq F q nx cn B L) (hl : q.length ≤ 100000) (hH : Hs H (L ++ R)) : Ev tabA spA (.fn (.func 51) [] []) [.p (some (F, 0))] H (fun r H' => ∃ (q' : List Te) (L' : HL), r = .i .i64 ((tcn (q.map Te.e) : Nat) : Int) ∧ q'.map Te.e = (q.map Te.e).map toE ∧ q'.map Te.z = q.map Te.z ∧ Tq F q' nx cn B L' ∧ Hs H' (L' ++ R)) := by
 obtain ⟨lv, lc, h1, h2, rfl⟩ := h
 rw [List.append_assoc] at *
 refine Ev.mono (rtime_raw h1 rfl hl h2 hH) fun r H2 hq => ?_
 obtain ⟨q', lc', h3, h4, h5, h6, h7, _, h9⟩ := hq
 exact ⟨q', _, h3, h4, h5, ⟨lv, lc', h7, h6, rfl⟩, by rw [List.append_assoc]; exact h9⟩
theorem tq_exp {now : Int} (h : Tq F q nx cn B L) (hl : q.length ≤ 100000) (hH : Hs H (L ++ R)) : Ev tabA spA (.fn (.func 52) [] []) [.p (some (F, 0)), .i .i64 now] H (fun r H' => ∃ (q' : List Te) (cnt : Nat) (L' : HL), r = .i .i64 ((cnt : Nat) : Int) ∧ (q', cnt) = (List.range q.length).foldl (exR now) (q, 0) ∧ Tq F q' nx cn B L' ∧ Hs H' (L' ++ R)) := by
 obtain ⟨lv, lc, h1, h2, rfl⟩ := h
 rw [List.append_assoc] at *
 refine Ev.mono (rexp_raw h1 rfl hl h2 hH) fun r H2 hq => ?_
 obtain ⟨q', cnt, lc', h3, h4, h5, h6, _, h9⟩ := hq
 exact ⟨q', cnt, _, h3, h4, ⟨lv, lc', h6, h5, rfl⟩, by rw [List.append_assoc]; exact h9⟩
theorem tq_take {now room : Int} (h : Tq F q nx cn B L) (hl : q.length ≤ 100000) (hsz : ∀ e ∈ q.map Te.e, e.c.d.length ≤ 1000000) (hse : ∀ e ∈ q.map Te.e, 0 ≤ e.sent ∧ e.sent ≤ 1000000) (hrm : room ≤ 9223372036854775807) (hH : Hs H (L ++ R)) : Ev tabA spA (.fn (.func 49) [] []) [.p (some (F, 0)), .i .i64 now, .i .i64 room] H (fun r H' => ∃ (q' : List Te) (L' : HL) (ov : AV) (oc : List AV) (rows : List (List AV)), r = ov ∧ q'.map Te.e = (take2 now (q.map Te.e) room).1 ∧ q'.map Te.z = q.map Te.z ∧ Tq F q' nx cn B L' ∧ Sq 12 ov oc rows.flatten ∧ CxsR B rows ((take2 now (q.map Te.e) room).2.map Ea.ca) ∧ Hs H' (L' ++ (qseg ov oc ++ R))) := by
 obtain ⟨lv, lc, h1, h2, rfl⟩ := h
 rw [List.append_assoc] at *
 refine Ev.mono (rtake_raw h1 rfl hl h2 hsz hse hrm hH) fun r H2 hq => ?_
 obtain ⟨q', lc', ov, oc, rows, h3, h4, h5, h6, h7, _, h8, h9, hh⟩ := hq
 exact ⟨q', _, ov, oc, rows, h3, h4, h5, ⟨lv, lc', h7, h6, rfl⟩, h8, h9, by rw [List.append_assoc]; exact hh⟩
theorem tq_pushbad {v : AV} {rows : List (List AV)} {cs : List (Cx × Int)} {un tr : Int} (h : Tq F q nx cn B L) (hv : ∀ H', Hs H' B → Rw 12 H' v rows) (hcr : CxsR B rows cs) (hcl : cs.length ≤ 1000000) (hl : q.length ≤ 100000) (hbad : cs.length = 0 ∨ ∃ c ∈ cs, bdC c = true) (hH : Hs H (L ++ (B ++ R))) : Ev tabA spA (.fn (.func 47) [] []) [.p (some (F, 0)), v, .i .i64 un, .i .i64 tr] H (fun r H' => r = .i .i64 1 ∧ Hs H' (L ++ (B ++ R))) := by
 obtain ⟨lv, lc, h1, h2, rfl⟩ := h
 rw [List.append_assoc] at *
 exact rpush_bad hv hcr hcl h1 rfl hl hbad hH
theorem tq_push {v : AV} {rows : List (List AV)} {cs : List (Cx × Int)} {un tr : Int} (h : Tq F q nx cn B L) (hv : ∀ H', Hs H' B → Rw 12 H' v rows) (hcr : CxsR B rows cs) (hcl : cs.length ≤ 1000000) (hl : q.length ≤ 100000) (hgood : ∀ c ∈ cs, bdC c = false) (hne : 0 < cs.length) (hfit : q.length + cs.length ≤ 1024) (hnx : 0 ≤ nx ∧ nx < 4294967296) (hcn : 0 ≤ cn ∧ cn ≤ 1000000) (hH : Hs H (L ++ (B ++ R))) : Ev tabA spA (.fn (.func 47) [] []) [.p (some (F, 0)), v, .i .i64 un, .i .i64 tr] H (fun r H' => ∃ (q' : List Te) (L' : HL), r = .i .i64 0 ∧ q'.map Te.e = q.map Te.e ++ pushA cs nx ∧ q'.map Te.z = q.map Te.z ++ List.replicate cs.length ⟨cn, un, tr⟩ ∧ Tq F q' (w32 (nx + ((cs.length : Nat) : Int))) (cn + 1) B L' ∧ Hs H' (L' ++ (B ++ R))) := by
 obtain ⟨lv, lc, h1, h2, rfl⟩ := h
 rw [List.append_assoc] at *
 refine Ev.mono (rpush_raw hv hcr hcl h1 rfl hl h2 hgood hne hfit hnx hcn hH) fun r H2 hq => ?_
 obtain ⟨q', lv', lc', h3, h4, h5, h6, h7, _, hh⟩ := hq
 exact ⟨q', _, h3, h4, h5, ⟨lv', lc', h7, h6, rfl⟩, by rw [List.append_assoc]; exact hh⟩
theorem tq_ackno {v : AV} {cum now : Int} {m : Nat} (h : Tq F q nx cn B L) (hl : q.length ≤ 100000) (hcr : 0 ≤ cum ∧ cum < 4294967296) (hcum : w32 (cum - floorA nx q.length) = ((m : Nat) : Int)) (hno : ¬ AckOK (q.map Te.e) m) (hH : Hs H (L ++ R)) : Ev tabA spA (.fn (.func 50) [] []) [.p (some (F, 0)), .i .u32 cum, v, .i .i64 now] H (fun r H' => r = .tup [.i .i64 0, .i .i64 0, .b false, .b false, .b false] ∧ Hs H' (L ++ R)) := by
 obtain ⟨lv, lc, h1, h2, rfl⟩ := h
 rw [List.append_assoc] at *
 exact rack_no h1 rfl hl hcr hcum hno hH
theorem tq_ack {v : AV} {rows : List (List AV)} {bl : List (Int × Int)} {cum now : Int} {m : Nat} (h : Tq F q nx cn B L) (hl : q.length ≤ 100000) (hsz : ∀ e ∈ q.map Te.e, e.c.d.length ≤ 1000000) (hv : ∀ H', Hs H' B → Rw 2 H' v rows) (hbr : BksR rows bl) (hbl : bl.length ≤ 100000) (hcr : 0 ≤ cum ∧ cum < 4294967296) (hcum : w32 (cum - floorA nx q.length) = ((m : Nat) : Int)) (hyes : AckOK (q.map Te.e) m) (hnow : 0 ≤ now ∧ now ≤ 4611686018427387904) (htm : ∀ e ∈ q.map Te.e, 0 ≤ e.tm ∧ e.tm ≤ 4611686018427387904) (hmi : ∀ e ∈ q.map Te.e, 0 ≤ e.mi ∧ e.mi ≤ 1000000) (hH : Hs H (L ++ (B ++ R))) : Ev tabA spA (.fn (.func 50) [] []) [.p (some (F, 0)), .i .u32 cum, v, .i .i64 now] H (fun r H' => ∃ (q' : List Te) (L' : HL), r = .tup [.i .i64 ((ackB bl (q.map Te.e) m : Nat) : Int), .i .i64 (drS now ((q.map Te.e).take m) (-1)), .b (ackL bl (q.map Te.e) m), .b (decide ((0 : Int) < ((m : Nat) : Int))), .b true] ∧ q'.map Te.e = ackE bl (q.map Te.e) m ∧ q'.map Te.z = (q.map Te.z).drop m ∧ Tq F q' nx cn B L' ∧ Hs H' (L' ++ (B ++ R))) := by
 obtain ⟨lv, lc, h1, h2, rfl⟩ := h
 rw [List.append_assoc] at *
 refine Ev.mono (rack_raw h1 rfl hl h2 hsz hv hbr hbl hcr hcum hyes (by have := hyes.1; rw [List.length_map] at this; exact this) hnow htm hmi hH) fun r H2 hq => ?_
 obtain ⟨q', lv', lc', h3, h4, h5, h6, h7, _, hh⟩ := hq
 exact ⟨q', _, h3, h4, h5, ⟨lv', lc', h7, h6, rfl⟩, by rw [List.append_assoc]; exact hh⟩
end
theorem te_z {q : List Te} {i : Nat} {x : Te} (h : q[i]? = some x) : (q.map Te.z)[i]? = some x.z := by rw [List.getElem?_map, h]; rfl
theorem same_len {q q' : List Te} {n : Nat} (h : q'.map Te.z = (q.map Te.z).drop n) : q'.length = q.length - n := by
 have := congrArg List.length h
 rw [List.length_map, List.length_drop, List.length_map] at this; exact this
def Nx (e e' : Ea) : Prop := e'.c = e.c ∧ (e.st = 4 → e'.st = 4) ∧ (0 ≤ e.st ∧ e.st ≤ 4 → 0 ≤ e'.st ∧ e'.st ≤ 4)
structure Sj (B : HL) (i : Nat) (q : List Te) (ms : List Nat) (pl : List Po) (nx : Int) : Prop where
 F : Fi i (q.map Te.e) nx
 T : Tie2 q ms pl
 g : ∀ x ∈ q, CxG B x.e.c
 pn : pl.length ≤ i
theorem Sj.next {B : HL} {i n : Nat} {q q' : List Te} {ms : List Nat} {pl : List Po} {nx : Int} (h : Sj B i q ms pl nx) (hF : Fi (i + 1) (q'.map Te.e) nx) (hz : q'.map Te.z = (q.map Te.z).drop n) (he : Pw Nx ((q.map Te.e).drop n) (q'.map Te.e)) : Sj B (i + 1) q' (ms.drop n) pl nx := by
  have hat : ∀ (k : Nat) (x' : Te), q'[k]? = some x' → ∃ x, q[k + n]? = some x ∧ x'.z = x.z ∧ Nx x.e x'.e := fun k x' hx' => by
    obtain ⟨e, h1, h2⟩ := he.2 k x'.e (te_e hx')
    rw [List.getElem?_drop, Nat.add_comm] at h1
    obtain ⟨x, hx, rfl⟩ := te_at h1
    have h3 := te_z hx'
    rw [hz, List.getElem?_drop, Nat.add_comm, te_z hx] at h3
    exact ⟨x, hx, (Option.some.inj h3).symm, h2⟩
  refine ⟨hF, ⟨?_, fun k x' m hx' hm => ?_, fun k x' t p hx' ht hp hg => ?_, fun x' hx' => ?_⟩, fun x' hx' => ?_, Nat.le_succ_of_le h.pn⟩
  · rw [List.length_drop, h.T.len, same_len hz]
  · obtain ⟨x, hx, hxz, _⟩ := hat k x' hx'
    rw [List.getElem?_drop, Nat.add_comm] at hm
    obtain ⟨t, p, h1⟩ := h.T.tie _ x m hx hm
    rw [hxz]; exact ⟨t, p, h1⟩
  · obtain ⟨x, hx, hxz, h2, h3, h4⟩ := hat k x' hx'
    rw [hxz] at ht
    exact h3 (h.T.gv _ x t p hx ht hp hg)
  · obtain ⟨k, hk⟩ := List.getElem?_of_mem hx'
    obtain ⟨x, hx, hxz, h2, h3, h4⟩ := hat k x' hk
    exact h4 (h.T.st x (List.mem_of_getElem? hx))
  · obtain ⟨k, hk⟩ := List.getElem?_of_mem hx'
    obtain ⟨x, hx, hxz, h2, h3, h4⟩ := hat k x' hk
    rw [h2]; exact h.g x (List.mem_of_getElem? hx)
theorem Nx.refl (e : Ea) : Nx e e := ⟨rfl, id, id⟩
theorem take2_pw2 {now room : Int} {es : List Ea} : Pw Nx es (take2 now es room).1 := by
  have hf : ∀ s : Int, ¬ s = 4 → ∀ a b : Ea, flS s now a b → Nx a b := fun s hs a b h => by
    rcases h with rfl | ⟨h1, rfl⟩
    · exact Nx.refl _
    · exact ⟨rfl, fun h9 => absurd (h1.symm.trans h9) hs, fun _ => ⟨by show (0 : Int) ≤ 1; decide, by show (1 : Int) ≤ 4; decide⟩⟩
  unfold take2
  split
  · exact takeL_pw.weak (hf 2 (by decide))
  · exact (takeL_pw.weak (hf 2 (by decide))).trans (T := Nx) (takeL_pw.weak (hf 0 (by decide))) fun a b c h1 h2 => ⟨h2.1.trans h1.1, fun h => h2.2.1 (h1.2.1 h), fun h => h2.2.2 (h1.2.2 h)⟩
theorem toE_nx (e : Ea) : Nx e (toE e) := by
  unfold toE
  split
  · rename_i h; exact ⟨rfl, fun h9 => by rw [h] at h9; exact absurd h9 (by decide), fun _ => ⟨by show (0 : Int) ≤ 2; decide, by show (2 : Int) ≤ 4; decide⟩⟩
  · exact Nx.refl _
theorem mk1_nx (c : Bool) (e : Ea) : Nx e (mk1 c e) := by
  unfold mk1
  split
  · rename_i h
    exact ⟨rfl, fun h9 => by rcases h.2 with h8 | h8 <;> rw [h8] at h9 <;> exact absurd h9 (by decide), fun _ => ⟨by show (0 : Int) ≤ 3; decide, by show (3 : Int) ≤ 4; decide⟩⟩
  · split
    · rename_i h; exact ⟨rfl, fun h9 => by rw [h.2] at h9; exact absurd h9 (by decide), fun _ => ⟨by show (0 : Int) ≤ 1; decide, by show (1 : Int) ≤ 4; decide⟩⟩
    · exact Nx.refl _
theorem msE_nx (e : Ea) : Nx e (msE e) := by
  unfold msE
  split
  · rename_i h
    split
    · exact ⟨rfl, fun h9 => by rw [h] at h9; exact absurd h9 (by decide), fun _ => ⟨by show (0 : Int) ≤ 2; decide, by show (2 : Int) ≤ 4; decide⟩⟩
    · exact ⟨rfl, fun h9 => by rw [h] at h9; exact absurd h9 (by decide), fun _ => ⟨by show (0 : Int) ≤ 1; decide, by show (1 : Int) ≤ 4; decide⟩⟩
  · exact Nx.refl _
theorem Nx.trans {a b c : Ea} (h1 : Nx a b) (h2 : Nx b c) : Nx a c := ⟨h2.1.trans h1.1, fun h => h2.2.1 (h1.2.1 h), fun h => h2.2.2 (h1.2.2 h)⟩
section
variable {B : HL} {i : Nat} {q q' : List Te} {ms : List Nat} {pl : List Po} {nx : Int}
theorem Sj.take {now room : Int} (h : Sj B i q ms pl nx) (hn : 0 ≤ now ∧ now ≤ 1099511627775) (he : q'.map Te.e = (take2 now (q.map Te.e) room).1) (hz : q'.map Te.z = q.map Te.z) : Sj B (i + 1) q' ms pl nx :=
 h.next (n := 0) (by rw [he]; exact h.F.take hn) (by rw [List.drop_zero]; exact hz) (by rw [List.drop_zero, he]; exact take2_pw2)
theorem Sj.timeout (h : Sj B i q ms pl nx) (he : q'.map Te.e = (q.map Te.e).map toE) (hz : q'.map Te.z = q.map Te.z) : Sj B (i + 1) q' ms pl nx :=
 h.next (n := 0) (by rw [he]; exact h.F.timeout) (by rw [List.drop_zero]; exact hz) (by rw [List.drop_zero, he]; exact Pw.map toE toE_nx)
theorem Sj.ack {bl : List (Int × Int)} {n : Nat} (h : Sj B i q ms pl nx) (hn : n ≤ (q.map Te.e).length) (he : q'.map Te.e = ackE bl (q.map Te.e) n) (hz : q'.map Te.z = (q.map Te.z).drop n) : Sj B (i + 1) q' (ms.drop n) pl nx :=
  h.next (n := n) (by rw [he]; exact h.F.ack hn) hz (by
    rw [he]
    refine ackE_pw.weak fun a b hab => ?_
    obtain ⟨c, rfl | rfl⟩ := hab
    · exact mk1_nx c a
    · exact (mk1_nx c a).trans (msE_nx _))
theorem Sj.mono (h : Sj B i q ms pl nx) : Sj B (i + 1) q ms pl nx := ⟨h.F.mono, h.T, h.g, Nat.le_succ_of_le h.pn⟩
theorem Sj.expire {now : Int} {mp : List Nat} {pl2 : List Po} {n2 cnt : Nat} (h : Sj B i q ms pl nx) (hnd : (pl.map Po.m).Nodup) (hmp : ∀ k, k ∈ mp ↔ ∃ z ∈ (q.map Te.e).zip ms, z.1.st ∈ [0, 1, 2] ∧ z.2 = k)
    (hP : ((q.map Te.e).zip ms).foldl (exP mp now) (pl, 0) = (pl2, n2)) (hR : (q', cnt) = (List.range q.length).foldl (exR now) (q, 0)) : cnt = n2 ∧ q'.map Te.e = ((q.map Te.e).zip ms).map (exE pl2) ∧ Sj B (i + 1) q' ms pl2 nx ∧ pl2.length = pl.length := by
  obtain ⟨h1, h2, h3, h4, h5⟩ := exp_same h.T hnd hmp hP hR
  refine ⟨h1, h2, ⟨by rw [h2]; exact h.F.expire (by rw [List.length_map]; exact h.T.len), h5, fun x hx => ?_, by rw [h4.1]; exact Nat.le_succ_of_le h.pn⟩, h4.1⟩
  obtain ⟨k, hk⟩ := List.getElem?_of_mem hx
  have h6 := te_e hk
  rw [h2, List.getElem?_map] at h6
  cases hz : ((q.map Te.e).zip ms)[k]? with
  | none => rw [hz] at h6; cases h6
  | some z =>
    rw [hz] at h6
    have h7 : exE pl2 z = x.e := Option.some.inj h6
    have h8 := List.getElem?_zip_eq_some.1 (show ((q.map Te.e).zip ms)[k]? = some (z.1, z.2) from hz)
    obtain ⟨y, hy, hye⟩ := te_at h8.1
    have h9 : x.e.c = y.e.c := by rw [← h7, hye]; unfold exE; split <;> rfl
    rw [h9]; exact h.g y (List.mem_of_getElem? hy)
theorem app_get {α : Type} {l m : List α} {k : Nat} {x : α} (h : (l ++ m)[k]? = some x) : (k < l.length ∧ l[k]? = some x) ∨ (l.length ≤ k ∧ m[k - l.length]? = some x) := by
  by_cases hk : k < l.length
  · rw [List.getElem?_append_left hk] at h; exact .inl ⟨hk, h⟩
  · rw [List.getElem?_append_right (by omega)] at h; exact .inr ⟨by omega, h⟩
theorem Sj.push {cs : List (Cx × Int)} {m : Nat} {un tr : Int} (h : Sj B i q ms pl nx) (hl : cs.length ≤ 10) (hc : ∀ c ∈ cs, c.1.d.length ≤ 1200) (hg : ∀ c ∈ cs, CxG B c.1) (he : q'.map Te.e = q.map Te.e ++ pushA cs nx) (hz : q'.map Te.z = q.map Te.z ++ List.replicate cs.length ⟨((pl.length : Nat) : Int), un, tr⟩) :
    Sj B (i + 1) q' (ms ++ List.replicate cs.length m) (pl ++ [⟨m, un, tr, false⟩]) (w32 (nx + ((cs.length : Nat) : Int))) := by
  have hlen : q'.length = q.length + cs.length := by have := congrArg List.length he; rw [List.length_map, List.length_append, List.length_map, pushA_len] at this; exact this
  have hat : ∀ (k : Nat) (x' : Te), q'[k]? = some x' → (∃ x, q[k]? = some x ∧ x'.e = x.e ∧ x'.z = x.z) ∨ (q.length ≤ k ∧ (∃ c ∈ cs, x'.e.c = c.1) ∧ x'.e.st = 0 ∧ x'.z = ⟨((pl.length : Nat) : Int), un, tr⟩) := fun k x' hx' => by
    have h1 := te_e hx'
    have h2 := te_z hx'
    rw [he] at h1
    rw [hz] at h2
    rcases app_get h1 with ⟨hk, h3⟩ | ⟨hk, h3⟩
    · rcases app_get h2 with ⟨_, h4⟩ | ⟨hk2, _⟩
      · obtain ⟨x, hx, hxe⟩ := te_at h3
        rw [te_z hx] at h4
        exact .inl ⟨x, hx, hxe.symm, (Option.some.inj h4).symm⟩
      · rw [List.length_map] at hk hk2; omega
    · rcases app_get h2 with ⟨hk2, _⟩ | ⟨hk2, h4⟩
      · rw [List.length_map] at hk hk2; omega
      · obtain ⟨c, hc1, hc2⟩ := pushA_get h3
        rw [List.length_map] at hk
        exact .inr ⟨hk, ⟨c, List.mem_of_getElem? hc1, by rw [hc2]⟩, by rw [hc2], (List.eq_of_mem_replicate (List.mem_of_getElem? h4))⟩
  refine ⟨by rw [he]; exact (h.F.push hl hc).1, ⟨?_, fun k x' m' hx' hm => ?_, fun k x' t p hx' ht hp hgv => ?_, fun x' hx' => ?_⟩, fun x' hx' => ?_, by rw [List.length_append]; have := h.pn; show pl.length + 1 ≤ _; omega⟩
  · rw [List.length_append, List.length_replicate, hlen, h.T.len]
  · rcases hat k x' hx' with ⟨x, hx, _, hxz⟩ | ⟨hk, _, _, hxz⟩
    · have hk := (List.getElem?_eq_some_iff.1 hx).1
      rw [List.getElem?_append_left (by rw [h.T.len]; exact hk)] at hm
      obtain ⟨t, p, h1, h2, h3⟩ := h.T.tie k x m' hx hm
      rw [hxz]
      exact ⟨t, p, h1, by rw [List.getElem?_append_left (List.getElem?_eq_some_iff.1 h2).1]; exact h2, h3⟩
    · rw [List.getElem?_append_right (by rw [h.T.len]; exact hk)] at hm
      have hm2 := List.eq_of_mem_replicate (List.mem_of_getElem? hm)
      rw [hxz, hm2]
      exact ⟨pl.length, ⟨m, un, tr, false⟩, rfl, by rw [List.getElem?_append_right (Nat.le_refl _), Nat.sub_self]; rfl, rfl, rfl, rfl⟩
  · rcases app_get hp with ⟨_, h4⟩ | ⟨h3, h4⟩
    · rcases hat k x' hx' with ⟨x, hx, hxe, hxz⟩ | ⟨_, _, _, hxz⟩
      · rw [hxe]; exact h.T.gv k x t p hx (by rw [← hxz]; exact ht) h4 hgv
      · rw [hxz] at ht
        have := (List.getElem?_eq_some_iff.1 h4).1
        have h9 : ((pl.length : Nat) : Int) = ((t : Nat) : Int) := ht
        omega
    · have hp2 := List.mem_singleton.1 (List.mem_of_getElem? h4)
      rw [hp2] at hgv; cases hgv
  · obtain ⟨k, hk⟩ := List.getElem?_of_mem hx'
    rcases hat k x' hk with ⟨x, hx, hxe, _⟩ | ⟨_, _, hst, _⟩
    · rw [hxe]; exact h.T.st x (List.mem_of_getElem? hx)
    · rw [hst]; decide
  · obtain ⟨k, hk⟩ := List.getElem?_of_mem hx'
    rcases hat k x' hk with ⟨x, hx, hxe, _⟩ | ⟨_, ⟨c, hcm, hcc⟩, _⟩
    · rw [hxe]; exact h.g x (List.mem_of_getElem? hx)
    · rw [hcc]; exact hg c hcm
theorem num_inv {a nx : Int} {n len : Nat} (hcum : w32 (a - floorA nx len) = ((n : Nat) : Int)) (h0 : 0 ≤ a ∧ a < 4294967296) (hn : 1 ≤ n) : a = w32 (nx - ((len : Nat) : Int) + ((n - 1 : Nat) : Int)) := by
 have h1 : w32 (floorA nx len + w32 (a - floorA nx len)) = a := by
  rw [w32_addr, show floorA nx len + (a - floorA nx len) = a by omega]; exact w32_small h0
 rw [hcum, floorA_eq2, w32_addl] at h1
 rw [← h1]
 congr 1; omega
theorem octs_two {a : Int} : ∀ {l : List Ea}, octs [a, a] l = octs [a] l
  | [] => rfl
  | e :: l => by
    show (if e.st ∈ [a, a] then _ else 0) + _ = (if e.st ∈ [a] then _ else 0) + _
    rw [octs_two]
    congr 1
    by_cases h : e.st = a
    · rw [if_pos (by simp [h]), if_pos (by simp [h])]
    · rw [if_neg (by simp [h]), if_neg (by simp [h])]
end
theorem qp_nd {H : AH} {F : Nat} {es : List Ea} {ms : List Nat} {pl : List Po} {nx : Int} {D L R : HL} (h : Qp F es ms pl nx D L) (hH : Hs H (L ++ R)) : (pl.map Po.m).Nodup := by
  obtain ⟨L1, _, h2⟩ := h.qr
  have h3 := ((h2 _ _).1 hH).sub.nd
  rw [List.map_append] at h3
  have h4 := (List.nodup_append.1 h3).1
  have e : ∀ l : List Po, (l.flatMap Po.seg).map Prod.fst = l.map Po.m := fun l => by
    induction l with
    | nil => rfl
    | cons p l ih => rw [List.flatMap_cons, List.map_append, ih]; rfl
  rw [e] at h4; exact h4
theorem took_g {B : HL} {i : Nat} {q : List Te} {ms : List Nat} {pl : List Po} {nx now room : Int} (h : Sj B i q ms pl nx) : ∀ c ∈ (take2 now (q.map Te.e) room).2.map Ea.ca, CxG B c.1 := fun c hc => by
 obtain ⟨e, he, rfl⟩ := List.mem_map.1 hc
 obtain ⟨k, h1, _⟩ := take2_told e he
 obtain ⟨x, hx, rfl⟩ := te_at h1
 exact h.g x (List.mem_of_getElem? hx)
theorem took_len {now room : Int} {es : List Ea} : (take2 now es room).2.length ≤ es.length + es.length := by
  unfold take2
  split
  · exact Nat.le_trans takeL_outs (Nat.le_add_right _ _)
  · show List.length (_ ++ _) ≤ _
    rw [List.length_append]
    have h1 := takeL_outs (s := 2) (now := now) (l := es) (r := room)
    have h2 := takeL_outs (s := 0) (now := now) (l := (takeL 2 now es room).1) (r := (takeL 2 now es room).2.2.1)
    rw [takeL_len] at h2
    omega
set_option linter.unusedVariables false
set_option linter.unusedSimpArgs false
set_option maxHeartbeats 2000000 in
theorem step_ev {H : AH} {R B D L LT : HL} {FP FT i : Nat} {q : List Te} {ms : List Nat} {pl : List Po} {nx : Int} {o : Op} {a0 : Int} (hQ : Qp FP (q.map Te.e) ms pl nx D L) (hT : Tq FT q nx ((pl.length : Nat) : Int) B LT) (hS : Sj B i q ms pl nx) (hi : i ≤ 40) (hog : OpG B o) (hof : OpF o) (hH0 : Hs H (L ++ (D ++ (LT ++ (B ++ (R)))))) : Ev tabA spA (.fn (.func 29) [] []) [.p (some (FP, 0)), .p (some (FT, 0)), .agg (opRow o), .i .u32 a0] H (fun r H' => r = .b true ∧ ∃ (q2 : List Te) (ms2 : List Nat) (pl2 : List Po) (nx2 : Int) (D2 L2 LT2 : HL), Qp FP (q2.map Te.e) ms2 pl2 nx2 D2 L2 ∧ Tq FT q2 nx2 ((pl2.length : Nat) : Int) B LT2 ∧ Sj B (i + 1) q2 ms2 pl2 nx2 ∧ Hs H' (L2 ++ (D2 ++ (LT2 ++ (B ++ R))))) := by
 refine Ev_C (F := x29) rfl ?_
 obtain ⟨lrows, hvl, hcr⟩ := hog.l
 obtain ⟨brows, hvb, hbr⟩ := hog.b
 have hlen := hS.F.len
 have hlq : q.length ≤ 10 * i := by rw [List.length_map] at hlen; exact hlen
 have hocs := hof.1
 have hobl := hof.2.1
 have hpn := hS.pn
 have hbw := bnd_wrap o.n
 have hbn : (0 : Int) ≤ ((bnd o.n : Nat) : Int) ∧ ((bnd o.n : Nat) : Int) ≤ 1099511627775 := ⟨by omega, by omega⟩
 refine C_seq  (C_region  ?_)
 refine O_box (z := [(.i .i64 o.w), (.i .i64 o.n), (.i .i64 o.m), o.lv, (.i .u32 o.cu), o.bv]) rfl fun n1 H2 hN3 => ?_
 have hH4 := hH0.new hN3
 refine pv (.b false) rfl (O_nil  (C_seq  (C_seq  (C_region  (pf (pT n1 0) rfl rfl (O_p (.i .i64 o.w) (r_ld rfl hH4.get0 rfl) (O_nil  (C_block  (C_seq  (C_region  (O_p (.b (decide (o.w = 0))) (r_eql rfl rfl) (pv (.b (decide (o.w = 0))) rfl (O_nil  ?_)))))))))))))
 refine C_cond (x := (decide (o.w = 0))) rfl (fun hc5 => ?_) (fun hc5 => ?_)
 ·
  try simp only [dz1, dz2, dz3, dz4, dz5, dz6, dz7, dz8, dz9] at hc5
  refine C_seq  ?_
  by_cases hbad : o.cs.length = 0 ∨ ∃ c ∈ o.cs, bdC c = true
  ·
   refine C_draw fun b6 H7 hbase8 hA9 => ?_
   have hH10 := hH4.keep (by have := hA9.1; omega) (fun q _ => hA9.2 q) ((hH4.old).aside hA9).ok
   refine D_l (v := (pT FP 0)) rfl rfl rfl (r_mv rfl) (D_l (v := (pT n1 3)) rfl rfl rfl (r_fadd' rfl rfl) (D_l (v := (pT n1 1)) rfl rfl rfl (r_fadd' rfl rfl) (D_l (v := (pT n1 2)) rfl rfl rfl (r_fadd' rfl rfl) (D_l (v := (pT FT 0)) rfl rfl rfl (r_mv rfl) (D_l (v := (pT n1 3)) rfl rfl rfl (r_fadd' rfl rfl) (D_l (v := (pT n1 1)) rfl rfl rfl (r_fadd' rfl rfl) (D_l (v := (pT n1 2)) rfl rfl rfl (r_fadd' rfl rfl) (D_r (v := o.lv) rfl rfl rfl (r_ld rfl hH10.get0 rfl) (D_r (v := (.i .i64 o.n)) rfl rfl rfl (r_ld rfl hH10.get0 rfl) (D_r (v := (.i .i64 o.m)) rfl rfl rfl (r_ld rfl hH10.get0 rfl) (D_r (v := o.lv) rfl rfl rfl (r_ld rfl hH10.get0 rfl) (D_r (v := (.i .i64 o.n)) rfl rfl rfl (r_ld rfl hH10.get0 rfl) (D_r (v := (.i .i64 o.m)) rfl rfl rfl (r_ld rfl hH10.get0 rfl) ?_)))))))))))))
   have hH11 := ((hH10.top4).top2)
   have hH12 := ((hH11.top1).top1)
   refine D_call (Ev.mono (qp_pushno hQ hvl hcr (by omega) (by omega) hbad hH12) fun v13 H14 hq15 => ?_)
   obtain ⟨rfl, hH16⟩ := hq15
   refine And.intro (And.intro (Or.inr (look_run rfl rfl (r_ld rfl hH16.get2 rfl))) (And.intro (Or.inr (look_run rfl rfl (r_ld rfl hH16.get2 rfl))) (And.intro (Or.inr (look_run rfl rfl (r_ld rfl hH16.get2 rfl))) (And.intro (Or.inl rfl) (And.intro (Or.inl rfl) (And.intro (Or.inl rfl) True.intro)))))) ?_
   have hH17 := ((hH16.top1).top4)
   refine D_call (Ev.mono (tq_pushbad hT hvl hcr (by omega) (by omega) hbad hH17) fun v18 H19 hq20 => ?_)
   obtain ⟨rfl, hH21⟩ := hq20
   have hS2 := hS.mono
   refine And.intro (And.intro (Or.inl rfl) (And.intro (Or.inl rfl) (And.intro (Or.inl rfl) True.intro))) (D_l (v := (.b true)) rfl rfl rfl (r_bin rfl rfl rfl) (D_l (v := (.b true)) rfl rfl rfl (r_mv rfl) (D_nil  (C_ret  (bk_ret  (nx_ret  ?_))))))
   have hH22 := (hH21.sub3)
   have hH23 := ((((hH22.top1).top1).top3).top3)
   exact ⟨.inr rfl, _, resL_one (r_tmp (v := .b true) rfl), rfl, q, ms, pl, nx, D, L, LT, hQ, hT, hS2, hH23⟩
  ·
   have hne : 0 < o.cs.length := Nat.pos_of_ne_zero fun h9 => hbad (.inl h9)
   have hgood : ∀ c ∈ o.cs, bdC c = false := fun c hc => by { cases h9 : bdC c with | false => rfl | true => exact absurd (.inr ⟨c, hc, h9⟩) hbad }
   refine C_draw fun b24 H25 hbase26 hA27 => ?_
   have hH28 := hH4.keep (by have := hA27.1; omega) (fun q _ => hA27.2 q) ((hH4.old).aside hA27).ok
   refine D_l (v := (pT FP 0)) rfl rfl rfl (r_mv rfl) (D_l (v := (pT n1 3)) rfl rfl rfl (r_fadd' rfl rfl) (D_l (v := (pT n1 1)) rfl rfl rfl (r_fadd' rfl rfl) (D_l (v := (pT n1 2)) rfl rfl rfl (r_fadd' rfl rfl) (D_l (v := (pT FT 0)) rfl rfl rfl (r_mv rfl) (D_l (v := (pT n1 3)) rfl rfl rfl (r_fadd' rfl rfl) (D_l (v := (pT n1 1)) rfl rfl rfl (r_fadd' rfl rfl) (D_l (v := (pT n1 2)) rfl rfl rfl (r_fadd' rfl rfl) (D_r (v := o.lv) rfl rfl rfl (r_ld rfl hH28.get0 rfl) (D_r (v := (.i .i64 o.n)) rfl rfl rfl (r_ld rfl hH28.get0 rfl) (D_r (v := (.i .i64 o.m)) rfl rfl rfl (r_ld rfl hH28.get0 rfl) (D_r (v := o.lv) rfl rfl rfl (r_ld rfl hH28.get0 rfl) (D_r (v := (.i .i64 o.n)) rfl rfl rfl (r_ld rfl hH28.get0 rfl) (D_r (v := (.i .i64 o.m)) rfl rfl rfl (r_ld rfl hH28.get0 rfl) ?_)))))))))))))
   have hH29 := (((hH28.top4).top3).top3)
   refine D_call (Ev.mono (qp_push hQ hvl hcr hgood hne (by omega) (fun c hc => Nat.le_trans (hof.2.2 c hc) (by decide)) hS.F.r hH29) fun v30 H31 hq32 => ?_)
   obtain ⟨L2, D2, m, rfl, hQ2, _, hHp⟩ := hq32
   refine And.intro (And.intro (Or.inr (look_run rfl rfl (r_ld rfl hHp.get3 rfl))) (And.intro (Or.inr (look_run rfl rfl (r_ld rfl hHp.get3 rfl))) (And.intro (Or.inr (look_run rfl rfl (r_ld rfl hHp.get3 rfl))) (And.intro (Or.inl rfl) (And.intro (Or.inl rfl) (And.intro (Or.inl rfl) True.intro)))))) ?_
   have hH33 := ((hHp.top2).top4)
   refine D_call (Ev.mono (tq_push hT hvl hcr (by omega) (by omega) hgood hne (by omega) hS.F.r ⟨by omega, by omega⟩ hH33) fun v34 H35 hq36 => ?_)
   obtain ⟨q2, LT2, rfl, he2, hz2, hT2, hHq⟩ := hq36
   have hS2 := hS.push (m := m) (un := o.n) (tr := o.m) hof.1 hof.2.2 hog.c he2 hz2
   rw [← he2] at hQ2
   have hT3 : Tq FT q2 (w32 (nx + ((o.cs.length : Nat) : Int))) (((pl ++ [(⟨m, o.n, o.m, false⟩ : Po)]).length : Nat) : Int) B LT2 := by rw [List.length_append]; exact hT2
   refine And.intro (And.intro (Or.inl rfl) (And.intro (Or.inl rfl) (And.intro (Or.inl rfl) True.intro))) (D_l (v := (.b true)) rfl rfl rfl (r_bin rfl rfl rfl) (D_l (v := (.b true)) rfl rfl rfl (r_mv rfl) (D_nil  (C_ret  (bk_ret  (nx_ret  ?_))))))
   have hH37 := (hHq.sub4)
   have hH38 := ((((hH37.top1).top1).top3).top3)
   exact ⟨.inr rfl, _, resL_one (r_tmp (v := .b true) rfl), rfl, q2, (ms ++ List.replicate o.cs.length m), (pl ++ [⟨m, o.n, o.m, false⟩]), (w32 (nx + ((o.cs.length : Nat) : Int))), D2, L2, LT2, hQ2, hT3, hS2, hH38⟩
 ·
  try simp only [dz1, dz2, dz3, dz4, dz5, dz6, dz7, dz8, dz9] at hc5
  refine C_seq  (C_region  (O_p (.b (decide (o.w = 1))) (r_eql rfl rfl) (pv (.b (decide (o.w = 1))) rfl (O_nil  ?_))))
  refine C_cond (x := (decide (o.w = 1))) rfl (fun hc39 => ?_) (fun hc39 => ?_)
  ·
   try simp only [dz1, dz2, dz3, dz4, dz5, dz6, dz7, dz8, dz9] at hc39
   refine C_seq  ?_
   refine C_draw fun b40 H41 hbase42 hA43 => ?_
   have hH44 := hH4.keep (by have := hA43.1; omega) (fun q _ => hA43.2 q) ((hH4.old).aside hA43).ok
   refine D_l (v := (pT FP 0)) rfl rfl rfl (r_mv rfl) (D_l (v := (pT n1 1)) rfl rfl rfl (r_fadd' rfl rfl) (D_l (v := (pT n1 2)) rfl rfl rfl (r_fadd' rfl rfl) (D_l (v := (pT FT 0)) rfl rfl rfl (r_mv rfl) (D_l (v := (pT n1 1)) rfl rfl rfl (r_fadd' rfl rfl) (D_l (v := (pT n1 2)) rfl rfl rfl (r_fadd' rfl rfl) (D_r (v := (.i .i64 o.n)) rfl rfl rfl (r_ld rfl hH44.get0 rfl) (D_r (v := (.i .i64 o.m)) rfl rfl rfl (r_ld rfl hH44.get0 rfl) (D_r (v := (.i .i64 o.n)) rfl rfl rfl (r_ld rfl hH44.get0 rfl) (D_r (v := (.i .i64 o.m)) rfl rfl rfl (r_ld rfl hH44.get0 rfl) ?_)))))))))
   refine D_call (Ev.mono (bounded2_ev (a := o.n) hH44) fun v45 H46 hq47 => ?_)
   obtain ⟨rfl, hH48⟩ := hq47
   refine And.intro (And.intro (Or.inr (look_run rfl rfl (r_ld rfl hH48.get0 rfl))) (And.intro (Or.inr (look_run rfl rfl (r_ld rfl hH48.get0 rfl))) (And.intro (Or.inr (look_run rfl rfl (r_ld rfl hH48.get0 rfl))) (And.intro (Or.inl rfl) True.intro)))) ?_
   have hH49 := ((hH48.top2).top2)
   refine D_call (Ev.mono (qp_take (now := ((bnd o.n : Nat) : Int)) (room := o.m) hQ (by omega) hS.F.sz (fun e he => by have := (hS.F.g e he).2.1; omega) hog.m hH49) fun v50 H51 hq52 => ?_)
   obtain ⟨L2, D2, ov, oc, rows1, rfl, hQ2, hSo, hCo, hDm, hHt⟩ := hq52
   refine And.intro (And.intro (Or.inr (look_run rfl rfl (r_ld rfl hHt.get3 rfl))) (And.intro (Or.inr (look_run rfl rfl (r_ld rfl hHt.get3 rfl))) (And.intro (Or.inl rfl) True.intro))) ?_
   refine D_call (Ev.mono (bounded2_ev (a := o.n) hHt) fun v53 H54 hq55 => ?_)
   obtain ⟨rfl, hH56⟩ := hq55
   refine And.intro (And.intro (Or.inr (look_run rfl rfl (r_ld rfl hH56.get3 rfl))) (And.intro (Or.inl rfl) True.intro)) ?_
   have hH57 := (hH56.top4)
   refine D_call (Ev.mono (tq_take (now := ((bnd o.n : Nat) : Int)) (room := o.m) hT (by omega) hS.F.sz (fun e he => by have := (hS.F.g e he).2.1; omega) hog.m hH57) fun v58 H59 hq60 => ?_)
   obtain ⟨q2, LT2, ow, od, rows2, rfl, he2, hz2, hT2, hSw, hCw, hHu⟩ := hq60
   have hS2 := hS.take hbn he2 hz2
   rw [← he2] at hQ2
   refine And.intro (And.intro (Or.inl rfl) True.intro) ?_
   have hH61 := ((((hHu.top6).top5).top3).top4)
   refine D_call (Ev.mono (same08_ev hSo hSw hCo hCw (took_g hS) (by have h9 := took_len (now := ((bnd o.n : Nat) : Int)) (room := o.m) (es := (q.map Te.e)); rw [List.length_map]; omega) hH61) fun v62 H63 hq64 => ?_)
   obtain ⟨rfl, hH65⟩ := hq64
   refine And.intro True.intro (D_l (v := (.b true)) rfl rfl rfl (r_mv rfl) (D_nil  (C_ret  (bk_ret  (nx_ret  ?_)))))
   have hH66 := (((hH65.sub0).sub0).sub4)
   have hH67 := ((((hH66.top1).top2).top2).top3)
   exact ⟨.inr rfl, _, resL_one (r_tmp (v := .b true) rfl), rfl, q2, ms, pl, nx, D2, L2, LT2, hQ2, hT2, hS2, hH67⟩
  ·
   try simp only [dz1, dz2, dz3, dz4, dz5, dz6, dz7, dz8, dz9] at hc39
   refine C_seq  (C_region  (O_p (.b (decide (o.w = 2))) (r_eql rfl rfl) (pv (.b (decide (o.w = 2))) rfl (O_nil  ?_))))
   refine C_cond (x := (decide (o.w = 2))) rfl (fun hc68 => ?_) (fun hc68 => ?_)
   ·
    try simp only [dz1, dz2, dz3, dz4, dz5, dz6, dz7, dz8, dz9] at hc68
    refine C_seq  ?_
    obtain ⟨n, hcn⟩ := ack_nat (w32 (a0 + o.cu)) nx (q.map Te.e).length
    have hcn2 := hcn
    rw [List.length_map] at hcn2
    by_cases hack : AckOK (q.map Te.e) n
    ·
     refine C_draw fun b69 H70 hbase71 hA72 => ?_
     have hH73 : Hs H70 (asideL b69 [14] ++ _) := hH4.aside hA72 [14] hbase71 rfl (by decide)
     have hH74 : Hs H70 ([(b69 + 14, none)] ++ _) := hH73
     refine D_l (v := (pT FP 0)) rfl rfl rfl (r_mv rfl) (D_l (v := (.i .u32 a0)) rfl rfl rfl (r_mv rfl) (D_l (v := (pT n1 4)) rfl rfl rfl (r_fadd' rfl rfl) (D_l (v := (pT n1 5)) rfl rfl rfl (r_fadd' rfl rfl) (D_l (v := (pT n1 1)) rfl rfl rfl (r_fadd' rfl rfl) (D_r (v := (.i .u32 o.cu)) rfl rfl rfl (r_ld rfl hH74.get1 rfl) (D_l (v := (.i .u32 (IntKind.u32.wrap (a0 + o.cu)))) rfl rfl rfl (r_bin rfl rfl rfl) (D_r (v := o.bv) rfl rfl rfl (r_ld rfl hH74.get1 rfl) (D_r (v := (.i .i64 o.n)) rfl rfl rfl (r_ld rfl hH74.get1 rfl) ?_))))))))
     refine D_call (Ev.mono (bounded2_ev (a := o.n) hH74) fun v75 H76 hq77 => ?_)
     obtain ⟨rfl, hH78⟩ := hq77
     refine And.intro (And.intro (Or.inl rfl) (And.intro (Or.inr (look_run rfl rfl (r_ld rfl hH78.get1 rfl))) (And.intro (Or.inr (look_run rfl rfl (r_ld rfl hH78.get1 rfl))) True.intro))) ?_
     have hH79 := ((hH78.top5).top3)
     refine D_call (Ev.mono (qp_ack (bl := o.bl) (now := ((bnd o.n : Nat) : Int)) hQ hvb hbr (by omega) (by omega) hS.F.sz hcn hack.1 hack.2 ⟨by omega, by omega⟩ (fun e he => by have := (hS.F.g e he).2.2.1; omega) (fun e he => by have := (hS.F.g e he).2.2.2; omega) hH79) fun v80 H81 hq82 => ?_)
     obtain ⟨L2, rfl, hQ2, hHt⟩ := hq82
     refine And.intro (And.intro (Or.inl rfl) (And.intro (Or.inl rfl) True.intro)) (D_l (v := (.tup [(.agg [(.i .i64 ((((ackB o.bl (q.map Te.e) n) : Nat)) : Int)), (.i .i64 (drS ((bnd o.n : Nat) : Int) ((q.map Te.e).take n) (-1))), (.b (ackL o.bl (q.map Te.e) n)), (.b (decide ((0 : Int) < ((n : Nat) : Int))))]), (.b true)])) rfl rfl rfl (r_mv rfl) (D_l (v := (.agg [(.i .i64 ((((ackB o.bl (q.map Te.e) n) : Nat)) : Int)), (.i .i64 (drS ((bnd o.n : Nat) : Int) ((q.map Te.e).take n) (-1))), (.b (ackL o.bl (q.map Te.e) n)), (.b (decide ((0 : Int) < ((n : Nat) : Int))))])) rfl rfl rfl (r_ext rfl rfl) (D_l (v := (.b true)) rfl rfl rfl (r_ext rfl rfl) ?_)))
     refine D_m (f := fun n => ((.p (some (n, 0))), .cells [(.i .i64 0), (.i .i64 0), (.b false), (.b false)] true)) rfl rfl fun H84 hW85 => ?_
     have hH87 := hHt.wr2 hW85
     generalize hn86 : b69 + 14 = n83 at hW85 hH87 ⊢
     refine And.intro True.intro ?_
     refine D_store (vs := [(.i .i64 ((((ackB o.bl (q.map Te.e) n) : Nat)) : Int)), (.i .i64 (drS ((bnd o.n : Nat) : Int) ((q.map Te.e).take n) (-1))), (.b (ackL o.bl (q.map Te.e) n)), (.b (decide ((0 : Int) < ((n : Nat) : Int))))]) (c' := [(.i .i64 ((((ackB o.bl (q.map Te.e) n) : Nat)) : Int)), (.i .i64 (drS ((bnd o.n : Nat) : Int) ((q.map Te.e).take n) (-1))), (.b (ackL o.bl (q.map Te.e) n)), (.b (decide ((0 : Int) < ((n : Nat) : Int))))]) rfl (by rfl) hH87.get2 rfl (List.cons_ne_nil _ _) (Nat.le_of_ble_eq_true rfl) rfl fun H88 hW89 => ?_
     have hH90 := hH87.wr2 hW89
     refine And.intro True.intro (D_l (v := (.b true)) rfl rfl rfl (r_mv rfl) (D_nil  (C_seq  ?_)))
     refine C_draw fun b91 H92 hbase93 hA94 => ?_
     have hH95 := hH90.keep (by have := hA94.1; omega) (fun q _ => hA94.2 q) ((hH90.old).aside hA94).ok
     refine D_l (v := (pT FT 0)) rfl rfl rfl (r_mv rfl) (D_l (v := (.i .u32 a0)) rfl rfl rfl (r_mv rfl) (D_l (v := (pT n1 4)) rfl rfl rfl (r_fadd' rfl rfl) (D_l (v := (pT n1 5)) rfl rfl rfl (r_fadd' rfl rfl) (D_l (v := (pT n1 1)) rfl rfl rfl (r_fadd' rfl rfl) (D_r (v := (.i .u32 o.cu)) rfl rfl rfl (r_ld rfl hH95.get3 rfl) (D_l (v := (.i .u32 (IntKind.u32.wrap (a0 + o.cu)))) rfl rfl rfl (r_bin rfl rfl rfl) (D_r (v := o.bv) rfl rfl rfl (r_ld rfl hH95.get3 rfl) (D_r (v := (.i .i64 o.n)) rfl rfl rfl (r_ld rfl hH95.get3 rfl) ?_))))))))
     refine D_call (Ev.mono (bounded2_ev (a := o.n) hH95) fun v96 H97 hq98 => ?_)
     obtain ⟨rfl, hH99⟩ := hq98
     refine And.intro (And.intro (Or.inl rfl) (And.intro (Or.inr (look_run rfl rfl (r_ld rfl hH99.get3 rfl))) (And.intro (Or.inr (look_run rfl rfl (r_ld rfl hH99.get3 rfl))) True.intro))) ?_
     have hH100 := ((hH99.top1).top5)
     refine D_call (Ev.mono (tq_ack (bl := o.bl) (now := ((bnd o.n : Nat) : Int)) hT (by omega) hS.F.sz hvb hbr (by omega) (w32_r _) hcn2 hack ⟨by omega, by omega⟩ (fun e he => by have := (hS.F.g e he).2.2.1; omega) (fun e he => by have := (hS.F.g e he).2.2.2; omega) hH100) fun v101 H102 hq103 => ?_)
     obtain ⟨q2, LT2, rfl, he2, hz2, hT2, hHu⟩ := hq103
     have hS2 := hS.ack hack.1 he2 hz2
     rw [← he2] at hQ2
     refine And.intro (And.intro (Or.inl rfl) (And.intro (Or.inl rfl) True.intro)) (D_l (v := (.tup [(.i .i64 ((((ackB o.bl (q.map Te.e) n) : Nat)) : Int)), (.i .i64 (drS ((bnd o.n : Nat) : Int) ((q.map Te.e).take n) (-1))), (.b (ackL o.bl (q.map Te.e) n)), (.b (decide ((0 : Int) < ((n : Nat) : Int)))), (.b true)])) rfl rfl rfl (r_mv rfl) (D_l (v := (.i .i64 ((((ackB o.bl (q.map Te.e) n) : Nat)) : Int))) rfl rfl rfl (r_ext rfl rfl) (D_l (v := (.i .i64 (drS ((bnd o.n : Nat) : Int) ((q.map Te.e).take n) (-1)))) rfl rfl rfl (r_ext rfl rfl) (D_l (v := (.b (ackL o.bl (q.map Te.e) n))) rfl rfl rfl (r_ext rfl rfl) (D_l (v := (.b (decide ((0 : Int) < ((n : Nat) : Int))))) rfl rfl rfl (r_ext rfl rfl) (D_l (v := (.b true)) rfl rfl rfl (r_ext rfl rfl) (D_l (v := (.i .i64 ((((ackB o.bl (q.map Te.e) n) : Nat)) : Int))) rfl rfl rfl (r_mv rfl) (D_l (v := (.i .i64 (drS ((bnd o.n : Nat) : Int) ((q.map Te.e).take n) (-1)))) rfl rfl rfl (r_mv rfl) (D_l (v := (.b (ackL o.bl (q.map Te.e) n))) rfl rfl rfl (r_mv rfl) (D_l (v := (.b (decide ((0 : Int) < ((n : Nat) : Int))))) rfl rfl rfl (r_mv rfl) (D_l (v := (.b true)) rfl rfl rfl (r_mv rfl) (D_nil  (C_seq  ?_)))))))))))))
     refine C_region  (pf (pT n83 0) rfl rfl (O_p (.i .i64 ((((ackB o.bl (q.map Te.e) n) : Nat)) : Int)) (r_ld rfl hHu.get3 rfl) (pv (.i .i64 ((((ackB o.bl (q.map Te.e) n) : Nat)) : Int)) rfl (O_p (.b true) (r_eqq rfl rfl) (pv (.b true) rfl (O_gk rfl (pf (pT n83 1) rfl rfl (O_gk rfl (O_p (.i .i64 (drS ((bnd o.n : Nat) : Int) ((q.map Te.e).take n) (-1))) (r_ld rfl hHu.get3 rfl) (O_gk rfl (pv (.i .i64 (drS ((bnd o.n : Nat) : Int) ((q.map Te.e).take n) (-1))) rfl (O_gk rfl (O_p (.b true) (r_eqq rfl rfl) ?_)))))))))))))
     refine O_p (.b true) (r_pick_t rfl rfl) (pv (.b true) rfl (O_gk rfl (pf (pT n83 2) rfl rfl (O_gk rfl (O_p (.b (ackL o.bl (q.map Te.e) n)) (r_ld rfl hHu.get3 rfl) (O_gk rfl (pv (.b (ackL o.bl (q.map Te.e) n)) rfl (O_gk rfl (O_p (.b true) (r_beqq rfl rfl) (O_p (.b true) (r_pick_t rfl rfl) (pv (.b true) rfl (O_gk rfl (pf (pT n83 3) rfl rfl ?_)))))))))))))
     refine O_gk rfl (O_p (.b (decide ((0 : Int) < ((n : Nat) : Int)))) (r_ld rfl hHu.get3 rfl) (O_gk rfl (pv (.b (decide ((0 : Int) < ((n : Nat) : Int)))) rfl (O_gk rfl (O_p (.b true) (r_beqq rfl rfl) (O_p (.b true) (r_pick_t rfl rfl) (pv (.b true) rfl (O_gk rfl (pv (.b true) rfl (O_gk rfl (pv (.b true) rfl (O_gk rfl (O_p (.b true) (r_beqq rfl rfl) ?_)))))))))))))
     refine O_p (.b true) (r_pick_t rfl rfl) (pv (.b true) rfl (O_nil  (C_ret  (bk_ret  (nx_ret  ?_)))))
     have hH104 := ((hHu.sub3).sub3)
     have hH105 := ((((hH104.top1).top1).top3).top3)
     exact ⟨.inr rfl, _, resL_one (r_tmp (v := .b true) rfl), rfl, q2, (ms.drop n), pl, nx, D, L2, LT2, hQ2, hT2, hS2, hH105⟩
    ·
     refine C_draw fun b106 H107 hbase108 hA109 => ?_
     have hH110 : Hs H107 (asideL b106 [14] ++ _) := hH4.aside hA109 [14] hbase108 rfl (by decide)
     have hH111 : Hs H107 ([(b106 + 14, none)] ++ _) := hH110
     refine D_l (v := (pT FP 0)) rfl rfl rfl (r_mv rfl) (D_l (v := (.i .u32 a0)) rfl rfl rfl (r_mv rfl) (D_l (v := (pT n1 4)) rfl rfl rfl (r_fadd' rfl rfl) (D_l (v := (pT n1 5)) rfl rfl rfl (r_fadd' rfl rfl) (D_l (v := (pT n1 1)) rfl rfl rfl (r_fadd' rfl rfl) (D_r (v := (.i .u32 o.cu)) rfl rfl rfl (r_ld rfl hH111.get1 rfl) (D_l (v := (.i .u32 (IntKind.u32.wrap (a0 + o.cu)))) rfl rfl rfl (r_bin rfl rfl rfl) (D_r (v := o.bv) rfl rfl rfl (r_ld rfl hH111.get1 rfl) (D_r (v := (.i .i64 o.n)) rfl rfl rfl (r_ld rfl hH111.get1 rfl) ?_))))))))
     refine D_call (Ev.mono (bounded2_ev (a := o.n) hH111) fun v112 H113 hq114 => ?_)
     obtain ⟨rfl, hH115⟩ := hq114
     refine And.intro (And.intro (Or.inl rfl) (And.intro (Or.inr (look_run rfl rfl (r_ld rfl hH115.get1 rfl))) (And.intro (Or.inr (look_run rfl rfl (r_ld rfl hH115.get1 rfl))) True.intro))) ?_
     have hH116 := (hH115.top2)
     refine D_call (Ev.mono (qp_ackno hQ (by omega) hcn (ack_refused hack) hH116) fun v117 H118 hq119 => ?_)
     obtain ⟨rfl, hH120⟩ := hq119
     refine And.intro (And.intro (Or.inl rfl) (And.intro (Or.inl rfl) True.intro)) (D_l (v := (.tup [(.agg [(.i .i64 0), (.i .i64 0), (.b false), (.b false)]), (.b false)])) rfl rfl rfl (r_mv rfl) (D_l (v := (.agg [(.i .i64 0), (.i .i64 0), (.b false), (.b false)])) rfl rfl rfl (r_ext rfl rfl) (D_l (v := (.b false)) rfl rfl rfl (r_ext rfl rfl) ?_)))
     refine D_m (f := fun n => ((.p (some (n, 0))), .cells [(.i .i64 0), (.i .i64 0), (.b false), (.b false)] true)) rfl rfl fun H122 hW123 => ?_
     have hH125 := hH120.wr1 hW123
     generalize hn124 : b106 + 14 = n121 at hW123 hH125 ⊢
     refine And.intro True.intro ?_
     refine D_store (vs := [(.i .i64 0), (.i .i64 0), (.b false), (.b false)]) (c' := [(.i .i64 0), (.i .i64 0), (.b false), (.b false)]) rfl (by rfl) hH125.get1 rfl (List.cons_ne_nil _ _) (Nat.le_of_ble_eq_true rfl) rfl fun H126 hW127 => ?_
     have hH128 := hH125.wr1 hW127
     refine And.intro True.intro (D_l (v := (.b false)) rfl rfl rfl (r_mv rfl) (D_nil  (C_seq  ?_)))
     refine C_draw fun b129 H130 hbase131 hA132 => ?_
     have hH133 := hH128.keep (by have := hA132.1; omega) (fun q _ => hA132.2 q) ((hH128.old).aside hA132).ok
     refine D_l (v := (pT FT 0)) rfl rfl rfl (r_mv rfl) (D_l (v := (.i .u32 a0)) rfl rfl rfl (r_mv rfl) (D_l (v := (pT n1 4)) rfl rfl rfl (r_fadd' rfl rfl) (D_l (v := (pT n1 5)) rfl rfl rfl (r_fadd' rfl rfl) (D_l (v := (pT n1 1)) rfl rfl rfl (r_fadd' rfl rfl) (D_r (v := (.i .u32 o.cu)) rfl rfl rfl (r_ld rfl hH133.get2 rfl) (D_l (v := (.i .u32 (IntKind.u32.wrap (a0 + o.cu)))) rfl rfl rfl (r_bin rfl rfl rfl) (D_r (v := o.bv) rfl rfl rfl (r_ld rfl hH133.get2 rfl) (D_r (v := (.i .i64 o.n)) rfl rfl rfl (r_ld rfl hH133.get2 rfl) ?_))))))))
     refine D_call (Ev.mono (bounded2_ev (a := o.n) hH133) fun v134 H135 hq136 => ?_)
     obtain ⟨rfl, hH137⟩ := hq136
     refine And.intro (And.intro (Or.inl rfl) (And.intro (Or.inr (look_run rfl rfl (r_ld rfl hH137.get2 rfl))) (And.intro (Or.inr (look_run rfl rfl (r_ld rfl hH137.get2 rfl))) True.intro))) ?_
     have hH138 := (hH137.top4)
     refine D_call (Ev.mono (tq_ackno hT (by omega) (w32_r _) hcn2 hack hH138) fun v139 H140 hq141 => ?_)
     obtain ⟨rfl, hH142⟩ := hq141
     have hS2 := hS.mono
     refine And.intro (And.intro (Or.inl rfl) (And.intro (Or.inl rfl) True.intro)) (D_l (v := (.tup [(.i .i64 0), (.i .i64 0), (.b false), (.b false), (.b false)])) rfl rfl rfl (r_mv rfl) (D_l (v := (.i .i64 0)) rfl rfl rfl (r_ext rfl rfl) (D_l (v := (.i .i64 0)) rfl rfl rfl (r_ext rfl rfl) (D_l (v := (.b false)) rfl rfl rfl (r_ext rfl rfl) (D_l (v := (.b false)) rfl rfl rfl (r_ext rfl rfl) (D_l (v := (.b false)) rfl rfl rfl (r_ext rfl rfl) (D_l (v := (.i .i64 0)) rfl rfl rfl (r_mv rfl) (D_l (v := (.i .i64 0)) rfl rfl rfl (r_mv rfl) (D_l (v := (.b false)) rfl rfl rfl (r_mv rfl) (D_l (v := (.b false)) rfl rfl rfl (r_mv rfl) (D_l (v := (.b false)) rfl rfl rfl (r_mv rfl) (D_nil  (C_seq  ?_)))))))))))))
     refine C_region  (pf (pT n121 0) rfl rfl (O_p (.i .i64 0) (r_ld rfl hH142.get2 rfl) (pv (.i .i64 0) rfl (O_p (.b true) (r_bin rfl rfl rfl) (pv (.b true) rfl (O_gk rfl (pf (pT n121 1) rfl rfl (O_gk rfl (O_p (.i .i64 0) (r_ld rfl hH142.get2 rfl) (O_gk rfl (pv (.i .i64 0) rfl (O_gk rfl (O_p (.b true) (r_bin rfl rfl rfl) ?_)))))))))))))
     refine O_p (.b true) (r_pick_t rfl rfl) (pv (.b true) rfl (O_gk rfl (pf (pT n121 2) rfl rfl (O_gk rfl (O_p (.b false) (r_ld rfl hH142.get2 rfl) (O_gk rfl (pv (.b false) rfl (O_gk rfl (O_p (.b true) (r_beqq rfl rfl) (O_p (.b true) (r_pick_t rfl rfl) (pv (.b true) rfl (O_gk rfl (pf (pT n121 3) rfl rfl ?_)))))))))))))
     refine O_gk rfl (O_p (.b false) (r_ld rfl hH142.get2 rfl) (O_gk rfl (pv (.b false) rfl (O_gk rfl (O_p (.b true) (r_beqq rfl rfl) (O_p (.b true) (r_pick_t rfl rfl) (pv (.b true) rfl (O_gk rfl (pv (.b false) rfl (O_gk rfl (pv (.b false) rfl (O_gk rfl (O_p (.b true) (r_beqq rfl rfl) ?_)))))))))))))
     refine O_p (.b true) (r_pick_t rfl rfl) (pv (.b true) rfl (O_nil  (C_ret  (bk_ret  (nx_ret  ?_)))))
     have hH143 := ((hH142.sub2).sub2)
     have hH144 := ((((hH143.top3).top1).top3).top3)
     exact ⟨.inr rfl, _, resL_one (r_tmp (v := .b true) rfl), rfl, q, ms, pl, nx, D, L, LT, hQ, hT, hS2, hH144⟩
   ·
    try simp only [dz1, dz2, dz3, dz4, dz5, dz6, dz7, dz8, dz9] at hc68
    refine C_seq  (C_region  (O_p (.b (decide (o.w = 3))) (r_eql rfl rfl) (pv (.b (decide (o.w = 3))) rfl (O_nil  ?_))))
    refine C_cond (x := (decide (o.w = 3))) rfl (fun hc145 => ?_) (fun hc145 => ?_)
    ·
     try simp only [dz1, dz2, dz3, dz4, dz5, dz6, dz7, dz8, dz9] at hc145
     refine C_seq  (C_region  (pv (pT FP 0) rfl ?_))
     have hH146 := (hH4.top1)
     refine O_call (Ev.mono (qp_timeout hQ (by omega) hH146) fun v147 H148 hq149 => ?_)
     obtain ⟨L2, rfl, hQ2, hHt⟩ := hq149
     refine pv (pT FT 0) rfl ?_
     have hH150 := (hHt.top3)
     refine O_call (Ev.mono (tq_time hT (by omega) hH150) fun v151 H152 hq153 => ?_)
     obtain ⟨q2, LT2, rfl, he2, hz2, hT2, hHu⟩ := hq153
     have hS2 := hS.timeout he2 hz2
     rw [← he2] at hQ2
     refine O_p (.b true) (r_eqq rfl rfl) (pv (.b true) rfl (O_nil  (C_ret  (bk_ret  (nx_ret  ?_)))))
     have hH154 := (hHu.sub2)
     have hH155 := ((((hH154.top3).top1).top3).top3)
     exact ⟨.inr rfl, _, resL_one (r_tmp (v := .b true) rfl), rfl, q2, ms, pl, nx, D, L2, LT2, hQ2, hT2, hS2, hH155⟩
    ·
     try simp only [dz1, dz2, dz3, dz4, dz5, dz6, dz7, dz8, dz9] at hc145
     refine C_skip  (C_seq  ?_)
     refine C_draw fun b156 H157 hbase158 hA159 => ?_
     have hH160 := hH4.keep (by have := hA159.1; omega) (fun q _ => hA159.2 q) ((hH4.old).aside hA159).ok
     refine D_l (v := (pT FP 0)) rfl rfl rfl (r_mv rfl) (D_l (v := (pT n1 1)) rfl rfl rfl (r_fadd' rfl rfl) (D_l (v := (pT FT 0)) rfl rfl rfl (r_mv rfl) (D_l (v := (pT n1 1)) rfl rfl rfl (r_fadd' rfl rfl) (D_r (v := (.i .i64 o.n)) rfl rfl rfl (r_ld rfl hH160.get0 rfl) (D_r (v := (.i .i64 o.n)) rfl rfl rfl (r_ld rfl hH160.get0 rfl) ?_)))))
     refine D_call (Ev.mono (bounded2_ev (a := o.n) hH160) fun v161 H162 hq163 => ?_)
     obtain ⟨rfl, hH164⟩ := hq163
     refine And.intro (And.intro (Or.inr (look_run rfl rfl (r_ld rfl hH164.get0 rfl))) (And.intro (Or.inl rfl) True.intro)) ?_
     have hH165 := (hH164.top1)
     have hnd := qp_nd hQ hH165
     refine D_call (Ev.mono (qp_expire (now := ((bnd o.n : Nat) : Int)) hQ (by omega) hH165) fun v166 H167 hq168 => ?_)
     obtain ⟨mp, pl2, n2, L2, rfl, hmp, hPf, _, hQ2, hHt⟩ := hq168
     refine And.intro (And.intro (Or.inr (look_run rfl rfl (r_ld rfl hHt.get1 rfl))) True.intro) ?_
     refine D_call (Ev.mono (bounded2_ev (a := o.n) hHt) fun v169 H170 hq171 => ?_)
     obtain ⟨rfl, hH172⟩ := hq171
     refine And.intro (And.intro (Or.inl rfl) True.intro) ?_
     have hH173 := (hH172.top3)
     refine D_call (Ev.mono (tq_exp (now := ((bnd o.n : Nat) : Int)) hT (by omega) hH173) fun v174 H175 hq176 => ?_)
     obtain ⟨q2, cnt, LT2, rfl, hRf, hT2, hHu⟩ := hq176
     obtain ⟨hcn, hee, hS2, hpll⟩ := hS.expire hnd hmp hPf hRf
     rw [← hee] at hQ2
     rw [← hpll] at hT2
     refine And.intro True.intro (D_l (v := (.b true)) rfl rfl rfl (by exact (by rw [r_eql rfl rfl, decide_eq_true (by rw [hcn])])) (D_l (v := (.b true)) rfl rfl rfl (r_mv rfl) (D_nil  (C_ret  ?_))))
     have hH177 := (hHu.sub2)
     have hH178 := ((((hH177.top3).top1).top3).top3)
     exact ⟨.inr rfl, _, resL_one (r_tmp (v := .b true) rfl), rfl, q2, ms, pl2, nx, D, L2, LT2, hQ2, hT2, hS2, hH178⟩
end Go.Proofs.Ytipcacpaadgagaa.E
