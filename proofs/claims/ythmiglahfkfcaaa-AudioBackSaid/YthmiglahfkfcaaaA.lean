/- Octets' functions, walked. It bears no condition. -/
import Derived.Test.YthmiglahfkfcaaaO
import Derived.Test.YthmiglahfkfcaaaE34
namespace Go.Proofs.Ythmiglahfkfcaaa.E
set_option linter.unusedVariables false
set_option linter.unusedSimpArgs false
theorem globals0 : Try.prog.globals.size = 0 := by kernel_rfl
theorem mixed : Try.prog.follows .mixedOrders = true := by kernel_rfl
theorem laid : laidOutB Try.prog = true := by kernel_rfl
def tabA := without [8] tab
theorem tabA_ok : TabOK Try.prog tabA := without_ok tab_ok
def spA := withSp 8 [] (.b true) noSp
theorem spA_ok : SpOK Try.prog tabA spA := withSp_ok (k := 300) (f := 8) (args := []) (v := .b true) mixed globals0 tab_ok noSp_ok (by kernel_rfl) rfl rfl noSp_ok
def rightN (k : Int) (n : Nat) : Int := if 127 < k then 1 else if 1188 < n then 10 else 0
def encB (m : Bool) (k q t s : Int) (l : List UInt8) : List UInt8 := [128, u8 (if m = true then k + 128 else k)] ++ beN q 2 ++ beN t 4 ++ beN s 4 ++ l
def enc (m : Bool) (k q t s : Int) (l : List UInt8) : List UInt8 := if rightN k l.length = 0 then encB m k q t s l else []
theorem rightN_0 {k : Int} {n : Nat} (h1 : ¬ 127 < k) (h2 : ¬ 1188 < n) : rightN k n = 0 := by unfold rightN; rw [if_neg h1, if_neg h2]
theorem rightN_1 {k : Int} {n : Nat} (h1 : 127 < k) : rightN k n = 1 := by unfold rightN; rw [if_pos h1]
theorem rightN_10 {k : Int} {n : Nat} (h1 : ¬ 127 < k) (h2 : 1188 < n) : rightN k n = 10 := by unfold rightN; rw [if_neg h1, if_pos h2]
theorem rightN_iff {k : Int} {n : Nat} (h : rightN k n = 0) : ¬ 127 < k ∧ ¬ 1188 < n := by
  unfold rightN at h; split at h
  · cases h
  · split at h
    · cases h
    · exact ⟨by assumption, by assumption⟩
def decE (l : List UInt8) : Int := if 1200 < l.length then 10 else if l.length < 12 then 2 else if ((l.getD 0 0).toNat : Int) = 128 then 0 else 3
def dm (l : List UInt8) : Bool := if decE l = 0 then decide (128 ≤ ((l.getD 1 0).toNat : Int)) else false
def dk (l : List UInt8) : Int := if decE l = 0 then ((l.getD 1 0).toNat : Int) % 128 else 0
def dq (l : List UInt8) : Int := if decE l = 0 then num ((l.drop 2).take 2) else 0
def dt (l : List UInt8) : Int := if decE l = 0 then num ((l.drop 4).take 4) else 0
def ds (l : List UInt8) : Int := if decE l = 0 then num ((l.drop 8).take 4) else 0
def dd (l : List UInt8) : List UInt8 := if decE l = 0 then l.drop 12 else []
theorem decE_10 {l : List UInt8} (h : 1200 < l.length) : decE l = 10 := by unfold decE; rw [if_pos h]
theorem decE_2 {l : List UInt8} (h : ¬ 1200 < l.length) (h2 : l.length < 12) : decE l = 2 := by unfold decE; rw [if_neg h, if_pos h2]
theorem decE_3 {l : List UInt8} (h : ¬ 1200 < l.length) (h2 : ¬ l.length < 12) (h3 : ¬ ((l.getD 0 0).toNat : Int) = 128) : decE l = 3 := by unfold decE; rw [if_neg h, if_neg h2, if_neg h3]
theorem decE_0 {l : List UInt8} (h : ¬ 1200 < l.length) (h2 : ¬ l.length < 12) (h3 : ((l.getD 0 0).toNat : Int) = 128) : decE l = 0 := by unfold decE; rw [if_neg h, if_neg h2, if_pos h3]
theorem dec_bad {l : List UInt8} {e : Int} (h : decE l = e) (hne : e ≠ 0) : dm l = false ∧ dk l = 0 ∧ dq l = 0 ∧ dt l = 0 ∧ ds l = 0 ∧ dd l = [] := by
  have h0 : ¬ decE l = 0 := by rw [h]; exact hne
  unfold dm dk dq dt ds dd
  simp only [if_neg h0, and_self]
theorem getD_drop1 (l : List UInt8) : (l.drop 1).getD 0 0 = l.getD 1 0 := by rw [List.getD_eq_getElem?_getD, List.getD_eq_getElem?_getD, List.getElem?_drop]
theorem wrap16_num {l : List UInt8} (h : 2 ≤ l.length) : IntKind.u16.wrap (num (l.take 2)) = num (l.take 2) := by
  obtain ⟨h1, h2⟩ := num_bound l 2 h
  rw [wrap_u16]; omega
theorem encB_len (m : Bool) (k q t s : Int) (l : List UInt8) : (encB m k q t s l).length = 12 + l.length := by simp [encB, beN_len]; omega
theorem enc_le (m : Bool) (k q t s : Int) (l : List UInt8) : (enc m k q t s l).length ≤ 12 + l.length := by
  unfold enc; split
  · rw [encB_len]; exact Nat.le_refl _
  · simp
theorem dd_le (l : List UInt8) : (dd l).length ≤ l.length := by
  unfold dd; split
  · simp
  · simp
theorem dk_rng (l : List UInt8) : 0 ≤ dk l ∧ dk l < 256 := by
  unfold dk; split <;> omega
theorem right_ev {tab : Nat → Option XFun} {sp : Nat → List AV → AH → Option (AV × AH)} (h26 : tab 26 = some x26) {H : AH} (hok : H.Ok) (pm : Bool) {pk : Int} (pk0 : 0 ≤ pk) (pk1 : pk < 256) (pq pt ps : Int) (pq0 : 0 ≤ pq) (pq1 : pq < 65536) {pa : Option (Nat × Nat)} {pn pc pg : Nat} (phg : pg = 0 ∨ pg = 1) {l : List UInt8} (phb : Bs H (.sl pa pn pc pg) l) (phc : pn ≤ pc) (phm : pc ≤ 9223372036854775807) : Ev tab sp (.fn (.func 26) [] []) [.agg [.b pm, .i .u8 pk, .i .u16 pq, .i .u32 pt, .i .u32 ps, .sl pa pn pc pg]] H (fun r H' => r = .i .i64 (rightN pk l.length) ∧ Kp H H') := by
  refine Ev_C (F := x26) h26 ?_
  have phl := phb.length
  subst phl
  have hO0 := Old.refl hok
  refine C_seq ?_
  refine C_region ?_
  refine O_box (z := [(.b pm), (.i .u8 pk), (.i .u16 pq), (.i .u32 pt), (.i .u32 ps), (.sl pa l.length pc pg)]) rfl fun n1 H2 hN3 => ?_
  have hF4 := hN3.fr (fun _ => False)
  have hO5 := hO0.new hN3
  have hx_hO5 := hO5.next
  have hnm_n1 : n1 = H.next := hN3.1
  have hnx_H2 : H2.next = H.next + 1 := hN3.2.1
  have hlt_n1 : n1 < H2.next := by omega
  refine O_p (.i .i64 0) (r_mv rfl) ?_
  refine O_nil ?_
  refine C_seq ?_
  refine C_block ?_
  refine C_seq ?_
  refine C_region ?_
  refine O_p (.p (some (n1, 1))) (r_fadd' rfl rfl) ?_
  refine O_p (.i .u8 pk) (r_ld rfl hN3.2.2.1 rfl) ?_
  refine O_p (.b (decide (127 < pk))) (r_gtr rfl rfl) ?_
  refine O_p (.b (decide (127 < pk))) (r_mv rfl) ?_
  refine O_nil ?_
  refine C_cond (x := (decide (127 < pk))) rfl (fun hc6 => ?_) (fun hc6 => ?_)
  ·
    simp only [decide_eq_true_eq, decide_eq_false_iff_not, Bool.not_eq_true', Bool.not_eq_false', Bool.and_eq_true, Bool.or_eq_true, Bool.or_eq_false_iff, Bool.not_not] at hc6
    refine C_seq ?_
    refine C_region ?_
    refine O_p (.i .i64 1) (r_mv rfl) ?_
    refine O_nil ?_
    refine C_ret ?_
    refine bk_ret ?_
    refine nx_ret ?_
    exact ⟨.inr rfl, _, resL_one (r_tmp (v := (.i .i64 1)) rfl), by rw [rightN_1 (by omega)]; rfl, hO5⟩
  ·
    simp only [decide_eq_true_eq, decide_eq_false_iff_not, Bool.not_eq_true', Bool.not_eq_false', Bool.and_eq_true, Bool.or_eq_true, Bool.or_eq_false_iff, Bool.not_not] at hc6
    refine C_seq ?_
    refine C_region ?_
    refine O_p (.p (some (n1, 5))) (r_fadd' rfl rfl) ?_
    refine O_p (.sl pa l.length pc pg) (r_ld rfl hN3.2.2.1 rfl) ?_
    refine O_p (.i .i64 (((l.length : Nat)) : Int)) (r_len rfl) ?_
    refine O_p (.b (decide (1188 < (((l.length : Nat)) : Int)))) (r_gtr rfl rfl) ?_
    refine O_p (.b (decide (1188 < (((l.length : Nat)) : Int)))) (r_mv rfl) ?_
    refine O_nil ?_
    refine C_cond (x := (decide (1188 < (((l.length : Nat)) : Int)))) rfl (fun hc7 => ?_) (fun hc7 => ?_)
    ·
      simp only [decide_eq_true_eq, decide_eq_false_iff_not, Bool.not_eq_true', Bool.not_eq_false', Bool.and_eq_true, Bool.or_eq_true, Bool.or_eq_false_iff, Bool.not_not] at hc7
      refine C_seq ?_
      refine C_region ?_
      refine O_p (.i .i64 10) (r_mv rfl) ?_
      refine O_nil ?_
      refine C_ret ?_
      refine bk_ret ?_
      refine nx_ret ?_
      exact ⟨.inr rfl, _, resL_one (r_tmp (v := (.i .i64 10)) rfl), by rw [rightN_10 (by omega) (by omega)]; rfl, hO5⟩
    ·
      simp only [decide_eq_true_eq, decide_eq_false_iff_not, Bool.not_eq_true', Bool.not_eq_false', Bool.and_eq_true, Bool.or_eq_true, Bool.or_eq_false_iff, Bool.not_not] at hc7
      refine C_skip ?_
      refine C_seq ?_
      refine C_region ?_
      refine O_p (.i .i64 0) (r_mv rfl) ?_
      refine O_nil ?_
      refine C_ret ?_
      exact ⟨.inr rfl, _, resL_one (r_tmp (v := (.i .i64 0)) rfl), by rw [rightN_0 (by omega) (by omega)]; rfl, hO5⟩
theorem enc_ev {tab : Nat → Option XFun} {sp : Nat → List AV → AH → Option (AV × AH)} (h17 : tab 17 = some x17) (h26 : tab 26 = some x26) (h30 : tab 30 = some x30) (h31 : tab 31 = some x31) (h41 : tab 41 = some x41) {H : AH} (hok : H.Ok) (pm : Bool) {pk : Int} (pk0 : 0 ≤ pk) (pk1 : pk < 256) (pq pt ps : Int) (pq0 : 0 ≤ pq) (pq1 : pq < 65536) {pa : Option (Nat × Nat)} {pn pc pg : Nat} (phg : pg = 0 ∨ pg = 1) {l : List UInt8} (phb : Bs H (.sl pa pn pc pg) l) (phc : pn ≤ pc) (phm : pc ≤ 9223372036854775807) (hpf : pn ≤ 100000) : Ev tab sp (.fn (.func 17) [] []) [.agg [.b pm, .i .u8 pk, .i .u16 pq, .i .u32 pt, .i .u32 ps, .sl pa pn pc pg]] H (fun r H' => ∃ v, r = .tup [v, .i .i64 (rightN pk l.length)] ∧ Mine H.next 1 H' v (bcells (enc pm pk pq pt ps l)) ∧ Kp H H') := by
  refine Ev_C (F := x17) h17 ?_
  have phl := phb.length
  subst phl
  have hO0 := Old.refl hok
  refine C_seq ?_
  refine C_region ?_
  refine O_box (z := [(.b pm), (.i .u8 pk), (.i .u16 pq), (.i .u32 pt), (.i .u32 ps), (.sl pa l.length pc pg)]) rfl fun n1 H2 hN3 => ?_
  have hF4 := hN3.fr (fun _ => False)
  have hO5 := hO0.new hN3
  have hx_hO5 := hO5.next
  have hnm_n1 : n1 = H.next := hN3.1
  have hnx_H2 : H2.next = H.next + 1 := hN3.2.1
  have hlt_n1 : n1 < H2.next := by omega
  refine O_p (.sl none 0 0 0) (r_mv rfl) ?_
  refine O_p (.i .i64 0) (r_mv rfl) ?_
  refine O_nil ?_
  refine C_seq ?_
  refine C_seq ?_
  refine C_region ?_
  refine O_p (.agg [(.b pm), (.i .u8 pk), (.i .u16 pq), (.i .u32 pt), (.i .u32 ps), (.sl pa l.length pc pg)]) (r_ldA rfl hN3.2.2.1 rfl) ?_
  refine O_call (Ev.mono (right_ev h26 hO5.ok pm (by first | exact pk0 | omega) (by first | exact pk1 | omega) pq pt ps (by omega) (by omega) phg (phb.old hok hO5) (by first | omega | (simp only [List.length_take, List.length_drop, List.length_append, List.length_cons, List.length_nil, beN_len] <;> omega)) (by first | omega | (simp only [List.length_take, List.length_drop, List.length_append, List.length_cons, List.length_nil, beN_len] <;> omega))) fun v6 H7 hq8 => ?_)
  obtain ⟨rfl, hK9⟩ := hq8
  have hb10 := (hK9.keep _ (by omega)).trans hN3.2.2.1
  have hx_hK9 := hK9.next
  have hlt_n1 : n1 < H7.next := by omega
  have hO11 := hO5.trans hK9
  have hx_hO11 := hO11.next
  refine O_p (.i .i64 (rightN pk l.length)) (r_mv rfl) ?_
  refine O_nil ?_
  refine C_seq ?_
  refine C_region ?_
  refine O_p (.i .i64 (rightN pk l.length)) (r_mv rfl) ?_
  refine O_p (.b (!decide ((rightN pk l.length) = 0))) (r_neq rfl rfl) ?_
  refine O_nil ?_
  refine C_cond (x := (!decide ((rightN pk l.length) = 0))) rfl (fun hc12 => ?_) (fun hc12 => ?_)
  ·
    simp only [decide_eq_true_eq, decide_eq_false_iff_not, Bool.not_eq_true', Bool.not_eq_false', Bool.and_eq_true, Bool.or_eq_true, Bool.or_eq_false_iff, Bool.not_not] at hc12
    refine C_seq ?_
    refine C_region ?_
    refine O_p (.i .i64 (rightN pk l.length)) (r_mv rfl) ?_
    refine O_p (.sl none 0 0 0) (r_mv rfl) ?_
    refine O_p (.i .i64 (rightN pk l.length)) (r_mv rfl) ?_
    refine O_nil ?_
    refine C_ret ?_
    refine nx_ret ?_
    have hne : ¬ rightN pk l.length = 0 := by omega
    exact ⟨.inr rfl, _, resL_cons (r_tmp (v := .sl none 0 0 0) rfl) (resL_one (r_tmp (v := (.i .i64 (rightN pk l.length))) rfl)), _, rfl, by unfold enc; rw [if_neg hne]; exact Mine.nil _ _ _, hO11⟩
  ·
    simp only [decide_eq_true_eq, decide_eq_false_iff_not, Bool.not_eq_true', Bool.not_eq_false', Bool.and_eq_true, Bool.or_eq_true, Bool.or_eq_false_iff, Bool.not_not] at hc12
    refine C_skip ?_
    refine C_seq ?_
    refine C_seq ?_
    refine C_region ?_
    refine O_p (.p (some (n1, 0))) (r_fadd' rfl rfl) ?_
    refine O_p (.b pm) (r_ld rfl hb10 rfl) ?_
    refine O_nil ?_
    refine C_cond (x := pm) rfl (fun hc13 => ?_) (fun hc13 => ?_)
    ·
      have hcm := hc13
      refine C_region ?_
      refine O_p (.p (some (n1, 1))) (r_fadd' rfl rfl) ?_
      refine O_p (.i .u8 pk) (r_ld rfl hb10 rfl) ?_
      refine O_p (.i .u8 (IntKind.u8.wrap ((BitVec.ofInt 8 pk ||| BitVec.ofInt 8 128).toNat : Int))) (r_bin rfl rfl rfl) ?_
      refine O_p (.p (some (n1, 1))) (r_fadd' rfl rfl) ?_
      refine O_store (vs := [(.i .u8 (IntKind.u8.wrap ((BitVec.ofInt 8 pk ||| BitVec.ofInt 8 128).toNat : Int)))]) (c' := [(.b pm), (.i .u8 (IntKind.u8.wrap ((BitVec.ofInt 8 pk ||| BitVec.ofInt 8 128).toNat : Int))), (.i .u16 pq), (.i .u32 pt), (.i .u32 ps), (.sl pa l.length pc pg)]) rfl (by rfl) hb10 rfl (List.cons_ne_nil _ _) (Nat.le_of_ble_eq_true rfl) rfl fun H14 hW15 => ?_
      have hO16 := hO11.wr hW15 (by omega) (by omega)
      have hx_hO16 := hO16.next
      have hnx_H14 : H14.next = H7.next := hW15.1
      have hlt_n1 : n1 < H14.next := by omega
      refine O_nil ?_
      refine C_seq ?_
      refine C_region ?_
      refine O_p (.p (some (n1, 1))) (r_fadd' rfl rfl) ?_
      refine O_p (.i .u8 (IntKind.u8.wrap ((BitVec.ofInt 8 pk ||| BitVec.ofInt 8 128).toNat : Int))) (r_ld rfl hW15.2.1 rfl) ?_
      refine O_bslice (c := [(.i .u8 128), (.i .u8 (IntKind.u8.wrap ((BitVec.ofInt 8 pk ||| BitVec.ofInt 8 128).toNat : Int)))]) rfl fun n17 H18 hN19 => ?_
      have hF20 := hN19.fr (fun _ => False)
      have hb21 := (hF20.keep _ (by exact hlt_n1) (fun h => h)).trans hW15.2.1
      have hO22 := hO16.new hN19
      have hx_hO22 := hO22.next
      have hnm_n17 : n17 = H14.next := hN19.1
      have hnx_H18 : H18.next = H14.next + 1 := hN19.2.1
      have hlt_n1 : n1 < H18.next := by omega
      have hlt_n17 : n17 < H18.next := by omega
      refine O_p (.p (some (n1, 2))) (r_fadd' rfl rfl) ?_
      refine O_p (.i .u16 pq) (r_ld rfl hb21 rfl) ?_
      have hbs23 := Bs.own (k := 2) (l := [128, (u8 ((BitVec.ofInt 8 pk ||| BitVec.ofInt 8 128).toNat : Int))]) hN19.2.2.1 (bc_cons rfl (bc_cons (u8_wrap _) bc_nil)) rfl
      have base24 := Old.refl hO22.ok
      refine O_call (Ev.mono (put16_ev h41 h30 hO22.ok (.inl rfl) (hbs23.old hO22.ok base24) (by first | omega | (simp only [List.length_take, List.length_drop, List.length_append, List.length_cons, List.length_nil, beN_len] <;> omega)) (by first | omega | (simp only [List.length_take, List.length_drop, List.length_append, List.length_cons, List.length_nil, beN_len] <;> omega)) pq (by first | omega | (simp only [List.length_append, List.length_cons, List.length_nil, beN_len] <;> omega))) fun v25 H26 hq27 => ?_)
      obtain ⟨hM28, hK29⟩ := hq27
      have hb30 := (hK29.keep _ (by omega)).trans hb21
      have hb31 := (hK29.keep _ (by omega)).trans hN19.2.2.1
      have hx_hK29 := hK29.next
      have hlt_n1 : n1 < H26.next := by omega
      have hlt_n17 : n17 < H26.next := by omega
      have hO32 := hO22.trans hK29
      have hx_hO32 := hO32.next
      have hO33 := base24.trans hK29
      have hM34 := hM28.down (N := H.next) (by omega)
      have hd35 : ¬ v25.nameOf n1 := fun hq => by have := hM28.new _ hq; omega
      have hd36 : ¬ v25.nameOf n17 := fun hq => by have := hM28.new _ hq; omega
      refine O_p v25 (r_mv rfl) ?_
      refine O_nil ?_
      refine C_seq ?_
      refine C_draw fun b37 H38 hbase39 hA40 => ?_
      have hnx41 : H38.next = H26.next + 12 := hA40.1
      have hb42 := (hA40.2 _).trans hb30
      have hb43 := (hA40.2 _).trans hb31
      have hF44 := hA40.fr (fun _ => False)
      have hM45 := hM34.aside hA40
      have hO46 := hO32.aside hA40
      have hx_hO46 := hO46.next
      have hO47 := hO33.aside hA40
      have hlt_n1 : n1 < H38.next := by omega
      have hlt_n17 : n17 < H38.next := by omega
      refine D_l (v := v25) rfl rfl rfl (r_mv rfl) ?_
      refine D_l (v := (.p (some (n1, 3)))) rfl rfl rfl (r_fadd' rfl rfl) ?_
      refine D_l (v := (.p (some (n1, 4)))) rfl rfl rfl (r_fadd' rfl rfl) ?_
      refine D_l (v := (.p (some (n1, 5)))) rfl rfl rfl (r_fadd' rfl rfl) ?_
      refine D_r (v := (.i .u32 pt)) rfl rfl rfl (r_ld rfl hb42 rfl) ?_
      refine D_r (v := (.i .u32 ps)) rfl rfl rfl (r_ld rfl hb42 rfl) ?_
      refine D_r (v := (.sl pa l.length pc pg)) rfl rfl rfl (r_ld rfl hb42 rfl) ?_
      have hsf52 : Own 1 H38 v25 (bcells (([128, (u8 ((BitVec.ofInt 8 pk ||| BitVec.ofInt 8 128).toNat : Int))] : List UInt8) ++ beN pq 2)) := hM45.own
      obtain ⟨oa48, og49, rfl, hog50, hob51⟩ := hsf52.bs
      have base53 := Old.refl hO46.ok
      refine D_call (Ev.mono (put32_ev h41 h31 hO46.ok hog50 (hM45.own.asbs) (by first | omega | (simp only [List.length_take, List.length_drop, List.length_append, List.length_cons, List.length_nil, beN_len] <;> omega)) (by first | omega | (simp only [List.length_take, List.length_drop, List.length_append, List.length_cons, List.length_nil, beN_len] <;> omega)) pt (by first | omega | (simp only [List.length_append, List.length_cons, List.length_nil, beN_len] <;> omega))) fun v54 H55 hq56 => ?_)
      obtain ⟨hM57, hK58⟩ := hq56
      have hb59 := (hK58.keep _ (by omega)).trans hb42
      have hb60 := (hK58.keep _ (by omega)).trans hb43
      have hx_hK58 := hK58.next
      have hlt_n1 : n1 < H55.next := by omega
      have hlt_n17 : n17 < H55.next := by omega
      have hM61 := hM45.kp hK58
      have hO62 := hO46.trans hK58
      have hx_hO62 := hO62.next
      have hO63 := hO47.trans hK58
      have hO64 := base53.trans hK58
      have hM65 := hM57.down (N := H.next) (by omega)
      have hd66 : ¬ v54.nameOf n1 := fun hq => by have := hM57.new _ hq; omega
      have hd67 : ¬ v54.nameOf n17 := fun hq => by have := hM57.new _ hq; omega
      refine And.intro (And.intro (Or.inr (look_run rfl rfl (r_ld rfl hb59 rfl))) (And.intro (Or.inr (look_run rfl rfl (r_ld rfl hb59 rfl))) (And.intro (Or.inl rfl) True.intro))) ?_
      have hsf72 : Own 1 H55 v54 (bcells ((([128, (u8 ((BitVec.ofInt 8 pk ||| BitVec.ofInt 8 128).toNat : Int))] : List UInt8) ++ beN pq 2) ++ beN pt 4)) := hM65.own
      obtain ⟨oa68, og69, rfl, hog70, hob71⟩ := hsf72.bs
      have base73 := Old.refl hO62.ok
      refine D_call (Ev.mono (put32_ev h41 h31 hO62.ok hog70 (hM65.own.asbs) (by first | omega | (simp only [List.length_take, List.length_drop, List.length_append, List.length_cons, List.length_nil, beN_len] <;> omega)) (by first | omega | (simp only [List.length_take, List.length_drop, List.length_append, List.length_cons, List.length_nil, beN_len] <;> omega)) ps (by first | omega | (simp only [List.length_append, List.length_cons, List.length_nil, beN_len] <;> omega))) fun v74 H75 hq76 => ?_)
      obtain ⟨hM77, hK78⟩ := hq76
      have hb79 := (hK78.keep _ (by omega)).trans hb59
      have hb80 := (hK78.keep _ (by omega)).trans hb60
      have hx_hK78 := hK78.next
      have hlt_n1 : n1 < H75.next := by omega
      have hlt_n17 : n17 < H75.next := by omega
      have hM81 := hM61.kp hK78
      have hM82 := hM65.kp hK78
      have hO83 := hO62.trans hK78
      have hx_hO83 := hO83.next
      have hO84 := hO63.trans hK78
      have hO85 := hO64.trans hK78
      have hO86 := base73.trans hK78
      have hM87 := hM77.down (N := H.next) (by omega)
      have hd88 : ¬ v74.nameOf n1 := fun hq => by have := hM77.new _ hq; omega
      have hd89 : ¬ v74.nameOf n17 := fun hq => by have := hM77.new _ hq; omega
      refine And.intro (And.intro (Or.inr (look_run rfl rfl (r_ld rfl hb79 rfl))) (And.intro (Or.inl rfl) True.intro)) ?_
      refine D_qh rfl rfl (by exact r_app (n := ((((([128, (u8 ((BitVec.ofInt 8 pk ||| BitVec.ofInt 8 128).toNat : Int))] : List UInt8) ++ beN pq 2) ++ beN pt 4) ++ beN ps 4)).length) (k := l.length) (new := (bcells l)) hO83.ok hO83.next hM87 ((bcells_len _).trans (Nat.mul_one _).symm) rfl rfl ((phb.old hok hO83).len) ((phb.old hok hO83).src) ((bcells_len _).trans (Nat.mul_one _).symm) (by decide) (by decide) (by first | omega | (simp only [List.length_take, List.length_drop, List.length_append, List.length_cons, List.length_nil, beN_len] <;> omega))) fun o90 H91 hA92 => ?_
      have hx_H91 := hA92.2.1
      have hb93 := (hA92.2.2.1 _ (by omega) hd88).trans hb79
      have hb94 := (hA92.2.2.1 _ (by omega) hd89).trans hb80
      have hlt_n1 : n1 < H91.next := by omega
      have hlt_n17 : n17 < H91.next := by omega
      have hO95 := hA92.old hM87 hO83
      have hx_hO95 := hO95.next
      have hd96 := hA92.dis (n := n1) (by omega) hd88
      have hd97 := hA92.dis (n := n17) (by omega) hd89
      refine And.intro (And.intro (Or.inl rfl) True.intro) ?_
      refine D_l (v := o90) rfl rfl rfl (r_mv rfl) ?_
      refine D_l (v := (.i .i64 0)) rfl rfl rfl (r_mv rfl) ?_
      refine D_nil ?_
      refine C_ret ?_
      have hr : rightN pk l.length = 0 := by omega
      obtain ⟨hk127, hn1188⟩ := rightN_iff hr
      have hfin : ((bcells (((([128, (u8 ((BitVec.ofInt 8 pk ||| BitVec.ofInt 8 128).toNat : Int))] : List UInt8) ++ beN pq 2) ++ beN pt 4) ++ beN ps 4)) ++ (bcells l)) = bcells (enc pm pk pq pt ps l) := by unfold enc; rw [if_pos hr]; unfold encB; rw [hcm, if_pos rfl, ← u8_or128 (by omega) (by omega)]; simp only [bcells_append]
      exact ⟨.inr rfl, _, resL_cons (r_tmp (v := o90) rfl) (resL_one (r_tmp (v := .i .i64 0) rfl)), _, by rw [hr]; rfl, by rw [← hfin]; exact hA92.1, hO95⟩
    ·
      have hcm := hc13
      refine C_skip ?_
      refine C_seq ?_
      refine C_region ?_
      refine O_p (.p (some (n1, 1))) (r_fadd' rfl rfl) ?_
      refine O_p (.i .u8 pk) (r_ld rfl hb10 rfl) ?_
      refine O_bslice (c := [(.i .u8 128), (.i .u8 pk)]) rfl fun n98 H99 hN100 => ?_
      have hF101 := hN100.fr (fun _ => False)
      have hb102 := (hF101.keep _ (by exact hlt_n1) (fun h => h)).trans hb10
      have hO103 := hO11.new hN100
      have hx_hO103 := hO103.next
      have hnm_n98 : n98 = H7.next := hN100.1
      have hnx_H99 : H99.next = H7.next + 1 := hN100.2.1
      have hlt_n1 : n1 < H99.next := by omega
      have hlt_n98 : n98 < H99.next := by omega
      refine O_p (.p (some (n1, 2))) (r_fadd' rfl rfl) ?_
      refine O_p (.i .u16 pq) (r_ld rfl hb102 rfl) ?_
      have hbs104 := Bs.own (k := 2) (l := [128, (u8 pk)]) hN100.2.2.1 (bc_cons rfl (bc_cons (u8_of pk0 pk1).symm bc_nil)) rfl
      have base105 := Old.refl hO103.ok
      refine O_call (Ev.mono (put16_ev h41 h30 hO103.ok (.inl rfl) (hbs104.old hO103.ok base105) (by first | omega | (simp only [List.length_take, List.length_drop, List.length_append, List.length_cons, List.length_nil, beN_len] <;> omega)) (by first | omega | (simp only [List.length_take, List.length_drop, List.length_append, List.length_cons, List.length_nil, beN_len] <;> omega)) pq (by first | omega | (simp only [List.length_append, List.length_cons, List.length_nil, beN_len] <;> omega))) fun v106 H107 hq108 => ?_)
      obtain ⟨hM109, hK110⟩ := hq108
      have hb111 := (hK110.keep _ (by omega)).trans hb102
      have hb112 := (hK110.keep _ (by omega)).trans hN100.2.2.1
      have hx_hK110 := hK110.next
      have hlt_n1 : n1 < H107.next := by omega
      have hlt_n98 : n98 < H107.next := by omega
      have hO113 := hO103.trans hK110
      have hx_hO113 := hO113.next
      have hO114 := base105.trans hK110
      have hM115 := hM109.down (N := H.next) (by omega)
      have hd116 : ¬ v106.nameOf n1 := fun hq => by have := hM109.new _ hq; omega
      have hd117 : ¬ v106.nameOf n98 := fun hq => by have := hM109.new _ hq; omega
      refine O_p v106 (r_mv rfl) ?_
      refine O_nil ?_
      refine C_seq ?_
      refine C_draw fun b118 H119 hbase120 hA121 => ?_
      have hnx122 : H119.next = H107.next + 12 := hA121.1
      have hb123 := (hA121.2 _).trans hb111
      have hb124 := (hA121.2 _).trans hb112
      have hF125 := hA121.fr (fun _ => False)
      have hM126 := hM115.aside hA121
      have hO127 := hO113.aside hA121
      have hx_hO127 := hO127.next
      have hO128 := hO114.aside hA121
      have hlt_n1 : n1 < H119.next := by omega
      have hlt_n98 : n98 < H119.next := by omega
      refine D_l (v := v106) rfl rfl rfl (r_mv rfl) ?_
      refine D_l (v := (.p (some (n1, 3)))) rfl rfl rfl (r_fadd' rfl rfl) ?_
      refine D_l (v := (.p (some (n1, 4)))) rfl rfl rfl (r_fadd' rfl rfl) ?_
      refine D_l (v := (.p (some (n1, 5)))) rfl rfl rfl (r_fadd' rfl rfl) ?_
      refine D_r (v := (.i .u32 pt)) rfl rfl rfl (r_ld rfl hb123 rfl) ?_
      refine D_r (v := (.i .u32 ps)) rfl rfl rfl (r_ld rfl hb123 rfl) ?_
      refine D_r (v := (.sl pa l.length pc pg)) rfl rfl rfl (r_ld rfl hb123 rfl) ?_
      have hsf133 : Own 1 H119 v106 (bcells (([128, (u8 pk)] : List UInt8) ++ beN pq 2)) := hM126.own
      obtain ⟨oa129, og130, rfl, hog131, hob132⟩ := hsf133.bs
      have base134 := Old.refl hO127.ok
      refine D_call (Ev.mono (put32_ev h41 h31 hO127.ok hog131 (hM126.own.asbs) (by first | omega | (simp only [List.length_take, List.length_drop, List.length_append, List.length_cons, List.length_nil, beN_len] <;> omega)) (by first | omega | (simp only [List.length_take, List.length_drop, List.length_append, List.length_cons, List.length_nil, beN_len] <;> omega)) pt (by first | omega | (simp only [List.length_append, List.length_cons, List.length_nil, beN_len] <;> omega))) fun v135 H136 hq137 => ?_)
      obtain ⟨hM138, hK139⟩ := hq137
      have hb140 := (hK139.keep _ (by omega)).trans hb123
      have hb141 := (hK139.keep _ (by omega)).trans hb124
      have hx_hK139 := hK139.next
      have hlt_n1 : n1 < H136.next := by omega
      have hlt_n98 : n98 < H136.next := by omega
      have hM142 := hM126.kp hK139
      have hO143 := hO127.trans hK139
      have hx_hO143 := hO143.next
      have hO144 := hO128.trans hK139
      have hO145 := base134.trans hK139
      have hM146 := hM138.down (N := H.next) (by omega)
      have hd147 : ¬ v135.nameOf n1 := fun hq => by have := hM138.new _ hq; omega
      have hd148 : ¬ v135.nameOf n98 := fun hq => by have := hM138.new _ hq; omega
      refine And.intro (And.intro (Or.inr (look_run rfl rfl (r_ld rfl hb140 rfl))) (And.intro (Or.inr (look_run rfl rfl (r_ld rfl hb140 rfl))) (And.intro (Or.inl rfl) True.intro))) ?_
      have hsf153 : Own 1 H136 v135 (bcells ((([128, (u8 pk)] : List UInt8) ++ beN pq 2) ++ beN pt 4)) := hM146.own
      obtain ⟨oa149, og150, rfl, hog151, hob152⟩ := hsf153.bs
      have base154 := Old.refl hO143.ok
      refine D_call (Ev.mono (put32_ev h41 h31 hO143.ok hog151 (hM146.own.asbs) (by first | omega | (simp only [List.length_take, List.length_drop, List.length_append, List.length_cons, List.length_nil, beN_len] <;> omega)) (by first | omega | (simp only [List.length_take, List.length_drop, List.length_append, List.length_cons, List.length_nil, beN_len] <;> omega)) ps (by first | omega | (simp only [List.length_append, List.length_cons, List.length_nil, beN_len] <;> omega))) fun v155 H156 hq157 => ?_)
      obtain ⟨hM158, hK159⟩ := hq157
      have hb160 := (hK159.keep _ (by omega)).trans hb140
      have hb161 := (hK159.keep _ (by omega)).trans hb141
      have hx_hK159 := hK159.next
      have hlt_n1 : n1 < H156.next := by omega
      have hlt_n98 : n98 < H156.next := by omega
      have hM162 := hM142.kp hK159
      have hM163 := hM146.kp hK159
      have hO164 := hO143.trans hK159
      have hx_hO164 := hO164.next
      have hO165 := hO144.trans hK159
      have hO166 := hO145.trans hK159
      have hO167 := base154.trans hK159
      have hM168 := hM158.down (N := H.next) (by omega)
      have hd169 : ¬ v155.nameOf n1 := fun hq => by have := hM158.new _ hq; omega
      have hd170 : ¬ v155.nameOf n98 := fun hq => by have := hM158.new _ hq; omega
      refine And.intro (And.intro (Or.inr (look_run rfl rfl (r_ld rfl hb160 rfl))) (And.intro (Or.inl rfl) True.intro)) ?_
      refine D_qh rfl rfl (by exact r_app (n := ((((([128, (u8 pk)] : List UInt8) ++ beN pq 2) ++ beN pt 4) ++ beN ps 4)).length) (k := l.length) (new := (bcells l)) hO164.ok hO164.next hM168 ((bcells_len _).trans (Nat.mul_one _).symm) rfl rfl ((phb.old hok hO164).len) ((phb.old hok hO164).src) ((bcells_len _).trans (Nat.mul_one _).symm) (by decide) (by decide) (by first | omega | (simp only [List.length_take, List.length_drop, List.length_append, List.length_cons, List.length_nil, beN_len] <;> omega))) fun o171 H172 hA173 => ?_
      have hx_H172 := hA173.2.1
      have hb174 := (hA173.2.2.1 _ (by omega) hd169).trans hb160
      have hb175 := (hA173.2.2.1 _ (by omega) hd170).trans hb161
      have hlt_n1 : n1 < H172.next := by omega
      have hlt_n98 : n98 < H172.next := by omega
      have hO176 := hA173.old hM168 hO164
      have hx_hO176 := hO176.next
      have hd177 := hA173.dis (n := n1) (by omega) hd169
      have hd178 := hA173.dis (n := n98) (by omega) hd170
      refine And.intro (And.intro (Or.inl rfl) True.intro) ?_
      refine D_l (v := o171) rfl rfl rfl (r_mv rfl) ?_
      refine D_l (v := (.i .i64 0)) rfl rfl rfl (r_mv rfl) ?_
      refine D_nil ?_
      refine C_ret ?_
      have hr : rightN pk l.length = 0 := by omega
      obtain ⟨hk127, hn1188⟩ := rightN_iff hr
      have hfin : ((bcells (((([128, (u8 pk)] : List UInt8) ++ beN pq 2) ++ beN pt 4) ++ beN ps 4)) ++ (bcells l)) = bcells (enc pm pk pq pt ps l) := by unfold enc; rw [if_pos hr]; unfold encB; rw [hcm, if_neg (by decide)]; simp only [bcells_append]
      exact ⟨.inr rfl, _, resL_cons (r_tmp (v := o171) rfl) (resL_one (r_tmp (v := .i .i64 0) rfl)), _, by rw [hr]; rfl, by rw [← hfin]; exact hA173.1, hO176⟩
theorem renc_ev {tab : Nat → Option XFun} {sp : Nat → List AV → AH → Option (AV × AH)} (h18 : tab 18 = some x18) (h32 : tab 32 = some x32) {H : AH} (hok : H.Ok) (pm : Bool) {pk : Int} (pk0 : 0 ≤ pk) (pk1 : pk < 256) (pq pt ps : Int) (pq0 : 0 ≤ pq) (pq1 : pq < 65536) {pa : Option (Nat × Nat)} {pn pc pg : Nat} (phg : pg = 0 ∨ pg = 1) {l : List UInt8} (phb : Bs H (.sl pa pn pc pg) l) (phc : pn ≤ pc) (phm : pc ≤ 9223372036854775807) (hpf : pn ≤ 100000) : Ev tab sp (.fn (.func 18) [] []) [.agg [.b pm, .i .u8 pk, .i .u16 pq, .i .u32 pt, .i .u32 ps, .sl pa pn pc pg]] H (fun r H' => ∃ v, r = .tup [v, .i .i64 (rightN pk l.length)] ∧ Mine H.next 1 H' v (bcells (enc pm pk pq pt ps l)) ∧ Kp H H') := by
  refine Ev_C (F := x18) h18 ?_
  have phl := phb.length
  subst phl
  have hO0 := Old.refl hok
  refine C_seq ?_
  refine C_region ?_
  refine O_box (z := [(.b pm), (.i .u8 pk), (.i .u16 pq), (.i .u32 pt), (.i .u32 ps), (.sl pa l.length pc pg)]) rfl fun n1 H2 hN3 => ?_
  have hF4 := hN3.fr (fun _ => False)
  have hO5 := hO0.new hN3
  have hx_hO5 := hO5.next
  have hnm_n1 : n1 = H.next := hN3.1
  have hnx_H2 : H2.next = H.next + 1 := hN3.2.1
  have hlt_n1 : n1 < H2.next := by omega
  refine O_p (.sl none 0 0 0) (r_mv rfl) ?_
  refine O_p (.i .i64 0) (r_mv rfl) ?_
  refine O_nil ?_
  refine C_seq ?_
  refine C_seq ?_
  refine C_region ?_
  refine O_p (.p (some (n1, 1))) (r_fadd' rfl rfl) ?_
  refine O_p (.i .u8 pk) (r_ld rfl hN3.2.2.1 rfl) ?_
  refine O_p (.b (decide (127 < pk))) (r_gtr rfl rfl) ?_
  refine O_nil ?_
  refine C_cond (x := (decide (127 < pk))) rfl (fun hc6 => ?_) (fun hc6 => ?_)
  ·
    simp only [decide_eq_true_eq, decide_eq_false_iff_not, Bool.not_eq_true', Bool.not_eq_false', Bool.and_eq_true, Bool.or_eq_true, Bool.or_eq_false_iff, Bool.not_not] at hc6
    refine C_seq ?_
    refine C_region ?_
    refine O_p (.sl none 0 0 0) (r_mv rfl) ?_
    refine O_p (.i .i64 1) (r_mv rfl) ?_
    refine O_nil ?_
    refine C_ret ?_
    refine nx_ret ?_
    have hr := rightN_1 (k := pk) (n := l.length) (by omega)
    have hne : ¬ rightN pk l.length = 0 := by rw [hr]; decide
    exact ⟨.inr rfl, _, resL_cons (r_tmp (v := .sl none 0 0 0) rfl) (resL_one (r_tmp (v := (.i .i64 1)) rfl)), _, by rw [hr]; rfl, by unfold enc; rw [if_neg hne]; exact Mine.nil _ _ _, hO5⟩
  ·
    simp only [decide_eq_true_eq, decide_eq_false_iff_not, Bool.not_eq_true', Bool.not_eq_false', Bool.and_eq_true, Bool.or_eq_true, Bool.or_eq_false_iff, Bool.not_not] at hc6
    refine C_skip ?_
    refine C_seq ?_
    refine C_seq ?_
    refine C_region ?_
    refine O_p (.p (some (n1, 5))) (r_fadd' rfl rfl) ?_
    refine O_p (.sl pa l.length pc pg) (r_ld rfl hN3.2.2.1 rfl) ?_
    refine O_p (.i .i64 (((l.length : Nat)) : Int)) (r_len rfl) ?_
    refine O_p (.b (decide (1188 < (((l.length : Nat)) : Int)))) (r_gtr rfl rfl) ?_
    refine O_nil ?_
    refine C_cond (x := (decide (1188 < (((l.length : Nat)) : Int)))) rfl (fun hc7 => ?_) (fun hc7 => ?_)
    ·
      simp only [decide_eq_true_eq, decide_eq_false_iff_not, Bool.not_eq_true', Bool.not_eq_false', Bool.and_eq_true, Bool.or_eq_true, Bool.or_eq_false_iff, Bool.not_not] at hc7
      refine C_seq ?_
      refine C_region ?_
      refine O_p (.sl none 0 0 0) (r_mv rfl) ?_
      refine O_p (.i .i64 10) (r_mv rfl) ?_
      refine O_nil ?_
      refine C_ret ?_
      refine nx_ret ?_
      have hr := rightN_10 (k := pk) (n := l.length) (by omega) (by omega)
      have hne : ¬ rightN pk l.length = 0 := by rw [hr]; decide
      exact ⟨.inr rfl, _, resL_cons (r_tmp (v := .sl none 0 0 0) rfl) (resL_one (r_tmp (v := (.i .i64 10)) rfl)), _, by rw [hr]; rfl, by unfold enc; rw [if_neg hne]; exact Mine.nil _ _ _, hO5⟩
    ·
      simp only [decide_eq_true_eq, decide_eq_false_iff_not, Bool.not_eq_true', Bool.not_eq_false', Bool.and_eq_true, Bool.or_eq_true, Bool.or_eq_false_iff, Bool.not_not] at hc7
      refine C_skip ?_
      refine C_seq ?_
      refine C_region ?_
      refine O_p (.p (some (n1, 1))) (r_fadd' rfl rfl) ?_
      refine O_p (.i .u8 pk) (r_ld rfl hN3.2.2.1 rfl) ?_
      refine O_p (.i .u8 pk) (r_mv rfl) ?_
      refine O_nil ?_
      refine C_seq ?_
      refine C_seq ?_
      refine C_region ?_
      refine O_p (.p (some (n1, 0))) (r_fadd' rfl rfl) ?_
      refine O_p (.b pm) (r_ld rfl hN3.2.2.1 rfl) ?_
      refine O_nil ?_
      refine C_cond (x := pm) rfl (fun hc8 => ?_) (fun hc8 => ?_)
      ·
        have hcm := hc8
        refine C_region ?_
        refine O_p (.i .u8 pk) (r_mv rfl) ?_
        refine O_p (.i .u8 (IntKind.u8.wrap (pk + 128))) (r_bin rfl rfl rfl) ?_
        refine O_p (.i .u8 (IntKind.u8.wrap (pk + 128))) (r_mv rfl) ?_
        refine O_nil ?_
        refine C_seq ?_
        refine C_region ?_
        refine O_p (.i .u8 (IntKind.u8.wrap (pk + 128))) (r_mv rfl) ?_
        refine O_bslice (c := [(.i .u8 128), (.i .u8 (IntKind.u8.wrap (pk + 128)))]) rfl fun n9 H10 hN11 => ?_
        have hF12 := hN11.fr (fun _ => False)
        have hb13 := (hF12.keep _ (by exact hlt_n1) (fun h => h)).trans hN3.2.2.1
        have hO14 := hO5.new hN11
        have hx_hO14 := hO14.next
        have hnm_n9 : n9 = H2.next := hN11.1
        have hnx_H10 : H10.next = H2.next + 1 := hN11.2.1
        have hlt_n1 : n1 < H10.next := by omega
        have hlt_n9 : n9 < H10.next := by omega
        refine O_p (.p (some (n1, 2))) (r_fadd' rfl rfl) ?_
        refine O_p (.i .u16 pq) (r_ld rfl hb13 rfl) ?_
        refine O_p (.i .u32 (IntKind.u32.wrap pq)) (r_cint rfl) ?_
        have hbs15 := Bs.own (k := 2) (l := [128, (u8 (pk + 128))]) hN11.2.2.1 (bc_cons rfl (bc_cons (u8_wrap _) bc_nil)) rfl
        have base16 := Old.refl hO14.ok
        refine O_call (Ev.mono (rput_ev h32 hO14.ok (.inl rfl) (hbs15.old hO14.ok base16) (by first | omega | (simp only [List.length_take, List.length_drop, List.length_append, List.length_cons, List.length_nil, beN_len] <;> omega)) (by first | omega | (simp only [List.length_take, List.length_drop, List.length_append, List.length_cons, List.length_nil, beN_len] <;> omega)) (IntKind.u32.wrap pq) (n := 2) (by decide) (by first | omega | (simp only [List.length_append, List.length_cons, List.length_nil, beN_len] <;> omega))) fun v17 H18 hq19 => ?_)
        obtain ⟨hM20, hK21⟩ := hq19
        have hb22 := (hK21.keep _ (by omega)).trans hb13
        have hb23 := (hK21.keep _ (by omega)).trans hN11.2.2.1
        have hx_hK21 := hK21.next
        have hlt_n1 : n1 < H18.next := by omega
        have hlt_n9 : n9 < H18.next := by omega
        have hO24 := hO14.trans hK21
        have hx_hO24 := hO24.next
        have hO25 := base16.trans hK21
        have hM26 := hM20.down (N := H.next) (by omega)
        have hd27 : ¬ v17.nameOf n1 := fun hq => by have := hM20.new _ hq; omega
        have hd28 : ¬ v17.nameOf n9 := fun hq => by have := hM20.new _ hq; omega
        refine O_p v17 (r_mv rfl) ?_
        refine O_nil ?_
        refine C_seq ?_
        refine C_draw fun b29 H30 hbase31 hA32 => ?_
        have hnx33 : H30.next = H18.next + 8 := hA32.1
        have hb34 := (hA32.2 _).trans hb22
        have hb35 := (hA32.2 _).trans hb23
        have hF36 := hA32.fr (fun _ => False)
        have hM37 := hM26.aside hA32
        have hO38 := hO24.aside hA32
        have hx_hO38 := hO38.next
        have hO39 := hO25.aside hA32
        have hlt_n1 : n1 < H30.next := by omega
        have hlt_n9 : n9 < H30.next := by omega
        refine D_l (v := v17) rfl rfl rfl (r_mv rfl) ?_
        refine D_l (v := (.p (some (n1, 3)))) rfl rfl rfl (r_fadd' rfl rfl) ?_
        refine D_l (v := (.p (some (n1, 4)))) rfl rfl rfl (r_fadd' rfl rfl) ?_
        refine D_r (v := (.i .u32 pt)) rfl rfl rfl (r_ld rfl hb34 rfl) ?_
        refine D_r (v := (.i .u32 ps)) rfl rfl rfl (r_ld rfl hb34 rfl) ?_
        have hsf44 : Own 1 H30 v17 (bcells (([128, (u8 (pk + 128))] : List UInt8) ++ beN (IntKind.u32.wrap pq) 2)) := hM37.own
        obtain ⟨oa40, og41, rfl, hog42, hob43⟩ := hsf44.bs
        have base45 := Old.refl hO38.ok
        refine D_call (Ev.mono (rput_ev h32 hO38.ok hog42 (hM37.own.asbs) (by first | omega | (simp only [List.length_take, List.length_drop, List.length_append, List.length_cons, List.length_nil, beN_len] <;> omega)) (by first | omega | (simp only [List.length_take, List.length_drop, List.length_append, List.length_cons, List.length_nil, beN_len] <;> omega)) pt (n := 4) (by decide) (by first | omega | (simp only [List.length_append, List.length_cons, List.length_nil, beN_len] <;> omega))) fun v46 H47 hq48 => ?_)
        obtain ⟨hM49, hK50⟩ := hq48
        have hb51 := (hK50.keep _ (by omega)).trans hb34
        have hb52 := (hK50.keep _ (by omega)).trans hb35
        have hx_hK50 := hK50.next
        have hlt_n1 : n1 < H47.next := by omega
        have hlt_n9 : n9 < H47.next := by omega
        have hM53 := hM37.kp hK50
        have hO54 := hO38.trans hK50
        have hx_hO54 := hO54.next
        have hO55 := hO39.trans hK50
        have hO56 := base45.trans hK50
        have hM57 := hM49.down (N := H.next) (by omega)
        have hd58 : ¬ v46.nameOf n1 := fun hq => by have := hM49.new _ hq; omega
        have hd59 : ¬ v46.nameOf n9 := fun hq => by have := hM49.new _ hq; omega
        refine And.intro (And.intro (Or.inr (look_run rfl rfl (r_ld rfl hb51 rfl))) (And.intro (Or.inl rfl) True.intro)) ?_
        have hsf64 : Own 1 H47 v46 (bcells ((([128, (u8 (pk + 128))] : List UInt8) ++ beN (IntKind.u32.wrap pq) 2) ++ beN pt 4)) := hM57.own
        obtain ⟨oa60, og61, rfl, hog62, hob63⟩ := hsf64.bs
        have base65 := Old.refl hO54.ok
        refine D_call (Ev.mono (rput_ev h32 hO54.ok hog62 (hM57.own.asbs) (by first | omega | (simp only [List.length_take, List.length_drop, List.length_append, List.length_cons, List.length_nil, beN_len] <;> omega)) (by first | omega | (simp only [List.length_take, List.length_drop, List.length_append, List.length_cons, List.length_nil, beN_len] <;> omega)) ps (n := 4) (by decide) (by first | omega | (simp only [List.length_append, List.length_cons, List.length_nil, beN_len] <;> omega))) fun v66 H67 hq68 => ?_)
        obtain ⟨hM69, hK70⟩ := hq68
        have hb71 := (hK70.keep _ (by omega)).trans hb51
        have hb72 := (hK70.keep _ (by omega)).trans hb52
        have hx_hK70 := hK70.next
        have hlt_n1 : n1 < H67.next := by omega
        have hlt_n9 : n9 < H67.next := by omega
        have hM73 := hM53.kp hK70
        have hM74 := hM57.kp hK70
        have hO75 := hO54.trans hK70
        have hx_hO75 := hO75.next
        have hO76 := hO55.trans hK70
        have hO77 := hO56.trans hK70
        have hO78 := base65.trans hK70
        have hM79 := hM69.down (N := H.next) (by omega)
        have hd80 : ¬ v66.nameOf n1 := fun hq => by have := hM69.new _ hq; omega
        have hd81 : ¬ v66.nameOf n9 := fun hq => by have := hM69.new _ hq; omega
        refine And.intro (And.intro (Or.inl rfl) True.intro) ?_
        refine D_l (v := v66) rfl rfl rfl (r_mv rfl) ?_
        refine D_nil ?_
        refine C_seq ?_
        refine C_region ?_
        refine O_p v66 (r_mv rfl) ?_
        refine O_p (.p (some (n1, 5))) (r_fadd' rfl rfl) ?_
        refine O_p (.sl pa l.length pc pg) (r_ld rfl hb71 rfl) ?_
        refine O_qh (by exact r_app (n := ((((([128, (u8 (pk + 128))] : List UInt8) ++ beN (IntKind.u32.wrap pq) 2) ++ beN pt 4) ++ beN ps 4)).length) (k := l.length) (new := (bcells l)) hO75.ok hO75.next hM79 ((bcells_len _).trans (Nat.mul_one _).symm) rfl rfl ((phb.old hok hO75).len) ((phb.old hok hO75).src) ((bcells_len _).trans (Nat.mul_one _).symm) (by decide) (by decide) (by first | omega | (simp only [List.length_take, List.length_drop, List.length_append, List.length_cons, List.length_nil, beN_len] <;> omega))) fun o82 H83 hA84 => ?_
        have hx_H83 := hA84.2.1
        have hb85 := (hA84.2.2.1 _ (by omega) hd80).trans hb71
        have hb86 := (hA84.2.2.1 _ (by omega) hd81).trans hb72
        have hlt_n1 : n1 < H83.next := by omega
        have hlt_n9 : n9 < H83.next := by omega
        have hO87 := hA84.old hM79 hO75
        have hx_hO87 := hO87.next
        have hd88 := hA84.dis (n := n1) (by omega) hd80
        have hd89 := hA84.dis (n := n9) (by omega) hd81
        refine O_p o82 (r_mv rfl) ?_
        refine O_p (.i .i64 0) (r_mv rfl) ?_
        refine O_nil ?_
        refine C_ret ?_
        have hr : rightN pk l.length = 0 := rightN_0 (by omega) (by omega)
        obtain ⟨hk127, hn1188⟩ := rightN_iff hr
        have hw : IntKind.u32.wrap pq = pq := by rw [wrap_u32]; omega
        have hfin : ((bcells (((([128, (u8 (pk + 128))] : List UInt8) ++ beN (IntKind.u32.wrap pq) 2) ++ beN pt 4) ++ beN ps 4)) ++ (bcells l)) = bcells (enc pm pk pq pt ps l) := by rw [hw]; unfold enc; rw [if_pos hr]; unfold encB; rw [hcm, if_pos rfl]; simp only [bcells_append]
        exact ⟨.inr rfl, _, resL_cons (r_tmp (v := o82) rfl) (resL_one (r_tmp (v := .i .i64 0) rfl)), _, by rw [hr]; rfl, by rw [← hfin]; exact hA84.1, hO87⟩
      ·
        have hcm := hc8
        refine C_skip ?_
        refine C_seq ?_
        refine C_region ?_
        refine O_p (.i .u8 pk) (r_mv rfl) ?_
        refine O_bslice (c := [(.i .u8 128), (.i .u8 pk)]) rfl fun n90 H91 hN92 => ?_
        have hF93 := hN92.fr (fun _ => False)
        have hb94 := (hF93.keep _ (by exact hlt_n1) (fun h => h)).trans hN3.2.2.1
        have hO95 := hO5.new hN92
        have hx_hO95 := hO95.next
        have hnm_n90 : n90 = H2.next := hN92.1
        have hnx_H91 : H91.next = H2.next + 1 := hN92.2.1
        have hlt_n1 : n1 < H91.next := by omega
        have hlt_n90 : n90 < H91.next := by omega
        refine O_p (.p (some (n1, 2))) (r_fadd' rfl rfl) ?_
        refine O_p (.i .u16 pq) (r_ld rfl hb94 rfl) ?_
        refine O_p (.i .u32 (IntKind.u32.wrap pq)) (r_cint rfl) ?_
        have hbs96 := Bs.own (k := 2) (l := [128, (u8 pk)]) hN92.2.2.1 (bc_cons rfl (bc_cons (u8_of pk0 pk1).symm bc_nil)) rfl
        have base97 := Old.refl hO95.ok
        refine O_call (Ev.mono (rput_ev h32 hO95.ok (.inl rfl) (hbs96.old hO95.ok base97) (by first | omega | (simp only [List.length_take, List.length_drop, List.length_append, List.length_cons, List.length_nil, beN_len] <;> omega)) (by first | omega | (simp only [List.length_take, List.length_drop, List.length_append, List.length_cons, List.length_nil, beN_len] <;> omega)) (IntKind.u32.wrap pq) (n := 2) (by decide) (by first | omega | (simp only [List.length_append, List.length_cons, List.length_nil, beN_len] <;> omega))) fun v98 H99 hq100 => ?_)
        obtain ⟨hM101, hK102⟩ := hq100
        have hb103 := (hK102.keep _ (by omega)).trans hb94
        have hb104 := (hK102.keep _ (by omega)).trans hN92.2.2.1
        have hx_hK102 := hK102.next
        have hlt_n1 : n1 < H99.next := by omega
        have hlt_n90 : n90 < H99.next := by omega
        have hO105 := hO95.trans hK102
        have hx_hO105 := hO105.next
        have hO106 := base97.trans hK102
        have hM107 := hM101.down (N := H.next) (by omega)
        have hd108 : ¬ v98.nameOf n1 := fun hq => by have := hM101.new _ hq; omega
        have hd109 : ¬ v98.nameOf n90 := fun hq => by have := hM101.new _ hq; omega
        refine O_p v98 (r_mv rfl) ?_
        refine O_nil ?_
        refine C_seq ?_
        refine C_draw fun b110 H111 hbase112 hA113 => ?_
        have hnx114 : H111.next = H99.next + 8 := hA113.1
        have hb115 := (hA113.2 _).trans hb103
        have hb116 := (hA113.2 _).trans hb104
        have hF117 := hA113.fr (fun _ => False)
        have hM118 := hM107.aside hA113
        have hO119 := hO105.aside hA113
        have hx_hO119 := hO119.next
        have hO120 := hO106.aside hA113
        have hlt_n1 : n1 < H111.next := by omega
        have hlt_n90 : n90 < H111.next := by omega
        refine D_l (v := v98) rfl rfl rfl (r_mv rfl) ?_
        refine D_l (v := (.p (some (n1, 3)))) rfl rfl rfl (r_fadd' rfl rfl) ?_
        refine D_l (v := (.p (some (n1, 4)))) rfl rfl rfl (r_fadd' rfl rfl) ?_
        refine D_r (v := (.i .u32 pt)) rfl rfl rfl (r_ld rfl hb115 rfl) ?_
        refine D_r (v := (.i .u32 ps)) rfl rfl rfl (r_ld rfl hb115 rfl) ?_
        have hsf125 : Own 1 H111 v98 (bcells (([128, (u8 pk)] : List UInt8) ++ beN (IntKind.u32.wrap pq) 2)) := hM118.own
        obtain ⟨oa121, og122, rfl, hog123, hob124⟩ := hsf125.bs
        have base126 := Old.refl hO119.ok
        refine D_call (Ev.mono (rput_ev h32 hO119.ok hog123 (hM118.own.asbs) (by first | omega | (simp only [List.length_take, List.length_drop, List.length_append, List.length_cons, List.length_nil, beN_len] <;> omega)) (by first | omega | (simp only [List.length_take, List.length_drop, List.length_append, List.length_cons, List.length_nil, beN_len] <;> omega)) pt (n := 4) (by decide) (by first | omega | (simp only [List.length_append, List.length_cons, List.length_nil, beN_len] <;> omega))) fun v127 H128 hq129 => ?_)
        obtain ⟨hM130, hK131⟩ := hq129
        have hb132 := (hK131.keep _ (by omega)).trans hb115
        have hb133 := (hK131.keep _ (by omega)).trans hb116
        have hx_hK131 := hK131.next
        have hlt_n1 : n1 < H128.next := by omega
        have hlt_n90 : n90 < H128.next := by omega
        have hM134 := hM118.kp hK131
        have hO135 := hO119.trans hK131
        have hx_hO135 := hO135.next
        have hO136 := hO120.trans hK131
        have hO137 := base126.trans hK131
        have hM138 := hM130.down (N := H.next) (by omega)
        have hd139 : ¬ v127.nameOf n1 := fun hq => by have := hM130.new _ hq; omega
        have hd140 : ¬ v127.nameOf n90 := fun hq => by have := hM130.new _ hq; omega
        refine And.intro (And.intro (Or.inr (look_run rfl rfl (r_ld rfl hb132 rfl))) (And.intro (Or.inl rfl) True.intro)) ?_
        have hsf145 : Own 1 H128 v127 (bcells ((([128, (u8 pk)] : List UInt8) ++ beN (IntKind.u32.wrap pq) 2) ++ beN pt 4)) := hM138.own
        obtain ⟨oa141, og142, rfl, hog143, hob144⟩ := hsf145.bs
        have base146 := Old.refl hO135.ok
        refine D_call (Ev.mono (rput_ev h32 hO135.ok hog143 (hM138.own.asbs) (by first | omega | (simp only [List.length_take, List.length_drop, List.length_append, List.length_cons, List.length_nil, beN_len] <;> omega)) (by first | omega | (simp only [List.length_take, List.length_drop, List.length_append, List.length_cons, List.length_nil, beN_len] <;> omega)) ps (n := 4) (by decide) (by first | omega | (simp only [List.length_append, List.length_cons, List.length_nil, beN_len] <;> omega))) fun v147 H148 hq149 => ?_)
        obtain ⟨hM150, hK151⟩ := hq149
        have hb152 := (hK151.keep _ (by omega)).trans hb132
        have hb153 := (hK151.keep _ (by omega)).trans hb133
        have hx_hK151 := hK151.next
        have hlt_n1 : n1 < H148.next := by omega
        have hlt_n90 : n90 < H148.next := by omega
        have hM154 := hM134.kp hK151
        have hM155 := hM138.kp hK151
        have hO156 := hO135.trans hK151
        have hx_hO156 := hO156.next
        have hO157 := hO136.trans hK151
        have hO158 := hO137.trans hK151
        have hO159 := base146.trans hK151
        have hM160 := hM150.down (N := H.next) (by omega)
        have hd161 : ¬ v147.nameOf n1 := fun hq => by have := hM150.new _ hq; omega
        have hd162 : ¬ v147.nameOf n90 := fun hq => by have := hM150.new _ hq; omega
        refine And.intro (And.intro (Or.inl rfl) True.intro) ?_
        refine D_l (v := v147) rfl rfl rfl (r_mv rfl) ?_
        refine D_nil ?_
        refine C_seq ?_
        refine C_region ?_
        refine O_p v147 (r_mv rfl) ?_
        refine O_p (.p (some (n1, 5))) (r_fadd' rfl rfl) ?_
        refine O_p (.sl pa l.length pc pg) (r_ld rfl hb152 rfl) ?_
        refine O_qh (by exact r_app (n := ((((([128, (u8 pk)] : List UInt8) ++ beN (IntKind.u32.wrap pq) 2) ++ beN pt 4) ++ beN ps 4)).length) (k := l.length) (new := (bcells l)) hO156.ok hO156.next hM160 ((bcells_len _).trans (Nat.mul_one _).symm) rfl rfl ((phb.old hok hO156).len) ((phb.old hok hO156).src) ((bcells_len _).trans (Nat.mul_one _).symm) (by decide) (by decide) (by first | omega | (simp only [List.length_take, List.length_drop, List.length_append, List.length_cons, List.length_nil, beN_len] <;> omega))) fun o163 H164 hA165 => ?_
        have hx_H164 := hA165.2.1
        have hb166 := (hA165.2.2.1 _ (by omega) hd161).trans hb152
        have hb167 := (hA165.2.2.1 _ (by omega) hd162).trans hb153
        have hlt_n1 : n1 < H164.next := by omega
        have hlt_n90 : n90 < H164.next := by omega
        have hO168 := hA165.old hM160 hO156
        have hx_hO168 := hO168.next
        have hd169 := hA165.dis (n := n1) (by omega) hd161
        have hd170 := hA165.dis (n := n90) (by omega) hd162
        refine O_p o163 (r_mv rfl) ?_
        refine O_p (.i .i64 0) (r_mv rfl) ?_
        refine O_nil ?_
        refine C_ret ?_
        have hr : rightN pk l.length = 0 := rightN_0 (by omega) (by omega)
        obtain ⟨hk127, hn1188⟩ := rightN_iff hr
        have hw : IntKind.u32.wrap pq = pq := by rw [wrap_u32]; omega
        have hfin : ((bcells (((([128, (u8 pk)] : List UInt8) ++ beN (IntKind.u32.wrap pq) 2) ++ beN pt 4) ++ beN ps 4)) ++ (bcells l)) = bcells (enc pm pk pq pt ps l) := by rw [hw]; unfold enc; rw [if_pos hr]; unfold encB; rw [hcm, if_neg (by decide)]; simp only [bcells_append]
        exact ⟨.inr rfl, _, resL_cons (r_tmp (v := o163) rfl) (resL_one (r_tmp (v := .i .i64 0) rfl)), _, by rw [hr]; rfl, by rw [← hfin]; exact hA165.1, hO168⟩
theorem theirs_ev {tab : Nat → Option XFun} {sp : Nat → List AV → AH → Option (AV × AH)} (h19 : tab 19 = some x19) {H : AH} (hok : H.Ok) (pm : Bool) {pk : Int} (pk0 : 0 ≤ pk) (pk1 : pk < 256) (pq pt ps : Int) (pq0 : 0 ≤ pq) (pq1 : pq < 65536) {pa : Option (Nat × Nat)} {pn pc pg : Nat} (phg : pg = 0 ∨ pg = 1) {l : List UInt8} (phb : Bs H (.sl pa pn pc pg) l) (phc : pn ≤ pc) (phm : pc ≤ 9223372036854775807) : Ev tab sp (.fn (.func 19) [] []) [.agg [.b pm, .i .u8 pk, .i .u16 pq, .i .u32 pt, .i .u32 ps, .sl pa pn pc pg]] H (fun r H' => r = .agg [.b pm, .i .u8 pk, .i .u16 pq, .i .u32 pt, .i .u32 ps, .sl pa pn pc pg] ∧ Kp H H') := by
  refine Ev_C (F := x19) h19 ?_
  have phl := phb.length
  subst phl
  have hO0 := Old.refl hok
  refine C_seq ?_
  refine C_region ?_
  refine O_box (z := [(.b pm), (.i .u8 pk), (.i .u16 pq), (.i .u32 pt), (.i .u32 ps), (.sl pa l.length pc pg)]) rfl fun n1 H2 hN3 => ?_
  have hF4 := hN3.fr (fun _ => False)
  have hO5 := hO0.new hN3
  have hx_hO5 := hO5.next
  have hnm_n1 : n1 = H.next := hN3.1
  have hnx_H2 : H2.next = H.next + 1 := hN3.2.1
  have hlt_n1 : n1 < H2.next := by omega
  refine O_alloc fun n6 H7 hN8 => ?_
  have hF9 := hN8.fr (fun _ => False)
  have hb10 := (hF9.keep _ (by exact hlt_n1) (fun h => h)).trans hN3.2.2.1
  have hO11 := hO5.new hN8
  have hx_hO11 := hO11.next
  have hnm_n6 : n6 = H2.next := hN8.1
  have hnx_H7 : H7.next = H2.next + 1 := hN8.2.1
  have hlt_n1 : n1 < H7.next := by omega
  have hlt_n6 : n6 < H7.next := by omega
  refine O_nil ?_
  refine C_seq ?_
  refine C_region ?_
  refine O_p (.p (some (n1, 0))) (r_fadd' rfl rfl) ?_
  refine O_p (.b pm) (r_ld rfl hb10 rfl) ?_
  refine O_p (.p (some (n1, 1))) (r_fadd' rfl rfl) ?_
  refine O_p (.i .u8 pk) (r_ld rfl hb10 rfl) ?_
  refine O_p (.p (some (n1, 2))) (r_fadd' rfl rfl) ?_
  refine O_p (.i .u16 pq) (r_ld rfl hb10 rfl) ?_
  refine O_p (.p (some (n1, 3))) (r_fadd' rfl rfl) ?_
  refine O_p (.i .u32 pt) (r_ld rfl hb10 rfl) ?_
  refine O_p (.p (some (n1, 4))) (r_fadd' rfl rfl) ?_
  refine O_p (.i .u32 ps) (r_ld rfl hb10 rfl) ?_
  refine O_p (.p (some (n1, 5))) (r_fadd' rfl rfl) ?_
  refine O_p (.sl pa l.length pc pg) (r_ld rfl hb10 rfl) ?_
  refine O_p (.agg [(.b pm), (.i .u8 pk), (.i .u16 pq), (.i .u32 pt), (.i .u32 ps), (.sl pa l.length pc pg)]) (r_build rfl) ?_
  refine O_store (vs := [(.b pm), (.i .u8 pk), (.i .u16 pq), (.i .u32 pt), (.i .u32 ps), (.sl pa l.length pc pg)]) (c' := [(.b pm), (.i .u8 pk), (.i .u16 pq), (.i .u32 pt), (.i .u32 ps), (.sl pa l.length pc pg)]) rfl (by rfl) hN8.2.2.1 rfl (List.cons_ne_nil _ _) (Nat.le_of_ble_eq_true rfl) rfl fun H12 hW13 => ?_
  have hb14 := (hW13.2.2 _ (by omega)).trans hb10
  have hO15 := hO11.wr hW13 (by omega) (by omega)
  have hx_hO15 := hO15.next
  have hnx_H12 : H12.next = H7.next := hW13.1
  have hlt_n1 : n1 < H12.next := by omega
  have hlt_n6 : n6 < H12.next := by omega
  refine O_nil ?_
  refine C_ret ?_
  exact ⟨.inr rfl, _, resL_one (r_cellA rfl hW13.2.1 rfl), rfl, hO15⟩
theorem dec_ev {tab : Nat → Option XFun} {sp : Nat → List AV → AH → Option (AV × AH)} (h20 : tab 20 = some x20) (h27 : tab 27 = some x27) (h33 : tab 33 = some x33) (h34 : tab 34 = some x34) (h35 : tab 35 = some x35) (h36 : tab 36 = some x36) (h37 : tab 37 = some x37) (h38 : tab 38 = some x38) (h42 : tab 42 = some x42) {H : AH} (hok : H.Ok) {ba : Option (Nat × Nat)} {bn bc bg : Nat} (bhg : bg = 0 ∨ bg = 1) {l : List UInt8} (bhb : Bs H (.sl ba bn bc bg) l) (bhc : bn ≤ bc) (bhm : bc ≤ 9223372036854775807) (hbf : bn ≤ 100000) : Ev tab sp (.fn (.func 20) [] []) [.sl ba bn bc bg] H (fun r H' => ∃ d, r = .tup [.agg [.b (dm l), .i .u8 (dk l), .i .u16 (dq l), .i .u32 (dt l), .i .u32 (ds l), d], .i .i64 (decE l)] ∧ OctV H' d (dd l) ∧ Kp H H') := by
  refine Ev_C (F := x20) h20 ?_
  have bhl := bhb.length
  subst bhl
  have hO0 := Old.refl hok
  refine C_seq ?_
  refine C_region ?_
  refine O_alloc fun n1 H2 hN3 => ?_
  have hF4 := hN3.fr (fun _ => False)
  have hO5 := hO0.new hN3
  have hx_hO5 := hO5.next
  have hnm_n1 : n1 = H.next := hN3.1
  have hnx_H2 : H2.next = H.next + 1 := hN3.2.1
  have hlt_n1 : n1 < H2.next := by omega
  refine O_p (.i .i64 0) (r_mv rfl) ?_
  refine O_nil ?_
  refine C_seq ?_
  refine C_block ?_
  refine C_seq ?_
  refine C_region ?_
  refine O_p (.sl ba l.length bc bg) (r_mv rfl) ?_
  refine O_p (.i .i64 (((l.length : Nat)) : Int)) (r_len rfl) ?_
  refine O_p (.b (decide (1200 < (((l.length : Nat)) : Int)))) (r_gtr rfl rfl) ?_
  refine O_p (.b (decide (1200 < (((l.length : Nat)) : Int)))) (r_mv rfl) ?_
  refine O_nil ?_
  refine C_cond (x := (decide (1200 < (((l.length : Nat)) : Int)))) rfl (fun hc6 => ?_) (fun hc6 => ?_)
  ·
    simp only [decide_eq_true_eq, decide_eq_false_iff_not, Bool.not_eq_true', Bool.not_eq_false', Bool.and_eq_true, Bool.or_eq_true, Bool.or_eq_false_iff, Bool.not_not] at hc6
    refine C_seq ?_
    refine C_region ?_
    refine O_p (.agg [(.b false), (.i .u8 0), (.i .u16 0), (.i .u32 0), (.i .u32 0), (.sl none 0 0 0)]) (r_build rfl) ?_
    refine O_store (vs := [(.b false), (.i .u8 0), (.i .u16 0), (.i .u32 0), (.i .u32 0), (.sl none 0 0 0)]) (c' := [(.b false), (.i .u8 0), (.i .u16 0), (.i .u32 0), (.i .u32 0), (.sl none 0 0 0)]) rfl (by rfl) hN3.2.2.1 rfl (List.cons_ne_nil _ _) (Nat.le_of_ble_eq_true rfl) rfl fun H7 hW8 => ?_
    have hO9 := hO5.wr hW8 (by omega) (by omega)
    have hx_hO9 := hO9.next
    have hnx_H7 : H7.next = H2.next := hW8.1
    have hlt_n1 : n1 < H7.next := by omega
    refine O_p (.i .i64 10) (r_mv rfl) ?_
    refine O_nil ?_
    refine C_ret ?_
    refine bk_ret ?_
    refine nx_ret ?_
    have he : decE l = 10 := decE_10 (by omega)
    obtain ⟨e1, e2, e3, e4, e5, e6⟩ := dec_bad he (by decide)
    exact ⟨.inr rfl, _, resL_cons (r_cellA (cs := [(.b false), (.i .u8 0), (.i .u16 0), (.i .u32 0), (.i .u32 0), (.sl none 0 0 0)]) rfl hW8.2.1 rfl) (resL_one (r_tmp (v := .i .i64 10) rfl)), .sl none 0 0 0, by rw [e1, e2, e3, e4, e5, he]; rfl, by rw [e6]; exact OctV.nil _, hO9⟩
  ·
    simp only [decide_eq_true_eq, decide_eq_false_iff_not, Bool.not_eq_true', Bool.not_eq_false', Bool.and_eq_true, Bool.or_eq_true, Bool.or_eq_false_iff, Bool.not_not] at hc6
    refine C_seq ?_
    refine C_region ?_
    refine O_p (.sl ba l.length bc bg) (r_mv rfl) ?_
    refine O_p (.i .i64 (((l.length : Nat)) : Int)) (r_len rfl) ?_
    refine O_p (.b (decide ((((l.length : Nat)) : Int) < 12))) (r_lss rfl rfl) ?_
    refine O_p (.b (decide ((((l.length : Nat)) : Int) < 12))) (r_mv rfl) ?_
    refine O_nil ?_
    refine C_cond (x := (decide ((((l.length : Nat)) : Int) < 12))) rfl (fun hc10 => ?_) (fun hc10 => ?_)
    ·
      simp only [decide_eq_true_eq, decide_eq_false_iff_not, Bool.not_eq_true', Bool.not_eq_false', Bool.and_eq_true, Bool.or_eq_true, Bool.or_eq_false_iff, Bool.not_not] at hc10
      refine C_seq ?_
      refine C_region ?_
      refine O_p (.agg [(.b false), (.i .u8 0), (.i .u16 0), (.i .u32 0), (.i .u32 0), (.sl none 0 0 0)]) (r_build rfl) ?_
      refine O_store (vs := [(.b false), (.i .u8 0), (.i .u16 0), (.i .u32 0), (.i .u32 0), (.sl none 0 0 0)]) (c' := [(.b false), (.i .u8 0), (.i .u16 0), (.i .u32 0), (.i .u32 0), (.sl none 0 0 0)]) rfl (by rfl) hN3.2.2.1 rfl (List.cons_ne_nil _ _) (Nat.le_of_ble_eq_true rfl) rfl fun H11 hW12 => ?_
      have hO13 := hO5.wr hW12 (by omega) (by omega)
      have hx_hO13 := hO13.next
      have hnx_H11 : H11.next = H2.next := hW12.1
      have hlt_n1 : n1 < H11.next := by omega
      refine O_p (.i .i64 2) (r_mv rfl) ?_
      refine O_nil ?_
      refine C_ret ?_
      refine bk_ret ?_
      refine nx_ret ?_
      have he : decE l = 2 := decE_2 (by omega) (by omega)
      obtain ⟨e1, e2, e3, e4, e5, e6⟩ := dec_bad he (by decide)
      exact ⟨.inr rfl, _, resL_cons (r_cellA (cs := [(.b false), (.i .u8 0), (.i .u16 0), (.i .u32 0), (.i .u32 0), (.sl none 0 0 0)]) rfl hW12.2.1 rfl) (resL_one (r_tmp (v := .i .i64 2) rfl)), .sl none 0 0 0, by rw [e1, e2, e3, e4, e5, he]; rfl, by rw [e6]; exact OctV.nil _, hO13⟩
    ·
      simp only [decide_eq_true_eq, decide_eq_false_iff_not, Bool.not_eq_true', Bool.not_eq_false', Bool.and_eq_true, Bool.or_eq_true, Bool.or_eq_false_iff, Bool.not_not] at hc10
      refine C_seq ?_
      refine C_region ?_
      refine O_p (.sl ba l.length bc bg) (r_mv rfl) ?_
      refine O_q (by exact Bs.ix (bhb.old hok hO5) rfl (i := 0) rfl (by first | omega | (simp only [List.length_take, List.length_drop, List.length_append, List.length_cons, List.length_nil, beN_len] <;> omega))) fun v15 hv14 => ?_
      refine O_p (.i .u8 ((l.getD 0 0).toNat : Int)) (hv14.load rfl) ?_
      refine O_p (.b (!decide (((l.getD 0 0).toNat : Int) = 128))) (r_neq rfl rfl) ?_
      refine O_p (.b (!decide (((l.getD 0 0).toNat : Int) = 128))) (r_mv rfl) ?_
      refine O_nil ?_
      refine C_cond (x := (!decide (((l.getD 0 0).toNat : Int) = 128))) rfl (fun hc16 => ?_) (fun hc16 => ?_)
      ·
        simp only [decide_eq_true_eq, decide_eq_false_iff_not, Bool.not_eq_true', Bool.not_eq_false', Bool.and_eq_true, Bool.or_eq_true, Bool.or_eq_false_iff, Bool.not_not] at hc16
        refine C_seq ?_
        refine C_region ?_
        refine O_p (.agg [(.b false), (.i .u8 0), (.i .u16 0), (.i .u32 0), (.i .u32 0), (.sl none 0 0 0)]) (r_build rfl) ?_
        refine O_store (vs := [(.b false), (.i .u8 0), (.i .u16 0), (.i .u32 0), (.i .u32 0), (.sl none 0 0 0)]) (c' := [(.b false), (.i .u8 0), (.i .u16 0), (.i .u32 0), (.i .u32 0), (.sl none 0 0 0)]) rfl (by rfl) hN3.2.2.1 rfl (List.cons_ne_nil _ _) (Nat.le_of_ble_eq_true rfl) rfl fun H17 hW18 => ?_
        have hO19 := hO5.wr hW18 (by omega) (by omega)
        have hx_hO19 := hO19.next
        have hnx_H17 : H17.next = H2.next := hW18.1
        have hlt_n1 : n1 < H17.next := by omega
        refine O_p (.i .i64 3) (r_mv rfl) ?_
        refine O_nil ?_
        refine C_ret ?_
        refine bk_ret ?_
        refine nx_ret ?_
        have he : decE l = 3 := decE_3 (by omega) (by omega) (by omega)
        obtain ⟨e1, e2, e3, e4, e5, e6⟩ := dec_bad he (by decide)
        exact ⟨.inr rfl, _, resL_cons (r_cellA (cs := [(.b false), (.i .u8 0), (.i .u16 0), (.i .u32 0), (.i .u32 0), (.sl none 0 0 0)]) rfl hW18.2.1 rfl) (resL_one (r_tmp (v := .i .i64 3) rfl)), .sl none 0 0 0, by rw [e1, e2, e3, e4, e5, he]; rfl, by rw [e6]; exact OctV.nil _, hO19⟩
      ·
        simp only [decide_eq_true_eq, decide_eq_false_iff_not, Bool.not_eq_true', Bool.not_eq_false', Bool.and_eq_true, Bool.or_eq_true, Bool.or_eq_false_iff, Bool.not_not] at hc16
        refine C_skip ?_
        refine C_seq ?_
        refine C_region ?_
        refine O_p (.sl ba l.length bc bg) (r_mv rfl) ?_
        refine O_q (by exact Bs.lo bhb bhg rfl (i := 1) rfl (by first | omega | (simp only [List.length_take, List.length_drop, List.length_append, List.length_cons, List.length_nil, beN_len] <;> omega)) (by first | omega | (simp only [List.length_take, List.length_drop, List.length_append, List.length_cons, List.length_nil, beN_len] <;> omega))) fun v23 hv22 => ?_
        obtain ⟨a20, rfl, hb21⟩ := hv22
        refine O_call (Ev.mono (new_ev h27 h33 hO5.ok bhg (hb21.old hok hO5) (by first | omega | (simp only [List.length_take, List.length_drop, List.length_append, List.length_cons, List.length_nil, beN_len] <;> omega)) (by first | omega | (simp only [List.length_take, List.length_drop, List.length_append, List.length_cons, List.length_nil, beN_len] <;> omega)) (by first | omega | (simp only [List.length_take, List.length_drop, List.length_append, List.length_cons, List.length_nil, beN_len] <;> omega))) fun v24 H25 hq26 => ?_)
        obtain ⟨rn27, rfl, hge28, hRd29, hK30⟩ := hq26
        have hlt_rn27 := hRd29.lt hK30.ok
        have hb31 := (hK30.keep _ (by omega)).trans hN3.2.2.1
        have hx_hK30 := hK30.next
        have hlt_n1 : n1 < H25.next := by omega
        have hO32 := hO5.trans hK30
        have hx_hO32 := hO32.next
        refine O_p (.p (some (rn27, 0))) (r_mv rfl) ?_
        refine O_nil ?_
        refine C_seq ?_
        refine C_region ?_
        refine O_p (.p (some (rn27, 0))) (r_mv rfl) ?_
        refine O_call (Ev.mono (get8_ev h42 h34 hO32.ok hRd29 (by first | omega | (simp only [List.length_take, List.length_drop, List.length_append, List.length_cons, List.length_nil, beN_len] <;> omega))) fun v33 H34 hq35 => ?_)
        obtain ⟨hBut36, hRd37, rfl⟩ := hq35
        have hb38 := (hBut36.keep _ (by omega) (by omega)).trans hb31
        have hx_hBut36 := hBut36.next
        have hlt_n1 : n1 < H34.next := by omega
        have hO39 := hO32.but hBut36 (by omega)
        have hx_hO39 := hO39.next
        have hlt_rn27 := hRd37.lt hBut36.ok
        refine O_p (.tup [(.i .u8 (num ((l.drop 1).take 1))), (.i .i64 0)]) (r_mv rfl) ?_
        refine O_p (.i .u8 (num ((l.drop 1).take 1))) (r_ext rfl rfl) ?_
        refine O_p (.i .i64 0) (r_ext rfl rfl) ?_
        refine O_p (.i .u8 (num ((l.drop 1).take 1))) (r_mv rfl) ?_
        refine O_p (.i .i64 0) (r_mv rfl) ?_
        refine O_nil ?_
        refine C_seq ?_
        refine C_region ?_
        refine O_p (.i .u8 (num ((l.drop 1).take 1))) (r_mv rfl) ?_
        refine O_p (.i .u8 (IntKind.u8.wrap ((BitVec.ofInt 8 (num ((l.drop 1).take 1)) &&& BitVec.ofInt 8 128).toNat : Int))) (r_bin rfl rfl rfl) ?_
        refine O_p (.b (!decide ((IntKind.u8.wrap ((BitVec.ofInt 8 (num ((l.drop 1).take 1)) &&& BitVec.ofInt 8 128).toNat : Int)) = 0))) (r_neq rfl rfl) ?_
        refine O_p (.i .u8 (num ((l.drop 1).take 1))) (r_mv rfl) ?_
        refine O_p (.i .u8 (IntKind.u8.wrap ((BitVec.ofInt 8 (num ((l.drop 1).take 1)) &&& ~~~BitVec.ofInt 8 128).toNat : Int))) (r_bin rfl rfl rfl) ?_
        refine O_p (.agg [(.b (!decide ((IntKind.u8.wrap ((BitVec.ofInt 8 (num ((l.drop 1).take 1)) &&& BitVec.ofInt 8 128).toNat : Int)) = 0))), (.i .u8 (IntKind.u8.wrap ((BitVec.ofInt 8 (num ((l.drop 1).take 1)) &&& ~~~BitVec.ofInt 8 128).toNat : Int))), (.i .u16 0), (.i .u32 0), (.i .u32 0), (.sl none 0 0 0)]) (r_build rfl) ?_
        refine O_alloc fun n40 H41 hN42 => ?_
        have hF43 := hN42.fr (fun _ => False)
        have hb44 := (hF43.keep _ (by exact hlt_n1) (fun h => h)).trans hb38
        have hRd45 := hRd37.kp hO39.ok ((Old.refl hO39.ok).new hN42)
        have hO46 := hO39.new hN42
        have hx_hO46 := hO46.next
        have hnm_n40 : n40 = H34.next := hN42.1
        have hnx_H41 : H41.next = H34.next + 1 := hN42.2.1
        have hlt_n1 : n1 < H41.next := by omega
        have hlt_n40 : n40 < H41.next := by omega
        refine O_store (vs := [(.b (!decide ((IntKind.u8.wrap ((BitVec.ofInt 8 (num ((l.drop 1).take 1)) &&& BitVec.ofInt 8 128).toNat : Int)) = 0))), (.i .u8 (IntKind.u8.wrap ((BitVec.ofInt 8 (num ((l.drop 1).take 1)) &&& ~~~BitVec.ofInt 8 128).toNat : Int))), (.i .u16 0), (.i .u32 0), (.i .u32 0), (.sl none 0 0 0)]) (c' := [(.b (!decide ((IntKind.u8.wrap ((BitVec.ofInt 8 (num ((l.drop 1).take 1)) &&& BitVec.ofInt 8 128).toNat : Int)) = 0))), (.i .u8 (IntKind.u8.wrap ((BitVec.ofInt 8 (num ((l.drop 1).take 1)) &&& ~~~BitVec.ofInt 8 128).toNat : Int))), (.i .u16 0), (.i .u32 0), (.i .u32 0), (.sl none 0 0 0)]) rfl (by rfl) hN42.2.2.1 rfl (List.cons_ne_nil _ _) (Nat.le_of_ble_eq_true rfl) rfl fun H47 hW48 => ?_
        have hb49 := (hW48.2.2 _ (by omega)).trans hb44
        have hRd50 := hRd45.wr hO46.ok hW48 (by omega) (by omega) (by omega)
        have hO51 := hO46.wr hW48 (by omega) (by omega)
        have hx_hO51 := hO51.next
        have hnx_H47 : H47.next = H41.next := hW48.1
        have hlt_n1 : n1 < H47.next := by omega
        have hlt_n40 : n40 < H47.next := by omega
        refine O_nil ?_
        refine C_seq ?_
        refine C_region ?_
        refine O_p (.p (some (rn27, 0))) (r_mv rfl) ?_
        refine O_call (Ev.mono (get16_ev h42 h35 hO51.ok hRd50 (by first | omega | (simp only [List.length_take, List.length_drop, List.length_append, List.length_cons, List.length_nil, beN_len] <;> omega))) fun v52 H53 hq54 => ?_)
        obtain ⟨hBut55, hRd56, rfl⟩ := hq54
        have hb57 := (hBut55.keep _ (by omega) (by omega)).trans hb49
        have hb58 := (hBut55.keep _ (by omega) (by omega)).trans hW48.2.1
        have hx_hBut55 := hBut55.next
        have hlt_n1 : n1 < H53.next := by omega
        have hlt_n40 : n40 < H53.next := by omega
        have hO59 := hO51.but hBut55 (by omega)
        have hx_hO59 := hO59.next
        have hlt_rn27 := hRd56.lt hBut55.ok
        refine O_p (.tup [(.i .u16 (num (((l.drop 1).drop 1).take 2))), (.i .i64 0)]) (r_mv rfl) ?_
        refine O_p (.i .u16 (num (((l.drop 1).drop 1).take 2))) (r_ext rfl rfl) ?_
        refine O_p (.i .i64 0) (r_ext rfl rfl) ?_
        refine O_p (.p (some (n40, 2))) (r_fadd' rfl rfl) ?_
        refine O_store (vs := [(.i .u16 (num (((l.drop 1).drop 1).take 2)))]) (c' := [(.b (!decide ((IntKind.u8.wrap ((BitVec.ofInt 8 (num ((l.drop 1).take 1)) &&& BitVec.ofInt 8 128).toNat : Int)) = 0))), (.i .u8 (IntKind.u8.wrap ((BitVec.ofInt 8 (num ((l.drop 1).take 1)) &&& ~~~BitVec.ofInt 8 128).toNat : Int))), (.i .u16 (num (((l.drop 1).drop 1).take 2))), (.i .u32 0), (.i .u32 0), (.sl none 0 0 0)]) rfl (by rfl) hb58 rfl (List.cons_ne_nil _ _) (Nat.le_of_ble_eq_true rfl) rfl fun H60 hW61 => ?_
        have hb62 := (hW61.2.2 _ (by omega)).trans hb57
        have hRd63 := hRd56.wr hO59.ok hW61 (by omega) (by omega) (by omega)
        have hO64 := hO59.wr hW61 (by omega) (by omega)
        have hx_hO64 := hO64.next
        have hnx_H60 : H60.next = H53.next := hW61.1
        have hlt_n1 : n1 < H60.next := by omega
        have hlt_n40 : n40 < H60.next := by omega
        refine O_nil ?_
        refine C_seq ?_
        refine C_region ?_
        refine O_p (.p (some (rn27, 0))) (r_mv rfl) ?_
        refine O_call (Ev.mono (get32_ev h42 h36 hO64.ok hRd63 (by first | omega | (simp only [List.length_take, List.length_drop, List.length_append, List.length_cons, List.length_nil, beN_len] <;> omega))) fun v65 H66 hq67 => ?_)
        obtain ⟨hBut68, hRd69, rfl⟩ := hq67
        have hb70 := (hBut68.keep _ (by omega) (by omega)).trans hb62
        have hb71 := (hBut68.keep _ (by omega) (by omega)).trans hW61.2.1
        have hx_hBut68 := hBut68.next
        have hlt_n1 : n1 < H66.next := by omega
        have hlt_n40 : n40 < H66.next := by omega
        have hO72 := hO64.but hBut68 (by omega)
        have hx_hO72 := hO72.next
        have hlt_rn27 := hRd69.lt hBut68.ok
        refine O_p (.tup [(.i .u32 (num ((((l.drop 1).drop 1).drop 2).take 4))), (.i .i64 0)]) (r_mv rfl) ?_
        refine O_p (.i .u32 (num ((((l.drop 1).drop 1).drop 2).take 4))) (r_ext rfl rfl) ?_
        refine O_p (.i .i64 0) (r_ext rfl rfl) ?_
        refine O_p (.p (some (n40, 3))) (r_fadd' rfl rfl) ?_
        refine O_store (vs := [(.i .u32 (num ((((l.drop 1).drop 1).drop 2).take 4)))]) (c' := [(.b (!decide ((IntKind.u8.wrap ((BitVec.ofInt 8 (num ((l.drop 1).take 1)) &&& BitVec.ofInt 8 128).toNat : Int)) = 0))), (.i .u8 (IntKind.u8.wrap ((BitVec.ofInt 8 (num ((l.drop 1).take 1)) &&& ~~~BitVec.ofInt 8 128).toNat : Int))), (.i .u16 (num (((l.drop 1).drop 1).take 2))), (.i .u32 (num ((((l.drop 1).drop 1).drop 2).take 4))), (.i .u32 0), (.sl none 0 0 0)]) rfl (by rfl) hb71 rfl (List.cons_ne_nil _ _) (Nat.le_of_ble_eq_true rfl) rfl fun H73 hW74 => ?_
        have hb75 := (hW74.2.2 _ (by omega)).trans hb70
        have hRd76 := hRd69.wr hO72.ok hW74 (by omega) (by omega) (by omega)
        have hO77 := hO72.wr hW74 (by omega) (by omega)
        have hx_hO77 := hO77.next
        have hnx_H73 : H73.next = H66.next := hW74.1
        have hlt_n1 : n1 < H73.next := by omega
        have hlt_n40 : n40 < H73.next := by omega
        refine O_nil ?_
        refine C_seq ?_
        refine C_region ?_
        refine O_p (.p (some (rn27, 0))) (r_mv rfl) ?_
        refine O_call (Ev.mono (get32_ev h42 h36 hO77.ok hRd76 (by first | omega | (simp only [List.length_take, List.length_drop, List.length_append, List.length_cons, List.length_nil, beN_len] <;> omega))) fun v78 H79 hq80 => ?_)
        obtain ⟨hBut81, hRd82, rfl⟩ := hq80
        have hb83 := (hBut81.keep _ (by omega) (by omega)).trans hb75
        have hb84 := (hBut81.keep _ (by omega) (by omega)).trans hW74.2.1
        have hx_hBut81 := hBut81.next
        have hlt_n1 : n1 < H79.next := by omega
        have hlt_n40 : n40 < H79.next := by omega
        have hO85 := hO77.but hBut81 (by omega)
        have hx_hO85 := hO85.next
        have hlt_rn27 := hRd82.lt hBut81.ok
        refine O_p (.tup [(.i .u32 (num (((((l.drop 1).drop 1).drop 2).drop 4).take 4))), (.i .i64 0)]) (r_mv rfl) ?_
        refine O_p (.i .u32 (num (((((l.drop 1).drop 1).drop 2).drop 4).take 4))) (r_ext rfl rfl) ?_
        refine O_p (.i .i64 0) (r_ext rfl rfl) ?_
        refine O_p (.p (some (n40, 4))) (r_fadd' rfl rfl) ?_
        refine O_store (vs := [(.i .u32 (num (((((l.drop 1).drop 1).drop 2).drop 4).take 4)))]) (c' := [(.b (!decide ((IntKind.u8.wrap ((BitVec.ofInt 8 (num ((l.drop 1).take 1)) &&& BitVec.ofInt 8 128).toNat : Int)) = 0))), (.i .u8 (IntKind.u8.wrap ((BitVec.ofInt 8 (num ((l.drop 1).take 1)) &&& ~~~BitVec.ofInt 8 128).toNat : Int))), (.i .u16 (num (((l.drop 1).drop 1).take 2))), (.i .u32 (num ((((l.drop 1).drop 1).drop 2).take 4))), (.i .u32 (num (((((l.drop 1).drop 1).drop 2).drop 4).take 4))), (.sl none 0 0 0)]) rfl (by rfl) hb84 rfl (List.cons_ne_nil _ _) (Nat.le_of_ble_eq_true rfl) rfl fun H86 hW87 => ?_
        have hb88 := (hW87.2.2 _ (by omega)).trans hb83
        have hRd89 := hRd82.wr hO85.ok hW87 (by omega) (by omega) (by omega)
        have hO90 := hO85.wr hW87 (by omega) (by omega)
        have hx_hO90 := hO90.next
        have hnx_H86 : H86.next = H79.next := hW87.1
        have hlt_n1 : n1 < H86.next := by omega
        have hlt_n40 : n40 < H86.next := by omega
        refine O_nil ?_
        refine C_seq ?_
        refine C_region ?_
        refine O_p (.p (some (rn27, 0))) (r_mv rfl) ?_
        refine O_p (.p (some (rn27, 0))) (r_mv rfl) ?_
        refine O_call (Ev.mono (left_ev h38 hO90.ok hRd89) fun v91 H92 hq93 => ?_)
        obtain ⟨rfl, hq93⟩ := hq93
        subst H92
        refine O_call (Ev.mono (bytes_ev h42 h27 h37 hO90.ok hRd89 (k := ((((((l.drop 1).drop 1).drop 2).drop 4).drop 4)).length) (by first | omega | (simp only [List.length_take, List.length_drop, List.length_append, List.length_cons, List.length_nil, beN_len] <;> omega)) (by first | omega | (simp only [List.length_take, List.length_drop, List.length_append, List.length_cons, List.length_nil, beN_len] <;> omega))) fun v94 H95 hq96 => ?_)
        obtain ⟨hBut97, hRd98, o100, rfl, hM99⟩ := hq96
        have hb101 := (hBut97.keep _ (by omega) (by omega)).trans hb88
        have hb102 := (hBut97.keep _ (by omega) (by omega)).trans hW87.2.1
        have hx_hBut97 := hBut97.next
        have hlt_n1 : n1 < H95.next := by omega
        have hlt_n40 : n40 < H95.next := by omega
        have hO103 := hO90.but hBut97 (by omega)
        have hx_hO103 := hO103.next
        have hlt_rn27 := hRd98.lt hBut97.ok
        have hM104 := hM99.down (N := H.next) (by omega)
        have hd105 : ¬ o100.nameOf n1 := fun hq => by have := hM99.new _ hq; omega
        have hd106 : ¬ o100.nameOf n40 := fun hq => by have := hM99.new _ hq; omega
        refine O_p (.tup [o100, (.i .i64 0)]) (r_mv rfl) ?_
        refine O_p o100 (r_ext rfl rfl) ?_
        refine O_p (.i .i64 0) (r_ext rfl rfl) ?_
        refine O_p (.p (some (n40, 5))) (r_fadd' rfl rfl) ?_
        have hsf111 : Own 1 H95 o100 (bcells ((((((l.drop 1).drop 1).drop 2).drop 4).drop 4).take (((((((l.drop 1).drop 1).drop 2).drop 4).drop 4)).length))) := hM104.own
        obtain ⟨oa107, og108, rfl, hog109, hob110⟩ := hsf111.bs
        have base112 := Old.refl hO103.ok
        refine O_store (vs := [(.sl oa107 (((((((l.drop 1).drop 1).drop 2).drop 4).drop 4).take (((((((l.drop 1).drop 1).drop 2).drop 4).drop 4)).length))).length (((((((l.drop 1).drop 1).drop 2).drop 4).drop 4).take (((((((l.drop 1).drop 1).drop 2).drop 4).drop 4)).length))).length og108)]) (c' := [(.b (!decide ((IntKind.u8.wrap ((BitVec.ofInt 8 (num ((l.drop 1).take 1)) &&& BitVec.ofInt 8 128).toNat : Int)) = 0))), (.i .u8 (IntKind.u8.wrap ((BitVec.ofInt 8 (num ((l.drop 1).take 1)) &&& ~~~BitVec.ofInt 8 128).toNat : Int))), (.i .u16 (num (((l.drop 1).drop 1).take 2))), (.i .u32 (num ((((l.drop 1).drop 1).drop 2).take 4))), (.i .u32 (num (((((l.drop 1).drop 1).drop 2).drop 4).take 4))), (.sl oa107 (((((((l.drop 1).drop 1).drop 2).drop 4).drop 4).take (((((((l.drop 1).drop 1).drop 2).drop 4).drop 4)).length))).length (((((((l.drop 1).drop 1).drop 2).drop 4).drop 4).take (((((((l.drop 1).drop 1).drop 2).drop 4).drop 4)).length))).length og108)]) rfl (by rfl) hb102 rfl (List.cons_ne_nil _ _) (Nat.le_of_ble_eq_true rfl) rfl fun H113 hW114 => ?_
        have hb115 := (hW114.2.2 _ (by omega)).trans hb101
        have hM116 := hM104.wr hW114 hd106
        have hRd117 := hRd98.wr hO103.ok hW114 (by omega) (by omega) (by omega)
        have hO118 := hO103.wr hW114 (by omega) (by omega)
        have hx_hO118 := hO118.next
        have hnx_H113 : H113.next = H95.next := hW114.1
        have hlt_n1 : n1 < H113.next := by omega
        have hlt_n40 : n40 < H113.next := by omega
        refine O_nil ?_
        refine C_seq ?_
        refine C_region ?_
        refine O_p (.agg [(.b (!decide ((IntKind.u8.wrap ((BitVec.ofInt 8 (num ((l.drop 1).take 1)) &&& BitVec.ofInt 8 128).toNat : Int)) = 0))), (.i .u8 (IntKind.u8.wrap ((BitVec.ofInt 8 (num ((l.drop 1).take 1)) &&& ~~~BitVec.ofInt 8 128).toNat : Int))), (.i .u16 (num (((l.drop 1).drop 1).take 2))), (.i .u32 (num ((((l.drop 1).drop 1).drop 2).take 4))), (.i .u32 (num (((((l.drop 1).drop 1).drop 2).drop 4).take 4))), (.sl oa107 (((((((l.drop 1).drop 1).drop 2).drop 4).drop 4).take (((((((l.drop 1).drop 1).drop 2).drop 4).drop 4)).length))).length (((((((l.drop 1).drop 1).drop 2).drop 4).drop 4).take (((((((l.drop 1).drop 1).drop 2).drop 4).drop 4)).length))).length og108)]) (r_ldA rfl hW114.2.1 rfl) ?_
        refine O_store (vs := [(.b (!decide ((IntKind.u8.wrap ((BitVec.ofInt 8 (num ((l.drop 1).take 1)) &&& BitVec.ofInt 8 128).toNat : Int)) = 0))), (.i .u8 (IntKind.u8.wrap ((BitVec.ofInt 8 (num ((l.drop 1).take 1)) &&& ~~~BitVec.ofInt 8 128).toNat : Int))), (.i .u16 (num (((l.drop 1).drop 1).take 2))), (.i .u32 (num ((((l.drop 1).drop 1).drop 2).take 4))), (.i .u32 (num (((((l.drop 1).drop 1).drop 2).drop 4).take 4))), (.sl oa107 (((((((l.drop 1).drop 1).drop 2).drop 4).drop 4).take (((((((l.drop 1).drop 1).drop 2).drop 4).drop 4)).length))).length (((((((l.drop 1).drop 1).drop 2).drop 4).drop 4).take (((((((l.drop 1).drop 1).drop 2).drop 4).drop 4)).length))).length og108)]) (c' := [(.b (!decide ((IntKind.u8.wrap ((BitVec.ofInt 8 (num ((l.drop 1).take 1)) &&& BitVec.ofInt 8 128).toNat : Int)) = 0))), (.i .u8 (IntKind.u8.wrap ((BitVec.ofInt 8 (num ((l.drop 1).take 1)) &&& ~~~BitVec.ofInt 8 128).toNat : Int))), (.i .u16 (num (((l.drop 1).drop 1).take 2))), (.i .u32 (num ((((l.drop 1).drop 1).drop 2).take 4))), (.i .u32 (num (((((l.drop 1).drop 1).drop 2).drop 4).take 4))), (.sl oa107 (((((((l.drop 1).drop 1).drop 2).drop 4).drop 4).take (((((((l.drop 1).drop 1).drop 2).drop 4).drop 4)).length))).length (((((((l.drop 1).drop 1).drop 2).drop 4).drop 4).take (((((((l.drop 1).drop 1).drop 2).drop 4).drop 4)).length))).length og108)]) rfl (by rfl) hb115 rfl (List.cons_ne_nil _ _) (Nat.le_of_ble_eq_true rfl) rfl fun H119 hW120 => ?_
        have hb121 := (hW120.2.2 _ (by omega)).trans hW114.2.1
        have hM122 := hM116.wr hW120 hd105
        have hRd123 := hRd117.wr hO118.ok hW120 (by omega) (by omega) (by omega)
        have hO124 := hO118.wr hW120 (by omega) (by omega)
        have hx_hO124 := hO124.next
        have hnx_H119 : H119.next = H113.next := hW120.1
        have hlt_n1 : n1 < H119.next := by omega
        have hlt_n40 : n40 < H119.next := by omega
        refine O_p (.i .i64 0) (r_mv rfl) ?_
        refine O_nil ?_
        refine C_ret ?_
        have he : decE l = 0 := decE_0 (by omega) (by omega) (by omega)
        have hm : dm l = decide (128 ≤ ((l.getD 1 0).toNat : Int)) := by unfold dm; rw [if_pos he]
        have hkk : dk l = ((l.getD 1 0).toNat : Int) % 128 := by unfold dk; rw [if_pos he]
        have hqq : dq l = num ((l.drop 2).take 2) := by unfold dq; rw [if_pos he]
        have htt : dt l = num ((l.drop 4).take 4) := by unfold dt; rw [if_pos he]
        have hss : ds l = num ((l.drop 8).take 4) := by unfold ds; rw [if_pos he]
        have hdd : dd l = l.drop 12 := by unfold dd; rw [if_pos he]
        have hb1 : num ((l.drop 1).take 1) = ((l.getD 1 0).toNat : Int) := by rw [num1 (by rw [List.length_drop]; omega), getD_drop1]
        have e1 : (!decide ((IntKind.u8.wrap ((BitVec.ofInt 8 (num ((l.drop 1).take 1)) &&& BitVec.ofInt 8 128).toNat : Int)) = 0)) = dm l := by rw [hm, hb1, and128]
        have e2 : (IntKind.u8.wrap ((BitVec.ofInt 8 (num ((l.drop 1).take 1)) &&& ~~~BitVec.ofInt 8 128).toNat : Int)) = dk l := by rw [hkk, hb1, andNot128]
        have e3 : (num (((l.drop 1).drop 1).take 2)) = dq l := by rw [hqq]; simp only [List.drop_drop]
        have e4 : (num ((((l.drop 1).drop 1).drop 2).take 4)) = dt l := by rw [htt]; simp only [List.drop_drop]
        have e5 : (num (((((l.drop 1).drop 1).drop 2).drop 4).take 4)) = ds l := by rw [hss]; simp only [List.drop_drop]
        have hL : ((((((l.drop 1).drop 1).drop 2).drop 4).drop 4).take (((((((l.drop 1).drop 1).drop 2).drop 4).drop 4)).length)) = dd l := by rw [hdd, List.take_length]; simp only [List.drop_drop]
        have hll : (((((((l.drop 1).drop 1).drop 2).drop 4).drop 4).take (((((((l.drop 1).drop 1).drop 2).drop 4).drop 4)).length))).length ≤ 100000 := by rw [hL, hdd, List.length_drop]; omega
        have hod : OctV H119 (.sl oa107 (((((((l.drop 1).drop 1).drop 2).drop 4).drop 4).take (((((((l.drop 1).drop 1).drop 2).drop 4).drop 4)).length))).length (((((((l.drop 1).drop 1).drop 2).drop 4).drop 4).take (((((((l.drop 1).drop 1).drop 2).drop 4).drop 4)).length))).length og108) (dd l) := by rw [← hL]; exact ⟨oa107, (((((((l.drop 1).drop 1).drop 2).drop 4).drop 4).take (((((((l.drop 1).drop 1).drop 2).drop 4).drop 4)).length))).length, og108, rfl, hog109, Nat.le_refl _, by omega, (hM122.own.asbs)⟩
        exact ⟨.inr rfl, _, resL_cons (r_cellA (cs := [(.b (!decide ((IntKind.u8.wrap ((BitVec.ofInt 8 (num ((l.drop 1).take 1)) &&& BitVec.ofInt 8 128).toNat : Int)) = 0))), (.i .u8 (IntKind.u8.wrap ((BitVec.ofInt 8 (num ((l.drop 1).take 1)) &&& ~~~BitVec.ofInt 8 128).toNat : Int))), (.i .u16 (num (((l.drop 1).drop 1).take 2))), (.i .u32 (num ((((l.drop 1).drop 1).drop 2).take 4))), (.i .u32 (num (((((l.drop 1).drop 1).drop 2).drop 4).take 4))), (.sl oa107 (((((((l.drop 1).drop 1).drop 2).drop 4).drop 4).take (((((((l.drop 1).drop 1).drop 2).drop 4).drop 4)).length))).length (((((((l.drop 1).drop 1).drop 2).drop 4).drop 4).take (((((((l.drop 1).drop 1).drop 2).drop 4).drop 4)).length))).length og108)]) rfl hW120.2.1 rfl) (resL_one (r_tmp (v := .i .i64 0) rfl)), (.sl oa107 (((((((l.drop 1).drop 1).drop 2).drop 4).drop 4).take (((((((l.drop 1).drop 1).drop 2).drop 4).drop 4)).length))).length (((((((l.drop 1).drop 1).drop 2).drop 4).drop 4).take (((((((l.drop 1).drop 1).drop 2).drop 4).drop 4)).length))).length og108), by rw [← e1, ← e2, ← e3, ← e4, ← e5, he]; rfl, hod, hO124⟩
theorem rdec_ev {tab : Nat → Option XFun} {sp : Nat → List AV → AH → Option (AV × AH)} (h21 : tab 21 = some x21) (h39 : tab 39 = some x39) {H : AH} (hok : H.Ok) {ba : Option (Nat × Nat)} {bn bc bg : Nat} (bhg : bg = 0 ∨ bg = 1) {l : List UInt8} (bhb : Bs H (.sl ba bn bc bg) l) (bhc : bn ≤ bc) (bhm : bc ≤ 9223372036854775807) (hbf : bn ≤ 100000) : Ev tab sp (.fn (.func 21) [] []) [.sl ba bn bc bg] H (fun r H' => ∃ d, r = .tup [.agg [.b (dm l), .i .u8 (dk l), .i .u16 (dq l), .i .u32 (dt l), .i .u32 (ds l), d], .i .i64 (decE l)] ∧ OctV H' d (dd l) ∧ Kp H H') := by
  refine Ev_C (F := x21) h21 ?_
  have bhl := bhb.length
  subst bhl
  have hO0 := Old.refl hok
  refine C_seq ?_
  refine C_region ?_
  refine O_alloc fun n1 H2 hN3 => ?_
  have hF4 := hN3.fr (fun _ => False)
  have hO5 := hO0.new hN3
  have hx_hO5 := hO5.next
  have hnm_n1 : n1 = H.next := hN3.1
  have hnx_H2 : H2.next = H.next + 1 := hN3.2.1
  have hlt_n1 : n1 < H2.next := by omega
  refine O_p (.i .i64 0) (r_mv rfl) ?_
  refine O_nil ?_
  refine C_seq ?_
  refine C_seq ?_
  refine C_region ?_
  refine O_p (.sl ba l.length bc bg) (r_mv rfl) ?_
  refine O_p (.i .i64 (((l.length : Nat)) : Int)) (r_len rfl) ?_
  refine O_p (.b (decide (1200 < (((l.length : Nat)) : Int)))) (r_gtr rfl rfl) ?_
  refine O_nil ?_
  refine C_cond (x := (decide (1200 < (((l.length : Nat)) : Int)))) rfl (fun hc6 => ?_) (fun hc6 => ?_)
  ·
    simp only [decide_eq_true_eq, decide_eq_false_iff_not, Bool.not_eq_true', Bool.not_eq_false', Bool.and_eq_true, Bool.or_eq_true, Bool.or_eq_false_iff, Bool.not_not] at hc6
    refine C_seq ?_
    refine C_region ?_
    refine O_p (.agg [(.b false), (.i .u8 0), (.i .u16 0), (.i .u32 0), (.i .u32 0), (.sl none 0 0 0)]) (r_build rfl) ?_
    refine O_store (vs := [(.b false), (.i .u8 0), (.i .u16 0), (.i .u32 0), (.i .u32 0), (.sl none 0 0 0)]) (c' := [(.b false), (.i .u8 0), (.i .u16 0), (.i .u32 0), (.i .u32 0), (.sl none 0 0 0)]) rfl (by rfl) hN3.2.2.1 rfl (List.cons_ne_nil _ _) (Nat.le_of_ble_eq_true rfl) rfl fun H7 hW8 => ?_
    have hO9 := hO5.wr hW8 (by omega) (by omega)
    have hx_hO9 := hO9.next
    have hnx_H7 : H7.next = H2.next := hW8.1
    have hlt_n1 : n1 < H7.next := by omega
    refine O_p (.i .i64 10) (r_mv rfl) ?_
    refine O_nil ?_
    refine C_ret ?_
    refine nx_ret ?_
    have he : decE l = 10 := decE_10 (by omega)
    obtain ⟨e1, e2, e3, e4, e5, e6⟩ := dec_bad he (by decide)
    exact ⟨.inr rfl, _, resL_cons (r_cellA (cs := [(.b false), (.i .u8 0), (.i .u16 0), (.i .u32 0), (.i .u32 0), (.sl none 0 0 0)]) rfl hW8.2.1 rfl) (resL_one (r_tmp (v := .i .i64 10) rfl)), .sl none 0 0 0, by rw [e1, e2, e3, e4, e5, he]; rfl, by rw [e6]; exact OctV.nil _, hO9⟩
  ·
    simp only [decide_eq_true_eq, decide_eq_false_iff_not, Bool.not_eq_true', Bool.not_eq_false', Bool.and_eq_true, Bool.or_eq_true, Bool.or_eq_false_iff, Bool.not_not] at hc6
    refine C_skip ?_
    refine C_seq ?_
    refine C_seq ?_
    refine C_region ?_
    refine O_p (.sl ba l.length bc bg) (r_mv rfl) ?_
    refine O_p (.i .i64 (((l.length : Nat)) : Int)) (r_len rfl) ?_
    refine O_p (.b (decide ((((l.length : Nat)) : Int) < 12))) (r_lss rfl rfl) ?_
    refine O_nil ?_
    refine C_cond (x := (decide ((((l.length : Nat)) : Int) < 12))) rfl (fun hc10 => ?_) (fun hc10 => ?_)
    ·
      simp only [decide_eq_true_eq, decide_eq_false_iff_not, Bool.not_eq_true', Bool.not_eq_false', Bool.and_eq_true, Bool.or_eq_true, Bool.or_eq_false_iff, Bool.not_not] at hc10
      refine C_seq ?_
      refine C_region ?_
      refine O_p (.agg [(.b false), (.i .u8 0), (.i .u16 0), (.i .u32 0), (.i .u32 0), (.sl none 0 0 0)]) (r_build rfl) ?_
      refine O_store (vs := [(.b false), (.i .u8 0), (.i .u16 0), (.i .u32 0), (.i .u32 0), (.sl none 0 0 0)]) (c' := [(.b false), (.i .u8 0), (.i .u16 0), (.i .u32 0), (.i .u32 0), (.sl none 0 0 0)]) rfl (by rfl) hN3.2.2.1 rfl (List.cons_ne_nil _ _) (Nat.le_of_ble_eq_true rfl) rfl fun H11 hW12 => ?_
      have hO13 := hO5.wr hW12 (by omega) (by omega)
      have hx_hO13 := hO13.next
      have hnx_H11 : H11.next = H2.next := hW12.1
      have hlt_n1 : n1 < H11.next := by omega
      refine O_p (.i .i64 2) (r_mv rfl) ?_
      refine O_nil ?_
      refine C_ret ?_
      refine nx_ret ?_
      have he : decE l = 2 := decE_2 (by omega) (by omega)
      obtain ⟨e1, e2, e3, e4, e5, e6⟩ := dec_bad he (by decide)
      exact ⟨.inr rfl, _, resL_cons (r_cellA (cs := [(.b false), (.i .u8 0), (.i .u16 0), (.i .u32 0), (.i .u32 0), (.sl none 0 0 0)]) rfl hW12.2.1 rfl) (resL_one (r_tmp (v := .i .i64 2) rfl)), .sl none 0 0 0, by rw [e1, e2, e3, e4, e5, he]; rfl, by rw [e6]; exact OctV.nil _, hO13⟩
    ·
      simp only [decide_eq_true_eq, decide_eq_false_iff_not, Bool.not_eq_true', Bool.not_eq_false', Bool.and_eq_true, Bool.or_eq_true, Bool.or_eq_false_iff, Bool.not_not] at hc10
      refine C_skip ?_
      refine C_seq ?_
      refine C_seq ?_
      refine C_region ?_
      refine O_p (.sl ba l.length bc bg) (r_mv rfl) ?_
      refine O_q (by exact Bs.ix (bhb.old hok hO5) rfl (i := 0) rfl (by first | omega | (simp only [List.length_take, List.length_drop, List.length_append, List.length_cons, List.length_nil, beN_len] <;> omega))) fun v15 hv14 => ?_
      refine O_p (.i .u8 ((l.getD 0 0).toNat : Int)) (hv14.load rfl) ?_
      refine O_p (.b (!decide (((l.getD 0 0).toNat : Int) = 128))) (r_neq rfl rfl) ?_
      refine O_nil ?_
      refine C_cond (x := (!decide (((l.getD 0 0).toNat : Int) = 128))) rfl (fun hc16 => ?_) (fun hc16 => ?_)
      ·
        simp only [decide_eq_true_eq, decide_eq_false_iff_not, Bool.not_eq_true', Bool.not_eq_false', Bool.and_eq_true, Bool.or_eq_true, Bool.or_eq_false_iff, Bool.not_not] at hc16
        refine C_seq ?_
        refine C_region ?_
        refine O_p (.agg [(.b false), (.i .u8 0), (.i .u16 0), (.i .u32 0), (.i .u32 0), (.sl none 0 0 0)]) (r_build rfl) ?_
        refine O_store (vs := [(.b false), (.i .u8 0), (.i .u16 0), (.i .u32 0), (.i .u32 0), (.sl none 0 0 0)]) (c' := [(.b false), (.i .u8 0), (.i .u16 0), (.i .u32 0), (.i .u32 0), (.sl none 0 0 0)]) rfl (by rfl) hN3.2.2.1 rfl (List.cons_ne_nil _ _) (Nat.le_of_ble_eq_true rfl) rfl fun H17 hW18 => ?_
        have hO19 := hO5.wr hW18 (by omega) (by omega)
        have hx_hO19 := hO19.next
        have hnx_H17 : H17.next = H2.next := hW18.1
        have hlt_n1 : n1 < H17.next := by omega
        refine O_p (.i .i64 3) (r_mv rfl) ?_
        refine O_nil ?_
        refine C_ret ?_
        refine nx_ret ?_
        have he : decE l = 3 := decE_3 (by omega) (by omega) (by omega)
        obtain ⟨e1, e2, e3, e4, e5, e6⟩ := dec_bad he (by decide)
        exact ⟨.inr rfl, _, resL_cons (r_cellA (cs := [(.b false), (.i .u8 0), (.i .u16 0), (.i .u32 0), (.i .u32 0), (.sl none 0 0 0)]) rfl hW18.2.1 rfl) (resL_one (r_tmp (v := .i .i64 3) rfl)), .sl none 0 0 0, by rw [e1, e2, e3, e4, e5, he]; rfl, by rw [e6]; exact OctV.nil _, hO19⟩
      ·
        simp only [decide_eq_true_eq, decide_eq_false_iff_not, Bool.not_eq_true', Bool.not_eq_false', Bool.and_eq_true, Bool.or_eq_true, Bool.or_eq_false_iff, Bool.not_not] at hc16
        refine C_skip ?_
        refine C_seq ?_
        refine C_region ?_
        refine O_p (.sl ba l.length bc bg) (r_mv rfl) ?_
        refine O_q (by exact Bs.lo bhb bhg rfl (i := 2) rfl (by first | omega | (simp only [List.length_take, List.length_drop, List.length_append, List.length_cons, List.length_nil, beN_len] <;> omega)) (by first | omega | (simp only [List.length_take, List.length_drop, List.length_append, List.length_cons, List.length_nil, beN_len] <;> omega))) fun v23 hv22 => ?_
        obtain ⟨a20, rfl, hb21⟩ := hv22
        refine O_call (Ev.mono (get_ev h39 hO5.ok bhg (hb21.old hok hO5) (by first | omega | (simp only [List.length_take, List.length_drop, List.length_append, List.length_cons, List.length_nil, beN_len] <;> omega)) (by first | omega | (simp only [List.length_take, List.length_drop, List.length_append, List.length_cons, List.length_nil, beN_len] <;> omega)) (n := 2) (by decide)) fun v24 H25 hq26 => ?_)
        obtain ⟨hK27, hor⟩ := hq26
        obtain ⟨hgn30, ga28, rfl, hgb29⟩ : _ := hor.resolve_right (fun h => by have := h.1; simp only [List.length_drop, List.length_take] at this; omega)
        have base31 := Old.refl hO5.ok
        have hb32 := (hK27.keep _ (by omega)).trans hN3.2.2.1
        have hx_hK27 := hK27.next
        have hlt_n1 : n1 < H25.next := by omega
        have hO33 := hO5.trans hK27
        have hx_hO33 := hO33.next
        have hO34 := base31.trans hK27
        refine O_p (.tup [(.i .u32 (num ((l.drop 2).take 2))), (.sl ga28 ((l.length - 2) - 2) ((bc - 2) - 2) bg), (.i .i64 0)]) (r_mv rfl) ?_
        refine O_p (.i .u32 (num ((l.drop 2).take 2))) (r_ext rfl rfl) ?_
        refine O_p (.sl ga28 ((l.length - 2) - 2) ((bc - 2) - 2) bg) (r_ext rfl rfl) ?_
        refine O_p (.i .i64 0) (r_ext rfl rfl) ?_
        refine O_p (.i .u32 (num ((l.drop 2).take 2))) (r_mv rfl) ?_
        refine O_p (.sl ga28 ((l.length - 2) - 2) ((bc - 2) - 2) bg) (r_mv rfl) ?_
        refine O_p (.i .i64 0) (r_mv rfl) ?_
        refine O_nil ?_
        refine C_seq ?_
        refine C_region ?_
        refine O_p (.sl ba l.length bc bg) (r_mv rfl) ?_
        refine O_q (by exact Bs.lo bhb bhg rfl (i := 4) rfl (by first | omega | (simp only [List.length_take, List.length_drop, List.length_append, List.length_cons, List.length_nil, beN_len] <;> omega)) (by first | omega | (simp only [List.length_take, List.length_drop, List.length_append, List.length_cons, List.length_nil, beN_len] <;> omega))) fun v38 hv37 => ?_
        obtain ⟨a35, rfl, hb36⟩ := hv37
        refine O_call (Ev.mono (get_ev h39 hO33.ok bhg (hb36.old hok hO33) (by first | omega | (simp only [List.length_take, List.length_drop, List.length_append, List.length_cons, List.length_nil, beN_len] <;> omega)) (by first | omega | (simp only [List.length_take, List.length_drop, List.length_append, List.length_cons, List.length_nil, beN_len] <;> omega)) (n := 4) (by decide)) fun v39 H40 hq41 => ?_)
        obtain ⟨hK42, hor⟩ := hq41
        obtain ⟨hgn45, ga43, rfl, hgb44⟩ : _ := hor.resolve_right (fun h => by have := h.1; simp only [List.length_drop, List.length_take] at this; omega)
        have base46 := Old.refl hO33.ok
        have hb47 := (hK42.keep _ (by omega)).trans hb32
        have hx_hK42 := hK42.next
        have hlt_n1 : n1 < H40.next := by omega
        have hO48 := hO33.trans hK42
        have hx_hO48 := hO48.next
        have hO49 := hO34.trans hK42
        have hO50 := base46.trans hK42
        refine O_p (.tup [(.i .u32 (num ((l.drop 4).take 4))), (.sl ga43 ((l.length - 4) - 4) ((bc - 4) - 4) bg), (.i .i64 0)]) (r_mv rfl) ?_
        refine O_p (.i .u32 (num ((l.drop 4).take 4))) (r_ext rfl rfl) ?_
        refine O_p (.sl ga43 ((l.length - 4) - 4) ((bc - 4) - 4) bg) (r_ext rfl rfl) ?_
        refine O_p (.i .i64 0) (r_ext rfl rfl) ?_
        refine O_p (.i .u32 (num ((l.drop 4).take 4))) (r_mv rfl) ?_
        refine O_p (.sl ga43 ((l.length - 4) - 4) ((bc - 4) - 4) bg) (r_mv rfl) ?_
        refine O_p (.i .i64 0) (r_mv rfl) ?_
        refine O_nil ?_
        refine C_seq ?_
        refine C_region ?_
        refine O_p (.sl ba l.length bc bg) (r_mv rfl) ?_
        refine O_q (by exact Bs.lo bhb bhg rfl (i := 8) rfl (by first | omega | (simp only [List.length_take, List.length_drop, List.length_append, List.length_cons, List.length_nil, beN_len] <;> omega)) (by first | omega | (simp only [List.length_take, List.length_drop, List.length_append, List.length_cons, List.length_nil, beN_len] <;> omega))) fun v54 hv53 => ?_
        obtain ⟨a51, rfl, hb52⟩ := hv53
        refine O_call (Ev.mono (get_ev h39 hO48.ok bhg (hb52.old hok hO48) (by first | omega | (simp only [List.length_take, List.length_drop, List.length_append, List.length_cons, List.length_nil, beN_len] <;> omega)) (by first | omega | (simp only [List.length_take, List.length_drop, List.length_append, List.length_cons, List.length_nil, beN_len] <;> omega)) (n := 4) (by decide)) fun v55 H56 hq57 => ?_)
        obtain ⟨hK58, hor⟩ := hq57
        obtain ⟨hgn61, ga59, rfl, hgb60⟩ : _ := hor.resolve_right (fun h => by have := h.1; simp only [List.length_drop, List.length_take] at this; omega)
        have base62 := Old.refl hO48.ok
        have hb63 := (hK58.keep _ (by omega)).trans hb47
        have hx_hK58 := hK58.next
        have hlt_n1 : n1 < H56.next := by omega
        have hO64 := hO48.trans hK58
        have hx_hO64 := hO64.next
        have hO65 := hO49.trans hK58
        have hO66 := hO50.trans hK58
        have hO67 := base62.trans hK58
        refine O_p (.tup [(.i .u32 (num ((l.drop 8).take 4))), (.sl ga59 ((l.length - 8) - 4) ((bc - 8) - 4) bg), (.i .i64 0)]) (r_mv rfl) ?_
        refine O_p (.i .u32 (num ((l.drop 8).take 4))) (r_ext rfl rfl) ?_
        refine O_p (.sl ga59 ((l.length - 8) - 4) ((bc - 8) - 4) bg) (r_ext rfl rfl) ?_
        refine O_p (.i .i64 0) (r_ext rfl rfl) ?_
        refine O_p (.i .u32 (num ((l.drop 8).take 4))) (r_mv rfl) ?_
        refine O_p (.sl ga59 ((l.length - 8) - 4) ((bc - 8) - 4) bg) (r_mv rfl) ?_
        refine O_p (.i .i64 0) (r_mv rfl) ?_
        refine O_nil ?_
        refine C_seq ?_
        refine C_draw fun b68 H69 hbase70 hA71 => ?_
        have hnx72 : H69.next = H56.next + 17 := hA71.1
        have hb73 := (hA71.2 _).trans hb63
        have hF74 := hA71.fr (fun _ => False)
        have hO75 := hO64.aside hA71
        have hx_hO75 := hO75.next
        have hO76 := hO65.aside hA71
        have hO77 := hO66.aside hA71
        have hO78 := hO67.aside hA71
        have hlt_n1 : n1 < H69.next := by omega
        refine D_l (v := (.sl ba l.length bc bg)) rfl rfl rfl (r_mv rfl) ?_
        refine D_q rfl rfl rfl (by exact Bs.ix (bhb.old hok hO75) rfl (i := 1) rfl (by first | omega | (simp only [List.length_take, List.length_drop, List.length_append, List.length_cons, List.length_nil, beN_len] <;> omega))) fun v80 hv79 => ?_
        refine D_l (v := (.sl ba l.length bc bg)) rfl rfl rfl (r_mv rfl) ?_
        refine D_q rfl rfl rfl (by exact Bs.ix (bhb.old hok hO75) rfl (i := 1) rfl (by first | omega | (simp only [List.length_take, List.length_drop, List.length_append, List.length_cons, List.length_nil, beN_len] <;> omega))) fun v82 hv81 => ?_
        refine D_l (v := (.i .u32 (num ((l.drop 2).take 2)))) rfl rfl rfl (r_mv rfl) ?_
        refine D_l (v := (.i .u16 (IntKind.u16.wrap (num ((l.drop 2).take 2))))) rfl rfl rfl (r_cint rfl) ?_
        refine D_l (v := (.i .u32 (num ((l.drop 4).take 4)))) rfl rfl rfl (r_mv rfl) ?_
        refine D_l (v := (.i .u32 (num ((l.drop 8).take 4)))) rfl rfl rfl (r_mv rfl) ?_
        refine D_l (v := (.sl ba l.length bc bg)) rfl rfl rfl (r_mv rfl) ?_
        refine D_q rfl rfl rfl (by exact Bs.lo bhb bhg rfl (i := 12) rfl (by first | omega | (simp only [List.length_take, List.length_drop, List.length_append, List.length_cons, List.length_nil, beN_len] <;> omega)) (by first | omega | (simp only [List.length_take, List.length_drop, List.length_append, List.length_cons, List.length_nil, beN_len] <;> omega))) fun v86 hv85 => ?_
        obtain ⟨a83, rfl, hb84⟩ := hv85
        refine D_r (v := (.i .u8 ((l.getD 1 0).toNat : Int))) rfl rfl rfl (hv79.load rfl) ?_
        refine D_l (v := (.b (decide (128 ≤ ((l.getD 1 0).toNat : Int))))) rfl rfl rfl (r_geq rfl rfl) ?_
        refine D_r (v := (.i .u8 ((l.getD 1 0).toNat : Int))) rfl rfl rfl (hv81.load rfl) ?_
        refine D_l (v := (.i .u8 (((l.getD 1 0).toNat : Int) % 128))) rfl rfl rfl (by exact (r_remu rfl rfl (by omega) (by omega))) ?_
        refine D_l (v := (.agg [(.b (decide (128 ≤ ((l.getD 1 0).toNat : Int)))), (.i .u8 (((l.getD 1 0).toNat : Int) % 128)), (.i .u16 (IntKind.u16.wrap (num ((l.drop 2).take 2)))), (.i .u32 (num ((l.drop 4).take 4))), (.i .u32 (num ((l.drop 8).take 4))), (.sl a83 (l.length - 12) (bc - 12) bg)])) rfl rfl rfl (r_build rfl) ?_
        refine D_store (vs := [(.b (decide (128 ≤ ((l.getD 1 0).toNat : Int)))), (.i .u8 (((l.getD 1 0).toNat : Int) % 128)), (.i .u16 (IntKind.u16.wrap (num ((l.drop 2).take 2)))), (.i .u32 (num ((l.drop 4).take 4))), (.i .u32 (num ((l.drop 8).take 4))), (.sl a83 (l.length - 12) (bc - 12) bg)]) (c' := [(.b (decide (128 ≤ ((l.getD 1 0).toNat : Int)))), (.i .u8 (((l.getD 1 0).toNat : Int) % 128)), (.i .u16 (IntKind.u16.wrap (num ((l.drop 2).take 2)))), (.i .u32 (num ((l.drop 4).take 4))), (.i .u32 (num ((l.drop 8).take 4))), (.sl a83 (l.length - 12) (bc - 12) bg)]) rfl (by rfl) hb73 rfl (List.cons_ne_nil _ _) (Nat.le_of_ble_eq_true rfl) rfl fun H87 hW88 => ?_
        have hO89 := hO75.wr hW88 (by omega) (by omega)
        have hx_hO89 := hO89.next
        have hnx_H87 : H87.next = H69.next := hW88.1
        have hlt_n1 : n1 < H87.next := by omega
        refine And.intro (And.intro (Or.inl rfl) (And.intro (Or.inl rfl) True.intro)) ?_
        refine D_l (v := (.i .i64 0)) rfl rfl rfl (r_mv rfl) ?_
        refine D_nil ?_
        refine C_ret ?_
        have he : decE l = 0 := decE_0 (by omega) (by omega) (by omega)
        have hm : dm l = decide (128 ≤ ((l.getD 1 0).toNat : Int)) := by unfold dm; rw [if_pos he]
        have hkk : dk l = ((l.getD 1 0).toNat : Int) % 128 := by unfold dk; rw [if_pos he]
        have hqq : dq l = num ((l.drop 2).take 2) := by unfold dq; rw [if_pos he]
        have htt : dt l = num ((l.drop 4).take 4) := by unfold dt; rw [if_pos he]
        have hss : ds l = num ((l.drop 8).take 4) := by unfold ds; rw [if_pos he]
        have hdd : dd l = l.drop 12 := by unfold dd; rw [if_pos he]
        have e1 : (decide (128 ≤ ((l.getD 1 0).toNat : Int))) = dm l := by rw [hm]
        have e2 : (((l.getD 1 0).toNat : Int) % 128) = dk l := by rw [hkk]
        have e3 : (IntKind.u16.wrap (num ((l.drop 2).take 2))) = dq l := by rw [hqq, wrap16_num (by rw [List.length_drop]; omega)]
        have e4 : (num ((l.drop 4).take 4)) = dt l := by rw [htt]
        have e5 : (num ((l.drop 8).take 4)) = ds l := by rw [hss]
        have hod : OctV H87 (.sl a83 (l.length - 12) (bc - 12) bg) (dd l) := ⟨a83, (bc - 12), bg, by rw [hdd, List.length_drop], bhg, by rw [hdd, List.length_drop]; omega, by omega, by rw [hdd]; exact (hb84.old hok hO89)⟩
        exact ⟨.inr rfl, _, resL_cons (r_cellA (cs := [(.b (decide (128 ≤ ((l.getD 1 0).toNat : Int)))), (.i .u8 (((l.getD 1 0).toNat : Int) % 128)), (.i .u16 (IntKind.u16.wrap (num ((l.drop 2).take 2)))), (.i .u32 (num ((l.drop 4).take 4))), (.i .u32 (num ((l.drop 8).take 4))), (.sl a83 (l.length - 12) (bc - 12) bg)]) rfl hW88.2.1 rfl) (resL_one (r_tmp (v := .i .i64 0) rfl)), (.sl a83 (l.length - 12) (bc - 12) bg), by rw [← e1, ← e2, ← e3, ← e4, ← e5, he]; rfl, hod, hO89⟩
theorem same_ev {tab : Nat → Option XFun} {sp : Nat → List AV → AH → Option (AV × AH)} (h14 : tab 14 = some x14) {H : AH} (hok : H.Ok) {ba : Option (Nat × Nat)} {bn bc bg : Nat} (bhg : bg = 0 ∨ bg = 1) {lb : List UInt8} (bhb : Bs H (.sl ba bn bc bg) lb) (bhc : bn ≤ bc) (bhm : bc ≤ 9223372036854775807) {ca : Option (Nat × Nat)} {cn cc cg : Nat} (chg : cg = 0 ∨ cg = 1) {lc : List UInt8} (chb : Bs H (.sl ca cn cc cg) lc) (chc : cn ≤ cc) (chm : cc ≤ 9223372036854775807) : Ev tab sp (.fn (.func 14) [] []) [.sl ba bn bc bg, .sl ca cn cc cg] H (fun r H' => r = .b (decide (lb = lc)) ∧ H' = H) := by
  refine Ev_C (F := x14) h14 ?_
  have bhl := bhb.length
  subst bhl
  have chl := chb.length
  subst chl
  have hO0 := Old.refl hok
  refine C_seq ?_
  refine C_region ?_
  refine O_p (.b false) (r_mv rfl) ?_
  refine O_nil ?_
  refine C_seq ?_
  refine C_region ?_
  refine O_p (.sl ba lb.length bc bg) (r_mv rfl) ?_
  refine O_p (.s (txt lb)) ((bhb.old hok hO0).text rfl) ?_
  refine O_p (.sl ca lc.length cc cg) (r_mv rfl) ?_
  refine O_p (.s (txt lc)) ((chb.old hok hO0).text rfl) ?_
  refine O_p (.b (decide (lb = lc))) (r_eqt rfl rfl) ?_
  refine O_p (.b (decide (lb = lc))) (r_mv rfl) ?_
  refine O_nil ?_
  refine C_ret ?_
  exact ⟨.inr rfl, _, resL_one (r_tmp (v := (.b (decide (lb = lc)))) rfl), rfl, rfl⟩
theorem alike_ev {tab : Nat → Option XFun} {sp : Nat → List AV → AH → Option (AV × AH)} (h14 : tab 14 = some x14) (h22 : tab 22 = some x22) {H : AH} (hok : H.Ok) (pm : Bool) (pk pq pt ps : Int) {pa : Option (Nat × Nat)} {pn pc pg : Nat} (phg : pg = 0 ∨ pg = 1) {l : List UInt8} (phb : Bs H (.sl pa pn pc pg) l) (phc : pn ≤ pc) (phm : pc ≤ 9223372036854775807) (qm : Bool) (qk qq qt qs : Int) {qa : Option (Nat × Nat)} {qn qc qg : Nat} (qhg : qg = 0 ∨ qg = 1) {l2 : List UInt8} (qhb : Bs H (.sl qa qn qc qg) l2) (qhc : qn ≤ qc) (qhm : qc ≤ 9223372036854775807) : Ev tab sp (.fn (.func 22) [] []) [.agg [.b pm, .i .u8 pk, .i .u16 pq, .i .u32 pt, .i .u32 ps, .sl pa pn pc pg], .agg [.b qm, .i .u8 qk, .i .u16 qq, .i .u32 qt, .i .u32 qs, .sl qa qn qc qg]] H (fun r H' => r = .b ((((((pm == qm) && (decide (pk = qk))) && (decide (pq = qq))) && (decide (pt = qt))) && (decide (ps = qs))) && (decide (l = l2))) ∧ Kp H H') := by
  refine Ev_C (F := x22) h22 ?_
  have phl := phb.length
  subst phl
  have qhl := qhb.length
  subst qhl
  have hO0 := Old.refl hok
  refine C_seq ?_
  refine C_region ?_
  refine O_box (z := [(.b pm), (.i .u8 pk), (.i .u16 pq), (.i .u32 pt), (.i .u32 ps), (.sl pa l.length pc pg)]) rfl fun n1 H2 hN3 => ?_
  have hF4 := hN3.fr (fun _ => False)
  have hO5 := hO0.new hN3
  have hx_hO5 := hO5.next
  have hnm_n1 : n1 = H.next := hN3.1
  have hnx_H2 : H2.next = H.next + 1 := hN3.2.1
  have hlt_n1 : n1 < H2.next := by omega
  refine O_box (z := [(.b qm), (.i .u8 qk), (.i .u16 qq), (.i .u32 qt), (.i .u32 qs), (.sl qa l2.length qc qg)]) rfl fun n6 H7 hN8 => ?_
  have hF9 := hN8.fr (fun _ => False)
  have hb10 := (hF9.keep _ (by exact hlt_n1) (fun h => h)).trans hN3.2.2.1
  have hO11 := hO5.new hN8
  have hx_hO11 := hO11.next
  have hnm_n6 : n6 = H2.next := hN8.1
  have hnx_H7 : H7.next = H2.next + 1 := hN8.2.1
  have hlt_n1 : n1 < H7.next := by omega
  have hlt_n6 : n6 < H7.next := by omega
  refine O_p (.b false) (r_mv rfl) ?_
  refine O_nil ?_
  refine C_seq ?_
  refine C_region ?_
  refine O_p (.p (some (n1, 0))) (r_fadd' rfl rfl) ?_
  refine O_p (.b pm) (r_ld rfl hb10 rfl) ?_
  refine O_p (.p (some (n6, 0))) (r_fadd' rfl rfl) ?_
  refine O_p (.b qm) (r_ld rfl hN8.2.2.1 rfl) ?_
  refine O_p (.b (pm == qm)) (r_beq rfl rfl) ?_
  refine O_p (.b (pm == qm)) (r_mv rfl) ?_
  refine O_gx (e := (pm == qm)) (v := (.p (some (n1, 1)))) (wt rfl) (fun he => (r_fadd' rfl rfl)) ?_
  refine O_gx (e := (pm == qm)) (v := (.i .u8 pk)) (wt rfl) (fun he => (r_ld (cond_pos he) hb10 rfl)) ?_
  refine O_gx (e := (pm == qm)) (v := (.p (some (n6, 1)))) (wt rfl) (fun he => (r_fadd' rfl rfl)) ?_
  refine O_gx (e := (pm == qm)) (v := (.i .u8 qk)) (wt rfl) (fun he => (r_ld (cond_pos he) hN8.2.2.1 rfl)) ?_
  refine O_gx (e := (pm == qm)) (v := (.b (decide (pk = qk)))) (wt rfl) (fun he => (r_eql (cond_pos he) (cond_pos he))) ?_
  refine O_p (.b ((pm == qm) && (decide (pk = qk)))) (r_pick_and rfl rfl rfl rfl) ?_
  refine O_p (.b ((pm == qm) && (decide (pk = qk)))) (r_mv rfl) ?_
  refine O_gx (e := ((pm == qm) && (decide (pk = qk)))) (v := (.p (some (n1, 2)))) (wt rfl) (fun he => (r_fadd' rfl rfl)) ?_
  refine O_gx (e := ((pm == qm) && (decide (pk = qk)))) (v := (.i .u16 pq)) (wt rfl) (fun he => (r_ld (cond_pos he) hb10 rfl)) ?_
  refine O_gx (e := ((pm == qm) && (decide (pk = qk)))) (v := (.p (some (n6, 2)))) (wt rfl) (fun he => (r_fadd' rfl rfl)) ?_
  refine O_gx (e := ((pm == qm) && (decide (pk = qk)))) (v := (.i .u16 qq)) (wt rfl) (fun he => (r_ld (cond_pos he) hN8.2.2.1 rfl)) ?_
  refine O_gx (e := ((pm == qm) && (decide (pk = qk)))) (v := (.b (decide (pq = qq)))) (wt rfl) (fun he => (r_eql (cond_pos he) (cond_pos he))) ?_
  refine O_p (.b (((pm == qm) && (decide (pk = qk))) && (decide (pq = qq)))) (r_pick_and rfl rfl rfl rfl) ?_
  refine O_p (.b (((pm == qm) && (decide (pk = qk))) && (decide (pq = qq)))) (r_mv rfl) ?_
  refine O_gx (e := (((pm == qm) && (decide (pk = qk))) && (decide (pq = qq)))) (v := (.p (some (n1, 3)))) (wt rfl) (fun he => (r_fadd' rfl rfl)) ?_
  refine O_gx (e := (((pm == qm) && (decide (pk = qk))) && (decide (pq = qq)))) (v := (.i .u32 pt)) (wt rfl) (fun he => (r_ld (cond_pos he) hb10 rfl)) ?_
  refine O_gx (e := (((pm == qm) && (decide (pk = qk))) && (decide (pq = qq)))) (v := (.p (some (n6, 3)))) (wt rfl) (fun he => (r_fadd' rfl rfl)) ?_
  refine O_gx (e := (((pm == qm) && (decide (pk = qk))) && (decide (pq = qq)))) (v := (.i .u32 qt)) (wt rfl) (fun he => (r_ld (cond_pos he) hN8.2.2.1 rfl)) ?_
  refine O_gx (e := (((pm == qm) && (decide (pk = qk))) && (decide (pq = qq)))) (v := (.b (decide (pt = qt)))) (wt rfl) (fun he => (r_eql (cond_pos he) (cond_pos he))) ?_
  refine O_p (.b ((((pm == qm) && (decide (pk = qk))) && (decide (pq = qq))) && (decide (pt = qt)))) (r_pick_and rfl rfl rfl rfl) ?_
  refine O_p (.b ((((pm == qm) && (decide (pk = qk))) && (decide (pq = qq))) && (decide (pt = qt)))) (r_mv rfl) ?_
  refine O_gx (e := ((((pm == qm) && (decide (pk = qk))) && (decide (pq = qq))) && (decide (pt = qt)))) (v := (.p (some (n1, 4)))) (wt rfl) (fun he => (r_fadd' rfl rfl)) ?_
  refine O_gx (e := ((((pm == qm) && (decide (pk = qk))) && (decide (pq = qq))) && (decide (pt = qt)))) (v := (.i .u32 ps)) (wt rfl) (fun he => (r_ld (cond_pos he) hb10 rfl)) ?_
  refine O_gx (e := ((((pm == qm) && (decide (pk = qk))) && (decide (pq = qq))) && (decide (pt = qt)))) (v := (.p (some (n6, 4)))) (wt rfl) (fun he => (r_fadd' rfl rfl)) ?_
  refine O_gx (e := ((((pm == qm) && (decide (pk = qk))) && (decide (pq = qq))) && (decide (pt = qt)))) (v := (.i .u32 qs)) (wt rfl) (fun he => (r_ld (cond_pos he) hN8.2.2.1 rfl)) ?_
  refine O_gx (e := ((((pm == qm) && (decide (pk = qk))) && (decide (pq = qq))) && (decide (pt = qt)))) (v := (.b (decide (ps = qs)))) (wt rfl) (fun he => (r_eql (cond_pos he) (cond_pos he))) ?_
  refine O_p (.b (((((pm == qm) && (decide (pk = qk))) && (decide (pq = qq))) && (decide (pt = qt))) && (decide (ps = qs)))) (r_pick_and rfl rfl rfl rfl) ?_
  refine O_p (.b (((((pm == qm) && (decide (pk = qk))) && (decide (pq = qq))) && (decide (pt = qt))) && (decide (ps = qs)))) (r_mv rfl) ?_
  refine O_gx (e := (((((pm == qm) && (decide (pk = qk))) && (decide (pq = qq))) && (decide (pt = qt))) && (decide (ps = qs)))) (v := (.p (some (n1, 5)))) (wt rfl) (fun he => (r_fadd' rfl rfl)) ?_
  refine O_gx (e := (((((pm == qm) && (decide (pk = qk))) && (decide (pq = qq))) && (decide (pt = qt))) && (decide (ps = qs)))) (v := (.sl pa l.length pc pg)) (wt rfl) (fun he => (r_ld (cond_pos he) hb10 rfl)) ?_
  refine O_gx (e := (((((pm == qm) && (decide (pk = qk))) && (decide (pq = qq))) && (decide (pt = qt))) && (decide (ps = qs)))) (v := (.p (some (n6, 5)))) (wt rfl) (fun he => (r_fadd' rfl rfl)) ?_
  refine O_gx (e := (((((pm == qm) && (decide (pk = qk))) && (decide (pq = qq))) && (decide (pt = qt))) && (decide (ps = qs)))) (v := (.sl qa l2.length qc qg)) (wt rfl) (fun he => (r_ld (cond_pos he) hN8.2.2.1 rfl)) ?_
  refine O_gc2 (e := (((((pm == qm) && (decide (pk = qk))) && (decide (pq = qq))) && (decide (pt = qt))) && (decide (ps = qs)))) (v := (.b (decide (l = l2)))) (as' := [(.sl pa l.length pc pg), (.sl qa l2.length qc qg)]) (wt rfl) (fun he => by exact (cons_eq (cond_pos he) (cons_eq (cond_pos he) rfl))) (fun he => (same_ev h14 hO11.ok phg (phb.old hok hO11) (by first | omega | (simp only [List.length_take, List.length_drop, List.length_append, List.length_cons, List.length_nil, beN_len] <;> omega)) (by first | omega | (simp only [List.length_take, List.length_drop, List.length_append, List.length_cons, List.length_nil, beN_len] <;> omega)) qhg (qhb.old hok hO11) (by first | omega | (simp only [List.length_take, List.length_drop, List.length_append, List.length_cons, List.length_nil, beN_len] <;> omega)) (by first | omega | (simp only [List.length_take, List.length_drop, List.length_append, List.length_cons, List.length_nil, beN_len] <;> omega)))) ?_
  refine O_p (.b ((((((pm == qm) && (decide (pk = qk))) && (decide (pq = qq))) && (decide (pt = qt))) && (decide (ps = qs))) && (decide (l = l2)))) (r_pick_and rfl rfl rfl rfl) ?_
  refine O_p (.b ((((((pm == qm) && (decide (pk = qk))) && (decide (pq = qq))) && (decide (pt = qt))) && (decide (ps = qs))) && (decide (l = l2)))) (r_mv rfl) ?_
  refine O_nil ?_
  refine C_ret ?_
  exact ⟨.inr rfl, _, resL_one (r_tmp (v := (.b ((((((pm == qm) && (decide (pk = qk))) && (decide (pq = qq))) && (decide (pt = qt))) && (decide (ps = qs))) && (decide (l = l2))))) rfl), rfl, hO11⟩
theorem is_ev {tab : Nat → Option XFun} {sp : Nat → List AV → AH → Option (AV × AH)} (h23 : tab 23 = some x23) {H : AH} (hok : H.Ok) {ba : Option (Nat × Nat)} {bn bc bg : Nat} (bhg : bg = 0 ∨ bg = 1) {lb : List UInt8} (bhb : Bs H (.sl ba bn bc bg) lb) (bhc : bn ≤ bc) (bhm : bc ≤ 9223372036854775807) : Ev tab sp (.fn (.func 23) [] []) [.sl ba bn bc bg] H (fun r H' => r = .b ((decide (0 < ((lb.length : Nat) : Int)) && decide (128 ≤ ((lb.getD 0 0).toNat : Int))) && decide (((lb.getD 0 0).toNat : Int) ≤ 191)) ∧ H' = H) := by
  refine Ev_C (F := x23) h23 ?_
  have bhl := bhb.length
  subst bhl
  have hO0 := Old.refl hok
  refine C_seq ?_
  refine C_region ?_
  refine O_p (.b false) (r_mv rfl) ?_
  refine O_nil ?_
  refine C_seq ?_
  refine C_region ?_
  refine O_p (.sl ba lb.length bc bg) (r_mv rfl) ?_
  refine O_p (.i .i64 (((lb.length : Nat)) : Int)) (r_len rfl) ?_
  refine O_p (.b (decide (0 < (((lb.length : Nat)) : Int)))) (r_gtr rfl rfl) ?_
  refine O_p (.b (decide (0 < (((lb.length : Nat)) : Int)))) (r_mv rfl) ?_
  refine O_gx (e := (decide (0 < (((lb.length : Nat)) : Int)))) (v := (.sl ba lb.length bc bg)) (wt rfl) (fun he => (r_mv rfl)) ?_
  refine O_gq (e := (decide (0 < (((lb.length : Nat)) : Int)))) (wt rfl) (fun he => by exact Bs.ix (bhb.old hok hO0) (by exact (cond_pos he)) (i := 0) (by exact rfl) (by simp only [decide_eq_true_eq, Bool.and_eq_true] at he; omega)) fun v1 hv2 => ?_
  refine O_gx (e := (decide (0 < (((lb.length : Nat)) : Int)))) (v := (.i .u8 ((lb.getD 0 0).toNat : Int))) (wt rfl) (fun he => ((hv2 he).load (cond_pos he))) ?_
  refine O_gx (e := (decide (0 < (((lb.length : Nat)) : Int)))) (v := (.b (decide (128 ≤ ((lb.getD 0 0).toNat : Int))))) (wt rfl) (fun he => (r_geq (cond_pos he) rfl)) ?_
  refine O_p (.b ((decide (0 < (((lb.length : Nat)) : Int))) && (decide (128 ≤ ((lb.getD 0 0).toNat : Int))))) (r_pick_and rfl rfl rfl rfl) ?_
  refine O_p (.b ((decide (0 < (((lb.length : Nat)) : Int))) && (decide (128 ≤ ((lb.getD 0 0).toNat : Int))))) (r_mv rfl) ?_
  refine O_gx (e := ((decide (0 < (((lb.length : Nat)) : Int))) && (decide (128 ≤ ((lb.getD 0 0).toNat : Int))))) (v := (.sl ba lb.length bc bg)) (wt rfl) (fun he => (r_mv rfl)) ?_
  refine O_gq (e := ((decide (0 < (((lb.length : Nat)) : Int))) && (decide (128 ≤ ((lb.getD 0 0).toNat : Int))))) (wt rfl) (fun he => by exact Bs.ix (bhb.old hok hO0) (by exact (cond_pos he)) (i := 0) (by exact rfl) (by simp only [decide_eq_true_eq, Bool.and_eq_true] at he; omega)) fun v3 hv4 => ?_
  refine O_gx (e := ((decide (0 < (((lb.length : Nat)) : Int))) && (decide (128 ≤ ((lb.getD 0 0).toNat : Int))))) (v := (.i .u8 ((lb.getD 0 0).toNat : Int))) (wt rfl) (fun he => ((hv4 he).load (cond_pos he))) ?_
  refine O_gx (e := ((decide (0 < (((lb.length : Nat)) : Int))) && (decide (128 ≤ ((lb.getD 0 0).toNat : Int))))) (v := (.b (decide (((lb.getD 0 0).toNat : Int) ≤ 191)))) (wt rfl) (fun he => (r_leq (cond_pos he) rfl)) ?_
  refine O_p (.b (((decide (0 < (((lb.length : Nat)) : Int))) && (decide (128 ≤ ((lb.getD 0 0).toNat : Int)))) && (decide (((lb.getD 0 0).toNat : Int) ≤ 191)))) (r_pick_and rfl rfl rfl rfl) ?_
  refine O_p (.b (((decide (0 < (((lb.length : Nat)) : Int))) && (decide (128 ≤ ((lb.getD 0 0).toNat : Int)))) && (decide (((lb.getD 0 0).toNat : Int) ≤ 191)))) (r_mv rfl) ?_
  refine O_nil ?_
  refine C_ret ?_
  exact ⟨.inr rfl, _, resL_one (r_tmp (v := (.b (((decide (0 < (((lb.length : Nat)) : Int))) && (decide (128 ≤ ((lb.getD 0 0).toNat : Int)))) && (decide (((lb.getD 0 0).toNat : Int) ≤ 191))))) rfl), rfl, rfl⟩
end Go.Proofs.Ythmiglahfkfcaaa.E
