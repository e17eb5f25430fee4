/- AudioBack, for every input, without conditions. -/
import Derived.Test.YthmiglahfkfcaaaA
import Derived.Test.YthmiglahfkfcaaaE35
import Derived.Test.YthmiglahfkfcaaaRows
import Derived.ProofKit
import Derived.OpenShut
namespace Go.Proofs.Ythmiglahfkfcaaa.E
open Go.RowKit (Below)
set_option linter.unusedVariables false
set_option linter.unusedSimpArgs false
theorem is_enc (m : Bool) (k q t s : Int) (l : List UInt8) : ((decide (0 < (((encB m k q t s l).length : Nat) : Int)) && decide (128 ≤ (((encB m k q t s l).getD 0 0).toNat : Int))) && decide ((((encB m k q t s l).getD 0 0).toNat : Int) ≤ 191)) = true := by
  have h0 : (encB m k q t s l).getD 0 0 = 128 := rfl
  rw [h0, encB_len]
  simp only [Bool.and_eq_true, decide_eq_true_eq]
  refine ⟨⟨by omega, by decide⟩, by decide⟩
theorem enc_ok {m : Bool} {k q t s : Int} {l : List UInt8} (h : rightN k l.length = 0) : enc m k q t s l = encB m k q t s l := by unfold enc; rw [if_pos h]
theorem dec_enc {m : Bool} {k q t s : Int} {l : List UInt8} (h : rightN k l.length = 0) (k0 : 0 ≤ k) (q0 : 0 ≤ q) (q1 : q < 65536) (t0 : 0 ≤ t) (t1 : t < 4294967296) (s0 : 0 ≤ s) (s1 : s < 4294967296) :
    decE (encB m k q t s l) = 0 ∧ dm (encB m k q t s l) = m ∧ dk (encB m k q t s l) = k ∧ dq (encB m k q t s l) = q ∧ dt (encB m k q t s l) = t ∧ ds (encB m k q t s l) = s ∧ dd (encB m k q t s l) = l := by
  obtain ⟨hk, hl⟩ := rightN_iff h
  have hlen := encB_len m k q t s l
  have he : decE (encB m k q t s l) = 0 := decE_0 (by omega) (by omega) rfl
  have h1 : (((encB m k q t s l).getD 1 0).toNat : Int) = (if m = true then k + 128 else k) := by
    rw [show (encB m k q t s l).getD 1 0 = u8 (if m = true then k + 128 else k) from rfl, u8_toNat]
    split <;> omega
  refine ⟨he, ?_, ?_, ?_, ?_, ?_, ?_⟩
  · unfold dm; rw [if_pos he, h1]
    cases m <;> simp <;> omega
  · unfold dk; rw [if_pos he, h1]
    cases m <;> simp <;> omega
  · unfold dq; rw [if_pos he, show ((encB m k q t s l).drop 2).take 2 = beN q 2 from rfl, num_be2 q0 q1]
  · unfold dt; rw [if_pos he, show ((encB m k q t s l).drop 4).take 4 = beN t 4 from rfl, num_be4 t0 t1]
  · unfold ds; rw [if_pos he, show ((encB m k q t s l).drop 8).take 4 = beN s 4 from rfl, num_be4 s0 s1]
  · unfold dd; rw [if_pos he]; rfl
theorem dec_rng (l : List UInt8) : (0 ≤ dk l ∧ dk l < 256) ∧ (0 ≤ dq l ∧ dq l < 65536) := by
  refine ⟨dk_rng l, ?_⟩
  unfold dq
  split
  · rename_i h
    have : 12 ≤ l.length := by
      unfold decE at h
      split at h
      · cases h
      · split at h
        · cases h
        · omega
    have := num_bound (l.drop 2) 2 (by rw [List.length_drop]; omega)
    omega
  · omega
theorem enc_dec {b : List UInt8} (h : decE b = 0) : rightN (dk b) (dd b).length = 0 ∧ encB (dm b) (dk b) (dq b) (dt b) (ds b) (dd b) = b := by
  have hl : 12 ≤ b.length ∧ b.length ≤ 1200 ∧ ((b.getD 0 0).toNat : Int) = 128 := by
    unfold decE at h
    split at h
    · cases h
    · split at h
      · cases h
      · split at h
        · exact ⟨by omega, by omega, by assumption⟩
        · cases h
  obtain ⟨h1, h2, h3⟩ := hl
  unfold dm dk dq dt ds dd
  simp only [if_pos h]
  match b, h1, h2, h3 with
  | x0 :: x1 :: x2 :: x3 :: x4 :: x5 :: x6 :: x7 :: x8 :: x9 :: x10 :: x11 :: r, _, h2, h3 =>
    have hb := x1.toNat_lt
    refine ⟨rightN_0 (by simp; omega) (by simp at h2 ⊢; omega), ?_⟩
    unfold encB
    have e0 : (128 : UInt8) = x0 := by
      have h4 : x0.toNat = 128 := by simp at h3; omega
      exact UInt8.toNat_inj.1 (by rw [h4]; rfl)
    have e1 : u8 (if decide (128 ≤ (((x0 :: x1 :: x2 :: x3 :: x4 :: x5 :: x6 :: x7 :: x8 :: x9 :: x10 :: x11 :: r).getD 1 0).toNat : Int)) = true then (((x0 :: x1 :: x2 :: x3 :: x4 :: x5 :: x6 :: x7 :: x8 :: x9 :: x10 :: x11 :: r).getD 1 0).toNat : Int) % 128 + 128 else (((x0 :: x1 :: x2 :: x3 :: x4 :: x5 :: x6 :: x7 :: x8 :: x9 :: x10 :: x11 :: r).getD 1 0).toNat : Int) % 128) = x1 := by
      refine u8_eq ?_
      show (if decide (128 ≤ (x1.toNat : Int)) = true then (x1.toNat : Int) % 128 + 128 else (x1.toNat : Int) % 128) % 256 = _
      split
      · rename_i h; simp only [decide_eq_true_eq] at h; omega
      · rename_i h; simp only [decide_eq_true_eq] at h; omega
    rw [e1, e0]
    simp only [List.drop_succ_cons, List.drop_zero, List.take_succ_cons, List.take_zero, be2_num, be4_num, List.cons_append, List.nil_append]
theorem run7vv (H : AH) (hok : H.Ok) (pm : Bool) (pk : Int) (w1 : (Lit.int .u8 pk).wf = true) (pq : Int) (w2 : (Lit.int .u16 pq).wf = true) (pt : Int) (w3 : (Lit.int .u32 pt).wf = true) (ps : Int) (w4 : (Lit.int .u32 ps).wf = true) (pa : Option (Nat × Nat)) (pc : Nat) (l : List UInt8) (phb : Bs H (.sl pa l.length pc 0) l) (phc : l.length ≤ pc) (phm0 : pc ≤ maxLen) (ba : Option (Nat × Nat)) (bc : Nat) (b : List UInt8) (bhb : Bs H (.sl ba b.length bc 0) b) (bhc : b.length ≤ bc) (bhm0 : bc ≤ maxLen) (hr : rightN pk l.length = 0) (hg : decE b = 0) : Ev tabA spA (.fn (.func 7) [] []) [.agg [.b pm, .i .u8 pk, .i .u16 pq, .i .u32 pt, .i .u32 ps, .sl pa l.length pc 0], .sl ba b.length bc 0] H (fun v _ => v = .b true) := by
  obtain ⟨pt0, pt1⟩ : 0 ≤ pt ∧ pt < 4294967296 := by simp [Lit.wf, IntKind.wrap, IntKind.signed, IntKind.bits, IntKind.min, IntKind.max] at w3; omega
  obtain ⟨ps0, ps1⟩ : 0 ≤ ps ∧ ps < 4294967296 := by simp [Lit.wf, IntKind.wrap, IntKind.signed, IntKind.bits, IntKind.min, IntKind.max] at w4; omega
  obtain ⟨g1, g2⟩ := enc_dec hg
  refine Ev_C (F := x7) rfl ?_
  obtain ⟨pk0, pk1⟩ : 0 ≤ pk ∧ pk < 256 := by simp [Lit.wf, IntKind.wrap, IntKind.signed, IntKind.bits, IntKind.min, IntKind.max] at w1; omega
  obtain ⟨pq0, pq1⟩ : 0 ≤ pq ∧ pq < 65536 := by simp [Lit.wf, IntKind.wrap, IntKind.signed, IntKind.bits, IntKind.min, IntKind.max] at w2; omega
  have hO0 := Old.refl hok
  have phm : pc ≤ 9223372036854775807 := phm0
  have bhm : bc ≤ 9223372036854775807 := bhm0
  have h14 : tabA 14 = some x14 := rfl
  have h17 : tabA 17 = some x17 := rfl
  have h18 : tabA 18 = some x18 := rfl
  have h19 : tabA 19 = some x19 := rfl
  have h20 : tabA 20 = some x20 := rfl
  have h21 : tabA 21 = some x21 := rfl
  have h22 : tabA 22 = some x22 := rfl
  have h23 : tabA 23 = some x23 := rfl
  have h26 : tabA 26 = some x26 := rfl
  have h27 : tabA 27 = some x27 := rfl
  have h30 : tabA 30 = some x30 := rfl
  have h31 : tabA 31 = some x31 := rfl
  have h32 : tabA 32 = some x32 := rfl
  have h33 : tabA 33 = some x33 := rfl
  have h34 : tabA 34 = some x34 := rfl
  have h35 : tabA 35 = some x35 := rfl
  have h36 : tabA 36 = some x36 := rfl
  have h37 : tabA 37 = some x37 := rfl
  have h38 : tabA 38 = some x38 := rfl
  have h39 : tabA 39 = some x39 := rfl
  have h41 : tabA 41 = some x41 := rfl
  have h42 : tabA 42 = some x42 := rfl
  refine C_seq ?_
  refine C_region ?_
  refine O_box (z := [(.b pm), (.i .u8 pk), (.i .u16 pq), (.i .u32 pt), (.i .u32 ps), (.sl pa l.length pc 0)]) rfl fun n1 H2 hN3 => ?_
  have hF4 := hN3.fr (fun _ => False)
  have hO5 := hO0.new hN3
  have hx_hO5 := hO5.next
  have hnm_n1 : n1 = H.next := hN3.1
  have hnx_H2 : H2.next = H.next + 1 := hN3.2.1
  have hlt_n1 : n1 < H2.next := by omega
  refine O_p (.b false) (r_mv rfl) ?_
  refine O_nil ?_
  refine C_seq ?_
  refine C_region ?_
  refine O_call (Ev_sp (v := (.b true)) rfl rfl ?_)
  refine O_p (.b true) (r_mv rfl) ?_
  refine O_nil ?_
  refine C_seq ?_
  refine C_seq ?_
  refine C_region ?_
  refine O_p (.p (some (n1, 5))) (r_fadd' rfl rfl) ?_
  refine O_p (.sl pa l.length pc 0) (r_ld rfl hN3.2.2.1 rfl) ?_
  refine O_p (.i .i64 (((l.length : Nat)) : Int)) (r_len rfl) ?_
  refine O_p (.b (decide (1500 < (((l.length : Nat)) : Int)))) (r_gtr rfl rfl) ?_
  refine O_p (.b (decide (1500 < (((l.length : Nat)) : Int)))) (r_mv rfl) ?_
  refine O_gx (e := (!(decide (1500 < (((l.length : Nat)) : Int))))) (v := (.sl ba b.length bc 0)) (wf rfl) (fun he => (r_mv rfl)) ?_
  refine O_gx (e := (!(decide (1500 < (((l.length : Nat)) : Int))))) (v := (.i .i64 (((b.length : Nat)) : Int))) (wf rfl) (fun he => (r_len (cond_pos he))) ?_
  refine O_gx (e := (!(decide (1500 < (((l.length : Nat)) : Int))))) (v := (.b (decide (1500 < (((b.length : Nat)) : Int))))) (wf rfl) (fun he => (r_gtr (cond_pos he) rfl)) ?_
  refine O_p (.b ((decide (1500 < (((l.length : Nat)) : Int))) || (decide (1500 < (((b.length : Nat)) : Int))))) (r_pick_or rfl rfl rfl rfl) ?_
  refine O_nil ?_
  refine C_cond (x := ((decide (1500 < (((l.length : Nat)) : Int))) || (decide (1500 < (((b.length : Nat)) : Int))))) rfl (fun hc6 => ?_) (fun hc6 => ?_)
  ·
    simp only [decide_eq_true_eq, decide_eq_false_iff_not, Bool.not_eq_true', Bool.not_eq_false', Bool.and_eq_true, Bool.or_eq_true, Bool.or_eq_false_iff, Bool.not_not] at hc6
    refine C_seq ?_
    refine C_region ?_
    refine O_p (.b true) (r_mv rfl) ?_
    refine O_p (.b true) (r_mv rfl) ?_
    refine O_nil ?_
    refine C_ret ?_
    refine nx_ret ?_
    exact ⟨.inr rfl, _, resL_one (r_tmp (v := .b true) rfl), rfl⟩
  ·
    simp only [decide_eq_true_eq, decide_eq_false_iff_not, Bool.not_eq_true', Bool.not_eq_false', Bool.and_eq_true, Bool.or_eq_true, Bool.or_eq_false_iff, Bool.not_not] at hc6
    refine C_skip ?_
    refine C_seq ?_
    refine C_region ?_
    refine O_p (.agg [(.b pm), (.i .u8 pk), (.i .u16 pq), (.i .u32 pt), (.i .u32 ps), (.sl pa l.length pc 0)]) (r_ldA rfl hN3.2.2.1 rfl) ?_
    refine O_call (Ev.mono (enc_ev h17 h26 h30 h31 h41 hO5.ok pm (by first | exact pk0 | omega) (by first | exact pk1 | omega) pq pt ps (by omega) (by omega) (.inl rfl) (phb.old hok hO5) (by first | omega | (simp only [List.length_take, List.length_drop, List.length_append, List.length_cons, List.length_nil, beN_len] <;> omega)) (by first | omega | (simp only [List.length_take, List.length_drop, List.length_append, List.length_cons, List.length_nil, beN_len] <;> omega)) (by first | omega | (simp only [List.length_take, List.length_drop, List.length_append, List.length_cons, List.length_nil, beN_len] <;> omega))) fun v7 H8 hq9 => ?_)
    rw [hr, enc_ok hr] at hq9
    have hel_enc := encB_len pm pk pq pt ps l
    obtain ⟨o10, rfl, hM11, hK12⟩ := hq9
    have hb13 := (hK12.keep _ (by omega)).trans hN3.2.2.1
    have hx_hK12 := hK12.next
    have hlt_n1 : n1 < H8.next := by omega
    have hO14 := hO5.trans hK12
    have hx_hO14 := hO14.next
    have hM15 := hM11.down (N := H.next) (by omega)
    have hd16 : ¬ o10.nameOf n1 := fun hq => by have := hM11.new _ hq; omega
    refine O_p (.tup [o10, (.i .i64 0)]) (r_mv rfl) ?_
    refine O_p o10 (r_ext rfl rfl) ?_
    refine O_p (.i .i64 0) (r_ext rfl rfl) ?_
    refine O_p o10 (r_mv rfl) ?_
    refine O_p (.i .i64 0) (r_mv rfl) ?_
    refine O_nil ?_
    refine C_seq ?_
    refine C_region ?_
    refine O_p o10 (r_mv rfl) ?_
    have hsf21 : Own 1 H8 o10 (bcells (encB pm pk pq pt ps l)) := hM15.own
    obtain ⟨oa17, og18, rfl, hog19, hob20⟩ := hsf21.bs
    have base22 := Old.refl hO14.ok
    refine O_call (Ev.mono (dec_ev h20 h27 h33 h34 h35 h36 h37 h38 h42 hO14.ok hog19 (hM15.own.asbs) (by first | omega | (simp only [List.length_take, List.length_drop, List.length_append, List.length_cons, List.length_nil, beN_len] <;> omega)) (by first | omega | (simp only [List.length_take, List.length_drop, List.length_append, List.length_cons, List.length_nil, beN_len] <;> omega)) (by rw [encB_len]; omega)) fun v23 H24 hq25 => ?_)
    obtain ⟨ee0, ee1, ee2, ee3, ee4, ee5, ee6⟩ := dec_enc (m := pm) (k := pk) (q := pq) (t := pt) (s := ps) hr pk0 pq0 pq1 pt0 pt1 ps0 ps1
    rw [ee0, ee1, ee2, ee3, ee4, ee5, ee6] at hq25
    obtain ⟨dv35, rfl, hod34, hK33⟩ := hq25
    have hb36 := (hK33.keep _ (by omega)).trans hb13
    have hx_hK33 := hK33.next
    have hlt_n1 : n1 < H24.next := by omega
    have hM37 := hM15.kp hK33
    have hO38 := hO14.trans hK33
    have hx_hO38 := hO38.next
    have hO39 := base22.trans hK33
    obtain ⟨da26, dc27, dg28, rfl, dhg29, dhc30, dhm31, dhb32⟩ := hod34
    have base40 := Old.refl hO38.ok
    refine O_p (.tup [(.agg [(.b pm), (.i .u8 pk), (.i .u16 pq), (.i .u32 pt), (.i .u32 ps), (.sl da26 l.length dc27 dg28)]), (.i .i64 0)]) (r_mv rfl) ?_
    refine O_p (.agg [(.b pm), (.i .u8 pk), (.i .u16 pq), (.i .u32 pt), (.i .u32 ps), (.sl da26 l.length dc27 dg28)]) (r_ext rfl rfl) ?_
    refine O_p (.i .i64 0) (r_ext rfl rfl) ?_
    refine O_alloc fun n41 H42 hN43 => ?_
    have hF44 := hN43.fr (fun _ => False)
    have hb45 := (hF44.keep _ (by exact hlt_n1) (fun h => h)).trans hb36
    have hM46 := hM37.anew hN43
    have hO47 := hO38.new hN43
    have hx_hO47 := hO47.next
    have hO48 := hO39.new hN43
    have hO49 := base40.new hN43
    have hd50 : ¬ ((.sl oa17 ((encB pm pk pq pt ps l)).length ((encB pm pk pq pt ps l)).length og18) : AV).nameOf n41 := hM37.dis (by have := hN43.1; omega)
    have hnm_n41 : n41 = H24.next := hN43.1
    have hnx_H42 : H42.next = H24.next + 1 := hN43.2.1
    have hlt_n1 : n1 < H42.next := by omega
    have hlt_n41 : n41 < H42.next := by omega
    refine O_store (vs := [(.b pm), (.i .u8 pk), (.i .u16 pq), (.i .u32 pt), (.i .u32 ps), (.sl da26 l.length dc27 dg28)]) (c' := [(.b pm), (.i .u8 pk), (.i .u16 pq), (.i .u32 pt), (.i .u32 ps), (.sl da26 l.length dc27 dg28)]) rfl (by rfl) hN43.2.2.1 rfl (List.cons_ne_nil _ _) (Nat.le_of_ble_eq_true rfl) rfl fun H51 hW52 => ?_
    have hb53 := (hW52.2.2 _ (by omega)).trans hb45
    have hM54 := hM46.wr hW52 hd50
    have hO55 := hO47.wr hW52 (by omega) (by omega)
    have hx_hO55 := hO55.next
    have hO56 := hO48.wr hW52 (by omega) (by omega)
    have hO57 := hO49.wr hW52 (by omega) (by omega)
    have hnx_H51 : H51.next = H42.next := hW52.1
    have hlt_n1 : n1 < H51.next := by omega
    have hlt_n41 : n41 < H51.next := by omega
    refine O_p (.i .i64 0) (r_mv rfl) ?_
    refine O_nil ?_
    refine C_seq ?_
    refine C_seq ?_
    refine C_draw fun b58 H59 hbase60 hA61 => ?_
    have hnx62 : H59.next = H51.next + 27 := hA61.1
    have hb63 := (hA61.2 _).trans hb53
    have hb64 := (hA61.2 _).trans hW52.2.1
    have hF65 := hA61.fr (fun _ => False)
    have hM66 := hM54.aside hA61
    have hO67 := hO55.aside hA61
    have hx_hO67 := hO67.next
    have hO68 := hO56.aside hA61
    have hO69 := hO57.aside hA61
    have hlt_n1 : n1 < H59.next := by omega
    have hlt_n41 : n41 < H59.next := by omega
    refine D_l (v := (.i .i64 0)) rfl rfl rfl (r_mv rfl) ?_
    refine D_l (v := (.b true)) rfl rfl rfl (r_bin rfl rfl rfl) ?_
    refine D_l (v := (.b true)) rfl rfl rfl (r_mv rfl) ?_
    refine D_gl (v := (.i .i64 0)) rfl rfl rfl rfl (r_mv rfl) ?_
    refine D_gl (v := (.b false)) rfl rfl rfl rfl (r_bin rfl rfl rfl) ?_
    refine D_gl (v := (.b false)) rfl rfl rfl rfl (r_mv rfl) ?_
    refine D_gr (v := (.agg [(.b pm), (.i .u8 pk), (.i .u16 pq), (.i .u32 pt), (.i .u32 ps), (.sl da26 l.length dc27 dg28)])) rfl rfl rfl rfl (r_ldA rfl hb64 rfl) ?_
    refine D_gr (v := (.agg [(.b pm), (.i .u8 pk), (.i .u16 pq), (.i .u32 pt), (.i .u32 ps), (.sl pa l.length pc 0)])) rfl rfl rfl rfl (r_ldA rfl hb63 rfl) ?_
    refine D_gcall rfl (Ev.mono (theirs_ev h19 hO67.ok pm (by first | exact pk0 | omega) (by first | exact pk1 | omega) pq pt ps (by omega) (by omega) (.inl rfl) (phb.old hok hO67) (by first | omega | (simp only [List.length_take, List.length_drop, List.length_append, List.length_cons, List.length_nil, beN_len] <;> omega)) (by first | omega | (simp only [List.length_take, List.length_drop, List.length_append, List.length_cons, List.length_nil, beN_len] <;> omega))) fun v70 H71 hq72 => ?_)
    obtain ⟨rfl, hK73⟩ := hq72
    have hb74 := (hK73.keep _ (by omega)).trans hb63
    have hb75 := (hK73.keep _ (by omega)).trans hb64
    have hx_hK73 := hK73.next
    have hlt_n1 : n1 < H71.next := by omega
    have hlt_n41 : n41 < H71.next := by omega
    have hM76 := hM66.kp hK73
    have hO77 := hO67.trans hK73
    have hx_hO77 := hO77.next
    have hO78 := hO68.trans hK73
    have hO79 := hO69.trans hK73
    refine And.intro (And.intro (Or.inl rfl) (And.intro (Or.inr (look_run rfl rfl (r_ldA rfl hb75 rfl))) True.intro)) ?_
    refine D_gcall rfl (Ev.mono (alike_ev h14 h22 hO77.ok pm pk pq pt ps dhg29 (dhb32.old hO38.ok hO79) (by first | omega | (simp only [List.length_take, List.length_drop, List.length_append, List.length_cons, List.length_nil, beN_len] <;> omega)) (by first | omega | (simp only [List.length_take, List.length_drop, List.length_append, List.length_cons, List.length_nil, beN_len] <;> omega)) pm pk pq pt ps (.inl rfl) (phb.old hok hO77) (by first | omega | (simp only [List.length_take, List.length_drop, List.length_append, List.length_cons, List.length_nil, beN_len] <;> omega)) (by first | omega | (simp only [List.length_take, List.length_drop, List.length_append, List.length_cons, List.length_nil, beN_len] <;> omega))) fun v80 H81 hq82 => ?_)
    rw [show ((((((pm == pm) && (decide (pk = pk))) && (decide (pq = pq))) && (decide (pt = pt))) && (decide (ps = ps))) && (decide (l = l))) = true by simp only [beq_self_eq_true, decide_true, Bool.and_self]] at hq82
    obtain ⟨rfl, hK83⟩ := hq82
    have hb84 := (hK83.keep _ (by omega)).trans hb74
    have hb85 := (hK83.keep _ (by omega)).trans hb75
    have hx_hK83 := hK83.next
    have hlt_n1 : n1 < H81.next := by omega
    have hlt_n41 : n41 < H81.next := by omega
    have hM86 := hM76.kp hK83
    have hO87 := hO77.trans hK83
    have hx_hO87 := hO87.next
    have hO88 := hO78.trans hK83
    have hO89 := hO79.trans hK83
    refine And.intro (And.intro (Or.inl rfl) True.intro) ?_
    refine D_gl (v := (.b false)) rfl rfl rfl rfl (r_un rfl rfl) ?_
    refine D_gl (v := (.b false)) rfl rfl rfl rfl (r_pick_f rfl rfl) ?_
    refine D_gl (v := (.b false)) rfl rfl rfl rfl (r_mv rfl) ?_
    refine D_gl (v := (.sl oa17 ((encB pm pk pq pt ps l)).length ((encB pm pk pq pt ps l)).length og18)) rfl rfl rfl rfl (r_mv rfl) ?_
    refine D_gcall rfl (Ev.mono (is_ev h23 hO87.ok hog19 (hM86.own.asbs) (by first | omega | (simp only [List.length_take, List.length_drop, List.length_append, List.length_cons, List.length_nil, beN_len] <;> omega)) (by first | omega | (simp only [List.length_take, List.length_drop, List.length_append, List.length_cons, List.length_nil, beN_len] <;> omega))) fun v90 H91 hq92 => ?_)
    rw [is_enc] at hq92
    obtain ⟨rfl, hq92⟩ := hq92
    subst H91
    refine And.intro True.intro ?_
    refine D_gl (v := (.b false)) rfl rfl rfl rfl (r_un rfl rfl) ?_
    refine D_gl (v := (.b false)) rfl rfl rfl rfl (r_pick_f rfl rfl) ?_
    refine D_gl (v := (.b false)) rfl rfl rfl rfl (r_mv rfl) ?_
    refine D_gl (v := (.sl oa17 ((encB pm pk pq pt ps l)).length ((encB pm pk pq pt ps l)).length og18)) rfl rfl rfl rfl (r_mv rfl) ?_
    refine D_gl (v := (.i .i64 ((((12 + l.length) : Nat)) : Int))) rfl rfl rfl rfl (by exact (by rw [← encB_len pm pk pq pt ps l]; exact r_len rfl)) ?_
    refine D_gl (v := (.p (some (n1, 5)))) rfl rfl rfl rfl (r_fadd' rfl rfl) ?_
    refine D_gr (v := (.sl pa l.length pc 0)) rfl rfl rfl rfl (r_ld rfl hb84 rfl) ?_
    refine D_gl (v := (.i .i64 (((l.length : Nat)) : Int))) rfl rfl rfl rfl (r_len rfl) ?_
    refine D_gl (v := (.i .i64 (12 + (((l.length : Nat)) : Int)))) rfl rfl rfl rfl (by exact (r_addi rfl rfl (wrap_i64 (by omega) (by omega)))) ?_
    refine D_gl (v := (.b false)) rfl rfl rfl rfl (by exact (by rw [r_neq rfl rfl, decide_eq_true (by omega)]; rfl)) ?_
    refine D_gl (v := (.b false)) rfl rfl rfl rfl (r_pick_f rfl rfl) ?_
    refine D_l (v := (.b false)) rfl rfl rfl (r_pick_t rfl rfl) ?_
    refine D_nil ?_
    refine C_cond (x := false) rfl (fun h => by cases h) (fun _ => ?_)
    refine C_skip ?_
    refine C_seq ?_
    refine C_region ?_
    refine O_p (.sl ba b.length bc 0) (r_mv rfl) ?_
    refine O_call (Ev.mono (dec_ev h20 h27 h33 h34 h35 h36 h37 h38 h42 hO87.ok (.inl rfl) (bhb.old hok hO87) (by first | omega | (simp only [List.length_take, List.length_drop, List.length_append, List.length_cons, List.length_nil, beN_len] <;> omega)) (by first | omega | (simp only [List.length_take, List.length_drop, List.length_append, List.length_cons, List.length_nil, beN_len] <;> omega)) (by first | omega | (simp only [List.length_take, List.length_drop, List.length_append, List.length_cons, List.length_nil, beN_len] <;> omega))) fun v93 H94 hq95 => ?_)
    obtain ⟨dv105, rfl, hod104, hK103⟩ := hq95
    have hb106 := (hK103.keep _ (by omega)).trans hb84
    have hb107 := (hK103.keep _ (by omega)).trans hb85
    have hx_hK103 := hK103.next
    have hlt_n1 : n1 < H94.next := by omega
    have hlt_n41 : n41 < H94.next := by omega
    have hM108 := hM86.kp hK103
    have hO109 := hO87.trans hK103
    have hx_hO109 := hO109.next
    have hO110 := hO88.trans hK103
    have hO111 := hO89.trans hK103
    obtain ⟨da96, dc97, dg98, rfl, dhg99, dhc100, dhm101, dhb102⟩ := hod104
    have base112 := Old.refl hO109.ok
    have hdl_dv105 := dd_le b
    obtain ⟨⟨hdk0, hdk1⟩, hdq0, hdq1⟩ := dec_rng b
    refine O_p (.tup [(.agg [(.b (dm b)), (.i .u8 (dk b)), (.i .u16 (dq b)), (.i .u32 (dt b)), (.i .u32 (ds b)), (.sl da96 (dd b).length dc97 dg98)]), (.i .i64 (decE b))]) (r_mv rfl) ?_
    refine O_p (.agg [(.b (dm b)), (.i .u8 (dk b)), (.i .u16 (dq b)), (.i .u32 (dt b)), (.i .u32 (ds b)), (.sl da96 (dd b).length dc97 dg98)]) (r_ext rfl rfl) ?_
    refine O_p (.i .i64 (decE b)) (r_ext rfl rfl) ?_
    refine O_alloc fun n113 H114 hN115 => ?_
    have hF116 := hN115.fr (fun _ => False)
    have hb117 := (hF116.keep _ (by exact hlt_n1) (fun h => h)).trans hb106
    have hb118 := (hF116.keep _ (by exact hlt_n41) (fun h => h)).trans hb107
    have hM119 := hM108.anew hN115
    have hO120 := hO109.new hN115
    have hx_hO120 := hO120.next
    have hO121 := hO110.new hN115
    have hO122 := hO111.new hN115
    have hO123 := base112.new hN115
    have hd124 : ¬ ((.sl oa17 ((encB pm pk pq pt ps l)).length ((encB pm pk pq pt ps l)).length og18) : AV).nameOf n113 := hM108.dis (by have := hN115.1; omega)
    have hnm_n113 : n113 = H94.next := hN115.1
    have hnx_H114 : H114.next = H94.next + 1 := hN115.2.1
    have hlt_n1 : n1 < H114.next := by omega
    have hlt_n41 : n41 < H114.next := by omega
    have hlt_n113 : n113 < H114.next := by omega
    refine O_store (vs := [(.b (dm b)), (.i .u8 (dk b)), (.i .u16 (dq b)), (.i .u32 (dt b)), (.i .u32 (ds b)), (.sl da96 (dd b).length dc97 dg98)]) (c' := [(.b (dm b)), (.i .u8 (dk b)), (.i .u16 (dq b)), (.i .u32 (dt b)), (.i .u32 (ds b)), (.sl da96 (dd b).length dc97 dg98)]) rfl (by rfl) hN115.2.2.1 rfl (List.cons_ne_nil _ _) (Nat.le_of_ble_eq_true rfl) rfl fun H125 hW126 => ?_
    have hb127 := (hW126.2.2 _ (by omega)).trans hb117
    have hb128 := (hW126.2.2 _ (by omega)).trans hb118
    have hM129 := hM119.wr hW126 hd124
    have hO130 := hO120.wr hW126 (by omega) (by omega)
    have hx_hO130 := hO130.next
    have hO131 := hO121.wr hW126 (by omega) (by omega)
    have hO132 := hO122.wr hW126 (by omega) (by omega)
    have hO133 := hO123.wr hW126 (by omega) (by omega)
    have hnx_H125 : H125.next = H114.next := hW126.1
    have hlt_n1 : n1 < H125.next := by omega
    have hlt_n41 : n41 < H125.next := by omega
    have hlt_n113 : n113 < H125.next := by omega
    refine O_p (.i .i64 (decE b)) (r_mv rfl) ?_
    refine O_nil ?_
    refine C_seq ?_
    refine C_region ?_
    refine O_p (.agg [(.b (dm b)), (.i .u8 (dk b)), (.i .u16 (dq b)), (.i .u32 (dt b)), (.i .u32 (ds b)), (.sl da96 (dd b).length dc97 dg98)]) (r_ldA rfl hW126.2.1 rfl) ?_
    refine O_call (Ev.mono (enc_ev h17 h26 h30 h31 h41 hO130.ok (dm b) (by first | exact (dk_rng b).1 | omega) (by first | exact (dk_rng b).2 | omega) (dq b) (dt b) (ds b) (by omega) (by omega) dhg99 (dhb102.old hO109.ok hO133) (by first | omega | (simp only [List.length_take, List.length_drop, List.length_append, List.length_cons, List.length_nil, beN_len] <;> omega)) (by first | omega | (simp only [List.length_take, List.length_drop, List.length_append, List.length_cons, List.length_nil, beN_len] <;> omega)) (by first | omega | (simp only [List.length_take, List.length_drop, List.length_append, List.length_cons, List.length_nil, beN_len] <;> omega))) fun v134 H135 hq136 => ?_)
    rw [g1, enc_ok g1, g2] at hq136
    obtain ⟨o137, rfl, hM138, hK139⟩ := hq136
    have hb140 := (hK139.keep _ (by omega)).trans hb127
    have hb141 := (hK139.keep _ (by omega)).trans hb128
    have hb142 := (hK139.keep _ (by omega)).trans hW126.2.1
    have hx_hK139 := hK139.next
    have hlt_n1 : n1 < H135.next := by omega
    have hlt_n41 : n41 < H135.next := by omega
    have hlt_n113 : n113 < H135.next := by omega
    have hM143 := hM129.kp hK139
    have hO144 := hO130.trans hK139
    have hx_hO144 := hO144.next
    have hO145 := hO131.trans hK139
    have hO146 := hO132.trans hK139
    have hO147 := hO133.trans hK139
    have hM148 := hM138.down (N := H.next) (by omega)
    have hd149 : ¬ o137.nameOf n1 := fun hq => by have := hM138.new _ hq; omega
    have hd150 : ¬ o137.nameOf n41 := fun hq => by have := hM138.new _ hq; omega
    have hd151 : ¬ o137.nameOf n113 := fun hq => by have := hM138.new _ hq; omega
    refine O_p (.tup [o137, (.i .i64 0)]) (r_mv rfl) ?_
    refine O_p o137 (r_ext rfl rfl) ?_
    refine O_p (.i .i64 0) (r_ext rfl rfl) ?_
    refine O_p o137 (r_mv rfl) ?_
    refine O_p (.i .i64 0) (r_mv rfl) ?_
    refine O_nil ?_
    refine C_seq ?_
    refine C_region ?_
    refine O_p (.b true) (r_mv rfl) ?_
    refine O_p (.b true) (r_mv rfl) ?_
    refine O_gs (v := (.i .i64 0)) rfl (r_mv rfl) ?_
    refine O_gs (v := (.b true)) rfl (r_bin rfl rfl rfl) ?_
    refine O_gs (v := (.b true)) rfl (r_mv rfl) ?_
    refine O_gf rfl ?_
    refine O_gf rfl ?_
    refine O_gf rfl ?_
    refine O_gs (v := (.b true)) rfl (r_pick_t rfl rfl) ?_
    refine O_p (.b true) (r_pick_t rfl rfl) ?_
    refine O_p (.b true) (r_mv rfl) ?_
    refine O_gs (v := (.i .i64 (decE b))) rfl (r_mv rfl) ?_
    refine O_gs (v := (.b false)) rfl (by exact (by rw [r_neq rfl rfl, decide_eq_true hg]; rfl)) ?_
    refine O_gs (v := (.b false)) rfl (r_mv rfl) ?_
    refine O_gs (v := (.i .i64 0)) rfl (r_mv rfl) ?_
    refine O_gs (v := (.b true)) rfl (r_bin rfl rfl rfl) ?_
    refine O_gs (v := (.b true)) rfl (r_mv rfl) ?_
    refine O_gs (v := o137) rfl (r_mv rfl) ?_
    refine O_gs (v := (.sl ba b.length bc 0)) rfl (r_mv rfl) ?_
    have hsf156 : Own 1 H135 o137 (bcells b) := hM148.own
    obtain ⟨oa152, og153, rfl, hog154, hob155⟩ := hsf156.bs
    have base157 := Old.refl hO144.ok
    refine O_gcall rfl (Ev.mono (same_ev h14 hO144.ok hog154 (hM148.own.asbs) (by first | omega | (simp only [List.length_take, List.length_drop, List.length_append, List.length_cons, List.length_nil, beN_len] <;> omega)) (by first | omega | (simp only [List.length_take, List.length_drop, List.length_append, List.length_cons, List.length_nil, beN_len] <;> omega)) (.inl rfl) (bhb.old hok hO144) (by first | omega | (simp only [List.length_take, List.length_drop, List.length_append, List.length_cons, List.length_nil, beN_len] <;> omega)) (by first | omega | (simp only [List.length_take, List.length_drop, List.length_append, List.length_cons, List.length_nil, beN_len] <;> omega))) fun v158 H159 hq160 => ?_)
    rw [show decide (b = b) = true from decide_eq_true rfl] at hq160
    obtain ⟨rfl, hq160⟩ := hq160
    subst H159
    refine O_gs (v := (.b true)) rfl (r_pick_t rfl rfl) ?_
    refine O_gs (v := (.b true)) rfl (r_pick_f rfl rfl) ?_
    refine O_p (.b true) (r_pick_t rfl rfl) ?_
    refine O_p (.b true) (r_mv rfl) ?_
    refine O_nil ?_
    refine C_ret ?_
    exact ⟨.inr rfl, _, resL_one (r_tmp (v := .b true) rfl), rfl⟩
theorem run7vi (H : AH) (hok : H.Ok) (pm : Bool) (pk : Int) (w1 : (Lit.int .u8 pk).wf = true) (pq : Int) (w2 : (Lit.int .u16 pq).wf = true) (pt : Int) (w3 : (Lit.int .u32 pt).wf = true) (ps : Int) (w4 : (Lit.int .u32 ps).wf = true) (pa : Option (Nat × Nat)) (pc : Nat) (l : List UInt8) (phb : Bs H (.sl pa l.length pc 0) l) (phc : l.length ≤ pc) (phm0 : pc ≤ maxLen) (ba : Option (Nat × Nat)) (bc : Nat) (b : List UInt8) (bhb : Bs H (.sl ba b.length bc 0) b) (bhc : b.length ≤ bc) (bhm0 : bc ≤ maxLen) (hr : rightN pk l.length = 0) (hg : ¬ decE b = 0) : Ev tabA spA (.fn (.func 7) [] []) [.agg [.b pm, .i .u8 pk, .i .u16 pq, .i .u32 pt, .i .u32 ps, .sl pa l.length pc 0], .sl ba b.length bc 0] H (fun v _ => v = .b true) := by
  obtain ⟨pt0, pt1⟩ : 0 ≤ pt ∧ pt < 4294967296 := by simp [Lit.wf, IntKind.wrap, IntKind.signed, IntKind.bits, IntKind.min, IntKind.max] at w3; omega
  obtain ⟨ps0, ps1⟩ : 0 ≤ ps ∧ ps < 4294967296 := by simp [Lit.wf, IntKind.wrap, IntKind.signed, IntKind.bits, IntKind.min, IntKind.max] at w4; omega
  refine Ev_C (F := x7) rfl ?_
  obtain ⟨pk0, pk1⟩ : 0 ≤ pk ∧ pk < 256 := by simp [Lit.wf, IntKind.wrap, IntKind.signed, IntKind.bits, IntKind.min, IntKind.max] at w1; omega
  obtain ⟨pq0, pq1⟩ : 0 ≤ pq ∧ pq < 65536 := by simp [Lit.wf, IntKind.wrap, IntKind.signed, IntKind.bits, IntKind.min, IntKind.max] at w2; omega
  have hO0 := Old.refl hok
  have phm : pc ≤ 9223372036854775807 := phm0
  have bhm : bc ≤ 9223372036854775807 := bhm0
  have h14 : tabA 14 = some x14 := rfl
  have h17 : tabA 17 = some x17 := rfl
  have h18 : tabA 18 = some x18 := rfl
  have h19 : tabA 19 = some x19 := rfl
  have h20 : tabA 20 = some x20 := rfl
  have h21 : tabA 21 = some x21 := rfl
  have h22 : tabA 22 = some x22 := rfl
  have h23 : tabA 23 = some x23 := rfl
  have h26 : tabA 26 = some x26 := rfl
  have h27 : tabA 27 = some x27 := rfl
  have h30 : tabA 30 = some x30 := rfl
  have h31 : tabA 31 = some x31 := rfl
  have h32 : tabA 32 = some x32 := rfl
  have h33 : tabA 33 = some x33 := rfl
  have h34 : tabA 34 = some x34 := rfl
  have h35 : tabA 35 = some x35 := rfl
  have h36 : tabA 36 = some x36 := rfl
  have h37 : tabA 37 = some x37 := rfl
  have h38 : tabA 38 = some x38 := rfl
  have h39 : tabA 39 = some x39 := rfl
  have h41 : tabA 41 = some x41 := rfl
  have h42 : tabA 42 = some x42 := rfl
  refine C_seq ?_
  refine C_region ?_
  refine O_box (z := [(.b pm), (.i .u8 pk), (.i .u16 pq), (.i .u32 pt), (.i .u32 ps), (.sl pa l.length pc 0)]) rfl fun n1 H2 hN3 => ?_
  have hF4 := hN3.fr (fun _ => False)
  have hO5 := hO0.new hN3
  have hx_hO5 := hO5.next
  have hnm_n1 : n1 = H.next := hN3.1
  have hnx_H2 : H2.next = H.next + 1 := hN3.2.1
  have hlt_n1 : n1 < H2.next := by omega
  refine O_p (.b false) (r_mv rfl) ?_
  refine O_nil ?_
  refine C_seq ?_
  refine C_region ?_
  refine O_call (Ev_sp (v := (.b true)) rfl rfl ?_)
  refine O_p (.b true) (r_mv rfl) ?_
  refine O_nil ?_
  refine C_seq ?_
  refine C_seq ?_
  refine C_region ?_
  refine O_p (.p (some (n1, 5))) (r_fadd' rfl rfl) ?_
  refine O_p (.sl pa l.length pc 0) (r_ld rfl hN3.2.2.1 rfl) ?_
  refine O_p (.i .i64 (((l.length : Nat)) : Int)) (r_len rfl) ?_
  refine O_p (.b (decide (1500 < (((l.length : Nat)) : Int)))) (r_gtr rfl rfl) ?_
  refine O_p (.b (decide (1500 < (((l.length : Nat)) : Int)))) (r_mv rfl) ?_
  refine O_gx (e := (!(decide (1500 < (((l.length : Nat)) : Int))))) (v := (.sl ba b.length bc 0)) (wf rfl) (fun he => (r_mv rfl)) ?_
  refine O_gx (e := (!(decide (1500 < (((l.length : Nat)) : Int))))) (v := (.i .i64 (((b.length : Nat)) : Int))) (wf rfl) (fun he => (r_len (cond_pos he))) ?_
  refine O_gx (e := (!(decide (1500 < (((l.length : Nat)) : Int))))) (v := (.b (decide (1500 < (((b.length : Nat)) : Int))))) (wf rfl) (fun he => (r_gtr (cond_pos he) rfl)) ?_
  refine O_p (.b ((decide (1500 < (((l.length : Nat)) : Int))) || (decide (1500 < (((b.length : Nat)) : Int))))) (r_pick_or rfl rfl rfl rfl) ?_
  refine O_nil ?_
  refine C_cond (x := ((decide (1500 < (((l.length : Nat)) : Int))) || (decide (1500 < (((b.length : Nat)) : Int))))) rfl (fun hc6 => ?_) (fun hc6 => ?_)
  ·
    simp only [decide_eq_true_eq, decide_eq_false_iff_not, Bool.not_eq_true', Bool.not_eq_false', Bool.and_eq_true, Bool.or_eq_true, Bool.or_eq_false_iff, Bool.not_not] at hc6
    refine C_seq ?_
    refine C_region ?_
    refine O_p (.b true) (r_mv rfl) ?_
    refine O_p (.b true) (r_mv rfl) ?_
    refine O_nil ?_
    refine C_ret ?_
    refine nx_ret ?_
    exact ⟨.inr rfl, _, resL_one (r_tmp (v := .b true) rfl), rfl⟩
  ·
    simp only [decide_eq_true_eq, decide_eq_false_iff_not, Bool.not_eq_true', Bool.not_eq_false', Bool.and_eq_true, Bool.or_eq_true, Bool.or_eq_false_iff, Bool.not_not] at hc6
    refine C_skip ?_
    refine C_seq ?_
    refine C_region ?_
    refine O_p (.agg [(.b pm), (.i .u8 pk), (.i .u16 pq), (.i .u32 pt), (.i .u32 ps), (.sl pa l.length pc 0)]) (r_ldA rfl hN3.2.2.1 rfl) ?_
    refine O_call (Ev.mono (enc_ev h17 h26 h30 h31 h41 hO5.ok pm (by first | exact pk0 | omega) (by first | exact pk1 | omega) pq pt ps (by omega) (by omega) (.inl rfl) (phb.old hok hO5) (by first | omega | (simp only [List.length_take, List.length_drop, List.length_append, List.length_cons, List.length_nil, beN_len] <;> omega)) (by first | omega | (simp only [List.length_take, List.length_drop, List.length_append, List.length_cons, List.length_nil, beN_len] <;> omega)) (by first | omega | (simp only [List.length_take, List.length_drop, List.length_append, List.length_cons, List.length_nil, beN_len] <;> omega))) fun v7 H8 hq9 => ?_)
    rw [hr, enc_ok hr] at hq9
    have hel_enc := encB_len pm pk pq pt ps l
    obtain ⟨o10, rfl, hM11, hK12⟩ := hq9
    have hb13 := (hK12.keep _ (by omega)).trans hN3.2.2.1
    have hx_hK12 := hK12.next
    have hlt_n1 : n1 < H8.next := by omega
    have hO14 := hO5.trans hK12
    have hx_hO14 := hO14.next
    have hM15 := hM11.down (N := H.next) (by omega)
    have hd16 : ¬ o10.nameOf n1 := fun hq => by have := hM11.new _ hq; omega
    refine O_p (.tup [o10, (.i .i64 0)]) (r_mv rfl) ?_
    refine O_p o10 (r_ext rfl rfl) ?_
    refine O_p (.i .i64 0) (r_ext rfl rfl) ?_
    refine O_p o10 (r_mv rfl) ?_
    refine O_p (.i .i64 0) (r_mv rfl) ?_
    refine O_nil ?_
    refine C_seq ?_
    refine C_region ?_
    refine O_p o10 (r_mv rfl) ?_
    have hsf21 : Own 1 H8 o10 (bcells (encB pm pk pq pt ps l)) := hM15.own
    obtain ⟨oa17, og18, rfl, hog19, hob20⟩ := hsf21.bs
    have base22 := Old.refl hO14.ok
    refine O_call (Ev.mono (dec_ev h20 h27 h33 h34 h35 h36 h37 h38 h42 hO14.ok hog19 (hM15.own.asbs) (by first | omega | (simp only [List.length_take, List.length_drop, List.length_append, List.length_cons, List.length_nil, beN_len] <;> omega)) (by first | omega | (simp only [List.length_take, List.length_drop, List.length_append, List.length_cons, List.length_nil, beN_len] <;> omega)) (by rw [encB_len]; omega)) fun v23 H24 hq25 => ?_)
    obtain ⟨ee0, ee1, ee2, ee3, ee4, ee5, ee6⟩ := dec_enc (m := pm) (k := pk) (q := pq) (t := pt) (s := ps) hr pk0 pq0 pq1 pt0 pt1 ps0 ps1
    rw [ee0, ee1, ee2, ee3, ee4, ee5, ee6] at hq25
    obtain ⟨dv35, rfl, hod34, hK33⟩ := hq25
    have hb36 := (hK33.keep _ (by omega)).trans hb13
    have hx_hK33 := hK33.next
    have hlt_n1 : n1 < H24.next := by omega
    have hM37 := hM15.kp hK33
    have hO38 := hO14.trans hK33
    have hx_hO38 := hO38.next
    have hO39 := base22.trans hK33
    obtain ⟨da26, dc27, dg28, rfl, dhg29, dhc30, dhm31, dhb32⟩ := hod34
    have base40 := Old.refl hO38.ok
    refine O_p (.tup [(.agg [(.b pm), (.i .u8 pk), (.i .u16 pq), (.i .u32 pt), (.i .u32 ps), (.sl da26 l.length dc27 dg28)]), (.i .i64 0)]) (r_mv rfl) ?_
    refine O_p (.agg [(.b pm), (.i .u8 pk), (.i .u16 pq), (.i .u32 pt), (.i .u32 ps), (.sl da26 l.length dc27 dg28)]) (r_ext rfl rfl) ?_
    refine O_p (.i .i64 0) (r_ext rfl rfl) ?_
    refine O_alloc fun n41 H42 hN43 => ?_
    have hF44 := hN43.fr (fun _ => False)
    have hb45 := (hF44.keep _ (by exact hlt_n1) (fun h => h)).trans hb36
    have hM46 := hM37.anew hN43
    have hO47 := hO38.new hN43
    have hx_hO47 := hO47.next
    have hO48 := hO39.new hN43
    have hO49 := base40.new hN43
    have hd50 : ¬ ((.sl oa17 ((encB pm pk pq pt ps l)).length ((encB pm pk pq pt ps l)).length og18) : AV).nameOf n41 := hM37.dis (by have := hN43.1; omega)
    have hnm_n41 : n41 = H24.next := hN43.1
    have hnx_H42 : H42.next = H24.next + 1 := hN43.2.1
    have hlt_n1 : n1 < H42.next := by omega
    have hlt_n41 : n41 < H42.next := by omega
    refine O_store (vs := [(.b pm), (.i .u8 pk), (.i .u16 pq), (.i .u32 pt), (.i .u32 ps), (.sl da26 l.length dc27 dg28)]) (c' := [(.b pm), (.i .u8 pk), (.i .u16 pq), (.i .u32 pt), (.i .u32 ps), (.sl da26 l.length dc27 dg28)]) rfl (by rfl) hN43.2.2.1 rfl (List.cons_ne_nil _ _) (Nat.le_of_ble_eq_true rfl) rfl fun H51 hW52 => ?_
    have hb53 := (hW52.2.2 _ (by omega)).trans hb45
    have hM54 := hM46.wr hW52 hd50
    have hO55 := hO47.wr hW52 (by omega) (by omega)
    have hx_hO55 := hO55.next
    have hO56 := hO48.wr hW52 (by omega) (by omega)
    have hO57 := hO49.wr hW52 (by omega) (by omega)
    have hnx_H51 : H51.next = H42.next := hW52.1
    have hlt_n1 : n1 < H51.next := by omega
    have hlt_n41 : n41 < H51.next := by omega
    refine O_p (.i .i64 0) (r_mv rfl) ?_
    refine O_nil ?_
    refine C_seq ?_
    refine C_seq ?_
    refine C_draw fun b58 H59 hbase60 hA61 => ?_
    have hnx62 : H59.next = H51.next + 27 := hA61.1
    have hb63 := (hA61.2 _).trans hb53
    have hb64 := (hA61.2 _).trans hW52.2.1
    have hF65 := hA61.fr (fun _ => False)
    have hM66 := hM54.aside hA61
    have hO67 := hO55.aside hA61
    have hx_hO67 := hO67.next
    have hO68 := hO56.aside hA61
    have hO69 := hO57.aside hA61
    have hlt_n1 : n1 < H59.next := by omega
    have hlt_n41 : n41 < H59.next := by omega
    refine D_l (v := (.i .i64 0)) rfl rfl rfl (r_mv rfl) ?_
    refine D_l (v := (.b true)) rfl rfl rfl (r_bin rfl rfl rfl) ?_
    refine D_l (v := (.b true)) rfl rfl rfl (r_mv rfl) ?_
    refine D_gl (v := (.i .i64 0)) rfl rfl rfl rfl (r_mv rfl) ?_
    refine D_gl (v := (.b false)) rfl rfl rfl rfl (r_bin rfl rfl rfl) ?_
    refine D_gl (v := (.b false)) rfl rfl rfl rfl (r_mv rfl) ?_
    refine D_gr (v := (.agg [(.b pm), (.i .u8 pk), (.i .u16 pq), (.i .u32 pt), (.i .u32 ps), (.sl da26 l.length dc27 dg28)])) rfl rfl rfl rfl (r_ldA rfl hb64 rfl) ?_
    refine D_gr (v := (.agg [(.b pm), (.i .u8 pk), (.i .u16 pq), (.i .u32 pt), (.i .u32 ps), (.sl pa l.length pc 0)])) rfl rfl rfl rfl (r_ldA rfl hb63 rfl) ?_
    refine D_gcall rfl (Ev.mono (theirs_ev h19 hO67.ok pm (by first | exact pk0 | omega) (by first | exact pk1 | omega) pq pt ps (by omega) (by omega) (.inl rfl) (phb.old hok hO67) (by first | omega | (simp only [List.length_take, List.length_drop, List.length_append, List.length_cons, List.length_nil, beN_len] <;> omega)) (by first | omega | (simp only [List.length_take, List.length_drop, List.length_append, List.length_cons, List.length_nil, beN_len] <;> omega))) fun v70 H71 hq72 => ?_)
    obtain ⟨rfl, hK73⟩ := hq72
    have hb74 := (hK73.keep _ (by omega)).trans hb63
    have hb75 := (hK73.keep _ (by omega)).trans hb64
    have hx_hK73 := hK73.next
    have hlt_n1 : n1 < H71.next := by omega
    have hlt_n41 : n41 < H71.next := by omega
    have hM76 := hM66.kp hK73
    have hO77 := hO67.trans hK73
    have hx_hO77 := hO77.next
    have hO78 := hO68.trans hK73
    have hO79 := hO69.trans hK73
    refine And.intro (And.intro (Or.inl rfl) (And.intro (Or.inr (look_run rfl rfl (r_ldA rfl hb75 rfl))) True.intro)) ?_
    refine D_gcall rfl (Ev.mono (alike_ev h14 h22 hO77.ok pm pk pq pt ps dhg29 (dhb32.old hO38.ok hO79) (by first | omega | (simp only [List.length_take, List.length_drop, List.length_append, List.length_cons, List.length_nil, beN_len] <;> omega)) (by first | omega | (simp only [List.length_take, List.length_drop, List.length_append, List.length_cons, List.length_nil, beN_len] <;> omega)) pm pk pq pt ps (.inl rfl) (phb.old hok hO77) (by first | omega | (simp only [List.length_take, List.length_drop, List.length_append, List.length_cons, List.length_nil, beN_len] <;> omega)) (by first | omega | (simp only [List.length_take, List.length_drop, List.length_append, List.length_cons, List.length_nil, beN_len] <;> omega))) fun v80 H81 hq82 => ?_)
    rw [show ((((((pm == pm) && (decide (pk = pk))) && (decide (pq = pq))) && (decide (pt = pt))) && (decide (ps = ps))) && (decide (l = l))) = true by simp only [beq_self_eq_true, decide_true, Bool.and_self]] at hq82
    obtain ⟨rfl, hK83⟩ := hq82
    have hb84 := (hK83.keep _ (by omega)).trans hb74
    have hb85 := (hK83.keep _ (by omega)).trans hb75
    have hx_hK83 := hK83.next
    have hlt_n1 : n1 < H81.next := by omega
    have hlt_n41 : n41 < H81.next := by omega
    have hM86 := hM76.kp hK83
    have hO87 := hO77.trans hK83
    have hx_hO87 := hO87.next
    have hO88 := hO78.trans hK83
    have hO89 := hO79.trans hK83
    refine And.intro (And.intro (Or.inl rfl) True.intro) ?_
    refine D_gl (v := (.b false)) rfl rfl rfl rfl (r_un rfl rfl) ?_
    refine D_gl (v := (.b false)) rfl rfl rfl rfl (r_pick_f rfl rfl) ?_
    refine D_gl (v := (.b false)) rfl rfl rfl rfl (r_mv rfl) ?_
    refine D_gl (v := (.sl oa17 ((encB pm pk pq pt ps l)).length ((encB pm pk pq pt ps l)).length og18)) rfl rfl rfl rfl (r_mv rfl) ?_
    refine D_gcall rfl (Ev.mono (is_ev h23 hO87.ok hog19 (hM86.own.asbs) (by first | omega | (simp only [List.length_take, List.length_drop, List.length_append, List.length_cons, List.length_nil, beN_len] <;> omega)) (by first | omega | (simp only [List.length_take, List.length_drop, List.length_append, List.length_cons, List.length_nil, beN_len] <;> omega))) fun v90 H91 hq92 => ?_)
    rw [is_enc] at hq92
    obtain ⟨rfl, hq92⟩ := hq92
    subst H91
    refine And.intro True.intro ?_
    refine D_gl (v := (.b false)) rfl rfl rfl rfl (r_un rfl rfl) ?_
    refine D_gl (v := (.b false)) rfl rfl rfl rfl (r_pick_f rfl rfl) ?_
    refine D_gl (v := (.b false)) rfl rfl rfl rfl (r_mv rfl) ?_
    refine D_gl (v := (.sl oa17 ((encB pm pk pq pt ps l)).length ((encB pm pk pq pt ps l)).length og18)) rfl rfl rfl rfl (r_mv rfl) ?_
    refine D_gl (v := (.i .i64 ((((12 + l.length) : Nat)) : Int))) rfl rfl rfl rfl (by exact (by rw [← encB_len pm pk pq pt ps l]; exact r_len rfl)) ?_
    refine D_gl (v := (.p (some (n1, 5)))) rfl rfl rfl rfl (r_fadd' rfl rfl) ?_
    refine D_gr (v := (.sl pa l.length pc 0)) rfl rfl rfl rfl (r_ld rfl hb84 rfl) ?_
    refine D_gl (v := (.i .i64 (((l.length : Nat)) : Int))) rfl rfl rfl rfl (r_len rfl) ?_
    refine D_gl (v := (.i .i64 (12 + (((l.length : Nat)) : Int)))) rfl rfl rfl rfl (by exact (r_addi rfl rfl (wrap_i64 (by omega) (by omega)))) ?_
    refine D_gl (v := (.b false)) rfl rfl rfl rfl (by exact (by rw [r_neq rfl rfl, decide_eq_true (by omega)]; rfl)) ?_
    refine D_gl (v := (.b false)) rfl rfl rfl rfl (r_pick_f rfl rfl) ?_
    refine D_l (v := (.b false)) rfl rfl rfl (r_pick_t rfl rfl) ?_
    refine D_nil ?_
    refine C_cond (x := false) rfl (fun h => by cases h) (fun _ => ?_)
    refine C_skip ?_
    refine C_seq ?_
    refine C_region ?_
    refine O_p (.sl ba b.length bc 0) (r_mv rfl) ?_
    refine O_call (Ev.mono (dec_ev h20 h27 h33 h34 h35 h36 h37 h38 h42 hO87.ok (.inl rfl) (bhb.old hok hO87) (by first | omega | (simp only [List.length_take, List.length_drop, List.length_append, List.length_cons, List.length_nil, beN_len] <;> omega)) (by first | omega | (simp only [List.length_take, List.length_drop, List.length_append, List.length_cons, List.length_nil, beN_len] <;> omega)) (by first | omega | (simp only [List.length_take, List.length_drop, List.length_append, List.length_cons, List.length_nil, beN_len] <;> omega))) fun v93 H94 hq95 => ?_)
    obtain ⟨dv105, rfl, hod104, hK103⟩ := hq95
    have hb106 := (hK103.keep _ (by omega)).trans hb84
    have hb107 := (hK103.keep _ (by omega)).trans hb85
    have hx_hK103 := hK103.next
    have hlt_n1 : n1 < H94.next := by omega
    have hlt_n41 : n41 < H94.next := by omega
    have hM108 := hM86.kp hK103
    have hO109 := hO87.trans hK103
    have hx_hO109 := hO109.next
    have hO110 := hO88.trans hK103
    have hO111 := hO89.trans hK103
    obtain ⟨da96, dc97, dg98, rfl, dhg99, dhc100, dhm101, dhb102⟩ := hod104
    have base112 := Old.refl hO109.ok
    have hdl_dv105 := dd_le b
    obtain ⟨⟨hdk0, hdk1⟩, hdq0, hdq1⟩ := dec_rng b
    refine O_p (.tup [(.agg [(.b (dm b)), (.i .u8 (dk b)), (.i .u16 (dq b)), (.i .u32 (dt b)), (.i .u32 (ds b)), (.sl da96 (dd b).length dc97 dg98)]), (.i .i64 (decE b))]) (r_mv rfl) ?_
    refine O_p (.agg [(.b (dm b)), (.i .u8 (dk b)), (.i .u16 (dq b)), (.i .u32 (dt b)), (.i .u32 (ds b)), (.sl da96 (dd b).length dc97 dg98)]) (r_ext rfl rfl) ?_
    refine O_p (.i .i64 (decE b)) (r_ext rfl rfl) ?_
    refine O_alloc fun n113 H114 hN115 => ?_
    have hF116 := hN115.fr (fun _ => False)
    have hb117 := (hF116.keep _ (by exact hlt_n1) (fun h => h)).trans hb106
    have hb118 := (hF116.keep _ (by exact hlt_n41) (fun h => h)).trans hb107
    have hM119 := hM108.anew hN115
    have hO120 := hO109.new hN115
    have hx_hO120 := hO120.next
    have hO121 := hO110.new hN115
    have hO122 := hO111.new hN115
    have hO123 := base112.new hN115
    have hd124 : ¬ ((.sl oa17 ((encB pm pk pq pt ps l)).length ((encB pm pk pq pt ps l)).length og18) : AV).nameOf n113 := hM108.dis (by have := hN115.1; omega)
    have hnm_n113 : n113 = H94.next := hN115.1
    have hnx_H114 : H114.next = H94.next + 1 := hN115.2.1
    have hlt_n1 : n1 < H114.next := by omega
    have hlt_n41 : n41 < H114.next := by omega
    have hlt_n113 : n113 < H114.next := by omega
    refine O_store (vs := [(.b (dm b)), (.i .u8 (dk b)), (.i .u16 (dq b)), (.i .u32 (dt b)), (.i .u32 (ds b)), (.sl da96 (dd b).length dc97 dg98)]) (c' := [(.b (dm b)), (.i .u8 (dk b)), (.i .u16 (dq b)), (.i .u32 (dt b)), (.i .u32 (ds b)), (.sl da96 (dd b).length dc97 dg98)]) rfl (by rfl) hN115.2.2.1 rfl (List.cons_ne_nil _ _) (Nat.le_of_ble_eq_true rfl) rfl fun H125 hW126 => ?_
    have hb127 := (hW126.2.2 _ (by omega)).trans hb117
    have hb128 := (hW126.2.2 _ (by omega)).trans hb118
    have hM129 := hM119.wr hW126 hd124
    have hO130 := hO120.wr hW126 (by omega) (by omega)
    have hx_hO130 := hO130.next
    have hO131 := hO121.wr hW126 (by omega) (by omega)
    have hO132 := hO122.wr hW126 (by omega) (by omega)
    have hO133 := hO123.wr hW126 (by omega) (by omega)
    have hnx_H125 : H125.next = H114.next := hW126.1
    have hlt_n1 : n1 < H125.next := by omega
    have hlt_n41 : n41 < H125.next := by omega
    have hlt_n113 : n113 < H125.next := by omega
    refine O_p (.i .i64 (decE b)) (r_mv rfl) ?_
    refine O_nil ?_
    refine C_seq ?_
    refine C_region ?_
    refine O_p (.agg [(.b (dm b)), (.i .u8 (dk b)), (.i .u16 (dq b)), (.i .u32 (dt b)), (.i .u32 (ds b)), (.sl da96 (dd b).length dc97 dg98)]) (r_ldA rfl hW126.2.1 rfl) ?_
    refine O_call (Ev.mono (enc_ev h17 h26 h30 h31 h41 hO130.ok (dm b) (by first | exact (dk_rng b).1 | omega) (by first | exact (dk_rng b).2 | omega) (dq b) (dt b) (ds b) (by omega) (by omega) dhg99 (dhb102.old hO109.ok hO133) (by first | omega | (simp only [List.length_take, List.length_drop, List.length_append, List.length_cons, List.length_nil, beN_len] <;> omega)) (by first | omega | (simp only [List.length_take, List.length_drop, List.length_append, List.length_cons, List.length_nil, beN_len] <;> omega)) (by first | omega | (simp only [List.length_take, List.length_drop, List.length_append, List.length_cons, List.length_nil, beN_len] <;> omega))) fun v134 H135 hq136 => ?_)
    obtain ⟨o137, rfl, hM138, hK139⟩ := hq136
    have hb140 := (hK139.keep _ (by omega)).trans hb127
    have hb141 := (hK139.keep _ (by omega)).trans hb128
    have hb142 := (hK139.keep _ (by omega)).trans hW126.2.1
    have hx_hK139 := hK139.next
    have hlt_n1 : n1 < H135.next := by omega
    have hlt_n41 : n41 < H135.next := by omega
    have hlt_n113 : n113 < H135.next := by omega
    have hM143 := hM129.kp hK139
    have hO144 := hO130.trans hK139
    have hx_hO144 := hO144.next
    have hO145 := hO131.trans hK139
    have hO146 := hO132.trans hK139
    have hO147 := hO133.trans hK139
    have hM148 := hM138.down (N := H.next) (by omega)
    have hel_o137 := enc_le (dm b) (dk b) (dq b) (dt b) (ds b) (dd b)
    have hd149 : ¬ o137.nameOf n1 := fun hq => by have := hM138.new _ hq; omega
    have hd150 : ¬ o137.nameOf n41 := fun hq => by have := hM138.new _ hq; omega
    have hd151 : ¬ o137.nameOf n113 := fun hq => by have := hM138.new _ hq; omega
    refine O_p (.tup [o137, (.i .i64 (rightN (dk b) (dd b).length))]) (r_mv rfl) ?_
    refine O_p o137 (r_ext rfl rfl) ?_
    refine O_p (.i .i64 (rightN (dk b) (dd b).length)) (r_ext rfl rfl) ?_
    refine O_p o137 (r_mv rfl) ?_
    refine O_p (.i .i64 (rightN (dk b) (dd b).length)) (r_mv rfl) ?_
    refine O_nil ?_
    refine C_seq ?_
    refine C_region ?_
    refine O_p (.b true) (r_mv rfl) ?_
    refine O_p (.b true) (r_mv rfl) ?_
    refine O_gs (v := (.i .i64 0)) rfl (r_mv rfl) ?_
    refine O_gs (v := (.b true)) rfl (r_bin rfl rfl rfl) ?_
    refine O_gs (v := (.b true)) rfl (r_mv rfl) ?_
    refine O_gf rfl ?_
    refine O_gf rfl ?_
    refine O_gf rfl ?_
    refine O_gs (v := (.b true)) rfl (r_pick_t rfl rfl) ?_
    refine O_p (.b true) (r_pick_t rfl rfl) ?_
    refine O_p (.b true) (r_mv rfl) ?_
    refine O_gs (v := (.i .i64 (decE b))) rfl (r_mv rfl) ?_
    refine O_gs (v := (.b true)) rfl (by exact (by rw [r_neq rfl rfl, decide_eq_false hg]; rfl)) ?_
    refine O_gs (v := (.b true)) rfl (r_mv rfl) ?_
    refine O_gf rfl ?_
    refine O_gf rfl ?_
    refine O_gf rfl ?_
    refine O_gu rfl ?_
    refine O_gu rfl ?_
    refine O_gu rfl ?_
    refine O_gf rfl ?_
    refine O_gs (v := (.b true)) rfl (r_pick_t rfl rfl) ?_
    refine O_p (.b true) (r_pick_t rfl rfl) ?_
    refine O_p (.b true) (r_mv rfl) ?_
    refine O_nil ?_
    refine C_ret ?_
    exact ⟨.inr rfl, _, resL_one (r_tmp (v := .b true) rfl), rfl⟩
theorem run7iv (H : AH) (hok : H.Ok) (pm : Bool) (pk : Int) (w1 : (Lit.int .u8 pk).wf = true) (pq : Int) (w2 : (Lit.int .u16 pq).wf = true) (pt : Int) (w3 : (Lit.int .u32 pt).wf = true) (ps : Int) (w4 : (Lit.int .u32 ps).wf = true) (pa : Option (Nat × Nat)) (pc : Nat) (l : List UInt8) (phb : Bs H (.sl pa l.length pc 0) l) (phc : l.length ≤ pc) (phm0 : pc ≤ maxLen) (ba : Option (Nat × Nat)) (bc : Nat) (b : List UInt8) (bhb : Bs H (.sl ba b.length bc 0) b) (bhc : b.length ≤ bc) (bhm0 : bc ≤ maxLen) (hr : ¬ rightN pk l.length = 0) (hg : decE b = 0) : Ev tabA spA (.fn (.func 7) [] []) [.agg [.b pm, .i .u8 pk, .i .u16 pq, .i .u32 pt, .i .u32 ps, .sl pa l.length pc 0], .sl ba b.length bc 0] H (fun v _ => v = .b true) := by
  obtain ⟨pt0, pt1⟩ : 0 ≤ pt ∧ pt < 4294967296 := by simp [Lit.wf, IntKind.wrap, IntKind.signed, IntKind.bits, IntKind.min, IntKind.max] at w3; omega
  obtain ⟨ps0, ps1⟩ : 0 ≤ ps ∧ ps < 4294967296 := by simp [Lit.wf, IntKind.wrap, IntKind.signed, IntKind.bits, IntKind.min, IntKind.max] at w4; omega
  obtain ⟨g1, g2⟩ := enc_dec hg
  refine Ev_C (F := x7) rfl ?_
  obtain ⟨pk0, pk1⟩ : 0 ≤ pk ∧ pk < 256 := by simp [Lit.wf, IntKind.wrap, IntKind.signed, IntKind.bits, IntKind.min, IntKind.max] at w1; omega
  obtain ⟨pq0, pq1⟩ : 0 ≤ pq ∧ pq < 65536 := by simp [Lit.wf, IntKind.wrap, IntKind.signed, IntKind.bits, IntKind.min, IntKind.max] at w2; omega
  have hO0 := Old.refl hok
  have phm : pc ≤ 9223372036854775807 := phm0
  have bhm : bc ≤ 9223372036854775807 := bhm0
  have h14 : tabA 14 = some x14 := rfl
  have h17 : tabA 17 = some x17 := rfl
  have h18 : tabA 18 = some x18 := rfl
  have h19 : tabA 19 = some x19 := rfl
  have h20 : tabA 20 = some x20 := rfl
  have h21 : tabA 21 = some x21 := rfl
  have h22 : tabA 22 = some x22 := rfl
  have h23 : tabA 23 = some x23 := rfl
  have h26 : tabA 26 = some x26 := rfl
  have h27 : tabA 27 = some x27 := rfl
  have h30 : tabA 30 = some x30 := rfl
  have h31 : tabA 31 = some x31 := rfl
  have h32 : tabA 32 = some x32 := rfl
  have h33 : tabA 33 = some x33 := rfl
  have h34 : tabA 34 = some x34 := rfl
  have h35 : tabA 35 = some x35 := rfl
  have h36 : tabA 36 = some x36 := rfl
  have h37 : tabA 37 = some x37 := rfl
  have h38 : tabA 38 = some x38 := rfl
  have h39 : tabA 39 = some x39 := rfl
  have h41 : tabA 41 = some x41 := rfl
  have h42 : tabA 42 = some x42 := rfl
  refine C_seq ?_
  refine C_region ?_
  refine O_box (z := [(.b pm), (.i .u8 pk), (.i .u16 pq), (.i .u32 pt), (.i .u32 ps), (.sl pa l.length pc 0)]) rfl fun n1 H2 hN3 => ?_
  have hF4 := hN3.fr (fun _ => False)
  have hO5 := hO0.new hN3
  have hx_hO5 := hO5.next
  have hnm_n1 : n1 = H.next := hN3.1
  have hnx_H2 : H2.next = H.next + 1 := hN3.2.1
  have hlt_n1 : n1 < H2.next := by omega
  refine O_p (.b false) (r_mv rfl) ?_
  refine O_nil ?_
  refine C_seq ?_
  refine C_region ?_
  refine O_call (Ev_sp (v := (.b true)) rfl rfl ?_)
  refine O_p (.b true) (r_mv rfl) ?_
  refine O_nil ?_
  refine C_seq ?_
  refine C_seq ?_
  refine C_region ?_
  refine O_p (.p (some (n1, 5))) (r_fadd' rfl rfl) ?_
  refine O_p (.sl pa l.length pc 0) (r_ld rfl hN3.2.2.1 rfl) ?_
  refine O_p (.i .i64 (((l.length : Nat)) : Int)) (r_len rfl) ?_
  refine O_p (.b (decide (1500 < (((l.length : Nat)) : Int)))) (r_gtr rfl rfl) ?_
  refine O_p (.b (decide (1500 < (((l.length : Nat)) : Int)))) (r_mv rfl) ?_
  refine O_gx (e := (!(decide (1500 < (((l.length : Nat)) : Int))))) (v := (.sl ba b.length bc 0)) (wf rfl) (fun he => (r_mv rfl)) ?_
  refine O_gx (e := (!(decide (1500 < (((l.length : Nat)) : Int))))) (v := (.i .i64 (((b.length : Nat)) : Int))) (wf rfl) (fun he => (r_len (cond_pos he))) ?_
  refine O_gx (e := (!(decide (1500 < (((l.length : Nat)) : Int))))) (v := (.b (decide (1500 < (((b.length : Nat)) : Int))))) (wf rfl) (fun he => (r_gtr (cond_pos he) rfl)) ?_
  refine O_p (.b ((decide (1500 < (((l.length : Nat)) : Int))) || (decide (1500 < (((b.length : Nat)) : Int))))) (r_pick_or rfl rfl rfl rfl) ?_
  refine O_nil ?_
  refine C_cond (x := ((decide (1500 < (((l.length : Nat)) : Int))) || (decide (1500 < (((b.length : Nat)) : Int))))) rfl (fun hc6 => ?_) (fun hc6 => ?_)
  ·
    simp only [decide_eq_true_eq, decide_eq_false_iff_not, Bool.not_eq_true', Bool.not_eq_false', Bool.and_eq_true, Bool.or_eq_true, Bool.or_eq_false_iff, Bool.not_not] at hc6
    refine C_seq ?_
    refine C_region ?_
    refine O_p (.b true) (r_mv rfl) ?_
    refine O_p (.b true) (r_mv rfl) ?_
    refine O_nil ?_
    refine C_ret ?_
    refine nx_ret ?_
    exact ⟨.inr rfl, _, resL_one (r_tmp (v := .b true) rfl), rfl⟩
  ·
    simp only [decide_eq_true_eq, decide_eq_false_iff_not, Bool.not_eq_true', Bool.not_eq_false', Bool.and_eq_true, Bool.or_eq_true, Bool.or_eq_false_iff, Bool.not_not] at hc6
    refine C_skip ?_
    refine C_seq ?_
    refine C_region ?_
    refine O_p (.agg [(.b pm), (.i .u8 pk), (.i .u16 pq), (.i .u32 pt), (.i .u32 ps), (.sl pa l.length pc 0)]) (r_ldA rfl hN3.2.2.1 rfl) ?_
    refine O_call (Ev.mono (enc_ev h17 h26 h30 h31 h41 hO5.ok pm (by first | exact pk0 | omega) (by first | exact pk1 | omega) pq pt ps (by omega) (by omega) (.inl rfl) (phb.old hok hO5) (by first | omega | (simp only [List.length_take, List.length_drop, List.length_append, List.length_cons, List.length_nil, beN_len] <;> omega)) (by first | omega | (simp only [List.length_take, List.length_drop, List.length_append, List.length_cons, List.length_nil, beN_len] <;> omega)) (by first | omega | (simp only [List.length_take, List.length_drop, List.length_append, List.length_cons, List.length_nil, beN_len] <;> omega))) fun v7 H8 hq9 => ?_)
    rw [show enc pm pk pq pt ps l = [] from if_neg hr] at hq9
    obtain ⟨o10, rfl, hM11, hK12⟩ := hq9
    have hb13 := (hK12.keep _ (by omega)).trans hN3.2.2.1
    have hx_hK12 := hK12.next
    have hlt_n1 : n1 < H8.next := by omega
    have hO14 := hO5.trans hK12
    have hx_hO14 := hO14.next
    have hM15 := hM11.down (N := H.next) (by omega)
    have hd16 : ¬ o10.nameOf n1 := fun hq => by have := hM11.new _ hq; omega
    refine O_p (.tup [o10, (.i .i64 (rightN pk l.length))]) (r_mv rfl) ?_
    refine O_p o10 (r_ext rfl rfl) ?_
    refine O_p (.i .i64 (rightN pk l.length)) (r_ext rfl rfl) ?_
    refine O_p o10 (r_mv rfl) ?_
    refine O_p (.i .i64 (rightN pk l.length)) (r_mv rfl) ?_
    refine O_nil ?_
    refine C_seq ?_
    refine C_region ?_
    refine O_p o10 (r_mv rfl) ?_
    have hsf21 : Own 1 H8 o10 (bcells ([] : List UInt8)) := hM15.own
    obtain ⟨oa17, og18, rfl, hog19, hob20⟩ := hsf21.bs
    have base22 := Old.refl hO14.ok
    refine O_call (Ev.mono (dec_ev h20 h27 h33 h34 h35 h36 h37 h38 h42 hO14.ok hog19 (hM15.own.asbs) (by first | omega | (simp only [List.length_take, List.length_drop, List.length_append, List.length_cons, List.length_nil, beN_len] <;> omega)) (by first | omega | (simp only [List.length_take, List.length_drop, List.length_append, List.length_cons, List.length_nil, beN_len] <;> omega)) (by first | omega | (simp only [List.length_take, List.length_drop, List.length_append, List.length_cons, List.length_nil, beN_len] <;> omega))) fun v23 H24 hq25 => ?_)
    obtain ⟨dv35, rfl, hod34, hK33⟩ := hq25
    have hb36 := (hK33.keep _ (by omega)).trans hb13
    have hx_hK33 := hK33.next
    have hlt_n1 : n1 < H24.next := by omega
    have hM37 := hM15.kp hK33
    have hO38 := hO14.trans hK33
    have hx_hO38 := hO38.next
    have hO39 := base22.trans hK33
    obtain ⟨da26, dc27, dg28, rfl, dhg29, dhc30, dhm31, dhb32⟩ := hod34
    have base40 := Old.refl hO38.ok
    have hdl_dv35 := dd_le ([] : List UInt8)
    obtain ⟨⟨hdk0, hdk1⟩, hdq0, hdq1⟩ := dec_rng ([] : List UInt8)
    refine O_p (.tup [(.agg [(.b (dm ([] : List UInt8))), (.i .u8 (dk ([] : List UInt8))), (.i .u16 (dq ([] : List UInt8))), (.i .u32 (dt ([] : List UInt8))), (.i .u32 (ds ([] : List UInt8))), (.sl da26 (dd ([] : List UInt8)).length dc27 dg28)]), (.i .i64 (decE ([] : List UInt8)))]) (r_mv rfl) ?_
    refine O_p (.agg [(.b (dm ([] : List UInt8))), (.i .u8 (dk ([] : List UInt8))), (.i .u16 (dq ([] : List UInt8))), (.i .u32 (dt ([] : List UInt8))), (.i .u32 (ds ([] : List UInt8))), (.sl da26 (dd ([] : List UInt8)).length dc27 dg28)]) (r_ext rfl rfl) ?_
    refine O_p (.i .i64 (decE ([] : List UInt8))) (r_ext rfl rfl) ?_
    refine O_alloc fun n41 H42 hN43 => ?_
    have hF44 := hN43.fr (fun _ => False)
    have hb45 := (hF44.keep _ (by exact hlt_n1) (fun h => h)).trans hb36
    have hM46 := hM37.anew hN43
    have hO47 := hO38.new hN43
    have hx_hO47 := hO47.next
    have hO48 := hO39.new hN43
    have hO49 := base40.new hN43
    have hd50 : ¬ ((.sl oa17 (([] : List UInt8)).length (([] : List UInt8)).length og18) : AV).nameOf n41 := hM37.dis (by have := hN43.1; omega)
    have hnm_n41 : n41 = H24.next := hN43.1
    have hnx_H42 : H42.next = H24.next + 1 := hN43.2.1
    have hlt_n1 : n1 < H42.next := by omega
    have hlt_n41 : n41 < H42.next := by omega
    refine O_store (vs := [(.b (dm ([] : List UInt8))), (.i .u8 (dk ([] : List UInt8))), (.i .u16 (dq ([] : List UInt8))), (.i .u32 (dt ([] : List UInt8))), (.i .u32 (ds ([] : List UInt8))), (.sl da26 (dd ([] : List UInt8)).length dc27 dg28)]) (c' := [(.b (dm ([] : List UInt8))), (.i .u8 (dk ([] : List UInt8))), (.i .u16 (dq ([] : List UInt8))), (.i .u32 (dt ([] : List UInt8))), (.i .u32 (ds ([] : List UInt8))), (.sl da26 (dd ([] : List UInt8)).length dc27 dg28)]) rfl (by rfl) hN43.2.2.1 rfl (List.cons_ne_nil _ _) (Nat.le_of_ble_eq_true rfl) rfl fun H51 hW52 => ?_
    have hb53 := (hW52.2.2 _ (by omega)).trans hb45
    have hM54 := hM46.wr hW52 hd50
    have hO55 := hO47.wr hW52 (by omega) (by omega)
    have hx_hO55 := hO55.next
    have hO56 := hO48.wr hW52 (by omega) (by omega)
    have hO57 := hO49.wr hW52 (by omega) (by omega)
    have hnx_H51 : H51.next = H42.next := hW52.1
    have hlt_n1 : n1 < H51.next := by omega
    have hlt_n41 : n41 < H51.next := by omega
    refine O_p (.i .i64 (decE ([] : List UInt8))) (r_mv rfl) ?_
    refine O_nil ?_
    refine C_seq ?_
    refine C_seq ?_
    refine C_draw fun b58 H59 hbase60 hA61 => ?_
    have hnx62 : H59.next = H51.next + 27 := hA61.1
    have hb63 := (hA61.2 _).trans hb53
    have hb64 := (hA61.2 _).trans hW52.2.1
    have hF65 := hA61.fr (fun _ => False)
    have hM66 := hM54.aside hA61
    have hO67 := hO55.aside hA61
    have hx_hO67 := hO67.next
    have hO68 := hO56.aside hA61
    have hO69 := hO57.aside hA61
    have hlt_n1 : n1 < H59.next := by omega
    have hlt_n41 : n41 < H59.next := by omega
    refine D_l (v := (.i .i64 (rightN pk l.length))) rfl rfl rfl (r_mv rfl) ?_
    refine D_l (v := (.b false)) rfl rfl rfl (by exact (by rw [r_eql rfl rfl, decide_eq_false hr])) ?_
    refine D_l (v := (.b false)) rfl rfl rfl (r_mv rfl) ?_
    refine D_gf rfl ?_
    refine D_gf rfl ?_
    refine D_gf rfl ?_
    refine D_gu rfl ?_
    refine D_gu rfl ?_
    refine D_gu rfl ?_
    refine D_gu rfl ?_
    refine D_gu rfl ?_
    refine D_gf rfl ?_
    refine D_gf rfl ?_
    refine D_gu rfl ?_
    refine D_gu rfl ?_
    refine D_gu rfl ?_
    refine D_gf rfl ?_
    refine D_gf rfl ?_
    refine D_gu rfl ?_
    refine D_gu rfl ?_
    refine D_gu rfl ?_
    refine D_gu rfl ?_
    refine D_gu rfl ?_
    refine D_gu rfl ?_
    refine D_gu rfl ?_
    refine D_gf rfl ?_
    refine D_l (v := (.b false)) rfl rfl rfl (r_pick_f rfl rfl) ?_
    refine D_nil ?_
    refine C_cond (x := false) rfl (fun h => by cases h) (fun _ => ?_)
    refine C_skip ?_
    refine C_seq ?_
    refine C_region ?_
    refine O_p (.sl ba b.length bc 0) (r_mv rfl) ?_
    refine O_call (Ev.mono (dec_ev h20 h27 h33 h34 h35 h36 h37 h38 h42 hO67.ok (.inl rfl) (bhb.old hok hO67) (by first | omega | (simp only [List.length_take, List.length_drop, List.length_append, List.length_cons, List.length_nil, beN_len] <;> omega)) (by first | omega | (simp only [List.length_take, List.length_drop, List.length_append, List.length_cons, List.length_nil, beN_len] <;> omega)) (by first | omega | (simp only [List.length_take, List.length_drop, List.length_append, List.length_cons, List.length_nil, beN_len] <;> omega))) fun v70 H71 hq72 => ?_)
    obtain ⟨dv82, rfl, hod81, hK80⟩ := hq72
    have hb83 := (hK80.keep _ (by omega)).trans hb63
    have hb84 := (hK80.keep _ (by omega)).trans hb64
    have hx_hK80 := hK80.next
    have hlt_n1 : n1 < H71.next := by omega
    have hlt_n41 : n41 < H71.next := by omega
    have hM85 := hM66.kp hK80
    have hO86 := hO67.trans hK80
    have hx_hO86 := hO86.next
    have hO87 := hO68.trans hK80
    have hO88 := hO69.trans hK80
    obtain ⟨da73, dc74, dg75, rfl, dhg76, dhc77, dhm78, dhb79⟩ := hod81
    have base89 := Old.refl hO86.ok
    have hdl_dv82 := dd_le b
    obtain ⟨⟨hdk0, hdk1⟩, hdq0, hdq1⟩ := dec_rng b
    refine O_p (.tup [(.agg [(.b (dm b)), (.i .u8 (dk b)), (.i .u16 (dq b)), (.i .u32 (dt b)), (.i .u32 (ds b)), (.sl da73 (dd b).length dc74 dg75)]), (.i .i64 (decE b))]) (r_mv rfl) ?_
    refine O_p (.agg [(.b (dm b)), (.i .u8 (dk b)), (.i .u16 (dq b)), (.i .u32 (dt b)), (.i .u32 (ds b)), (.sl da73 (dd b).length dc74 dg75)]) (r_ext rfl rfl) ?_
    refine O_p (.i .i64 (decE b)) (r_ext rfl rfl) ?_
    refine O_alloc fun n90 H91 hN92 => ?_
    have hF93 := hN92.fr (fun _ => False)
    have hb94 := (hF93.keep _ (by exact hlt_n1) (fun h => h)).trans hb83
    have hb95 := (hF93.keep _ (by exact hlt_n41) (fun h => h)).trans hb84
    have hM96 := hM85.anew hN92
    have hO97 := hO86.new hN92
    have hx_hO97 := hO97.next
    have hO98 := hO87.new hN92
    have hO99 := hO88.new hN92
    have hO100 := base89.new hN92
    have hd101 : ¬ ((.sl oa17 (([] : List UInt8)).length (([] : List UInt8)).length og18) : AV).nameOf n90 := hM85.dis (by have := hN92.1; omega)
    have hnm_n90 : n90 = H71.next := hN92.1
    have hnx_H91 : H91.next = H71.next + 1 := hN92.2.1
    have hlt_n1 : n1 < H91.next := by omega
    have hlt_n41 : n41 < H91.next := by omega
    have hlt_n90 : n90 < H91.next := by omega
    refine O_store (vs := [(.b (dm b)), (.i .u8 (dk b)), (.i .u16 (dq b)), (.i .u32 (dt b)), (.i .u32 (ds b)), (.sl da73 (dd b).length dc74 dg75)]) (c' := [(.b (dm b)), (.i .u8 (dk b)), (.i .u16 (dq b)), (.i .u32 (dt b)), (.i .u32 (ds b)), (.sl da73 (dd b).length dc74 dg75)]) rfl (by rfl) hN92.2.2.1 rfl (List.cons_ne_nil _ _) (Nat.le_of_ble_eq_true rfl) rfl fun H102 hW103 => ?_
    have hb104 := (hW103.2.2 _ (by omega)).trans hb94
    have hb105 := (hW103.2.2 _ (by omega)).trans hb95
    have hM106 := hM96.wr hW103 hd101
    have hO107 := hO97.wr hW103 (by omega) (by omega)
    have hx_hO107 := hO107.next
    have hO108 := hO98.wr hW103 (by omega) (by omega)
    have hO109 := hO99.wr hW103 (by omega) (by omega)
    have hO110 := hO100.wr hW103 (by omega) (by omega)
    have hnx_H102 : H102.next = H91.next := hW103.1
    have hlt_n1 : n1 < H102.next := by omega
    have hlt_n41 : n41 < H102.next := by omega
    have hlt_n90 : n90 < H102.next := by omega
    refine O_p (.i .i64 (decE b)) (r_mv rfl) ?_
    refine O_nil ?_
    refine C_seq ?_
    refine C_region ?_
    refine O_p (.agg [(.b (dm b)), (.i .u8 (dk b)), (.i .u16 (dq b)), (.i .u32 (dt b)), (.i .u32 (ds b)), (.sl da73 (dd b).length dc74 dg75)]) (r_ldA rfl hW103.2.1 rfl) ?_
    refine O_call (Ev.mono (enc_ev h17 h26 h30 h31 h41 hO107.ok (dm b) (by first | exact (dk_rng b).1 | omega) (by first | exact (dk_rng b).2 | omega) (dq b) (dt b) (ds b) (by omega) (by omega) dhg76 (dhb79.old hO86.ok hO110) (by first | omega | (simp only [List.length_take, List.length_drop, List.length_append, List.length_cons, List.length_nil, beN_len] <;> omega)) (by first | omega | (simp only [List.length_take, List.length_drop, List.length_append, List.length_cons, List.length_nil, beN_len] <;> omega)) (by first | omega | (simp only [List.length_take, List.length_drop, List.length_append, List.length_cons, List.length_nil, beN_len] <;> omega))) fun v111 H112 hq113 => ?_)
    rw [g1, enc_ok g1, g2] at hq113
    obtain ⟨o114, rfl, hM115, hK116⟩ := hq113
    have hb117 := (hK116.keep _ (by omega)).trans hb104
    have hb118 := (hK116.keep _ (by omega)).trans hb105
    have hb119 := (hK116.keep _ (by omega)).trans hW103.2.1
    have hx_hK116 := hK116.next
    have hlt_n1 : n1 < H112.next := by omega
    have hlt_n41 : n41 < H112.next := by omega
    have hlt_n90 : n90 < H112.next := by omega
    have hM120 := hM106.kp hK116
    have hO121 := hO107.trans hK116
    have hx_hO121 := hO121.next
    have hO122 := hO108.trans hK116
    have hO123 := hO109.trans hK116
    have hO124 := hO110.trans hK116
    have hM125 := hM115.down (N := H.next) (by omega)
    have hd126 : ¬ o114.nameOf n1 := fun hq => by have := hM115.new _ hq; omega
    have hd127 : ¬ o114.nameOf n41 := fun hq => by have := hM115.new _ hq; omega
    have hd128 : ¬ o114.nameOf n90 := fun hq => by have := hM115.new _ hq; omega
    refine O_p (.tup [o114, (.i .i64 0)]) (r_mv rfl) ?_
    refine O_p o114 (r_ext rfl rfl) ?_
    refine O_p (.i .i64 0) (r_ext rfl rfl) ?_
    refine O_p o114 (r_mv rfl) ?_
    refine O_p (.i .i64 0) (r_mv rfl) ?_
    refine O_nil ?_
    refine C_seq ?_
    refine C_region ?_
    refine O_p (.b true) (r_mv rfl) ?_
    refine O_p (.b true) (r_mv rfl) ?_
    refine O_gs (v := (.i .i64 (rightN pk l.length))) rfl (r_mv rfl) ?_
    refine O_gs (v := (.b false)) rfl (by exact (by rw [r_eql rfl rfl, decide_eq_false hr])) ?_
    refine O_gs (v := (.b false)) rfl (r_mv rfl) ?_
    refine O_gs (v := (.sl oa17 (([] : List UInt8)).length (([] : List UInt8)).length og18)) rfl (r_mv rfl) ?_
    refine O_gs (v := (.i .i64 ((((([] : List UInt8)).length : Nat)) : Int))) rfl (r_len rfl) ?_
    refine O_gs (v := (.b true)) rfl (r_bin rfl rfl rfl) ?_
    refine O_gs (v := (.b true)) rfl (r_pick_f rfl rfl) ?_
    refine O_p (.b true) (r_pick_t rfl rfl) ?_
    refine O_p (.b true) (r_mv rfl) ?_
    refine O_gs (v := (.i .i64 (decE b))) rfl (r_mv rfl) ?_
    refine O_gs (v := (.b false)) rfl (by exact (by rw [r_neq rfl rfl, decide_eq_true hg]; rfl)) ?_
    refine O_gs (v := (.b false)) rfl (r_mv rfl) ?_
    refine O_gs (v := (.i .i64 0)) rfl (r_mv rfl) ?_
    refine O_gs (v := (.b true)) rfl (r_bin rfl rfl rfl) ?_
    refine O_gs (v := (.b true)) rfl (r_mv rfl) ?_
    refine O_gs (v := o114) rfl (r_mv rfl) ?_
    refine O_gs (v := (.sl ba b.length bc 0)) rfl (r_mv rfl) ?_
    have hsf133 : Own 1 H112 o114 (bcells b) := hM125.own
    obtain ⟨oa129, og130, rfl, hog131, hob132⟩ := hsf133.bs
    have base134 := Old.refl hO121.ok
    refine O_gcall rfl (Ev.mono (same_ev h14 hO121.ok hog131 (hM125.own.asbs) (by first | omega | (simp only [List.length_take, List.length_drop, List.length_append, List.length_cons, List.length_nil, beN_len] <;> omega)) (by first | omega | (simp only [List.length_take, List.length_drop, List.length_append, List.length_cons, List.length_nil, beN_len] <;> omega)) (.inl rfl) (bhb.old hok hO121) (by first | omega | (simp only [List.length_take, List.length_drop, List.length_append, List.length_cons, List.length_nil, beN_len] <;> omega)) (by first | omega | (simp only [List.length_take, List.length_drop, List.length_append, List.length_cons, List.length_nil, beN_len] <;> omega))) fun v135 H136 hq137 => ?_)
    rw [show decide (b = b) = true from decide_eq_true rfl] at hq137
    obtain ⟨rfl, hq137⟩ := hq137
    subst H136
    refine O_gs (v := (.b true)) rfl (r_pick_t rfl rfl) ?_
    refine O_gs (v := (.b true)) rfl (r_pick_f rfl rfl) ?_
    refine O_p (.b true) (r_pick_t rfl rfl) ?_
    refine O_p (.b true) (r_mv rfl) ?_
    refine O_nil ?_
    refine C_ret ?_
    exact ⟨.inr rfl, _, resL_one (r_tmp (v := .b true) rfl), rfl⟩
theorem run7ii (H : AH) (hok : H.Ok) (pm : Bool) (pk : Int) (w1 : (Lit.int .u8 pk).wf = true) (pq : Int) (w2 : (Lit.int .u16 pq).wf = true) (pt : Int) (w3 : (Lit.int .u32 pt).wf = true) (ps : Int) (w4 : (Lit.int .u32 ps).wf = true) (pa : Option (Nat × Nat)) (pc : Nat) (l : List UInt8) (phb : Bs H (.sl pa l.length pc 0) l) (phc : l.length ≤ pc) (phm0 : pc ≤ maxLen) (ba : Option (Nat × Nat)) (bc : Nat) (b : List UInt8) (bhb : Bs H (.sl ba b.length bc 0) b) (bhc : b.length ≤ bc) (bhm0 : bc ≤ maxLen) (hr : ¬ rightN pk l.length = 0) (hg : ¬ decE b = 0) : Ev tabA spA (.fn (.func 7) [] []) [.agg [.b pm, .i .u8 pk, .i .u16 pq, .i .u32 pt, .i .u32 ps, .sl pa l.length pc 0], .sl ba b.length bc 0] H (fun v _ => v = .b true) := by
  obtain ⟨pt0, pt1⟩ : 0 ≤ pt ∧ pt < 4294967296 := by simp [Lit.wf, IntKind.wrap, IntKind.signed, IntKind.bits, IntKind.min, IntKind.max] at w3; omega
  obtain ⟨ps0, ps1⟩ : 0 ≤ ps ∧ ps < 4294967296 := by simp [Lit.wf, IntKind.wrap, IntKind.signed, IntKind.bits, IntKind.min, IntKind.max] at w4; omega
  refine Ev_C (F := x7) rfl ?_
  obtain ⟨pk0, pk1⟩ : 0 ≤ pk ∧ pk < 256 := by simp [Lit.wf, IntKind.wrap, IntKind.signed, IntKind.bits, IntKind.min, IntKind.max] at w1; omega
  obtain ⟨pq0, pq1⟩ : 0 ≤ pq ∧ pq < 65536 := by simp [Lit.wf, IntKind.wrap, IntKind.signed, IntKind.bits, IntKind.min, IntKind.max] at w2; omega
  have hO0 := Old.refl hok
  have phm : pc ≤ 9223372036854775807 := phm0
  have bhm : bc ≤ 9223372036854775807 := bhm0
  have h14 : tabA 14 = some x14 := rfl
  have h17 : tabA 17 = some x17 := rfl
  have h18 : tabA 18 = some x18 := rfl
  have h19 : tabA 19 = some x19 := rfl
  have h20 : tabA 20 = some x20 := rfl
  have h21 : tabA 21 = some x21 := rfl
  have h22 : tabA 22 = some x22 := rfl
  have h23 : tabA 23 = some x23 := rfl
  have h26 : tabA 26 = some x26 := rfl
  have h27 : tabA 27 = some x27 := rfl
  have h30 : tabA 30 = some x30 := rfl
  have h31 : tabA 31 = some x31 := rfl
  have h32 : tabA 32 = some x32 := rfl
  have h33 : tabA 33 = some x33 := rfl
  have h34 : tabA 34 = some x34 := rfl
  have h35 : tabA 35 = some x35 := rfl
  have h36 : tabA 36 = some x36 := rfl
  have h37 : tabA 37 = some x37 := rfl
  have h38 : tabA 38 = some x38 := rfl
  have h39 : tabA 39 = some x39 := rfl
  have h41 : tabA 41 = some x41 := rfl
  have h42 : tabA 42 = some x42 := rfl
  refine C_seq ?_
  refine C_region ?_
  refine O_box (z := [(.b pm), (.i .u8 pk), (.i .u16 pq), (.i .u32 pt), (.i .u32 ps), (.sl pa l.length pc 0)]) rfl fun n1 H2 hN3 => ?_
  have hF4 := hN3.fr (fun _ => False)
  have hO5 := hO0.new hN3
  have hx_hO5 := hO5.next
  have hnm_n1 : n1 = H.next := hN3.1
  have hnx_H2 : H2.next = H.next + 1 := hN3.2.1
  have hlt_n1 : n1 < H2.next := by omega
  refine O_p (.b false) (r_mv rfl) ?_
  refine O_nil ?_
  refine C_seq ?_
  refine C_region ?_
  refine O_call (Ev_sp (v := (.b true)) rfl rfl ?_)
  refine O_p (.b true) (r_mv rfl) ?_
  refine O_nil ?_
  refine C_seq ?_
  refine C_seq ?_
  refine C_region ?_
  refine O_p (.p (some (n1, 5))) (r_fadd' rfl rfl) ?_
  refine O_p (.sl pa l.length pc 0) (r_ld rfl hN3.2.2.1 rfl) ?_
  refine O_p (.i .i64 (((l.length : Nat)) : Int)) (r_len rfl) ?_
  refine O_p (.b (decide (1500 < (((l.length : Nat)) : Int)))) (r_gtr rfl rfl) ?_
  refine O_p (.b (decide (1500 < (((l.length : Nat)) : Int)))) (r_mv rfl) ?_
  refine O_gx (e := (!(decide (1500 < (((l.length : Nat)) : Int))))) (v := (.sl ba b.length bc 0)) (wf rfl) (fun he => (r_mv rfl)) ?_
  refine O_gx (e := (!(decide (1500 < (((l.length : Nat)) : Int))))) (v := (.i .i64 (((b.length : Nat)) : Int))) (wf rfl) (fun he => (r_len (cond_pos he))) ?_
  refine O_gx (e := (!(decide (1500 < (((l.length : Nat)) : Int))))) (v := (.b (decide (1500 < (((b.length : Nat)) : Int))))) (wf rfl) (fun he => (r_gtr (cond_pos he) rfl)) ?_
  refine O_p (.b ((decide (1500 < (((l.length : Nat)) : Int))) || (decide (1500 < (((b.length : Nat)) : Int))))) (r_pick_or rfl rfl rfl rfl) ?_
  refine O_nil ?_
  refine C_cond (x := ((decide (1500 < (((l.length : Nat)) : Int))) || (decide (1500 < (((b.length : Nat)) : Int))))) rfl (fun hc6 => ?_) (fun hc6 => ?_)
  ·
    simp only [decide_eq_true_eq, decide_eq_false_iff_not, Bool.not_eq_true', Bool.not_eq_false', Bool.and_eq_true, Bool.or_eq_true, Bool.or_eq_false_iff, Bool.not_not] at hc6
    refine C_seq ?_
    refine C_region ?_
    refine O_p (.b true) (r_mv rfl) ?_
    refine O_p (.b true) (r_mv rfl) ?_
    refine O_nil ?_
    refine C_ret ?_
    refine nx_ret ?_
    exact ⟨.inr rfl, _, resL_one (r_tmp (v := .b true) rfl), rfl⟩
  ·
    simp only [decide_eq_true_eq, decide_eq_false_iff_not, Bool.not_eq_true', Bool.not_eq_false', Bool.and_eq_true, Bool.or_eq_true, Bool.or_eq_false_iff, Bool.not_not] at hc6
    refine C_skip ?_
    refine C_seq ?_
    refine C_region ?_
    refine O_p (.agg [(.b pm), (.i .u8 pk), (.i .u16 pq), (.i .u32 pt), (.i .u32 ps), (.sl pa l.length pc 0)]) (r_ldA rfl hN3.2.2.1 rfl) ?_
    refine O_call (Ev.mono (enc_ev h17 h26 h30 h31 h41 hO5.ok pm (by first | exact pk0 | omega) (by first | exact pk1 | omega) pq pt ps (by omega) (by omega) (.inl rfl) (phb.old hok hO5) (by first | omega | (simp only [List.length_take, List.length_drop, List.length_append, List.length_cons, List.length_nil, beN_len] <;> omega)) (by first | omega | (simp only [List.length_take, List.length_drop, List.length_append, List.length_cons, List.length_nil, beN_len] <;> omega)) (by first | omega | (simp only [List.length_take, List.length_drop, List.length_append, List.length_cons, List.length_nil, beN_len] <;> omega))) fun v7 H8 hq9 => ?_)
    rw [show enc pm pk pq pt ps l = [] from if_neg hr] at hq9
    obtain ⟨o10, rfl, hM11, hK12⟩ := hq9
    have hb13 := (hK12.keep _ (by omega)).trans hN3.2.2.1
    have hx_hK12 := hK12.next
    have hlt_n1 : n1 < H8.next := by omega
    have hO14 := hO5.trans hK12
    have hx_hO14 := hO14.next
    have hM15 := hM11.down (N := H.next) (by omega)
    have hd16 : ¬ o10.nameOf n1 := fun hq => by have := hM11.new _ hq; omega
    refine O_p (.tup [o10, (.i .i64 (rightN pk l.length))]) (r_mv rfl) ?_
    refine O_p o10 (r_ext rfl rfl) ?_
    refine O_p (.i .i64 (rightN pk l.length)) (r_ext rfl rfl) ?_
    refine O_p o10 (r_mv rfl) ?_
    refine O_p (.i .i64 (rightN pk l.length)) (r_mv rfl) ?_
    refine O_nil ?_
    refine C_seq ?_
    refine C_region ?_
    refine O_p o10 (r_mv rfl) ?_
    have hsf21 : Own 1 H8 o10 (bcells ([] : List UInt8)) := hM15.own
    obtain ⟨oa17, og18, rfl, hog19, hob20⟩ := hsf21.bs
    have base22 := Old.refl hO14.ok
    refine O_call (Ev.mono (dec_ev h20 h27 h33 h34 h35 h36 h37 h38 h42 hO14.ok hog19 (hM15.own.asbs) (by first | omega | (simp only [List.length_take, List.length_drop, List.length_append, List.length_cons, List.length_nil, beN_len] <;> omega)) (by first | omega | (simp only [List.length_take, List.length_drop, List.length_append, List.length_cons, List.length_nil, beN_len] <;> omega)) (by first | omega | (simp only [List.length_take, List.length_drop, List.length_append, List.length_cons, List.length_nil, beN_len] <;> omega))) fun v23 H24 hq25 => ?_)
    obtain ⟨dv35, rfl, hod34, hK33⟩ := hq25
    have hb36 := (hK33.keep _ (by omega)).trans hb13
    have hx_hK33 := hK33.next
    have hlt_n1 : n1 < H24.next := by omega
    have hM37 := hM15.kp hK33
    have hO38 := hO14.trans hK33
    have hx_hO38 := hO38.next
    have hO39 := base22.trans hK33
    obtain ⟨da26, dc27, dg28, rfl, dhg29, dhc30, dhm31, dhb32⟩ := hod34
    have base40 := Old.refl hO38.ok
    have hdl_dv35 := dd_le ([] : List UInt8)
    obtain ⟨⟨hdk0, hdk1⟩, hdq0, hdq1⟩ := dec_rng ([] : List UInt8)
    refine O_p (.tup [(.agg [(.b (dm ([] : List UInt8))), (.i .u8 (dk ([] : List UInt8))), (.i .u16 (dq ([] : List UInt8))), (.i .u32 (dt ([] : List UInt8))), (.i .u32 (ds ([] : List UInt8))), (.sl da26 (dd ([] : List UInt8)).length dc27 dg28)]), (.i .i64 (decE ([] : List UInt8)))]) (r_mv rfl) ?_
    refine O_p (.agg [(.b (dm ([] : List UInt8))), (.i .u8 (dk ([] : List UInt8))), (.i .u16 (dq ([] : List UInt8))), (.i .u32 (dt ([] : List UInt8))), (.i .u32 (ds ([] : List UInt8))), (.sl da26 (dd ([] : List UInt8)).length dc27 dg28)]) (r_ext rfl rfl) ?_
    refine O_p (.i .i64 (decE ([] : List UInt8))) (r_ext rfl rfl) ?_
    refine O_alloc fun n41 H42 hN43 => ?_
    have hF44 := hN43.fr (fun _ => False)
    have hb45 := (hF44.keep _ (by exact hlt_n1) (fun h => h)).trans hb36
    have hM46 := hM37.anew hN43
    have hO47 := hO38.new hN43
    have hx_hO47 := hO47.next
    have hO48 := hO39.new hN43
    have hO49 := base40.new hN43
    have hd50 : ¬ ((.sl oa17 (([] : List UInt8)).length (([] : List UInt8)).length og18) : AV).nameOf n41 := hM37.dis (by have := hN43.1; omega)
    have hnm_n41 : n41 = H24.next := hN43.1
    have hnx_H42 : H42.next = H24.next + 1 := hN43.2.1
    have hlt_n1 : n1 < H42.next := by omega
    have hlt_n41 : n41 < H42.next := by omega
    refine O_store (vs := [(.b (dm ([] : List UInt8))), (.i .u8 (dk ([] : List UInt8))), (.i .u16 (dq ([] : List UInt8))), (.i .u32 (dt ([] : List UInt8))), (.i .u32 (ds ([] : List UInt8))), (.sl da26 (dd ([] : List UInt8)).length dc27 dg28)]) (c' := [(.b (dm ([] : List UInt8))), (.i .u8 (dk ([] : List UInt8))), (.i .u16 (dq ([] : List UInt8))), (.i .u32 (dt ([] : List UInt8))), (.i .u32 (ds ([] : List UInt8))), (.sl da26 (dd ([] : List UInt8)).length dc27 dg28)]) rfl (by rfl) hN43.2.2.1 rfl (List.cons_ne_nil _ _) (Nat.le_of_ble_eq_true rfl) rfl fun H51 hW52 => ?_
    have hb53 := (hW52.2.2 _ (by omega)).trans hb45
    have hM54 := hM46.wr hW52 hd50
    have hO55 := hO47.wr hW52 (by omega) (by omega)
    have hx_hO55 := hO55.next
    have hO56 := hO48.wr hW52 (by omega) (by omega)
    have hO57 := hO49.wr hW52 (by omega) (by omega)
    have hnx_H51 : H51.next = H42.next := hW52.1
    have hlt_n1 : n1 < H51.next := by omega
    have hlt_n41 : n41 < H51.next := by omega
    refine O_p (.i .i64 (decE ([] : List UInt8))) (r_mv rfl) ?_
    refine O_nil ?_
    refine C_seq ?_
    refine C_seq ?_
    refine C_draw fun b58 H59 hbase60 hA61 => ?_
    have hnx62 : H59.next = H51.next + 27 := hA61.1
    have hb63 := (hA61.2 _).trans hb53
    have hb64 := (hA61.2 _).trans hW52.2.1
    have hF65 := hA61.fr (fun _ => False)
    have hM66 := hM54.aside hA61
    have hO67 := hO55.aside hA61
    have hx_hO67 := hO67.next
    have hO68 := hO56.aside hA61
    have hO69 := hO57.aside hA61
    have hlt_n1 : n1 < H59.next := by omega
    have hlt_n41 : n41 < H59.next := by omega
    refine D_l (v := (.i .i64 (rightN pk l.length))) rfl rfl rfl (r_mv rfl) ?_
    refine D_l (v := (.b false)) rfl rfl rfl (by exact (by rw [r_eql rfl rfl, decide_eq_false hr])) ?_
    refine D_l (v := (.b false)) rfl rfl rfl (r_mv rfl) ?_
    refine D_gf rfl ?_
    refine D_gf rfl ?_
    refine D_gf rfl ?_
    refine D_gu rfl ?_
    refine D_gu rfl ?_
    refine D_gu rfl ?_
    refine D_gu rfl ?_
    refine D_gu rfl ?_
    refine D_gf rfl ?_
    refine D_gf rfl ?_
    refine D_gu rfl ?_
    refine D_gu rfl ?_
    refine D_gu rfl ?_
    refine D_gf rfl ?_
    refine D_gf rfl ?_
    refine D_gu rfl ?_
    refine D_gu rfl ?_
    refine D_gu rfl ?_
    refine D_gu rfl ?_
    refine D_gu rfl ?_
    refine D_gu rfl ?_
    refine D_gu rfl ?_
    refine D_gf rfl ?_
    refine D_l (v := (.b false)) rfl rfl rfl (r_pick_f rfl rfl) ?_
    refine D_nil ?_
    refine C_cond (x := false) rfl (fun h => by cases h) (fun _ => ?_)
    refine C_skip ?_
    refine C_seq ?_
    refine C_region ?_
    refine O_p (.sl ba b.length bc 0) (r_mv rfl) ?_
    refine O_call (Ev.mono (dec_ev h20 h27 h33 h34 h35 h36 h37 h38 h42 hO67.ok (.inl rfl) (bhb.old hok hO67) (by first | omega | (simp only [List.length_take, List.length_drop, List.length_append, List.length_cons, List.length_nil, beN_len] <;> omega)) (by first | omega | (simp only [List.length_take, List.length_drop, List.length_append, List.length_cons, List.length_nil, beN_len] <;> omega)) (by first | omega | (simp only [List.length_take, List.length_drop, List.length_append, List.length_cons, List.length_nil, beN_len] <;> omega))) fun v70 H71 hq72 => ?_)
    obtain ⟨dv82, rfl, hod81, hK80⟩ := hq72
    have hb83 := (hK80.keep _ (by omega)).trans hb63
    have hb84 := (hK80.keep _ (by omega)).trans hb64
    have hx_hK80 := hK80.next
    have hlt_n1 : n1 < H71.next := by omega
    have hlt_n41 : n41 < H71.next := by omega
    have hM85 := hM66.kp hK80
    have hO86 := hO67.trans hK80
    have hx_hO86 := hO86.next
    have hO87 := hO68.trans hK80
    have hO88 := hO69.trans hK80
    obtain ⟨da73, dc74, dg75, rfl, dhg76, dhc77, dhm78, dhb79⟩ := hod81
    have base89 := Old.refl hO86.ok
    have hdl_dv82 := dd_le b
    obtain ⟨⟨hdk0, hdk1⟩, hdq0, hdq1⟩ := dec_rng b
    refine O_p (.tup [(.agg [(.b (dm b)), (.i .u8 (dk b)), (.i .u16 (dq b)), (.i .u32 (dt b)), (.i .u32 (ds b)), (.sl da73 (dd b).length dc74 dg75)]), (.i .i64 (decE b))]) (r_mv rfl) ?_
    refine O_p (.agg [(.b (dm b)), (.i .u8 (dk b)), (.i .u16 (dq b)), (.i .u32 (dt b)), (.i .u32 (ds b)), (.sl da73 (dd b).length dc74 dg75)]) (r_ext rfl rfl) ?_
    refine O_p (.i .i64 (decE b)) (r_ext rfl rfl) ?_
    refine O_alloc fun n90 H91 hN92 => ?_
    have hF93 := hN92.fr (fun _ => False)
    have hb94 := (hF93.keep _ (by exact hlt_n1) (fun h => h)).trans hb83
    have hb95 := (hF93.keep _ (by exact hlt_n41) (fun h => h)).trans hb84
    have hM96 := hM85.anew hN92
    have hO97 := hO86.new hN92
    have hx_hO97 := hO97.next
    have hO98 := hO87.new hN92
    have hO99 := hO88.new hN92
    have hO100 := base89.new hN92
    have hd101 : ¬ ((.sl oa17 (([] : List UInt8)).length (([] : List UInt8)).length og18) : AV).nameOf n90 := hM85.dis (by have := hN92.1; omega)
    have hnm_n90 : n90 = H71.next := hN92.1
    have hnx_H91 : H91.next = H71.next + 1 := hN92.2.1
    have hlt_n1 : n1 < H91.next := by omega
    have hlt_n41 : n41 < H91.next := by omega
    have hlt_n90 : n90 < H91.next := by omega
    refine O_store (vs := [(.b (dm b)), (.i .u8 (dk b)), (.i .u16 (dq b)), (.i .u32 (dt b)), (.i .u32 (ds b)), (.sl da73 (dd b).length dc74 dg75)]) (c' := [(.b (dm b)), (.i .u8 (dk b)), (.i .u16 (dq b)), (.i .u32 (dt b)), (.i .u32 (ds b)), (.sl da73 (dd b).length dc74 dg75)]) rfl (by rfl) hN92.2.2.1 rfl (List.cons_ne_nil _ _) (Nat.le_of_ble_eq_true rfl) rfl fun H102 hW103 => ?_
    have hb104 := (hW103.2.2 _ (by omega)).trans hb94
    have hb105 := (hW103.2.2 _ (by omega)).trans hb95
    have hM106 := hM96.wr hW103 hd101
    have hO107 := hO97.wr hW103 (by omega) (by omega)
    have hx_hO107 := hO107.next
    have hO108 := hO98.wr hW103 (by omega) (by omega)
    have hO109 := hO99.wr hW103 (by omega) (by omega)
    have hO110 := hO100.wr hW103 (by omega) (by omega)
    have hnx_H102 : H102.next = H91.next := hW103.1
    have hlt_n1 : n1 < H102.next := by omega
    have hlt_n41 : n41 < H102.next := by omega
    have hlt_n90 : n90 < H102.next := by omega
    refine O_p (.i .i64 (decE b)) (r_mv rfl) ?_
    refine O_nil ?_
    refine C_seq ?_
    refine C_region ?_
    refine O_p (.agg [(.b (dm b)), (.i .u8 (dk b)), (.i .u16 (dq b)), (.i .u32 (dt b)), (.i .u32 (ds b)), (.sl da73 (dd b).length dc74 dg75)]) (r_ldA rfl hW103.2.1 rfl) ?_
    refine O_call (Ev.mono (enc_ev h17 h26 h30 h31 h41 hO107.ok (dm b) (by first | exact (dk_rng b).1 | omega) (by first | exact (dk_rng b).2 | omega) (dq b) (dt b) (ds b) (by omega) (by omega) dhg76 (dhb79.old hO86.ok hO110) (by first | omega | (simp only [List.length_take, List.length_drop, List.length_append, List.length_cons, List.length_nil, beN_len] <;> omega)) (by first | omega | (simp only [List.length_take, List.length_drop, List.length_append, List.length_cons, List.length_nil, beN_len] <;> omega)) (by first | omega | (simp only [List.length_take, List.length_drop, List.length_append, List.length_cons, List.length_nil, beN_len] <;> omega))) fun v111 H112 hq113 => ?_)
    obtain ⟨o114, rfl, hM115, hK116⟩ := hq113
    have hb117 := (hK116.keep _ (by omega)).trans hb104
    have hb118 := (hK116.keep _ (by omega)).trans hb105
    have hb119 := (hK116.keep _ (by omega)).trans hW103.2.1
    have hx_hK116 := hK116.next
    have hlt_n1 : n1 < H112.next := by omega
    have hlt_n41 : n41 < H112.next := by omega
    have hlt_n90 : n90 < H112.next := by omega
    have hM120 := hM106.kp hK116
    have hO121 := hO107.trans hK116
    have hx_hO121 := hO121.next
    have hO122 := hO108.trans hK116
    have hO123 := hO109.trans hK116
    have hO124 := hO110.trans hK116
    have hM125 := hM115.down (N := H.next) (by omega)
    have hel_o114 := enc_le (dm b) (dk b) (dq b) (dt b) (ds b) (dd b)
    have hd126 : ¬ o114.nameOf n1 := fun hq => by have := hM115.new _ hq; omega
    have hd127 : ¬ o114.nameOf n41 := fun hq => by have := hM115.new _ hq; omega
    have hd128 : ¬ o114.nameOf n90 := fun hq => by have := hM115.new _ hq; omega
    refine O_p (.tup [o114, (.i .i64 (rightN (dk b) (dd b).length))]) (r_mv rfl) ?_
    refine O_p o114 (r_ext rfl rfl) ?_
    refine O_p (.i .i64 (rightN (dk b) (dd b).length)) (r_ext rfl rfl) ?_
    refine O_p o114 (r_mv rfl) ?_
    refine O_p (.i .i64 (rightN (dk b) (dd b).length)) (r_mv rfl) ?_
    refine O_nil ?_
    refine C_seq ?_
    refine C_region ?_
    refine O_p (.b true) (r_mv rfl) ?_
    refine O_p (.b true) (r_mv rfl) ?_
    refine O_gs (v := (.i .i64 (rightN pk l.length))) rfl (r_mv rfl) ?_
    refine O_gs (v := (.b false)) rfl (by exact (by rw [r_eql rfl rfl, decide_eq_false hr])) ?_
    refine O_gs (v := (.b false)) rfl (r_mv rfl) ?_
    refine O_gs (v := (.sl oa17 (([] : List UInt8)).length (([] : List UInt8)).length og18)) rfl (r_mv rfl) ?_
    refine O_gs (v := (.i .i64 ((((([] : List UInt8)).length : Nat)) : Int))) rfl (r_len rfl) ?_
    refine O_gs (v := (.b true)) rfl (r_bin rfl rfl rfl) ?_
    refine O_gs (v := (.b true)) rfl (r_pick_f rfl rfl) ?_
    refine O_p (.b true) (r_pick_t rfl rfl) ?_
    refine O_p (.b true) (r_mv rfl) ?_
    refine O_gs (v := (.i .i64 (decE b))) rfl (r_mv rfl) ?_
    refine O_gs (v := (.b true)) rfl (by exact (by rw [r_neq rfl rfl, decide_eq_false hg]; rfl)) ?_
    refine O_gs (v := (.b true)) rfl (r_mv rfl) ?_
    refine O_gf rfl ?_
    refine O_gf rfl ?_
    refine O_gf rfl ?_
    refine O_gu rfl ?_
    refine O_gu rfl ?_
    refine O_gu rfl ?_
    refine O_gf rfl ?_
    refine O_gs (v := (.b true)) rfl (r_pick_t rfl rfl) ?_
    refine O_p (.b true) (r_pick_t rfl rfl) ?_
    refine O_p (.b true) (r_mv rfl) ?_
    refine O_nil ?_
    refine C_ret ?_
    exact ⟨.inr rfl, _, resL_one (r_tmp (v := .b true) rfl), rfl⟩
theorem run7 (H : AH) (hok : H.Ok) (pm : Bool) (pk : Int) (w1 : (Lit.int .u8 pk).wf = true) (pq : Int) (w2 : (Lit.int .u16 pq).wf = true) (pt : Int) (w3 : (Lit.int .u32 pt).wf = true) (ps : Int) (w4 : (Lit.int .u32 ps).wf = true) (pa : Option (Nat × Nat)) (pc : Nat) (l : List UInt8) (phb : Bs H (.sl pa l.length pc 0) l) (phc : l.length ≤ pc) (phm0 : pc ≤ maxLen) (ba : Option (Nat × Nat)) (bc : Nat) (b : List UInt8) (bhb : Bs H (.sl ba b.length bc 0) b) (bhc : b.length ≤ bc) (bhm0 : bc ≤ maxLen) : Ev tabA spA (.fn (.func 7) [] []) [.agg [.b pm, .i .u8 pk, .i .u16 pq, .i .u32 pt, .i .u32 ps, .sl pa l.length pc 0], .sl ba b.length bc 0] H (fun v _ => v = .b true) := by
  by_cases hr : rightN pk l.length = 0
  · by_cases hg : decE b = 0
    · exact run7vv H hok pm pk w1 pq w2 pt w3 ps w4 pa pc l phb phc phm0 ba bc b bhb bhc bhm0 hr hg
    · exact run7vi H hok pm pk w1 pq w2 pt w3 ps w4 pa pc l phb phc phm0 ba bc b bhb bhc bhm0 hr hg
  · by_cases hg : decE b = 0
    · exact run7iv H hok pm pk w1 pq w2 pt w3 ps w4 pa pc l phb phc phm0 ba bc b bhb bhc bhm0 hr hg
    · exact run7ii H hok pm pk w1 pq w2 pt w3 ps w4 pa pc l phb phc phm0 ba bc b bhb bhc bhm0 hr hg
theorem law7 (W : World) (ρ : Rho) (H : AH) (xs : List AV) (args : Array Value) (hR : Rel Try.prog W.heap.size W ρ H W) (hro : RO H) (hv : VRL ρ xs args.toList) (ht : TypedVs Try.prog H 9 Try.f7.params.toList xs) :
    Calls Try.prog 7 args W fun e w' => e = .returned (.bool true) ∧ Below W.heap.size W w' := by
  rw [Try.params7] at ht
  obtain ⟨a1, xs, rfl, h1, a2, xs, rfl, h2, rfl⟩ := ht
  obtain ⟨l, rfl, h3⟩ := typedV_struct Try.underlying33 h1
  obtain ⟨hl, hq⟩ := struct_parts (qs := [(4, 0, 1), (5, 1, 1), (22, 2, 1), (30, 3, 1), (30, 4, 1), (31, 5, 1)]) Try.underlying33 h3 (by kernel_rfl)
  rw [show Try.prog.cellsOf 33 = 6 by kernel_rfl] at hl
  match l, hl with
  | [x0, x1, x2, x3, x4, x5], _ =>
    simp only [List.forall_mem_cons, List.drop_zero, List.drop_succ_cons, List.take_succ_cons, List.take_zero] at hq
    obtain ⟨q0, q1, q2, q3, q4, q5, _⟩ := hq
    obtain ⟨pm, e0⟩ := typed_bool Try.underlying4 q0
    obtain ⟨pk, e1, w1⟩ := typed_int Try.underlying5 q1
    obtain ⟨pq, e2, w2⟩ := typed_int Try.underlying22 q2
    obtain ⟨pt, e3, w3⟩ := typed_int Try.underlying30 q3
    obtain ⟨ps, e4, w4⟩ := typed_int Try.underlying30 q4
    cases e0; cases e1; cases e2; cases e3; cases e4
    obtain ⟨pa, pn, pc, l, rfl, hb1, rfl, hc1, hm1⟩ := typed_bytes Try.underlying31 Try.underlying5 (by kernel_rfl) q5
    obtain ⟨ba, bn, bc, b, rfl, hb2, rfl, hc2, hm2⟩ := typed_bytes Try.underlying31 Try.underlying5 (by kernel_rfl) (typedV_slice Try.underlying31 h2)
    obtain ⟨k, v, H', hex, rfl⟩ := run7 H hR.aok pm pk w1 pq w2 pt w3 ps w4 pa pc l hb1 hc1 hm1 ba bc b hb2 hc2 hm2
    exact law_of mixed tabA_ok spA_ok hex hR hv
end Go.Proofs.Ythmiglahfkfcaaa.E
namespace Go.Proofs.Ythmiglahfkfcaaa.audioBack
open Go.ChangeShapes Go.WideShapes Go.RowKit
set_option linter.unusedVariables false
theorem own : ownKnob Try.prog.godebug = none := by kernel_rfl
theorem types : (Try.f7.params.toList.all fun t => E.fit Try.prog 9 t && (Try.prog.readableRec t && decide (t < Try.prog.types.size))) = true := by kernel_rfl
set_option maxRecDepth 100000 in
theorem lifted (os : Os) (started : os.Started) (H : Type) (enc : TypeId × Value → H) :
    ReturnsInHanded {} Try.checked os 7 .any (Rows.audioBackSpec.pre6 enc Try.prog Try.f7 Rows.audioBackRow.domain false) (Rows.audioBackSpec.post enc Try.prog Try.f7 false true false false) :=
  E.law_lifted (C := Try.checked) (k := 9) (tb := 4) E.globals0 E.laid own started (by kernel_rfl) Try.func7
    (ChangeSpec.witness6 (enc := enc) (C := Try.checked) false ⟨#[], #[.agg #[.bool false, .int .u8 0, .int .u16 0, .int .u32 0, .int .u32 0, .slice none 0 0], .slice none 0 0], []⟩ 8 (by kernel_rfl) (by kernel_rfl) (by kernel_rfl) (by kernel_rfl))
    rfl rfl Try.underlying4 (fun t ht => by have h := List.all_eq_true.1 types t ht; simp only [Bool.and_eq_true, decide_eq_true_eq] at h; exact h)
    (fun ds hd => by
      rw [Try.params7] at hd
      match ds, hd with
      | [d0, d1], _ => rfl) E.law7
theorem over : Rows.audioBackRow.holds Try.pinned (OpenSpec.ofChange Rows.audioBackSpec) :=
  OpenClaim.holds_of_wide 7 Try.f7 rfl rfl rfl rfl rfl rfl rfl ⟨rfl, rfl, rfl, rfl, rfl⟩ rfl rfl rfl rfl rfl (by kernel_rfl) Try.func7 (by kernel_rfl)
    (of_decide_eq_true (by kernel_rfl)) (by unfold Func.isWrapper; first | (rw [if_pos (by decide +kernel)]; kernel_rfl) | (rw [if_neg (by decide +kernel)]; exact ⟨rfl, rfl⟩))
    (fun os started H enc _ => lifted os started H enc)
end Go.Proofs.Ythmiglahfkfcaaa.audioBack
namespace Go.Proofs.Ythmiglahfkfcaaa
/-- The row, under a short name, for the claim. -/
theorem audioBack_holds : Rows.AudioBackSaid := audioBack.over
#print axioms audioBack_holds
end Go.Proofs.Ythmiglahfkfcaaa
