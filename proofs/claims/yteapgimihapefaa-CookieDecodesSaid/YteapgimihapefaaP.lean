/- Layer 9: what is told is brought back; the example. It bears no condition. -/
import Derived.Test.YteapgimihapefaaD
namespace Go.Proofs.Yteapgimihapefaa.E
set_option linter.unusedVariables false
set_option linter.unusedSimpArgs false
theorem num_acc (l : List UInt8) (a : Int) : l.foldl (fun v x => v * 256 + (x.toNat : Int)) a = a * 256 ^ l.length + num l := by
  induction l generalizing a with
  | nil => simp [num]
  | cons x l ih =>
    simp only [List.foldl_cons, num, List.length_cons]
    rw [ih, ih (0 * 256 + (x.toNat : Int)), Int.zero_mul, Int.zero_add, Int.pow_succ, Int.add_mul, Int.mul_assoc, Int.mul_comm 256 (256 ^ l.length)]
    omega
theorem num_app (l m : List UInt8) : num (l ++ m) = num l * 256 ^ m.length + num m := by
  unfold num; rw [List.foldl_append, num_acc]; rfl
theorem num44 {a b : Int} (ha : 0 ≤ a ∧ a < 4294967296) (hb : 0 ≤ b ∧ b < 4294967296) : num (beN a 4 ++ beN b 4) = a * 4294967296 + b := by
  rw [num_app, beN_len, num_be4 ha.1 ha.2, num_be4 hb.1 hb.2]; rfl
theorem w32_rng (n : Int) : 0 ≤ w32 n ∧ w32 n < 4294967296 := by unfold w32; rw [wrap_u32]; omega
theorem num_long {t : Int} (h : 0 ≤ t ∧ t < 18446744073709551616) : num (beN (w32 (Int.fdiv t (2 ^ 32))) 4 ++ beN (w32 t) 4) = t := by
  rw [num44 (w32_rng _) (w32_rng _)]
  unfold w32
  rw [wrap_u32, wrap_u32, Int.fdiv_eq_ediv_of_nonneg _ (by decide)]
  omega
theorem code_rng (key l : List UInt8) : 0 ≤ code key l ∧ code key l < 18446744073709551616 := by
  have : ∀ x y, 0 ≤ xorI x y ∧ xorI x y < 18446744073709551616 := fun x y => by unfold xorI; rw [wrap_u64]; omega
  exact this _ _
section
variable {key : List UInt8} {made life tag peer first pf room out inn tie0 tie1 : Int}
theorem sealed_len (b : List UInt8) : (sealed key b).length = b.length + 12 := by simp [sealed, beN_len]
theorem sealed_take {b : List UInt8} (h : b.length = 48) : (sealed key b).take 48 = b := by
  unfold sealed; rw [List.append_assoc, List.append_assoc, ← h, List.take_left]
theorem sealed_sign {b : List UInt8} (h : b.length = 48) : (sealed key b).drop 56 = [66, 79, 76, 49] := by
  unfold sealed
  have e : (b ++ beN (w32 (Int.fdiv (code key b) (2 ^ 32))) 4 ++ beN (w32 (code key b)) 4).length = 56 := by simp [beN_len, h]
  rw [← e, List.drop_left]
theorem sealed_code {b : List UInt8} (h : b.length = 48) : num (((sealed key b).drop 48).take 8) = code key b := by
  unfold sealed
  rw [List.append_assoc, List.append_assoc, ← h, List.drop_left, ← List.append_assoc]
  have e : (beN (w32 (Int.fdiv (code key b) (2 ^ 32))) 4 ++ beN (w32 (code key b)) 4).length = 8 := by simp [beN_len]
  rw [← e, List.take_left, num_long (code_rng key b)]
theorem cFld_sealed (hm : 0 ≤ made ∧ made ≤ 281474976710656) (hl : 0 ≤ life ∧ life ≤ 281474976710656) (ht : 0 ≤ tag ∧ tag < 4294967296) (hp : 0 ≤ peer ∧ peer < 4294967296) (hf : 0 ≤ first ∧ first < 4294967296) (hpf : 0 ≤ pf ∧ pf < 4294967296) (hr : 0 ≤ room ∧ room < 4294967296) (ho : 0 ≤ out ∧ out < 65536) (hi : 0 ≤ inn ∧ inn < 65536) (h0 : 0 ≤ tie0 ∧ tie0 < 4294967296) (h1 : 0 ≤ tie1 ∧ tie1 < 4294967296) :
    cFld (sealed key (b32 (wordsL made life tag peer first pf room out inn tie0 tie1))) = [made, life, tag, peer, first, pf, room, out, inn, tie0, tie1] := by
  have e := be22 ho hi
  have eb : b32 (wordsL made life tag peer first pf room out inn tie0 tie1) = beN (w32 (Int.fdiv made (2 ^ 32))) 4 ++ (beN (w32 made) 4 ++ (beN (w32 (Int.fdiv life (2 ^ 32))) 4 ++ (beN (w32 life) 4 ++ (beN tag 4 ++ (beN peer 4 ++ (beN first 4 ++ (beN pf 4 ++ (beN room 4 ++ (beN tie0 4 ++ (beN tie1 4 ++ (beN out 2 ++ beN inn 2))))))))))) := by
    rw [← e]; simp only [b32, wordsL, List.flatMap_cons, List.flatMap_nil, List.append_nil]
  rw [eb]
  unfold cFld
  rw [show ∀ R, (sealed key (beN (w32 (Int.fdiv made (2 ^ 32))) 4 ++ (beN (w32 made) 4 ++ R))).take 8 = beN (w32 (Int.fdiv made (2 ^ 32))) 4 ++ beN (w32 made) 4 from fun _ => rfl, num_long (by omega)]
  rw [show ∀ A B R, ((sealed key (beN A 4 ++ (beN B 4 ++ (beN (w32 (Int.fdiv life (2 ^ 32))) 4 ++ (beN (w32 life) 4 ++ R))))).drop 8).take 8 = beN (w32 (Int.fdiv life (2 ^ 32))) 4 ++ beN (w32 life) 4 from fun _ _ _ => rfl, num_long (by omega)]
  generalize w32 (Int.fdiv made (2 ^ 32)) = a0
  generalize w32 made = a1
  generalize w32 (Int.fdiv life (2 ^ 32)) = a2
  generalize w32 life = a3
  have g : ∀ (z : List UInt8) (k n : Nat) (v : Int), (z.drop k).take n = beN v n → num (beN v n) = v → num ((z.drop k).take n) = v := fun z k n v h1 h2 => by rw [h1, h2]
  rw [g _ 16 4 tag rfl (num_be4 ht.1 ht.2), g _ 20 4 peer rfl (num_be4 hp.1 hp.2), g _ 24 4 first rfl (num_be4 hf.1 hf.2), g _ 28 4 pf rfl (num_be4 hpf.1 hpf.2), g _ 32 4 room rfl (num_be4 hr.1 hr.2), g _ 44 2 out rfl (num_be2 ho.1 ho.2), g _ 46 2 inn rfl (num_be2 hi.1 hi.2), g _ 36 4 tie0 rfl (num_be4 h0.1 h0.2), g _ 40 4 tie1 rfl (num_be4 h1.1 h1.2)]
theorem cErr_sealed (hk : key.length = 16) (hm : 0 ≤ made ∧ made ≤ 281474976710656) (hl : 0 ≤ life ∧ life ≤ 281474976710656) (ht : 0 ≤ tag ∧ tag < 4294967296) (hp : 0 ≤ peer ∧ peer < 4294967296) (hf : 0 ≤ first ∧ first < 4294967296) (hpf : 0 ≤ pf ∧ pf < 4294967296) (hr : 0 ≤ room ∧ room < 4294967296) (ho : 0 ≤ out ∧ out < 65536) (hi : 0 ≤ inn ∧ inn < 65536) (h0 : 0 ≤ tie0 ∧ tie0 < 4294967296) (h1 : 0 ≤ tie1 ∧ tie1 < 4294967296) :
    cErr key (sealed key (b32 (wordsL made life tag peer first pf room out inn tie0 tie1))) = 0 := by
  have hf := cFld_sealed (key := key) hm hl ht hp hf hpf hr ho hi h0 h1
  have hB : (b32 (wordsL made life tag peer first pf room out inn tie0 tie1)).length = 48 := b32_len _
  simp only [cFld, List.cons.injEq] at hf
  obtain ⟨e0, e1, _⟩ := hf
  exact cErr_0 hk (by rw [sealed_len, hB]) (sealed_sign hB) (by rw [sealed_take hB, sealed_code hB]) ⟨by rw [e0]; exact hm.2, by rw [e1]; exact hl.2⟩
theorem cSt_sealed (hk : key.length = 16) (hm : 0 ≤ made ∧ made ≤ 281474976710656) (hl : 0 ≤ life ∧ life ≤ 281474976710656) (ht : 0 ≤ tag ∧ tag < 4294967296) (hp : 0 ≤ peer ∧ peer < 4294967296) (hf : 0 ≤ first ∧ first < 4294967296) (hpf : 0 ≤ pf ∧ pf < 4294967296) (hr : 0 ≤ room ∧ room < 4294967296) (ho : 0 ≤ out ∧ out < 65536) (hi : 0 ≤ inn ∧ inn < 65536) (h0 : 0 ≤ tie0 ∧ tie0 < 4294967296) (h1 : 0 ≤ tie1 ∧ tie1 < 4294967296) (j : Nat) :
    cSt key (sealed key (b32 (wordsL made life tag peer first pf room out inn tie0 tie1))) j = [made, life, tag, peer, first, pf, room, out, inn, tie0, tie1].getD j 0 := by
  rw [cSt_ok (cErr_sealed hk hm hl ht hp hf hpf hr ho hi h0 h1), cFld_sealed hm hl ht hp hf hpf hr ho hi h0 h1]
end
theorem aw_len : ((sealed (keyN 16) (b32 (wordsL 5 10 7 0 0 0 0 0 3 0 0)))).length = 60 := by rw [sealed_len, b32_len]; rfl
theorem aw_c : cErr (keyN 16) (sealed (keyN 16) (b32 (wordsL 5 10 7 0 0 0 0 0 3 0 0))) = 0 := cErr_sealed (keyN_len 16) (by decide) (by decide) (by decide) (by decide) (by decide) (by decide) (by decide) (by decide) (by decide) (by decide) (by decide)
theorem aw_st (j : Nat) : cSt (keyN 16) (sealed (keyN 16) (b32 (wordsL 5 10 7 0 0 0 0 0 3 0 0))) j = [5, 10, 7, 0, 0, 0, 0, 0, 3, 0, 0].getD j 0 := cSt_sealed (keyN_len 16) (by decide) (by decide) (by decide) (by decide) (by decide) (by decide) (by decide) (by decide) (by decide) (by decide) (by decide) j
theorem aw_k15 : kErr (keyN 16) (sealed (keyN 16) (b32 (wordsL 5 10 7 0 0 0 0 0 3 0 0))) 15 = 0 := kErr_0 aw_c (by rw [aw_st, aw_st]; decide)
theorem aw_k16 : kErr (keyN 16) (sealed (keyN 16) (b32 (wordsL 5 10 7 0 0 0 0 0 3 0 0))) 16 = 7 := kErr_7 aw_c (by rw [aw_st, aw_st]; decide)
theorem aw_k16n : ¬ kErr (keyN 16) (sealed (keyN 16) (b32 (wordsL 5 10 7 0 0 0 0 0 3 0 0))) 16 = 0 := by rw [aw_k16]; decide
set_option maxRecDepth 100000 in
theorem awake_ev {H : AH} (hok : H.Ok) : Ev tabA spA (.fn (.func 9) [] []) [] H (fun r H' => r = .b true ∧ Kp H H') := by
  refine Ev_C (F := x9) rfl ?_
  have hO0 := Old.refl hok
  have h19 : tabA 19 = some x19 := rfl
  have hawl := aw_len
  have hkl := keyN_len 16
  refine C_seq ?_
  refine C_region ?_
  refine O_p (.b false) (r_mv rfl) ?_
  refine O_nil ?_
  refine C_seq ?_
  refine C_region ?_
  refine O_p (.agg [(.i .i64 5), (.i .i64 10), (.i .u32 7), (.i .u32 0), (.i .u32 0), (.i .u32 0), (.i .u32 0), (.i .u16 0), (.i .u16 3), (.i .u32 0), (.i .u32 0)]) (r_build rfl) ?_
  refine O_alloc fun n1 H2 hN3 => ?_
  have hF4 := hN3.fr (fun _ => False)
  have hO5 := hO0.new hN3
  have hx_hO5 := hO5.next
  have hnm_n1 : n1 = H.next := hN3.1
  have hnx_H2 : H2.next = H.next + 1 := hN3.2.1
  have hlt_n1 : n1 < H2.next := by omega
  refine O_store (vs := [(.i .i64 5), (.i .i64 10), (.i .u32 7), (.i .u32 0), (.i .u32 0), (.i .u32 0), (.i .u32 0), (.i .u16 0), (.i .u16 3), (.i .u32 0), (.i .u32 0)]) (c' := [(.i .i64 5), (.i .i64 10), (.i .u32 7), (.i .u32 0), (.i .u32 0), (.i .u32 0), (.i .u32 0), (.i .u16 0), (.i .u16 3), (.i .u32 0), (.i .u32 0)]) rfl (by rfl) hN3.2.2.1 rfl (List.cons_ne_nil _ _) (Nat.le_of_ble_eq_true rfl) rfl fun H6 hW7 => ?_
  have hO8 := hO5.wr hW7 (by omega) (by omega)
  have hx_hO8 := hO8.next
  have hnx_H6 : H6.next = H2.next := hW7.1
  have hlt_n1 : n1 < H6.next := by omega
  refine O_nil ?_
  refine C_seq ?_
  refine C_draw fun b9 H10 hbase11 hA12 => ?_
  have hnx13 : H10.next = H6.next + 8 := hA12.1
  have hb14 := (hA12.2 _).trans hW7.2.1
  have hF15 := hA12.fr (fun _ => False)
  have hO16 := hO8.aside hA12
  have hx_hO16 := hO16.next
  have hlt_n1 : n1 < H10.next := by omega
  refine D_r (v := (.agg [(.i .i64 5), (.i .i64 10), (.i .u32 7), (.i .u32 0), (.i .u32 0), (.i .u32 0), (.i .u32 0), (.i .u16 0), (.i .u16 3), (.i .u32 0), (.i .u32 0)])) rfl rfl rfl (r_ldA rfl hb14 rfl) ?_
  refine D_call (Ev.mono (key_ev h19 hO16.ok) fun v17 H18 hq19 => ?_)
  obtain ⟨hM20, hK21⟩ := hq19
  have hb22 := (hK21.keep _ (by omega)).trans hb14
  have hx_hK21 := hK21.next
  have hlt_n1 : n1 < H18.next := by omega
  have hO23 := hO16.trans hK21
  have hx_hO23 := hO23.next
  have hM24 := hM20.down (N := H.next) (by omega)
  have hd25 : ¬ v17.nameOf n1 := fun hq => by have := hM20.new _ hq; omega
  refine And.intro (And.intro (Or.inr (look_run rfl rfl (r_ldA rfl hb22 rfl))) True.intro) ?_
  have hsf30 : Own 1 H18 v17 (bcells (keyN 16)) := hM24.own
  obtain ⟨oa26, og27, rfl, hog28, hob29⟩ := hsf30.bs
  have base31 := Old.refl hO23.ok
  refine D_call (Ev.mono (enc_t hO23.ok hog28 (hM24.own.asbs) (by first | omega | (simp only [List.length_take, List.length_drop, List.length_append, List.length_cons, List.length_nil, beN_len] <;> omega)) (by first | omega | (simp only [List.length_take, List.length_drop, List.length_append, List.length_cons, List.length_nil, beN_len] <;> omega)) 5 10 7 0 0 0 0 0 3 0 0 (keyN_len 16) rfl) fun v32 H33 hq34 => ?_)
  obtain ⟨o35, rfl, hM36, hK37⟩ := hq34
  have hb38 := (hK37.keep _ (by omega)).trans hb22
  have hx_hK37 := hK37.next
  have hlt_n1 : n1 < H33.next := by omega
  have hM39 := hM24.kp hK37
  have hO40 := hO23.trans hK37
  have hx_hO40 := hO40.next
  have hO41 := base31.trans hK37
  have hM42 := hM36.down (N := H.next) (by omega)
  have hd43 : ¬ o35.nameOf n1 := fun hq => by have := hM36.new _ hq; omega
  refine And.intro (And.intro (Or.inl rfl) True.intro) ?_
  refine D_l (v := (.tup [o35, (.b true)])) rfl rfl rfl (r_mv rfl) ?_
  refine D_l (v := o35) rfl rfl rfl (r_ext rfl rfl) ?_
  refine D_l (v := (.b true)) rfl rfl rfl (r_ext rfl rfl) ?_
  refine D_l (v := o35) rfl rfl rfl (r_mv rfl) ?_
  refine D_l (v := (.b true)) rfl rfl rfl (r_mv rfl) ?_
  refine D_nil ?_
  refine C_seq ?_
  refine C_region ?_
  refine O_call (Ev.mono (key_ev h19 hO40.ok) fun v44 H45 hq46 => ?_)
  obtain ⟨hM47, hK48⟩ := hq46
  have hb49 := (hK48.keep _ (by omega)).trans hb38
  have hx_hK48 := hK48.next
  have hlt_n1 : n1 < H45.next := by omega
  have hM50 := hM39.kp hK48
  have hM51 := hM42.kp hK48
  have hO52 := hO40.trans hK48
  have hx_hO52 := hO52.next
  have hO53 := hO41.trans hK48
  have hM54 := hM47.down (N := H.next) (by omega)
  have hd55 : ¬ v44.nameOf n1 := fun hq => by have := hM47.new _ hq; omega
  refine O_p o35 (r_mv rfl) ?_
  have hsf60 : Own 1 H45 v44 (bcells (keyN 16)) := hM54.own
  obtain ⟨oa56, og57, rfl, hog58, hob59⟩ := hsf60.bs
  have base61 := Old.refl hO52.ok
  have hsf66 : Own 1 H45 o35 (bcells (sealed (keyN 16) (b32 (wordsL 5 10 7 0 0 0 0 0 3 0 0)))) := hM51.own
  obtain ⟨oa62, og63, rfl, hog64, hob65⟩ := hsf66.bs
  have base67 := Old.refl hO52.ok
  refine O_call (Ev.mono (chk_ev hO52.ok hog58 (hM54.own.asbs) (by first | omega | (simp only [List.length_take, List.length_drop, List.length_append, List.length_cons, List.length_nil, beN_len] <;> omega)) (by first | omega | (simp only [List.length_take, List.length_drop, List.length_append, List.length_cons, List.length_nil, beN_len] <;> omega)) hog64 (hM51.own.asbs) (by first | omega | (simp only [List.length_take, List.length_drop, List.length_append, List.length_cons, List.length_nil, beN_len] <;> omega)) (by first | omega | (simp only [List.length_take, List.length_drop, List.length_append, List.length_cons, List.length_nil, beN_len] <;> omega)) 15) fun v68 H69 hq70 => ?_)
  rw [aw_k15] at hq70
  simp only [kSt_ok aw_k15, aw_st] at hq70
  obtain ⟨rfl, hK71⟩ := hq70
  have hb72 := (hK71.keep _ (by omega)).trans hb49
  have hx_hK71 := hK71.next
  have hlt_n1 : n1 < H69.next := by omega
  have hM73 := hM50.kp hK71
  have hM74 := hM51.kp hK71
  have hM75 := hM54.kp hK71
  have hO76 := hO52.trans hK71
  have hx_hO76 := hO76.next
  have hO77 := hO53.trans hK71
  have hO78 := base61.trans hK71
  have hO79 := base67.trans hK71
  refine O_p (.tup [(.agg [(.i .i64 5), (.i .i64 10), (.i .u32 7), (.i .u32 0), (.i .u32 0), (.i .u32 0), (.i .u32 0), (.i .u16 0), (.i .u16 3), (.i .u32 0), (.i .u32 0)]), (.i .i64 0)]) (r_mv rfl) ?_
  refine O_p (.agg [(.i .i64 5), (.i .i64 10), (.i .u32 7), (.i .u32 0), (.i .u32 0), (.i .u32 0), (.i .u32 0), (.i .u16 0), (.i .u16 3), (.i .u32 0), (.i .u32 0)]) (r_ext rfl rfl) ?_
  refine O_p (.i .i64 0) (r_ext rfl rfl) ?_
  refine O_alloc fun n80 H81 hN82 => ?_
  have hF83 := hN82.fr (fun _ => False)
  have hb84 := (hF83.keep _ (by exact hlt_n1) (fun h => h)).trans hb72
  have hM85 := hM73.anew hN82
  have hM86 := hM74.anew hN82
  have hM87 := hM75.anew hN82
  have hO88 := hO76.new hN82
  have hx_hO88 := hO88.next
  have hO89 := hO77.new hN82
  have hO90 := hO78.new hN82
  have hO91 := hO79.new hN82
  have hd92 : ¬ ((.sl oa26 ((keyN 16)).length ((keyN 16)).length og27) : AV).nameOf n80 := hM73.dis (by have := hN82.1; omega)
  have hd93 : ¬ ((.sl oa62 ((sealed (keyN 16) (b32 (wordsL 5 10 7 0 0 0 0 0 3 0 0)))).length ((sealed (keyN 16) (b32 (wordsL 5 10 7 0 0 0 0 0 3 0 0)))).length og63) : AV).nameOf n80 := hM74.dis (by have := hN82.1; omega)
  have hd94 : ¬ ((.sl oa56 ((keyN 16)).length ((keyN 16)).length og57) : AV).nameOf n80 := hM75.dis (by have := hN82.1; omega)
  have hnm_n80 : n80 = H69.next := hN82.1
  have hnx_H81 : H81.next = H69.next + 1 := hN82.2.1
  have hlt_n1 : n1 < H81.next := by omega
  have hlt_n80 : n80 < H81.next := by omega
  refine O_store (vs := [(.i .i64 5), (.i .i64 10), (.i .u32 7), (.i .u32 0), (.i .u32 0), (.i .u32 0), (.i .u32 0), (.i .u16 0), (.i .u16 3), (.i .u32 0), (.i .u32 0)]) (c' := [(.i .i64 5), (.i .i64 10), (.i .u32 7), (.i .u32 0), (.i .u32 0), (.i .u32 0), (.i .u32 0), (.i .u16 0), (.i .u16 3), (.i .u32 0), (.i .u32 0)]) rfl (by rfl) hN82.2.2.1 rfl (List.cons_ne_nil _ _) (Nat.le_of_ble_eq_true rfl) rfl fun H95 hW96 => ?_
  have hb97 := (hW96.2.2 _ (by omega)).trans hb84
  have hM98 := hM85.wr hW96 hd92
  have hM99 := hM86.wr hW96 hd93
  have hM100 := hM87.wr hW96 hd94
  have hO101 := hO88.wr hW96 (by omega) (by omega)
  have hx_hO101 := hO101.next
  have hO102 := hO89.wr hW96 (by omega) (by omega)
  have hO103 := hO90.wr hW96 (by omega) (by omega)
  have hO104 := hO91.wr hW96 (by omega) (by omega)
  have hnx_H95 : H95.next = H81.next := hW96.1
  have hlt_n1 : n1 < H95.next := by omega
  have hlt_n80 : n80 < H95.next := by omega
  refine O_p (.i .i64 0) (r_mv rfl) ?_
  refine O_nil ?_
  refine C_seq ?_
  refine C_region ?_
  refine O_call (Ev.mono (key_ev h19 hO101.ok) fun v105 H106 hq107 => ?_)
  obtain ⟨hM108, hK109⟩ := hq107
  have hb110 := (hK109.keep _ (by omega)).trans hb97
  have hb111 := (hK109.keep _ (by omega)).trans hW96.2.1
  have hx_hK109 := hK109.next
  have hlt_n1 : n1 < H106.next := by omega
  have hlt_n80 : n80 < H106.next := by omega
  have hM112 := hM98.kp hK109
  have hM113 := hM99.kp hK109
  have hM114 := hM100.kp hK109
  have hO115 := hO101.trans hK109
  have hx_hO115 := hO115.next
  have hO116 := hO102.trans hK109
  have hO117 := hO103.trans hK109
  have hO118 := hO104.trans hK109
  have hM119 := hM108.down (N := H.next) (by omega)
  have hd120 : ¬ v105.nameOf n1 := fun hq => by have := hM108.new _ hq; omega
  have hd121 : ¬ v105.nameOf n80 := fun hq => by have := hM108.new _ hq; omega
  refine O_p (.sl oa62 ((sealed (keyN 16) (b32 (wordsL 5 10 7 0 0 0 0 0 3 0 0)))).length ((sealed (keyN 16) (b32 (wordsL 5 10 7 0 0 0 0 0 3 0 0)))).length og63) (r_mv rfl) ?_
  have hsf126 : Own 1 H106 v105 (bcells (keyN 16)) := hM119.own
  obtain ⟨oa122, og123, rfl, hog124, hob125⟩ := hsf126.bs
  have base127 := Old.refl hO115.ok
  refine O_call (Ev.mono (chk_ev hO115.ok hog124 (hM119.own.asbs) (by first | omega | (simp only [List.length_take, List.length_drop, List.length_append, List.length_cons, List.length_nil, beN_len] <;> omega)) (by first | omega | (simp only [List.length_take, List.length_drop, List.length_append, List.length_cons, List.length_nil, beN_len] <;> omega)) hog64 (hM113.own.asbs) (by first | omega | (simp only [List.length_take, List.length_drop, List.length_append, List.length_cons, List.length_nil, beN_len] <;> omega)) (by first | omega | (simp only [List.length_take, List.length_drop, List.length_append, List.length_cons, List.length_nil, beN_len] <;> omega)) 16) fun v128 H129 hq130 => ?_)
  rw [aw_k16] at hq130
  simp only [kSt_bad aw_k16n] at hq130
  obtain ⟨rfl, hK131⟩ := hq130
  have hb132 := (hK131.keep _ (by omega)).trans hb110
  have hb133 := (hK131.keep _ (by omega)).trans hb111
  have hx_hK131 := hK131.next
  have hlt_n1 : n1 < H129.next := by omega
  have hlt_n80 : n80 < H129.next := by omega
  have hM134 := hM112.kp hK131
  have hM135 := hM113.kp hK131
  have hM136 := hM114.kp hK131
  have hM137 := hM119.kp hK131
  have hO138 := hO115.trans hK131
  have hx_hO138 := hO138.next
  have hO139 := hO116.trans hK131
  have hO140 := hO117.trans hK131
  have hO141 := hO118.trans hK131
  have hO142 := base127.trans hK131
  refine O_p (.tup [(.agg [(.i .i64 0), (.i .i64 0), (.i .u32 0), (.i .u32 0), (.i .u32 0), (.i .u32 0), (.i .u32 0), (.i .u16 0), (.i .u16 0), (.i .u32 0), (.i .u32 0)]), (.i .i64 7)]) (r_mv rfl) ?_
  refine O_p (.agg [(.i .i64 0), (.i .i64 0), (.i .u32 0), (.i .u32 0), (.i .u32 0), (.i .u32 0), (.i .u32 0), (.i .u16 0), (.i .u16 0), (.i .u32 0), (.i .u32 0)]) (r_ext rfl rfl) ?_
  refine O_p (.i .i64 7) (r_ext rfl rfl) ?_
  refine O_alloc fun n143 H144 hN145 => ?_
  have hF146 := hN145.fr (fun _ => False)
  have hb147 := (hF146.keep _ (by exact hlt_n1) (fun h => h)).trans hb132
  have hb148 := (hF146.keep _ (by exact hlt_n80) (fun h => h)).trans hb133
  have hM149 := hM134.anew hN145
  have hM150 := hM135.anew hN145
  have hM151 := hM136.anew hN145
  have hM152 := hM137.anew hN145
  have hO153 := hO138.new hN145
  have hx_hO153 := hO153.next
  have hO154 := hO139.new hN145
  have hO155 := hO140.new hN145
  have hO156 := hO141.new hN145
  have hO157 := hO142.new hN145
  have hd158 : ¬ ((.sl oa26 ((keyN 16)).length ((keyN 16)).length og27) : AV).nameOf n143 := hM134.dis (by have := hN145.1; omega)
  have hd159 : ¬ ((.sl oa62 ((sealed (keyN 16) (b32 (wordsL 5 10 7 0 0 0 0 0 3 0 0)))).length ((sealed (keyN 16) (b32 (wordsL 5 10 7 0 0 0 0 0 3 0 0)))).length og63) : AV).nameOf n143 := hM135.dis (by have := hN145.1; omega)
  have hd160 : ¬ ((.sl oa56 ((keyN 16)).length ((keyN 16)).length og57) : AV).nameOf n143 := hM136.dis (by have := hN145.1; omega)
  have hd161 : ¬ ((.sl oa122 ((keyN 16)).length ((keyN 16)).length og123) : AV).nameOf n143 := hM137.dis (by have := hN145.1; omega)
  have hnm_n143 : n143 = H129.next := hN145.1
  have hnx_H144 : H144.next = H129.next + 1 := hN145.2.1
  have hlt_n1 : n1 < H144.next := by omega
  have hlt_n80 : n80 < H144.next := by omega
  have hlt_n143 : n143 < H144.next := by omega
  refine O_store (vs := [(.i .i64 0), (.i .i64 0), (.i .u32 0), (.i .u32 0), (.i .u32 0), (.i .u32 0), (.i .u32 0), (.i .u16 0), (.i .u16 0), (.i .u32 0), (.i .u32 0)]) (c' := [(.i .i64 0), (.i .i64 0), (.i .u32 0), (.i .u32 0), (.i .u32 0), (.i .u32 0), (.i .u32 0), (.i .u16 0), (.i .u16 0), (.i .u32 0), (.i .u32 0)]) rfl (by rfl) hN145.2.2.1 rfl (List.cons_ne_nil _ _) (Nat.le_of_ble_eq_true rfl) rfl fun H162 hW163 => ?_
  have hb164 := (hW163.2.2 _ (by omega)).trans hb147
  have hb165 := (hW163.2.2 _ (by omega)).trans hb148
  have hM166 := hM149.wr hW163 hd158
  have hM167 := hM150.wr hW163 hd159
  have hM168 := hM151.wr hW163 hd160
  have hM169 := hM152.wr hW163 hd161
  have hO170 := hO153.wr hW163 (by omega) (by omega)
  have hx_hO170 := hO170.next
  have hO171 := hO154.wr hW163 (by omega) (by omega)
  have hO172 := hO155.wr hW163 (by omega) (by omega)
  have hO173 := hO156.wr hW163 (by omega) (by omega)
  have hO174 := hO157.wr hW163 (by omega) (by omega)
  have hnx_H162 : H162.next = H144.next := hW163.1
  have hlt_n1 : n1 < H162.next := by omega
  have hlt_n80 : n80 < H162.next := by omega
  have hlt_n143 : n143 < H162.next := by omega
  refine O_p (.i .i64 7) (r_mv rfl) ?_
  refine O_nil ?_
  refine C_seq ?_
  refine C_region ?_
  refine O_p (.b true) (r_mv rfl) ?_
  refine O_p (.b true) (r_mv rfl) ?_
  refine O_gs (v := (.sl oa62 ((sealed (keyN 16) (b32 (wordsL 5 10 7 0 0 0 0 0 3 0 0)))).length ((sealed (keyN 16) (b32 (wordsL 5 10 7 0 0 0 0 0 3 0 0)))).length og63)) rfl (r_mv rfl) ?_
  refine O_gs (v := (.i .i64 60)) rfl (by exact (by rw [show (60 : Int) = ((((sealed (keyN 16) (b32 (wordsL 5 10 7 0 0 0 0 0 3 0 0)))).length : Nat) : Int) from by rw [aw_len]; rfl]; exact r_len rfl)) ?_
  refine O_gs (v := (.b true)) rfl (r_bin rfl rfl rfl) ?_
  refine O_p (.b true) (r_pick_t rfl rfl) ?_
  refine O_p (.b true) (r_mv rfl) ?_
  refine O_gs (v := (.i .i64 0)) rfl (r_mv rfl) ?_
  refine O_gs (v := (.b true)) rfl (r_bin rfl rfl rfl) ?_
  refine O_p (.b true) (r_pick_t rfl rfl) ?_
  refine O_p (.b true) (r_mv rfl) ?_
  refine O_gs (v := (.p (some (n80, 2)))) rfl (r_fadd' rfl rfl) ?_
  refine O_gs (v := (.i .u32 7)) rfl (r_ld rfl hb165 rfl) ?_
  refine O_gs (v := (.b true)) rfl (r_eqq rfl rfl) ?_
  refine O_p (.b true) (r_pick_t rfl rfl) ?_
  refine O_p (.b true) (r_mv rfl) ?_
  refine O_gs (v := (.p (some (n80, 8)))) rfl (r_fadd' rfl rfl) ?_
  refine O_gs (v := (.i .u16 3)) rfl (r_ld rfl hb165 rfl) ?_
  refine O_gs (v := (.b true)) rfl (r_eqq rfl rfl) ?_
  refine O_p (.b true) (r_pick_t rfl rfl) ?_
  refine O_p (.b true) (r_mv rfl) ?_
  refine O_gs (v := (.p (some (n80, 0)))) rfl (r_fadd' rfl rfl) ?_
  refine O_gs (v := (.i .i64 5)) rfl (r_ld rfl hb165 rfl) ?_
  refine O_gs (v := (.b true)) rfl (r_bin rfl rfl rfl) ?_
  refine O_p (.b true) (r_pick_t rfl rfl) ?_
  refine O_p (.b true) (r_mv rfl) ?_
  refine O_gs (v := (.i .i64 7)) rfl (r_mv rfl) ?_
  refine O_gs (v := (.b true)) rfl (r_bin rfl rfl rfl) ?_
  refine O_p (.b true) (r_pick_t rfl rfl) ?_
  refine O_p (.b true) (r_mv rfl) ?_
  refine O_nil ?_
  refine C_ret ?_
  exact ⟨.inr rfl, _, resL_one (r_tmp (v := .b true) rfl), rfl, hO170⟩
end Go.Proofs.Yteapgimihapefaa.E
