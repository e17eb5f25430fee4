/- CookieCodes, for every input, without conditions. -/
import Derived.Test.YteapgimihapefaaA
import Derived.Test.YteapgimihapefaaE37
import Derived.Test.YteapgimihapefaaRows
import Derived.ProofKit
import Derived.OpenShut
namespace Go.Proofs.Yteapgimihapefaa.E
open Go.RowKit (Below)
set_option linter.unusedVariables false
set_option linter.unusedSimpArgs false
theorem r_remn {T : Tm} {H : AH} {c : CallF} {x y : XO} {a b : Nat} (hx : x.ev T = .i .i64 (a : Int)) (hy : y.ev T = .i .i64 (b : Int)) (h1 : 0 < b) : (XOp.bin .rem x y).run c T H = some (.i .i64 ((a % b : Nat) : Int), H) := by
  rw [r_remi hx hy (by omega) (by omega)]; rfl
theorem r_quon {T : Tm} {H : AH} {c : CallF} {x y : XO} {a b : Nat} (hx : x.ev T = .i .i64 (a : Int)) (hy : y.ev T = .i .i64 (b : Int)) (h1 : 0 < b) (h2 : a < 9223372036854775808) : (XOp.bin .quo x y).run c T H = some (.i .i64 ((a / b : Nat) : Int), H) := by
  rw [r_quoi hx hy (by omega) (by omega) (by omega)]; rfl
theorem xor_u8 (y : UInt8) {b : Int} (h0 : 0 ≤ b) (h1 : b < 256) : (u8 (IntKind.u8.wrap 0 + ((BitVec.ofInt 8 (y.toNat : Int) ^^^ BitVec.ofInt 8 b).toNat : Int))) = y ↔ b = 0 := by
  have hz : IntKind.u8.wrap 0 = 0 := by decide
  rw [hz, Int.zero_add]
  obtain ⟨n, rfl⟩ := Int.eq_ofNat_of_zero_le h0
  have hy := y.toNat_lt
  have e1 : (BitVec.ofInt 8 (y.toNat : Int)).toNat = y.toNat := by rw [BitVec.toNat_ofInt]; omega
  have e2 : (BitVec.ofInt 8 (n : Int)).toNat = n := by rw [BitVec.toNat_ofInt]; omega
  have hlt : y.toNat ^^^ n < 256 := Nat.xor_lt_two_pow (n := 8) hy (by omega)
  rw [BitVec.toNat_xor, e1, e2]
  have e3 : (u8 (((y.toNat ^^^ n : Nat)) : Int)).toNat = y.toNat ^^^ n := by
    have := u8_of (n := ((y.toNat ^^^ n : Nat) : Int)) (by omega) (by omega)
    omega
  constructor
  · intro h
    have h2 := congrArg UInt8.toNat h
    rw [e3] at h2
    have h3 := congrArg (fun z => y.toNat ^^^ z) h2
    simp only [← Nat.xor_assoc, Nat.xor_self, Nat.zero_xor] at h3
    omega
  · intro h
    have hn : n = 0 := by omega
    apply UInt8.toNat_inj.1
    rw [e3, hn, Nat.xor_zero]
theorem set_same {l : List UInt8} {i : Nat} (h : i < l.length) : l.set i (l.getD i 0) = l := by
  rw [List.getD_eq_getElem?_getD, List.getElem?_eq_getElem h, Option.getD_some, List.set_getElem_self]
theorem cErr_set {key b : List UInt8} {k : Nat} {v : UInt8} (hb : b.length = 48) (hk : key.length = 16) (h8 : k < 8) (hv : ¬ v = (sealed key b).getD (48 + k) 0) : cErr key ((sealed key b).set (48 + k) v) = 6 := by
  have hl : (sealed key b).length = 60 := by rw [sealed_len, hb]
  have e1 : ((sealed key b).set (48 + k) v).take 48 = b := by rw [List.take_set_of_le (by omega), sealed_take hb]
  have e2 : ((sealed key b).set (48 + k) v).drop 56 = [66, 79, 76, 49] := by rw [List.drop_set_of_lt (by omega), sealed_sign hb]
  refine cErr_6 hk (by rw [List.length_set, hl]) e2 ?_
  rw [e1]
  intro hc
  rw [← sealed_code hb, List.drop_set, if_neg (by omega), show 48 + k - 48 = k by omega, List.take_set] at hc
  have hlen : (((sealed key b).drop 48).take 8).length = 8 := by rw [List.length_take, List.length_drop, hl]; rfl
  have h := num_inj (by rw [List.length_set]) hc
  have h2 := congrArg (fun l => l[k]?) h
  simp only [List.getElem?_set_self (show k < (((sealed key b).drop 48).take 8).length by rw [hlen]; exact h8)] at h2
  rw [List.getElem?_take_of_lt h8, List.getElem?_drop] at h2
  apply hv
  rw [List.getD_eq_getElem?_getD, h2]; rfl
theorem cErr_other {key j b : List UInt8} (hb : b.length = 48) (hk : key.length = 16) (ht : num (b.take 8) ≤ 281474976710656 ∧ num ((b.drop 8).take 8) ≤ 281474976710656) : cErr key (sealed j b) = if code key b = code j b then 0 else 6 := by
  have hl : (sealed j b).length = 60 := by rw [sealed_len, hb]
  have e1 := sealed_take (key := j) hb
  have e2 := sealed_sign (key := j) hb
  have e3 := sealed_code (key := j) hb
  have p1 : (sealed j b).take 8 = b.take 8 := by rw [← e1, List.take_take]; simp [e1]
  have p2 : ((sealed j b).drop 8).take 8 = (b.drop 8).take 8 := by
    conv => rhs; rw [← e1]
    rw [List.drop_take, List.take_take]; rfl
  by_cases h : code key b = code j b
  · rw [if_pos h]
    exact cErr_0 hk hl e2 (by rw [e1, e3, h]) (by rw [p1, p2]; exact ht)
  · rw [if_neg h]
    exact cErr_6 hk hl e2 (by rw [e1, e3]; exact h)
theorem sealed_eq {key j b : List UInt8} (hb : b.length = 48) : sealed key b = sealed j b ↔ code key b = code j b := by
  constructor
  · intro h; rw [← sealed_code (key := key) hb, ← sealed_code (key := j) hb, h]
  · intro h; unfold sealed; rw [h]
set_option maxRecDepth 100000 in
set_option maxHeartbeats 4000000 in
theorem run7f (H : AH) (hok : H.Ok) (made : Int) (w_made : (Lit.int .i64 made).wf = true) (life : Int) (w_life : (Lit.int .i64 life).wf = true) (tag : Int) (w_tag : (Lit.int .u32 tag).wf = true) (peer : Int) (w_peer : (Lit.int .u32 peer).wf = true) (first : Int) (w_first : (Lit.int .u32 first).wf = true) (pf : Int) (w_pf : (Lit.int .u32 pf).wf = true) (room : Int) (w_room : (Lit.int .u32 room).wf = true) (out : Int) (w_out : (Lit.int .u16 out).wf = true) (inn : Int) (w_inn : (Lit.int .u16 inn).wf = true) (tie0 : Int) (w_tie0 : (Lit.int .u32 tie0).wf = true) (tie1 : Int) (w_tie1 : (Lit.int .u32 tie1).wf = true) (at_ : Int) (w_at_ : (Lit.int .i64 at_).wf = true) (bx : Int) (w_bx : (Lit.int .u8 bx).wf = true) (hS : okS made life = false) : Ev tabA spA (.fn (.func 7) [] []) [.agg [(.i .i64 made), (.i .i64 life), (.i .u32 tag), (.i .u32 peer), (.i .u32 first), (.i .u32 pf), (.i .u32 room), (.i .u16 out), (.i .u16 inn), (.i .u32 tie0), (.i .u32 tie1)], .i .i64 at_, .i .u8 bx] H (fun v _ => v = .b true) := by
  refine Ev_C (F := x7) rfl ?_
  have hO0 := Old.refl hok
  have hma : -9223372036854775808 ≤ made ∧ made < 9223372036854775808 := by simp [Lit.wf, IntKind.wrap, IntKind.signed, IntKind.bits, IntKind.min, IntKind.max] at w_made; omega
  have hli : -9223372036854775808 ≤ life ∧ life < 9223372036854775808 := by simp [Lit.wf, IntKind.wrap, IntKind.signed, IntKind.bits, IntKind.min, IntKind.max] at w_life; omega
  have ht : 0 ≤ tag ∧ tag < 4294967296 := by simp [Lit.wf, IntKind.wrap, IntKind.signed, IntKind.bits, IntKind.min, IntKind.max] at w_tag; omega
  have hp : 0 ≤ peer ∧ peer < 4294967296 := by simp [Lit.wf, IntKind.wrap, IntKind.signed, IntKind.bits, IntKind.min, IntKind.max] at w_peer; omega
  have hf : 0 ≤ first ∧ first < 4294967296 := by simp [Lit.wf, IntKind.wrap, IntKind.signed, IntKind.bits, IntKind.min, IntKind.max] at w_first; omega
  have hpf : 0 ≤ pf ∧ pf < 4294967296 := by simp [Lit.wf, IntKind.wrap, IntKind.signed, IntKind.bits, IntKind.min, IntKind.max] at w_pf; omega
  have hr : 0 ≤ room ∧ room < 4294967296 := by simp [Lit.wf, IntKind.wrap, IntKind.signed, IntKind.bits, IntKind.min, IntKind.max] at w_room; omega
  have ho : 0 ≤ out ∧ out < 65536 := by simp [Lit.wf, IntKind.wrap, IntKind.signed, IntKind.bits, IntKind.min, IntKind.max] at w_out; omega
  have hi : 0 ≤ inn ∧ inn < 65536 := by simp [Lit.wf, IntKind.wrap, IntKind.signed, IntKind.bits, IntKind.min, IntKind.max] at w_inn; omega
  have h0 : 0 ≤ tie0 ∧ tie0 < 4294967296 := by simp [Lit.wf, IntKind.wrap, IntKind.signed, IntKind.bits, IntKind.min, IntKind.max] at w_tie0; omega
  have h1 : 0 ≤ tie1 ∧ tie1 < 4294967296 := by simp [Lit.wf, IntKind.wrap, IntKind.signed, IntKind.bits, IntKind.min, IntKind.max] at w_tie1; omega
  have hbx : 0 ≤ bx ∧ bx < 256 := by simp [Lit.wf, IntKind.wrap, IntKind.signed, IntKind.bits, IntKind.min, IntKind.max] at w_bx; omega
  have h19 : tabA 19 = some x19 := rfl
  have hk16 := keyN_len 16
  refine C_seq ?_
  refine C_region ?_
  refine O_box (z := [(.i .i64 made), (.i .i64 life), (.i .u32 tag), (.i .u32 peer), (.i .u32 first), (.i .u32 pf), (.i .u32 room), (.i .u16 out), (.i .u16 inn), (.i .u32 tie0), (.i .u32 tie1)]) rfl fun n1 H2 hN3 => ?_
  have hF4 := hN3.fr (fun _ => False)
  have hO5 := hO0.new hN3
  have hx_hO5 := hO5.next
  have hnm_n1 : n1 = H.next := hN3.1
  have hnx_H2 : H2.next = H.next + 1 := hN3.2.1
  have hlt_n1 : n1 < H2.next := by omega
  refine O_p (.b false) (r_mv rfl) ?_
  refine O_nil ?_
  refine C_seq ?_
  refine C_region ?_
  refine O_call (Ev.mono (awake_ev hO5.ok) fun v6 H7 hq8 => ?_)
  obtain ⟨rfl, hK9⟩ := hq8
  have hb10 := (hK9.keep _ (by omega)).trans hN3.2.2.1
  have hx_hK9 := hK9.next
  have hlt_n1 : n1 < H7.next := by omega
  have hO11 := hO5.trans hK9
  have hx_hO11 := hO11.next
  refine O_p (.b true) (r_mv rfl) ?_
  refine O_nil ?_
  refine C_seq ?_
  refine C_draw fun b12 H13 hbase14 hA15 => ?_
  have hnx16 : H13.next = H7.next + 8 := hA15.1
  have hb17 := (hA15.2 _).trans hb10
  have hF18 := hA15.fr (fun _ => False)
  have hO19 := hO11.aside hA15
  have hx_hO19 := hO19.next
  have hlt_n1 : n1 < H13.next := by omega
  refine D_r (v := (.agg [(.i .i64 made), (.i .i64 life), (.i .u32 tag), (.i .u32 peer), (.i .u32 first), (.i .u32 pf), (.i .u32 room), (.i .u16 out), (.i .u16 inn), (.i .u32 tie0), (.i .u32 tie1)])) rfl rfl rfl (r_ldA rfl hb17 rfl) ?_
  refine D_call (Ev.mono (key_ev h19 hO19.ok) fun v20 H21 hq22 => ?_)
  obtain ⟨hM23, hK24⟩ := hq22
  have hb25 := (hK24.keep _ (by omega)).trans hb17
  have hx_hK24 := hK24.next
  have hlt_n1 : n1 < H21.next := by omega
  have hO26 := hO19.trans hK24
  have hx_hO26 := hO26.next
  have hM27 := hM23.down (N := H.next) (by omega)
  have hd28 : ¬ v20.nameOf n1 := fun hq => by have := hM23.new _ hq; omega
  refine And.intro (And.intro (Or.inr (look_run rfl rfl (r_ldA rfl hb25 rfl))) True.intro) ?_
  have hsf33 : Own 1 H21 v20 (bcells (keyN 16)) := hM27.own
  obtain ⟨oa29, og30, rfl, hog31, hob32⟩ := hsf33.bs
  have base34 := Old.refl hO26.ok
  refine D_call (Ev.mono (enc_f1 hO26.ok hog31 (hM27.own.asbs) (by first | omega | (simp only [List.length_take, List.length_drop, List.length_append, List.length_cons, List.length_nil, beN_len] <;> omega)) (by first | omega | (simp only [List.length_take, List.length_drop, List.length_append, List.length_cons, List.length_nil, beN_len] <;> omega)) made life tag peer first pf room out inn tie0 tie1 (keyN_len 16) hS) fun v35 H36 hq37 => ?_)
  obtain ⟨o38, rfl, hM39, hK40⟩ := hq37
  have hb41 := (hK40.keep _ (by omega)).trans hb25
  have hx_hK40 := hK40.next
  have hlt_n1 : n1 < H36.next := by omega
  have hM42 := hM27.kp hK40
  have hO43 := hO26.trans hK40
  have hx_hO43 := hO43.next
  have hO44 := base34.trans hK40
  have hM45 := hM39.down (N := H.next) (by omega)
  have hM46 : Mine H.next 1 H36 o38 (bcells ([] : List UInt8)) := hM45
  have hd47 : ¬ o38.nameOf n1 := fun hq => by have := hM39.new _ hq; omega
  refine And.intro (And.intro (Or.inl rfl) True.intro) ?_
  refine D_l (v := (.tup [o38, (.b false)])) rfl rfl rfl (r_mv rfl) ?_
  refine D_l (v := o38) rfl rfl rfl (r_ext rfl rfl) ?_
  refine D_l (v := (.b false)) rfl rfl rfl (r_ext rfl rfl) ?_
  refine D_l (v := o38) rfl rfl rfl (r_mv rfl) ?_
  refine D_l (v := (.b false)) rfl rfl rfl (r_mv rfl) ?_
  refine D_nil ?_
  refine C_seq ?_
  refine C_seq ?_
  refine C_region ?_
  refine O_p (.b false) (r_mv rfl) ?_
  refine O_p (.b true) (r_un rfl rfl) ?_
  refine O_p (.b true) (r_mv rfl) ?_
  refine O_gf rfl ?_
  refine O_gf rfl ?_
  refine O_gf rfl ?_
  refine O_p (.b true) (r_pick_t rfl rfl) ?_
  refine O_nil ?_
  refine C_cond (x := true) rfl (fun _ => ?_) (fun h => by cases h)
  refine C_seq ?_
  refine C_region ?_
  refine O_p (.b true) (r_mv rfl) ?_
  refine O_p (.b true) (r_mv rfl) ?_
  refine O_gs (v := (.b false)) rfl (r_mv rfl) ?_
  refine O_gs (v := (.b true)) rfl (r_un rfl rfl) ?_
  refine O_p (.b true) (r_pick_t rfl rfl) ?_
  refine O_p (.b true) (r_mv rfl) ?_
  refine O_nil ?_
  refine C_ret ?_
  refine nx_ret ?_
  exact ⟨.inr rfl, _, resL_one (r_tmp (v := .b true) rfl), rfl⟩
set_option maxRecDepth 100000 in
set_option maxHeartbeats 4000000 in
theorem run7z (H : AH) (hok : H.Ok) (made : Int) (w_made : (Lit.int .i64 made).wf = true) (life : Int) (w_life : (Lit.int .i64 life).wf = true) (tag : Int) (w_tag : (Lit.int .u32 tag).wf = true) (peer : Int) (w_peer : (Lit.int .u32 peer).wf = true) (first : Int) (w_first : (Lit.int .u32 first).wf = true) (pf : Int) (w_pf : (Lit.int .u32 pf).wf = true) (room : Int) (w_room : (Lit.int .u32 room).wf = true) (out : Int) (w_out : (Lit.int .u16 out).wf = true) (inn : Int) (w_inn : (Lit.int .u16 inn).wf = true) (tie0 : Int) (w_tie0 : (Lit.int .u32 tie0).wf = true) (tie1 : Int) (w_tie1 : (Lit.int .u32 tie1).wf = true) (at_ : Int) (w_at_ : (Lit.int .i64 at_).wf = true) (hS : okS made life = true) : Ev tabA spA (.fn (.func 7) [] []) [.agg [(.i .i64 made), (.i .i64 life), (.i .u32 tag), (.i .u32 peer), (.i .u32 first), (.i .u32 pf), (.i .u32 room), (.i .u16 out), (.i .u16 inn), (.i .u32 tie0), (.i .u32 tie1)], .i .i64 at_, .i .u8 0] H (fun v _ => v = .b true) := by
  refine Ev_C (F := x7) rfl ?_
  have hO0 := Old.refl hok
  have hma : -9223372036854775808 ≤ made ∧ made < 9223372036854775808 := by simp [Lit.wf, IntKind.wrap, IntKind.signed, IntKind.bits, IntKind.min, IntKind.max] at w_made; omega
  have hli : -9223372036854775808 ≤ life ∧ life < 9223372036854775808 := by simp [Lit.wf, IntKind.wrap, IntKind.signed, IntKind.bits, IntKind.min, IntKind.max] at w_life; omega
  have ht : 0 ≤ tag ∧ tag < 4294967296 := by simp [Lit.wf, IntKind.wrap, IntKind.signed, IntKind.bits, IntKind.min, IntKind.max] at w_tag; omega
  have hp : 0 ≤ peer ∧ peer < 4294967296 := by simp [Lit.wf, IntKind.wrap, IntKind.signed, IntKind.bits, IntKind.min, IntKind.max] at w_peer; omega
  have hf : 0 ≤ first ∧ first < 4294967296 := by simp [Lit.wf, IntKind.wrap, IntKind.signed, IntKind.bits, IntKind.min, IntKind.max] at w_first; omega
  have hpf : 0 ≤ pf ∧ pf < 4294967296 := by simp [Lit.wf, IntKind.wrap, IntKind.signed, IntKind.bits, IntKind.min, IntKind.max] at w_pf; omega
  have hr : 0 ≤ room ∧ room < 4294967296 := by simp [Lit.wf, IntKind.wrap, IntKind.signed, IntKind.bits, IntKind.min, IntKind.max] at w_room; omega
  have ho : 0 ≤ out ∧ out < 65536 := by simp [Lit.wf, IntKind.wrap, IntKind.signed, IntKind.bits, IntKind.min, IntKind.max] at w_out; omega
  have hi : 0 ≤ inn ∧ inn < 65536 := by simp [Lit.wf, IntKind.wrap, IntKind.signed, IntKind.bits, IntKind.min, IntKind.max] at w_inn; omega
  have h0 : 0 ≤ tie0 ∧ tie0 < 4294967296 := by simp [Lit.wf, IntKind.wrap, IntKind.signed, IntKind.bits, IntKind.min, IntKind.max] at w_tie0; omega
  have h1 : 0 ≤ tie1 ∧ tie1 < 4294967296 := by simp [Lit.wf, IntKind.wrap, IntKind.signed, IntKind.bits, IntKind.min, IntKind.max] at w_tie1; omega
  have h19 : tabA 19 = some x19 := rfl
  have hk16 := keyN_len 16
  have hS4 : ((0 ≤ made ∧ made ≤ 281474976710656) ∧ 0 ≤ life) ∧ life ≤ 281474976710656 := by unfold okS at hS; simpa only [Bool.and_eq_true, decide_eq_true_eq] using hS
  have hcE : cErr (keyN 16) (sealed (keyN 16) (b32 (wordsL made life tag peer first pf room out inn tie0 tie1))) = 0 := cErr_sealed hk16 ⟨hS4.1.1.1, hS4.1.1.2⟩ ⟨hS4.1.2, hS4.2⟩ ht hp hf hpf hr ho hi h0 h1
  have hl60s : ((sealed (keyN 16) (b32 (wordsL made life tag peer first pf room out inn tie0 tie1)))).length = 60 := by rw [sealed_len, b32_len]; rfl
  refine C_seq ?_
  refine C_region ?_
  refine O_box (z := [(.i .i64 made), (.i .i64 life), (.i .u32 tag), (.i .u32 peer), (.i .u32 first), (.i .u32 pf), (.i .u32 room), (.i .u16 out), (.i .u16 inn), (.i .u32 tie0), (.i .u32 tie1)]) rfl fun n1 H2 hN3 => ?_
  have hF4 := hN3.fr (fun _ => False)
  have hO5 := hO0.new hN3
  have hx_hO5 := hO5.next
  have hnm_n1 : n1 = H.next := hN3.1
  have hnx_H2 : H2.next = H.next + 1 := hN3.2.1
  have hlt_n1 : n1 < H2.next := by omega
  refine O_p (.b false) (r_mv rfl) ?_
  refine O_nil ?_
  refine C_seq ?_
  refine C_region ?_
  refine O_call (Ev.mono (awake_ev hO5.ok) fun v6 H7 hq8 => ?_)
  obtain ⟨rfl, hK9⟩ := hq8
  have hb10 := (hK9.keep _ (by omega)).trans hN3.2.2.1
  have hx_hK9 := hK9.next
  have hlt_n1 : n1 < H7.next := by omega
  have hO11 := hO5.trans hK9
  have hx_hO11 := hO11.next
  refine O_p (.b true) (r_mv rfl) ?_
  refine O_nil ?_
  refine C_seq ?_
  refine C_draw fun b12 H13 hbase14 hA15 => ?_
  have hnx16 : H13.next = H7.next + 8 := hA15.1
  have hb17 := (hA15.2 _).trans hb10
  have hF18 := hA15.fr (fun _ => False)
  have hO19 := hO11.aside hA15
  have hx_hO19 := hO19.next
  have hlt_n1 : n1 < H13.next := by omega
  refine D_r (v := (.agg [(.i .i64 made), (.i .i64 life), (.i .u32 tag), (.i .u32 peer), (.i .u32 first), (.i .u32 pf), (.i .u32 room), (.i .u16 out), (.i .u16 inn), (.i .u32 tie0), (.i .u32 tie1)])) rfl rfl rfl (r_ldA rfl hb17 rfl) ?_
  refine D_call (Ev.mono (key_ev h19 hO19.ok) fun v20 H21 hq22 => ?_)
  obtain ⟨hM23, hK24⟩ := hq22
  have hb25 := (hK24.keep _ (by omega)).trans hb17
  have hx_hK24 := hK24.next
  have hlt_n1 : n1 < H21.next := by omega
  have hO26 := hO19.trans hK24
  have hx_hO26 := hO26.next
  have hM27 := hM23.down (N := H.next) (by omega)
  have hd28 : ¬ v20.nameOf n1 := fun hq => by have := hM23.new _ hq; omega
  refine And.intro (And.intro (Or.inr (look_run rfl rfl (r_ldA rfl hb25 rfl))) True.intro) ?_
  have hsf33 : Own 1 H21 v20 (bcells (keyN 16)) := hM27.own
  obtain ⟨oa29, og30, rfl, hog31, hob32⟩ := hsf33.bs
  have base34 := Old.refl hO26.ok
  refine D_call (Ev.mono (enc_t hO26.ok hog31 (hM27.own.asbs) (by first | omega | (simp only [List.length_take, List.length_drop, List.length_append, List.length_cons, List.length_nil, beN_len] <;> omega)) (by first | omega | (simp only [List.length_take, List.length_drop, List.length_append, List.length_cons, List.length_nil, beN_len] <;> omega)) made life tag peer first pf room out inn tie0 tie1 (keyN_len 16) hS) fun v35 H36 hq37 => ?_)
  obtain ⟨o38, rfl, hM39, hK40⟩ := hq37
  have hb41 := (hK40.keep _ (by omega)).trans hb25
  have hx_hK40 := hK40.next
  have hlt_n1 : n1 < H36.next := by omega
  have hM42 := hM27.kp hK40
  have hO43 := hO26.trans hK40
  have hx_hO43 := hO43.next
  have hO44 := base34.trans hK40
  have hM45 := hM39.down (N := H.next) (by omega)
  have hlz_o38 : ((sealed (keyN 16) (b32 (wordsL made life tag peer first pf room out inn tie0 tie1)))).length = 60 := by rw [sealed_len, b32_len]; rfl
  have hd46 : ¬ o38.nameOf n1 := fun hq => by have := hM39.new _ hq; omega
  refine And.intro (And.intro (Or.inl rfl) True.intro) ?_
  refine D_l (v := (.tup [o38, (.b true)])) rfl rfl rfl (r_mv rfl) ?_
  refine D_l (v := o38) rfl rfl rfl (r_ext rfl rfl) ?_
  refine D_l (v := (.b true)) rfl rfl rfl (r_ext rfl rfl) ?_
  refine D_l (v := o38) rfl rfl rfl (r_mv rfl) ?_
  refine D_l (v := (.b true)) rfl rfl rfl (r_mv rfl) ?_
  refine D_nil ?_
  refine C_seq ?_
  refine C_seq ?_
  refine C_region ?_
  refine O_p (.b true) (r_mv rfl) ?_
  refine O_p (.b false) (r_un rfl rfl) ?_
  refine O_p (.b false) (r_mv rfl) ?_
  refine O_gs (v := o38) rfl (r_mv rfl) ?_
  refine O_gs (v := (.i .i64 60)) rfl (by exact (by rw [show (60 : Int) = (((((sealed (keyN 16) (b32 (wordsL made life tag peer first pf room out inn tie0 tie1)))).length) : Nat) : Int) from by rw [hl60s]; rfl]; exact r_lenOf rfl (hM45.own.lenOf ((bcells_len _).trans (Nat.mul_one _).symm) (by decide)) hM45.own.isSl)) ?_
  refine O_gs (v := (.b false)) rfl (r_bin rfl rfl rfl) ?_
  refine O_p (.b false) (r_pick_f rfl rfl) ?_
  refine O_nil ?_
  refine C_cond (x := false) rfl (fun h => by cases h) (fun _ => ?_)
  refine C_skip ?_
  refine C_seq ?_
  refine C_region ?_
  have hsf51 : Own 1 H36 o38 (bcells (sealed (keyN 16) (b32 (wordsL made life tag peer first pf room out inn tie0 tie1)))) := hM45.own
  obtain ⟨oa47, og48, rfl, hog49, hob50⟩ := hsf51.bs
  have base52 := Old.refl hO43.ok
  refine O_bslice (c := []) rfl fun n53 H54 hN55 => ?_
  have hF56 := hN55.fr (fun _ => False)
  have hb57 := (hF56.keep _ (by exact hlt_n1) (fun h => h)).trans hb41
  have hM58 := hM42.anew hN55
  have hM59 := hM45.anew hN55
  have hO60 := hO43.new hN55
  have hx_hO60 := hO60.next
  have hO61 := hO44.new hN55
  have hO62 := base52.new hN55
  have hd63 : ¬ ((.sl oa29 ((keyN 16)).length ((keyN 16)).length og30) : AV).nameOf n53 := hM42.dis (by have := hN55.1; omega)
  have hd64 : ¬ ((.sl oa47 ((sealed (keyN 16) (b32 (wordsL made life tag peer first pf room out inn tie0 tie1)))).length ((sealed (keyN 16) (b32 (wordsL made life tag peer first pf room out inn tie0 tie1)))).length og48) : AV).nameOf n53 := hM45.dis (by have := hN55.1; omega)
  have hnm_n53 : n53 = H36.next := hN55.1
  have hnx_H54 : H54.next = H36.next + 1 := hN55.2.1
  have hlt_n1 : n1 < H54.next := by omega
  have hlt_n53 : n53 < H54.next := by omega
  refine O_p (.sl oa47 ((sealed (keyN 16) (b32 (wordsL made life tag peer first pf room out inn tie0 tie1)))).length ((sealed (keyN 16) (b32 (wordsL made life tag peer first pf room out inn tie0 tie1)))).length og48) (r_mv rfl) ?_
  refine O_qh (by exact r_app (N := n53) (n := 0) (k := (sealed (keyN 16) (b32 (wordsL made life tag peer first pf room out inn tie0 tie1))).length) (new := bcells (sealed (keyN 16) (b32 (wordsL made life tag peer first pf room out inn tie0 tie1)))) hO60.ok (Nat.le_of_lt hlt_n53) ⟨.mk (n := 0) hN55.2.2.1 hlt_n53 (.inl rfl) rfl, fun q hq => by rw [nameOf_sl] at hq; omega⟩ rfl rfl rfl ((hM59.own.asbs).len) ((hM59.own.asbs).src) ((bcells_len _).trans (Nat.mul_one _).symm) (by decide) (by decide) (by first | omega | (simp only [List.length_take, List.length_drop, List.length_append, List.length_cons, List.length_nil, beN_len] <;> omega))) fun o65 H66 hA67 => ?_
  have hB68 := hA67.but
  have hb70 := (hB68.keep _ (by omega) (by omega)).trans hb57
  have hx_hB68 := hB68.next
  have hlt_n1 : n1 < H66.next := by omega
  have hM71 := hM58.but hB68 hd63
  have hM72 := hM59.but hB68 hd64
  have hO73 := hO60.but hB68 (by omega)
  have hx_hO73 := hO73.next
  have hO74 := hO61.but hB68 (by omega)
  have hO75 := hO62.but hB68 (by omega)
  have hM69 : Mine n53 1 H66 o65 (bcells (sealed (keyN 16) (b32 (wordsL made life tag peer first pf room out inn tie0 tie1)))) := hA67.1
  obtain ⟨cb76, cn77, cg78, rfl, hcg79, hcl80, hcb81, hcn82, hlt_cb76⟩ := hM69.blk (bcells_ne (by first | omega | (simp only [List.length_set, List.length_append, List.length_cons, List.length_nil, List.length_take, List.length_drop] <;> omega)))
  rw [bcells_len, Nat.mul_one] at hcl80
  subst hcl80
  have hd83 : ¬ ((.sl oa29 ((keyN 16)).length ((keyN 16)).length og30) : AV).nameOf cb76 := hM42.dis (by omega)
  have hd84 : ¬ ((.sl oa47 ((sealed (keyN 16) (b32 (wordsL made life tag peer first pf room out inn tie0 tie1)))).length ((sealed (keyN 16) (b32 (wordsL made life tag peer first pf room out inn tie0 tie1)))).length og48) : AV).nameOf cb76 := hM45.dis (by omega)
  refine O_p (.sl (some (cb76, 0)) ((sealed (keyN 16) (b32 (wordsL made life tag peer first pf room out inn tie0 tie1)))).length ((sealed (keyN 16) (b32 (wordsL made life tag peer first pf room out inn tie0 tie1)))).length cg78) (r_mv rfl) ?_
  refine O_nil ?_
  refine C_seq ?_
  refine C_region ?_
  refine O_p (.i .i64 at_) (r_mv rfl) ?_
  obtain ⟨q85, hq85, hlq85⟩ := and_nat at_ 7 (by decide)
  refine O_p (.i .i64 (((q85 : Nat)) : Int)) (by exact (by rw [← hq85]; exact r_bin rfl rfl rfl)) ?_
  refine O_p (.i .i64 (((q85 : Nat)) : Int)) (r_mv rfl) ?_
  refine O_nil ?_
  refine C_seq ?_
  refine C_region ?_
  refine O_p (.sl (some (cb76, 0)) ((sealed (keyN 16) (b32 (wordsL made life tag peer first pf room out inn tie0 tie1)))).length ((sealed (keyN 16) (b32 (wordsL made life tag peer first pf room out inn tie0 tie1)))).length cg78) (r_mv rfl) ?_
  refine O_p (.i .i64 (((q85 : Nat)) : Int)) (r_mv rfl) ?_
  refine O_p (.i .i64 (48 + (((q85 : Nat)) : Int))) (by exact (r_addi rfl rfl (wrap_i64 (by omega) (by omega)))) ?_
  refine O_p (.sl (some (cb76, 0)) ((sealed (keyN 16) (b32 (wordsL made life tag peer first pf room out inn tie0 tie1)))).length ((sealed (keyN 16) (b32 (wordsL made life tag peer first pf room out inn tie0 tie1)))).length cg78) (r_mv rfl) ?_
  refine O_p (.i .i64 (((q85 : Nat)) : Int)) (r_mv rfl) ?_
  refine O_p (.i .i64 (48 + (((q85 : Nat)) : Int))) (by exact (r_addi rfl rfl (wrap_i64 (by omega) (by omega)))) ?_
  refine O_p (.p (some (cb76, (48 + q85)))) (by exact (r_islo rfl (i := (48 + q85)) rfl (by first | omega | (simp only [List.length_set, List.length_append, List.length_cons, List.length_nil, List.length_take, List.length_drop] <;> omega)))) ?_
  refine O_p (.i .u8 (((sealed (keyN 16) (b32 (wordsL made life tag peer first pf room out inn tie0 tie1))).getD (48 + q85) 0).toNat : Int)) (by exact (r_ld rfl hcb81 (bcells_at (by first | omega | (simp only [List.length_set, List.length_append, List.length_cons, List.length_nil, List.length_take, List.length_drop] <;> omega))))) ?_
  refine O_p (.i .u8 0) (r_mv rfl) ?_
  refine O_p (.i .u8 (IntKind.u8.wrap ((BitVec.ofInt 8 (((sealed (keyN 16) (b32 (wordsL made life tag peer first pf room out inn tie0 tie1))).getD (48 + q85) 0).toNat : Int) ^^^ BitVec.ofInt 8 0).toNat : Int))) (r_bin rfl rfl rfl) ?_
  refine O_p (.p (some (cb76, (48 + q85)))) (by exact (r_islo rfl (i := (48 + q85)) rfl (by first | omega | (simp only [List.length_set, List.length_append, List.length_cons, List.length_nil, List.length_take, List.length_drop] <;> omega)))) ?_
  refine O_store (vs := [(.i .u8 (IntKind.u8.wrap ((BitVec.ofInt 8 (((sealed (keyN 16) (b32 (wordsL made life tag peer first pf room out inn tie0 tie1))).getD (48 + q85) 0).toNat : Int) ^^^ BitVec.ofInt 8 0).toNat : Int)))]) (c' := bcells ((sealed (keyN 16) (b32 (wordsL made life tag peer first pf room out inn tie0 tie1))).set (48 + q85) (u8 ((BitVec.ofInt 8 (((sealed (keyN 16) (b32 (wordsL made life tag peer first pf room out inn tie0 tie1))).getD (48 + q85) 0).toNat : Int) ^^^ BitVec.ofInt 8 0).toNat : Int)))) rfl (by rfl) hcb81 rfl (List.cons_ne_nil _ _) (bcells_lt (by first | omega | (simp only [List.length_set, List.length_append, List.length_cons, List.length_nil, List.length_take, List.length_drop] <;> omega))) (putAt_set (u8_wrap _)) fun H86 hW87 => ?_
  have hb88 := (hW87.2.2 _ (by omega)).trans hb70
  have hM89 := hM71.wr hW87 hd83
  have hM90 := hM72.wr hW87 hd84
  have hO91 := hO73.wr hW87 (by omega) (by omega)
  have hx_hO91 := hO91.next
  have hO92 := hO74.wr hW87 (by omega) (by omega)
  have hO93 := hO75.wr hW87 (by omega) (by omega)
  have hnx_H86 : H86.next = H66.next := hW87.1
  have hlt_n1 : n1 < H86.next := by omega
  have hlt_cb76 : cb76 < H86.next := by omega
  refine O_nil ?_
  refine C_seq ?_
  refine C_region ?_
  have hxor : (u8 ((BitVec.ofInt 8 (((sealed (keyN 16) (b32 (wordsL made life tag peer first pf room out inn tie0 tie1))).getD (48 + q85) 0).toNat : Int) ^^^ BitVec.ofInt 8 0).toNat : Int)) = ((sealed (keyN 16) (b32 (wordsL made life tag peer first pf room out inn tie0 tie1))).getD (48 + q85) 0) ↔ (0 : Int) = 0 := by have h := xor_u8 ((sealed (keyN 16) (b32 (wordsL made life tag peer first pf room out inn tie0 tie1))).getD (48 + q85) 0) (b := 0) (by omega) (by omega); rw [show IntKind.u8.wrap 0 = 0 from by decide, Int.zero_add] at h; exact h
  have hset0 : ((sealed (keyN 16) (b32 (wordsL made life tag peer first pf room out inn tie0 tie1))).set (48 + q85) (u8 ((BitVec.ofInt 8 (((sealed (keyN 16) (b32 (wordsL made life tag peer first pf room out inn tie0 tie1))).getD (48 + q85) 0).toNat : Int) ^^^ BitVec.ofInt 8 0).toNat : Int))) = (sealed (keyN 16) (b32 (wordsL made life tag peer first pf room out inn tie0 tie1))) := by rw [hxor.2 rfl]; exact set_same (by omega)
  have hsetZ : cErr (keyN 16) ((sealed (keyN 16) (b32 (wordsL made life tag peer first pf room out inn tie0 tie1))).set (48 + q85) (u8 ((BitVec.ofInt 8 (((sealed (keyN 16) (b32 (wordsL made life tag peer first pf room out inn tie0 tie1))).getD (48 + q85) 0).toNat : Int) ^^^ BitVec.ofInt 8 0).toNat : Int))) = 0 := by rw [hset0]; exact hcE
  refine O_call (Ev.mono (key_ev h19 hO91.ok) fun v94 H95 hq96 => ?_)
  obtain ⟨hM97, hK98⟩ := hq96
  have hb99 := (hK98.keep _ (by omega)).trans hb88
  have hb100 := (hK98.keep _ (by omega)).trans hW87.2.1
  have hx_hK98 := hK98.next
  have hlt_n1 : n1 < H95.next := by omega
  have hlt_cb76 : cb76 < H95.next := by omega
  have hM101 := hM89.kp hK98
  have hM102 := hM90.kp hK98
  have hO103 := hO91.trans hK98
  have hx_hO103 := hO103.next
  have hO104 := hO92.trans hK98
  have hO105 := hO93.trans hK98
  have hM106 := hM97.down (N := H.next) (by omega)
  have hd107 : ¬ v94.nameOf n1 := fun hq => by have := hM97.new _ hq; omega
  have hd108 : ¬ v94.nameOf cb76 := fun hq => by have := hM97.new _ hq; omega
  refine O_p (.sl (some (cb76, 0)) ((sealed (keyN 16) (b32 (wordsL made life tag peer first pf room out inn tie0 tie1)))).length ((sealed (keyN 16) (b32 (wordsL made life tag peer first pf room out inn tie0 tie1)))).length cg78) (r_mv rfl) ?_
  have hsf113 : Own 1 H95 v94 (bcells (keyN 16)) := hM106.own
  obtain ⟨oa109, og110, rfl, hog111, hob112⟩ := hsf113.bs
  have base114 := Old.refl hO103.ok
  have hbs115 := Bs.blk (g := cg78) hb100 (n := ((sealed (keyN 16) (b32 (wordsL made life tag peer first pf room out inn tie0 tie1)))).length) (by first | rfl | simp only [List.length_set])
  have base116 := Old.refl hO103.ok
  have hbs117 := Bs.blk (g := cg78) hb100 (n := ((sealed (keyN 16) (b32 (wordsL made life tag peer first pf room out inn tie0 tie1)))).length) (by first | rfl | simp only [List.length_set])
  have base118 := Old.refl hO103.ok
  refine O_call (Ev.mono (dec_ev hO103.ok hog111 (hM106.own.asbs) (by first | omega | (simp only [List.length_take, List.length_drop, List.length_append, List.length_cons, List.length_nil, beN_len] <;> omega)) (by first | omega | (simp only [List.length_take, List.length_drop, List.length_append, List.length_cons, List.length_nil, beN_len] <;> omega)) hcg79 (hbs117.old hO103.ok base118) (by first | omega | (simp only [List.length_take, List.length_drop, List.length_append, List.length_cons, List.length_nil, beN_len] <;> omega)) (by first | omega | (simp only [List.length_take, List.length_drop, List.length_append, List.length_cons, List.length_nil, beN_len] <;> omega))) fun v119 H120 hq121 => ?_)
  rw [hsetZ] at hq121
  obtain ⟨rfl, hK122⟩ := hq121
  have hb123 := (hK122.keep _ (by omega)).trans hb99
  have hb124 := (hK122.keep _ (by omega)).trans hb100
  have hx_hK122 := hK122.next
  have hlt_n1 : n1 < H120.next := by omega
  have hlt_cb76 : cb76 < H120.next := by omega
  have hM125 := hM101.kp hK122
  have hM126 := hM102.kp hK122
  have hM127 := hM106.kp hK122
  have hO128 := hO103.trans hK122
  have hx_hO128 := hO128.next
  have hO129 := hO104.trans hK122
  have hO130 := hO105.trans hK122
  have hO131 := base114.trans hK122
  have hO132 := base116.trans hK122
  have hO133 := base118.trans hK122
  refine O_p (.tup [(.agg [(.i .i64 (cSt (keyN 16) ((sealed (keyN 16) (b32 (wordsL made life tag peer first pf room out inn tie0 tie1))).set (48 + q85) (u8 ((BitVec.ofInt 8 (((sealed (keyN 16) (b32 (wordsL made life tag peer first pf room out inn tie0 tie1))).getD (48 + q85) 0).toNat : Int) ^^^ BitVec.ofInt 8 0).toNat : Int))) 0)), (.i .i64 (cSt (keyN 16) ((sealed (keyN 16) (b32 (wordsL made life tag peer first pf room out inn tie0 tie1))).set (48 + q85) (u8 ((BitVec.ofInt 8 (((sealed (keyN 16) (b32 (wordsL made life tag peer first pf room out inn tie0 tie1))).getD (48 + q85) 0).toNat : Int) ^^^ BitVec.ofInt 8 0).toNat : Int))) 1)), (.i .u32 (cSt (keyN 16) ((sealed (keyN 16) (b32 (wordsL made life tag peer first pf room out inn tie0 tie1))).set (48 + q85) (u8 ((BitVec.ofInt 8 (((sealed (keyN 16) (b32 (wordsL made life tag peer first pf room out inn tie0 tie1))).getD (48 + q85) 0).toNat : Int) ^^^ BitVec.ofInt 8 0).toNat : Int))) 2)), (.i .u32 (cSt (keyN 16) ((sealed (keyN 16) (b32 (wordsL made life tag peer first pf room out inn tie0 tie1))).set (48 + q85) (u8 ((BitVec.ofInt 8 (((sealed (keyN 16) (b32 (wordsL made life tag peer first pf room out inn tie0 tie1))).getD (48 + q85) 0).toNat : Int) ^^^ BitVec.ofInt 8 0).toNat : Int))) 3)), (.i .u32 (cSt (keyN 16) ((sealed (keyN 16) (b32 (wordsL made life tag peer first pf room out inn tie0 tie1))).set (48 + q85) (u8 ((BitVec.ofInt 8 (((sealed (keyN 16) (b32 (wordsL made life tag peer first pf room out inn tie0 tie1))).getD (48 + q85) 0).toNat : Int) ^^^ BitVec.ofInt 8 0).toNat : Int))) 4)), (.i .u32 (cSt (keyN 16) ((sealed (keyN 16) (b32 (wordsL made life tag peer first pf room out inn tie0 tie1))).set (48 + q85) (u8 ((BitVec.ofInt 8 (((sealed (keyN 16) (b32 (wordsL made life tag peer first pf room out inn tie0 tie1))).getD (48 + q85) 0).toNat : Int) ^^^ BitVec.ofInt 8 0).toNat : Int))) 5)), (.i .u32 (cSt (keyN 16) ((sealed (keyN 16) (b32 (wordsL made life tag peer first pf room out inn tie0 tie1))).set (48 + q85) (u8 ((BitVec.ofInt 8 (((sealed (keyN 16) (b32 (wordsL made life tag peer first pf room out inn tie0 tie1))).getD (48 + q85) 0).toNat : Int) ^^^ BitVec.ofInt 8 0).toNat : Int))) 6)), (.i .u16 (cSt (keyN 16) ((sealed (keyN 16) (b32 (wordsL made life tag peer first pf room out inn tie0 tie1))).set (48 + q85) (u8 ((BitVec.ofInt 8 (((sealed (keyN 16) (b32 (wordsL made life tag peer first pf room out inn tie0 tie1))).getD (48 + q85) 0).toNat : Int) ^^^ BitVec.ofInt 8 0).toNat : Int))) 7)), (.i .u16 (cSt (keyN 16) ((sealed (keyN 16) (b32 (wordsL made life tag peer first pf room out inn tie0 tie1))).set (48 + q85) (u8 ((BitVec.ofInt 8 (((sealed (keyN 16) (b32 (wordsL made life tag peer first pf room out inn tie0 tie1))).getD (48 + q85) 0).toNat : Int) ^^^ BitVec.ofInt 8 0).toNat : Int))) 8)), (.i .u32 (cSt (keyN 16) ((sealed (keyN 16) (b32 (wordsL made life tag peer first pf room out inn tie0 tie1))).set (48 + q85) (u8 ((BitVec.ofInt 8 (((sealed (keyN 16) (b32 (wordsL made life tag peer first pf room out inn tie0 tie1))).getD (48 + q85) 0).toNat : Int) ^^^ BitVec.ofInt 8 0).toNat : Int))) 9)), (.i .u32 (cSt (keyN 16) ((sealed (keyN 16) (b32 (wordsL made life tag peer first pf room out inn tie0 tie1))).set (48 + q85) (u8 ((BitVec.ofInt 8 (((sealed (keyN 16) (b32 (wordsL made life tag peer first pf room out inn tie0 tie1))).getD (48 + q85) 0).toNat : Int) ^^^ BitVec.ofInt 8 0).toNat : Int))) 10))]), (.i .i64 0)]) (r_mv rfl) ?_
  refine O_p (.agg [(.i .i64 (cSt (keyN 16) ((sealed (keyN 16) (b32 (wordsL made life tag peer first pf room out inn tie0 tie1))).set (48 + q85) (u8 ((BitVec.ofInt 8 (((sealed (keyN 16) (b32 (wordsL made life tag peer first pf room out inn tie0 tie1))).getD (48 + q85) 0).toNat : Int) ^^^ BitVec.ofInt 8 0).toNat : Int))) 0)), (.i .i64 (cSt (keyN 16) ((sealed (keyN 16) (b32 (wordsL made life tag peer first pf room out inn tie0 tie1))).set (48 + q85) (u8 ((BitVec.ofInt 8 (((sealed (keyN 16) (b32 (wordsL made life tag peer first pf room out inn tie0 tie1))).getD (48 + q85) 0).toNat : Int) ^^^ BitVec.ofInt 8 0).toNat : Int))) 1)), (.i .u32 (cSt (keyN 16) ((sealed (keyN 16) (b32 (wordsL made life tag peer first pf room out inn tie0 tie1))).set (48 + q85) (u8 ((BitVec.ofInt 8 (((sealed (keyN 16) (b32 (wordsL made life tag peer first pf room out inn tie0 tie1))).getD (48 + q85) 0).toNat : Int) ^^^ BitVec.ofInt 8 0).toNat : Int))) 2)), (.i .u32 (cSt (keyN 16) ((sealed (keyN 16) (b32 (wordsL made life tag peer first pf room out inn tie0 tie1))).set (48 + q85) (u8 ((BitVec.ofInt 8 (((sealed (keyN 16) (b32 (wordsL made life tag peer first pf room out inn tie0 tie1))).getD (48 + q85) 0).toNat : Int) ^^^ BitVec.ofInt 8 0).toNat : Int))) 3)), (.i .u32 (cSt (keyN 16) ((sealed (keyN 16) (b32 (wordsL made life tag peer first pf room out inn tie0 tie1))).set (48 + q85) (u8 ((BitVec.ofInt 8 (((sealed (keyN 16) (b32 (wordsL made life tag peer first pf room out inn tie0 tie1))).getD (48 + q85) 0).toNat : Int) ^^^ BitVec.ofInt 8 0).toNat : Int))) 4)), (.i .u32 (cSt (keyN 16) ((sealed (keyN 16) (b32 (wordsL made life tag peer first pf room out inn tie0 tie1))).set (48 + q85) (u8 ((BitVec.ofInt 8 (((sealed (keyN 16) (b32 (wordsL made life tag peer first pf room out inn tie0 tie1))).getD (48 + q85) 0).toNat : Int) ^^^ BitVec.ofInt 8 0).toNat : Int))) 5)), (.i .u32 (cSt (keyN 16) ((sealed (keyN 16) (b32 (wordsL made life tag peer first pf room out inn tie0 tie1))).set (48 + q85) (u8 ((BitVec.ofInt 8 (((sealed (keyN 16) (b32 (wordsL made life tag peer first pf room out inn tie0 tie1))).getD (48 + q85) 0).toNat : Int) ^^^ BitVec.ofInt 8 0).toNat : Int))) 6)), (.i .u16 (cSt (keyN 16) ((sealed (keyN 16) (b32 (wordsL made life tag peer first pf room out inn tie0 tie1))).set (48 + q85) (u8 ((BitVec.ofInt 8 (((sealed (keyN 16) (b32 (wordsL made life tag peer first pf room out inn tie0 tie1))).getD (48 + q85) 0).toNat : Int) ^^^ BitVec.ofInt 8 0).toNat : Int))) 7)), (.i .u16 (cSt (keyN 16) ((sealed (keyN 16) (b32 (wordsL made life tag peer first pf room out inn tie0 tie1))).set (48 + q85) (u8 ((BitVec.ofInt 8 (((sealed (keyN 16) (b32 (wordsL made life tag peer first pf room out inn tie0 tie1))).getD (48 + q85) 0).toNat : Int) ^^^ BitVec.ofInt 8 0).toNat : Int))) 8)), (.i .u32 (cSt (keyN 16) ((sealed (keyN 16) (b32 (wordsL made life tag peer first pf room out inn tie0 tie1))).set (48 + q85) (u8 ((BitVec.ofInt 8 (((sealed (keyN 16) (b32 (wordsL made life tag peer first pf room out inn tie0 tie1))).getD (48 + q85) 0).toNat : Int) ^^^ BitVec.ofInt 8 0).toNat : Int))) 9)), (.i .u32 (cSt (keyN 16) ((sealed (keyN 16) (b32 (wordsL made life tag peer first pf room out inn tie0 tie1))).set (48 + q85) (u8 ((BitVec.ofInt 8 (((sealed (keyN 16) (b32 (wordsL made life tag peer first pf room out inn tie0 tie1))).getD (48 + q85) 0).toNat : Int) ^^^ BitVec.ofInt 8 0).toNat : Int))) 10))]) (r_ext rfl rfl) ?_
  refine O_p (.i .i64 0) (r_ext rfl rfl) ?_
  refine O_alloc fun n134 H135 hN136 => ?_
  have hF137 := hN136.fr (fun _ => False)
  have hb138 := (hF137.keep _ (by exact hlt_n1) (fun h => h)).trans hb123
  have hb139 := (hF137.keep _ (by exact hlt_cb76) (fun h => h)).trans hb124
  have hM140 := hM125.anew hN136
  have hM141 := hM126.anew hN136
  have hM142 := hM127.anew hN136
  have hO143 := hO128.new hN136
  have hx_hO143 := hO143.next
  have hO144 := hO129.new hN136
  have hO145 := hO130.new hN136
  have hO146 := hO131.new hN136
  have hO147 := hO132.new hN136
  have hO148 := hO133.new hN136
  have hd149 : ¬ ((.sl oa29 ((keyN 16)).length ((keyN 16)).length og30) : AV).nameOf n134 := hM125.dis (by have := hN136.1; omega)
  have hd150 : ¬ ((.sl oa47 ((sealed (keyN 16) (b32 (wordsL made life tag peer first pf room out inn tie0 tie1)))).length ((sealed (keyN 16) (b32 (wordsL made life tag peer first pf room out inn tie0 tie1)))).length og48) : AV).nameOf n134 := hM126.dis (by have := hN136.1; omega)
  have hd151 : ¬ ((.sl oa109 ((keyN 16)).length ((keyN 16)).length og110) : AV).nameOf n134 := hM127.dis (by have := hN136.1; omega)
  have hnm_n134 : n134 = H120.next := hN136.1
  have hnx_H135 : H135.next = H120.next + 1 := hN136.2.1
  have hlt_n1 : n1 < H135.next := by omega
  have hlt_cb76 : cb76 < H135.next := by omega
  have hlt_n134 : n134 < H135.next := by omega
  refine O_store (vs := [(.i .i64 (cSt (keyN 16) ((sealed (keyN 16) (b32 (wordsL made life tag peer first pf room out inn tie0 tie1))).set (48 + q85) (u8 ((BitVec.ofInt 8 (((sealed (keyN 16) (b32 (wordsL made life tag peer first pf room out inn tie0 tie1))).getD (48 + q85) 0).toNat : Int) ^^^ BitVec.ofInt 8 0).toNat : Int))) 0)), (.i .i64 (cSt (keyN 16) ((sealed (keyN 16) (b32 (wordsL made life tag peer first pf room out inn tie0 tie1))).set (48 + q85) (u8 ((BitVec.ofInt 8 (((sealed (keyN 16) (b32 (wordsL made life tag peer first pf room out inn tie0 tie1))).getD (48 + q85) 0).toNat : Int) ^^^ BitVec.ofInt 8 0).toNat : Int))) 1)), (.i .u32 (cSt (keyN 16) ((sealed (keyN 16) (b32 (wordsL made life tag peer first pf room out inn tie0 tie1))).set (48 + q85) (u8 ((BitVec.ofInt 8 (((sealed (keyN 16) (b32 (wordsL made life tag peer first pf room out inn tie0 tie1))).getD (48 + q85) 0).toNat : Int) ^^^ BitVec.ofInt 8 0).toNat : Int))) 2)), (.i .u32 (cSt (keyN 16) ((sealed (keyN 16) (b32 (wordsL made life tag peer first pf room out inn tie0 tie1))).set (48 + q85) (u8 ((BitVec.ofInt 8 (((sealed (keyN 16) (b32 (wordsL made life tag peer first pf room out inn tie0 tie1))).getD (48 + q85) 0).toNat : Int) ^^^ BitVec.ofInt 8 0).toNat : Int))) 3)), (.i .u32 (cSt (keyN 16) ((sealed (keyN 16) (b32 (wordsL made life tag peer first pf room out inn tie0 tie1))).set (48 + q85) (u8 ((BitVec.ofInt 8 (((sealed (keyN 16) (b32 (wordsL made life tag peer first pf room out inn tie0 tie1))).getD (48 + q85) 0).toNat : Int) ^^^ BitVec.ofInt 8 0).toNat : Int))) 4)), (.i .u32 (cSt (keyN 16) ((sealed (keyN 16) (b32 (wordsL made life tag peer first pf room out inn tie0 tie1))).set (48 + q85) (u8 ((BitVec.ofInt 8 (((sealed (keyN 16) (b32 (wordsL made life tag peer first pf room out inn tie0 tie1))).getD (48 + q85) 0).toNat : Int) ^^^ BitVec.ofInt 8 0).toNat : Int))) 5)), (.i .u32 (cSt (keyN 16) ((sealed (keyN 16) (b32 (wordsL made life tag peer first pf room out inn tie0 tie1))).set (48 + q85) (u8 ((BitVec.ofInt 8 (((sealed (keyN 16) (b32 (wordsL made life tag peer first pf room out inn tie0 tie1))).getD (48 + q85) 0).toNat : Int) ^^^ BitVec.ofInt 8 0).toNat : Int))) 6)), (.i .u16 (cSt (keyN 16) ((sealed (keyN 16) (b32 (wordsL made life tag peer first pf room out inn tie0 tie1))).set (48 + q85) (u8 ((BitVec.ofInt 8 (((sealed (keyN 16) (b32 (wordsL made life tag peer first pf room out inn tie0 tie1))).getD (48 + q85) 0).toNat : Int) ^^^ BitVec.ofInt 8 0).toNat : Int))) 7)), (.i .u16 (cSt (keyN 16) ((sealed (keyN 16) (b32 (wordsL made life tag peer first pf room out inn tie0 tie1))).set (48 + q85) (u8 ((BitVec.ofInt 8 (((sealed (keyN 16) (b32 (wordsL made life tag peer first pf room out inn tie0 tie1))).getD (48 + q85) 0).toNat : Int) ^^^ BitVec.ofInt 8 0).toNat : Int))) 8)), (.i .u32 (cSt (keyN 16) ((sealed (keyN 16) (b32 (wordsL made life tag peer first pf room out inn tie0 tie1))).set (48 + q85) (u8 ((BitVec.ofInt 8 (((sealed (keyN 16) (b32 (wordsL made life tag peer first pf room out inn tie0 tie1))).getD (48 + q85) 0).toNat : Int) ^^^ BitVec.ofInt 8 0).toNat : Int))) 9)), (.i .u32 (cSt (keyN 16) ((sealed (keyN 16) (b32 (wordsL made life tag peer first pf room out inn tie0 tie1))).set (48 + q85) (u8 ((BitVec.ofInt 8 (((sealed (keyN 16) (b32 (wordsL made life tag peer first pf room out inn tie0 tie1))).getD (48 + q85) 0).toNat : Int) ^^^ BitVec.ofInt 8 0).toNat : Int))) 10))]) (c' := [(.i .i64 (cSt (keyN 16) ((sealed (keyN 16) (b32 (wordsL made life tag peer first pf room out inn tie0 tie1))).set (48 + q85) (u8 ((BitVec.ofInt 8 (((sealed (keyN 16) (b32 (wordsL made life tag peer first pf room out inn tie0 tie1))).getD (48 + q85) 0).toNat : Int) ^^^ BitVec.ofInt 8 0).toNat : Int))) 0)), (.i .i64 (cSt (keyN 16) ((sealed (keyN 16) (b32 (wordsL made life tag peer first pf room out inn tie0 tie1))).set (48 + q85) (u8 ((BitVec.ofInt 8 (((sealed (keyN 16) (b32 (wordsL made life tag peer first pf room out inn tie0 tie1))).getD (48 + q85) 0).toNat : Int) ^^^ BitVec.ofInt 8 0).toNat : Int))) 1)), (.i .u32 (cSt (keyN 16) ((sealed (keyN 16) (b32 (wordsL made life tag peer first pf room out inn tie0 tie1))).set (48 + q85) (u8 ((BitVec.ofInt 8 (((sealed (keyN 16) (b32 (wordsL made life tag peer first pf room out inn tie0 tie1))).getD (48 + q85) 0).toNat : Int) ^^^ BitVec.ofInt 8 0).toNat : Int))) 2)), (.i .u32 (cSt (keyN 16) ((sealed (keyN 16) (b32 (wordsL made life tag peer first pf room out inn tie0 tie1))).set (48 + q85) (u8 ((BitVec.ofInt 8 (((sealed (keyN 16) (b32 (wordsL made life tag peer first pf room out inn tie0 tie1))).getD (48 + q85) 0).toNat : Int) ^^^ BitVec.ofInt 8 0).toNat : Int))) 3)), (.i .u32 (cSt (keyN 16) ((sealed (keyN 16) (b32 (wordsL made life tag peer first pf room out inn tie0 tie1))).set (48 + q85) (u8 ((BitVec.ofInt 8 (((sealed (keyN 16) (b32 (wordsL made life tag peer first pf room out inn tie0 tie1))).getD (48 + q85) 0).toNat : Int) ^^^ BitVec.ofInt 8 0).toNat : Int))) 4)), (.i .u32 (cSt (keyN 16) ((sealed (keyN 16) (b32 (wordsL made life tag peer first pf room out inn tie0 tie1))).set (48 + q85) (u8 ((BitVec.ofInt 8 (((sealed (keyN 16) (b32 (wordsL made life tag peer first pf room out inn tie0 tie1))).getD (48 + q85) 0).toNat : Int) ^^^ BitVec.ofInt 8 0).toNat : Int))) 5)), (.i .u32 (cSt (keyN 16) ((sealed (keyN 16) (b32 (wordsL made life tag peer first pf room out inn tie0 tie1))).set (48 + q85) (u8 ((BitVec.ofInt 8 (((sealed (keyN 16) (b32 (wordsL made life tag peer first pf room out inn tie0 tie1))).getD (48 + q85) 0).toNat : Int) ^^^ BitVec.ofInt 8 0).toNat : Int))) 6)), (.i .u16 (cSt (keyN 16) ((sealed (keyN 16) (b32 (wordsL made life tag peer first pf room out inn tie0 tie1))).set (48 + q85) (u8 ((BitVec.ofInt 8 (((sealed (keyN 16) (b32 (wordsL made life tag peer first pf room out inn tie0 tie1))).getD (48 + q85) 0).toNat : Int) ^^^ BitVec.ofInt 8 0).toNat : Int))) 7)), (.i .u16 (cSt (keyN 16) ((sealed (keyN 16) (b32 (wordsL made life tag peer first pf room out inn tie0 tie1))).set (48 + q85) (u8 ((BitVec.ofInt 8 (((sealed (keyN 16) (b32 (wordsL made life tag peer first pf room out inn tie0 tie1))).getD (48 + q85) 0).toNat : Int) ^^^ BitVec.ofInt 8 0).toNat : Int))) 8)), (.i .u32 (cSt (keyN 16) ((sealed (keyN 16) (b32 (wordsL made life tag peer first pf room out inn tie0 tie1))).set (48 + q85) (u8 ((BitVec.ofInt 8 (((sealed (keyN 16) (b32 (wordsL made life tag peer first pf room out inn tie0 tie1))).getD (48 + q85) 0).toNat : Int) ^^^ BitVec.ofInt 8 0).toNat : Int))) 9)), (.i .u32 (cSt (keyN 16) ((sealed (keyN 16) (b32 (wordsL made life tag peer first pf room out inn tie0 tie1))).set (48 + q85) (u8 ((BitVec.ofInt 8 (((sealed (keyN 16) (b32 (wordsL made life tag peer first pf room out inn tie0 tie1))).getD (48 + q85) 0).toNat : Int) ^^^ BitVec.ofInt 8 0).toNat : Int))) 10))]) rfl (by rfl) hN136.2.2.1 rfl (List.cons_ne_nil _ _) (Nat.le_of_ble_eq_true rfl) rfl fun H152 hW153 => ?_
  have hb154 := (hW153.2.2 _ (by omega)).trans hb138
  have hb155 := (hW153.2.2 _ (by omega)).trans hb139
  have hM156 := hM140.wr hW153 hd149
  have hM157 := hM141.wr hW153 hd150
  have hM158 := hM142.wr hW153 hd151
  have hO159 := hO143.wr hW153 (by omega) (by omega)
  have hx_hO159 := hO159.next
  have hO160 := hO144.wr hW153 (by omega) (by omega)
  have hO161 := hO145.wr hW153 (by omega) (by omega)
  have hO162 := hO146.wr hW153 (by omega) (by omega)
  have hO163 := hO147.wr hW153 (by omega) (by omega)
  have hO164 := hO148.wr hW153 (by omega) (by omega)
  have hnx_H152 : H152.next = H135.next := hW153.1
  have hlt_n1 : n1 < H152.next := by omega
  have hlt_cb76 : cb76 < H152.next := by omega
  have hlt_n134 : n134 < H152.next := by omega
  refine O_p (.i .i64 0) (r_mv rfl) ?_
  refine O_nil ?_
  refine C_seq ?_
  refine C_draw fun b165 H166 hbase167 hA168 => ?_
  have hnx169 : H166.next = H152.next + 13 := hA168.1
  have hb170 := (hA168.2 _).trans hb154
  have hb171 := (hA168.2 _).trans hb155
  have hb172 := (hA168.2 _).trans hW153.2.1
  have hF173 := hA168.fr (fun _ => False)
  have hM174 := hM156.aside hA168
  have hM175 := hM157.aside hA168
  have hM176 := hM158.aside hA168
  have hO177 := hO159.aside hA168
  have hx_hO177 := hO177.next
  have hO178 := hO160.aside hA168
  have hO179 := hO161.aside hA168
  have hO180 := hO162.aside hA168
  have hO181 := hO163.aside hA168
  have hO182 := hO164.aside hA168
  have hlt_n1 : n1 < H166.next := by omega
  have hlt_cb76 : cb76 < H166.next := by omega
  have hlt_n134 : n134 < H166.next := by omega
  refine D_l (v := (.sl oa47 ((sealed (keyN 16) (b32 (wordsL made life tag peer first pf room out inn tie0 tie1)))).length ((sealed (keyN 16) (b32 (wordsL made life tag peer first pf room out inn tie0 tie1)))).length og48)) rfl rfl rfl (r_mv rfl) ?_
  refine D_l (v := (.i .i64 at_)) rfl rfl rfl (r_mv rfl) ?_
  obtain ⟨q183, hq183, hlq183⟩ := and_nat at_ 65535 (by decide)
  refine D_l (v := (.i .i64 (((q183 : Nat)) : Int))) rfl rfl rfl (by exact (by rw [← hq183]; exact r_bin rfl rfl rfl)) ?_
  refine D_l (v := (.i .i64 ((((q183 % 60) : Nat)) : Int))) rfl rfl rfl (by exact (r_remn (a := q183) (b := 60) rfl rfl (by omega))) ?_
  refine D_q rfl rfl rfl (by exact Bs.hi hob50 hog49 rfl (j := (q183 % 60)) rfl (by first | omega | (simp only [List.length_take, List.length_drop, List.length_append, List.length_cons, List.length_nil, beN_len] <;> omega)) (by first | omega | (simp only [List.length_take, List.length_drop, List.length_append, List.length_cons, List.length_nil, beN_len] <;> omega))) fun v187 hv186 => ?_
  obtain ⟨a184, rfl, hb185⟩ := hv186
  refine D_call (Ev.mono (key_ev h19 hO177.ok) fun v188 H189 hq190 => ?_)
  obtain ⟨hM191, hK192⟩ := hq190
  have hb193 := (hK192.keep _ (by omega)).trans hb170
  have hb194 := (hK192.keep _ (by omega)).trans hb171
  have hb195 := (hK192.keep _ (by omega)).trans hb172
  have hx_hK192 := hK192.next
  have hlt_n1 : n1 < H189.next := by omega
  have hlt_cb76 : cb76 < H189.next := by omega
  have hlt_n134 : n134 < H189.next := by omega
  have hM196 := hM174.kp hK192
  have hM197 := hM175.kp hK192
  have hM198 := hM176.kp hK192
  have hO199 := hO177.trans hK192
  have hx_hO199 := hO199.next
  have hO200 := hO178.trans hK192
  have hO201 := hO179.trans hK192
  have hO202 := hO180.trans hK192
  have hO203 := hO181.trans hK192
  have hO204 := hO182.trans hK192
  have hM205 := hM191.down (N := H.next) (by omega)
  have hd206 : ¬ v188.nameOf n1 := fun hq => by have := hM191.new _ hq; omega
  have hd207 : ¬ v188.nameOf cb76 := fun hq => by have := hM191.new _ hq; omega
  have hd208 : ¬ v188.nameOf n134 := fun hq => by have := hM191.new _ hq; omega
  refine And.intro True.intro ?_
  have hsf213 : Own 1 H189 v188 (bcells (keyN 16)) := hM205.own
  obtain ⟨oa209, og210, rfl, hog211, hob212⟩ := hsf213.bs
  have base214 := Old.refl hO199.ok
  refine D_call (Ev.mono (dec_ev hO199.ok hog211 (hM205.own.asbs) (by first | omega | (simp only [List.length_take, List.length_drop, List.length_append, List.length_cons, List.length_nil, beN_len] <;> omega)) (by first | omega | (simp only [List.length_take, List.length_drop, List.length_append, List.length_cons, List.length_nil, beN_len] <;> omega)) hog49 (hb185.old hO43.ok hO201) (by first | omega | (simp only [List.length_take, List.length_drop, List.length_append, List.length_cons, List.length_nil, beN_len] <;> omega)) (by first | omega | (simp only [List.length_take, List.length_drop, List.length_append, List.length_cons, List.length_nil, beN_len] <;> omega))) fun v215 H216 hq217 => ?_)
  have hEn : ¬ cErr (keyN 16) ((sealed (keyN 16) (b32 (wordsL made life tag peer first pf room out inn tie0 tie1))).take (q183 % 60)) = 0 := by rw [(cErr_2 (key := (keyN 16)) (b := ((sealed (keyN 16) (b32 (wordsL made life tag peer first pf room out inn tie0 tie1))).take (q183 % 60))) hk16 (by simp only [List.length_take] <;> omega))]; decide
  simp only [cSt_bad hEn] at hq217
  rw [(cErr_2 (key := (keyN 16)) (b := ((sealed (keyN 16) (b32 (wordsL made life tag peer first pf room out inn tie0 tie1))).take (q183 % 60))) hk16 (by simp only [List.length_take] <;> omega))] at hq217
  obtain ⟨rfl, hK218⟩ := hq217
  have hb219 := (hK218.keep _ (by omega)).trans hb193
  have hb220 := (hK218.keep _ (by omega)).trans hb194
  have hb221 := (hK218.keep _ (by omega)).trans hb195
  have hx_hK218 := hK218.next
  have hlt_n1 : n1 < H216.next := by omega
  have hlt_cb76 : cb76 < H216.next := by omega
  have hlt_n134 : n134 < H216.next := by omega
  have hM222 := hM196.kp hK218
  have hM223 := hM197.kp hK218
  have hM224 := hM198.kp hK218
  have hM225 := hM205.kp hK218
  have hO226 := hO199.trans hK218
  have hx_hO226 := hO226.next
  have hO227 := hO200.trans hK218
  have hO228 := hO201.trans hK218
  have hO229 := hO202.trans hK218
  have hO230 := hO203.trans hK218
  have hO231 := hO204.trans hK218
  have hO232 := base214.trans hK218
  refine And.intro True.intro ?_
  refine D_l (v := (.tup [(.agg [(.i .i64 0), (.i .i64 0), (.i .u32 0), (.i .u32 0), (.i .u32 0), (.i .u32 0), (.i .u32 0), (.i .u16 0), (.i .u16 0), (.i .u32 0), (.i .u32 0)]), (.i .i64 2)])) rfl rfl rfl (r_mv rfl) ?_
  refine D_l (v := (.agg [(.i .i64 0), (.i .i64 0), (.i .u32 0), (.i .u32 0), (.i .u32 0), (.i .u32 0), (.i .u32 0), (.i .u16 0), (.i .u16 0), (.i .u32 0), (.i .u32 0)])) rfl rfl rfl (r_ext rfl rfl) ?_
  refine D_l (v := (.i .i64 2)) rfl rfl rfl (r_ext rfl rfl) ?_
  refine D_m (f := fun n => ((.p (some (n, 0))), .cells [(.i .i64 0), (.i .i64 0), (.i .u32 0), (.i .u32 0), (.i .u32 0), (.i .u32 0), (.i .u32 0), (.i .u16 0), (.i .u16 0), (.i .u32 0), (.i .u32 0)] true)) rfl rfl fun H234 hW235 => ?_
  generalize hn236 : b165 + 10 = n233 at hW235 ⊢
  have hd237 : ¬ ((.sl oa29 ((keyN 16)).length ((keyN 16)).length og30) : AV).nameOf n233 := hM156.dis (by omega)
  have hd238 : ¬ ((.sl oa47 ((sealed (keyN 16) (b32 (wordsL made life tag peer first pf room out inn tie0 tie1)))).length ((sealed (keyN 16) (b32 (wordsL made life tag peer first pf room out inn tie0 tie1)))).length og48) : AV).nameOf n233 := hM157.dis (by omega)
  have hd239 : ¬ ((.sl oa109 ((keyN 16)).length ((keyN 16)).length og110) : AV).nameOf n233 := hM158.dis (by omega)
  have hd240 : ¬ ((.sl oa209 ((keyN 16)).length ((keyN 16)).length og210) : AV).nameOf n233 := fun hq => by have := hM191.new _ hq; omega
  have hb241 := (hW235.2.2 _ (by omega)).trans hb219
  have hb242 := (hW235.2.2 _ (by omega)).trans hb220
  have hb243 := (hW235.2.2 _ (by omega)).trans hb221
  have hM244 := hM222.wr hW235 hd237
  have hM245 := hM223.wr hW235 hd238
  have hM246 := hM224.wr hW235 hd239
  have hM247 := hM225.wr hW235 hd240
  have hO248 := hO226.wr hW235 (by omega) (by omega)
  have hx_hO248 := hO248.next
  have hO249 := hO227.wr hW235 (by omega) (by omega)
  have hO250 := hO228.wr hW235 (by omega) (by omega)
  have hO251 := hO229.wr hW235 (by omega) (by omega)
  have hO252 := hO230.wr hW235 (by omega) (by omega)
  have hO253 := hO231.wr hW235 (by omega) (by omega)
  have hnx_H234 : H234.next = H216.next := hW235.1
  have hlt_n1 : n1 < H234.next := by omega
  have hlt_cb76 : cb76 < H234.next := by omega
  have hlt_n134 : n134 < H234.next := by omega
  have hlt_n233 : n233 < H234.next := by omega
  refine And.intro True.intro ?_
  refine D_store (vs := [(.i .i64 0), (.i .i64 0), (.i .u32 0), (.i .u32 0), (.i .u32 0), (.i .u32 0), (.i .u32 0), (.i .u16 0), (.i .u16 0), (.i .u32 0), (.i .u32 0)]) (c' := [(.i .i64 0), (.i .i64 0), (.i .u32 0), (.i .u32 0), (.i .u32 0), (.i .u32 0), (.i .u32 0), (.i .u16 0), (.i .u16 0), (.i .u32 0), (.i .u32 0)]) rfl (by rfl) hW235.2.1 rfl (List.cons_ne_nil _ _) (Nat.le_of_ble_eq_true rfl) rfl fun H254 hW255 => ?_
  have hb256 := (hW255.2.2 _ (by omega)).trans hb241
  have hb257 := (hW255.2.2 _ (by omega)).trans hb242
  have hb258 := (hW255.2.2 _ (by omega)).trans hb243
  have hM259 := hM244.wr hW255 hd237
  have hM260 := hM245.wr hW255 hd238
  have hM261 := hM246.wr hW255 hd239
  have hM262 := hM247.wr hW255 hd240
  have hO263 := hO248.wr hW255 (by omega) (by omega)
  have hx_hO263 := hO263.next
  have hO264 := hO249.wr hW255 (by omega) (by omega)
  have hO265 := hO250.wr hW255 (by omega) (by omega)
  have hO266 := hO251.wr hW255 (by omega) (by omega)
  have hO267 := hO252.wr hW255 (by omega) (by omega)
  have hO268 := hO253.wr hW255 (by omega) (by omega)
  have hnx_H254 : H254.next = H234.next := hW255.1
  have hlt_n1 : n1 < H254.next := by omega
  have hlt_cb76 : cb76 < H254.next := by omega
  have hlt_n134 : n134 < H254.next := by omega
  have hlt_n233 : n233 < H254.next := by omega
  refine And.intro True.intro ?_
  refine D_l (v := (.i .i64 2)) rfl rfl rfl (r_mv rfl) ?_
  refine D_nil ?_
  refine C_seq ?_
  refine C_region ?_
  refine O_call (Ev.mono (key_ev h19 hO263.ok) fun v269 H270 hq271 => ?_)
  obtain ⟨hM272, hK273⟩ := hq271
  have hb274 := (hK273.keep _ (by omega)).trans hb256
  have hb275 := (hK273.keep _ (by omega)).trans hb257
  have hb276 := (hK273.keep _ (by omega)).trans hb258
  have hb277 := (hK273.keep _ (by omega)).trans hW255.2.1
  have hx_hK273 := hK273.next
  have hlt_n1 : n1 < H270.next := by omega
  have hlt_cb76 : cb76 < H270.next := by omega
  have hlt_n134 : n134 < H270.next := by omega
  have hlt_n233 : n233 < H270.next := by omega
  have hM278 := hM259.kp hK273
  have hM279 := hM260.kp hK273
  have hM280 := hM261.kp hK273
  have hM281 := hM262.kp hK273
  have hO282 := hO263.trans hK273
  have hx_hO282 := hO282.next
  have hO283 := hO264.trans hK273
  have hO284 := hO265.trans hK273
  have hO285 := hO266.trans hK273
  have hO286 := hO267.trans hK273
  have hO287 := hO268.trans hK273
  have hM288 := hM272.down (N := H.next) (by omega)
  have hd289 : ¬ v269.nameOf n1 := fun hq => by have := hM272.new _ hq; omega
  have hd290 : ¬ v269.nameOf cb76 := fun hq => by have := hM272.new _ hq; omega
  have hd291 : ¬ v269.nameOf n134 := fun hq => by have := hM272.new _ hq; omega
  have hd292 : ¬ v269.nameOf n233 := fun hq => by have := hM272.new _ hq; omega
  refine O_bslice (c := []) rfl fun n293 H294 hN295 => ?_
  have hF296 := hN295.fr (fun _ => False)
  have hb297 := (hF296.keep _ (by exact hlt_n1) (fun h => h)).trans hb274
  have hb298 := (hF296.keep _ (by exact hlt_cb76) (fun h => h)).trans hb275
  have hb299 := (hF296.keep _ (by exact hlt_n134) (fun h => h)).trans hb276
  have hb300 := (hF296.keep _ (by exact hlt_n233) (fun h => h)).trans hb277
  have hM301 := hM278.anew hN295
  have hM302 := hM279.anew hN295
  have hM303 := hM280.anew hN295
  have hM304 := hM281.anew hN295
  have hM305 := hM288.anew hN295
  have hO306 := hO282.new hN295
  have hx_hO306 := hO306.next
  have hO307 := hO283.new hN295
  have hO308 := hO284.new hN295
  have hO309 := hO285.new hN295
  have hO310 := hO286.new hN295
  have hO311 := hO287.new hN295
  have hd312 : ¬ ((.sl oa29 ((keyN 16)).length ((keyN 16)).length og30) : AV).nameOf n293 := hM278.dis (by have := hN295.1; omega)
  have hd313 : ¬ ((.sl oa47 ((sealed (keyN 16) (b32 (wordsL made life tag peer first pf room out inn tie0 tie1)))).length ((sealed (keyN 16) (b32 (wordsL made life tag peer first pf room out inn tie0 tie1)))).length og48) : AV).nameOf n293 := hM279.dis (by have := hN295.1; omega)
  have hd314 : ¬ ((.sl oa109 ((keyN 16)).length ((keyN 16)).length og110) : AV).nameOf n293 := hM280.dis (by have := hN295.1; omega)
  have hd315 : ¬ ((.sl oa209 ((keyN 16)).length ((keyN 16)).length og210) : AV).nameOf n293 := hM281.dis (by have := hN295.1; omega)
  have hd316 : ¬ (v269 : AV).nameOf n293 := hM288.dis (by have := hN295.1; omega)
  have hnm_n293 : n293 = H270.next := hN295.1
  have hnx_H294 : H294.next = H270.next + 1 := hN295.2.1
  have hlt_n1 : n1 < H294.next := by omega
  have hlt_cb76 : cb76 < H294.next := by omega
  have hlt_n134 : n134 < H294.next := by omega
  have hlt_n233 : n233 < H294.next := by omega
  have hlt_n293 : n293 < H294.next := by omega
  refine O_p (.sl oa47 ((sealed (keyN 16) (b32 (wordsL made life tag peer first pf room out inn tie0 tie1)))).length ((sealed (keyN 16) (b32 (wordsL made life tag peer first pf room out inn tie0 tie1)))).length og48) (r_mv rfl) ?_
  refine O_qh (by exact r_app (N := n293) (n := 0) (k := (sealed (keyN 16) (b32 (wordsL made life tag peer first pf room out inn tie0 tie1))).length) (new := bcells (sealed (keyN 16) (b32 (wordsL made life tag peer first pf room out inn tie0 tie1)))) hO306.ok (Nat.le_of_lt hlt_n293) ⟨.mk (n := 0) hN295.2.2.1 hlt_n293 (.inl rfl) rfl, fun q hq => by rw [nameOf_sl] at hq; omega⟩ rfl rfl rfl ((hM302.own.asbs).len) ((hM302.own.asbs).src) ((bcells_len _).trans (Nat.mul_one _).symm) (by decide) (by decide) (by first | omega | (simp only [List.length_take, List.length_drop, List.length_append, List.length_cons, List.length_nil, beN_len] <;> omega))) fun o317 H318 hA319 => ?_
  have hB320 := hA319.but
  have hb322 := (hB320.keep _ (by omega) (by omega)).trans hb297
  have hb323 := (hB320.keep _ (by omega) (by omega)).trans hb298
  have hb324 := (hB320.keep _ (by omega) (by omega)).trans hb299
  have hb325 := (hB320.keep _ (by omega) (by omega)).trans hb300
  have hx_hB320 := hB320.next
  have hlt_n1 : n1 < H318.next := by omega
  have hlt_cb76 : cb76 < H318.next := by omega
  have hlt_n134 : n134 < H318.next := by omega
  have hlt_n233 : n233 < H318.next := by omega
  have hM326 := hM301.but hB320 hd312
  have hM327 := hM302.but hB320 hd313
  have hM328 := hM303.but hB320 hd314
  have hM329 := hM304.but hB320 hd315
  have hM330 := hM305.but hB320 hd316
  have hO331 := hO306.but hB320 (by omega)
  have hx_hO331 := hO331.next
  have hO332 := hO307.but hB320 (by omega)
  have hO333 := hO308.but hB320 (by omega)
  have hO334 := hO309.but hB320 (by omega)
  have hO335 := hO310.but hB320 (by omega)
  have hO336 := hO311.but hB320 (by omega)
  have hM321 : Mine n293 1 H318 o317 (bcells (sealed (keyN 16) (b32 (wordsL made life tag peer first pf room out inn tie0 tie1)))) := hA319.1
  obtain ⟨cb337, cn338, cg339, rfl, hcg340, hcl341, hcb342, hcn343, hlt_cb337⟩ := hM321.blk (bcells_ne (by first | omega | (simp only [List.length_set, List.length_append, List.length_cons, List.length_nil, List.length_take, List.length_drop] <;> omega)))
  rw [bcells_len, Nat.mul_one] at hcl341
  subst hcl341
  have hd344 : ¬ ((.sl oa29 ((keyN 16)).length ((keyN 16)).length og30) : AV).nameOf cb337 := hM278.dis (by omega)
  have hd345 : ¬ ((.sl oa47 ((sealed (keyN 16) (b32 (wordsL made life tag peer first pf room out inn tie0 tie1)))).length ((sealed (keyN 16) (b32 (wordsL made life tag peer first pf room out inn tie0 tie1)))).length og48) : AV).nameOf cb337 := hM279.dis (by omega)
  have hd346 : ¬ ((.sl oa109 ((keyN 16)).length ((keyN 16)).length og110) : AV).nameOf cb337 := hM280.dis (by omega)
  have hd347 : ¬ ((.sl oa209 ((keyN 16)).length ((keyN 16)).length og210) : AV).nameOf cb337 := hM281.dis (by omega)
  have hd348 : ¬ (v269 : AV).nameOf cb337 := hM288.dis (by omega)
  refine O_p (.i .u8 0) (r_mv rfl) ?_
  refine O_bslice (c := [(.i .u8 0)]) rfl fun n349 H350 hN351 => ?_
  have hF352 := hN351.fr (fun _ => False)
  have hb353 := (hF352.keep _ (by exact hlt_n1) (fun h => h)).trans hb322
  have hb354 := (hF352.keep _ (by exact hlt_cb76) (fun h => h)).trans hb323
  have hb355 := (hF352.keep _ (by exact hlt_n134) (fun h => h)).trans hb324
  have hb356 := (hF352.keep _ (by exact hlt_n233) (fun h => h)).trans hb325
  have hb357 := (hF352.keep _ (by exact hlt_cb337) (fun h => h)).trans hcb342
  have hM358 := hM326.anew hN351
  have hM359 := hM327.anew hN351
  have hM360 := hM328.anew hN351
  have hM361 := hM329.anew hN351
  have hM362 := hM330.anew hN351
  have hO363 := hO331.new hN351
  have hx_hO363 := hO363.next
  have hO364 := hO332.new hN351
  have hO365 := hO333.new hN351
  have hO366 := hO334.new hN351
  have hO367 := hO335.new hN351
  have hO368 := hO336.new hN351
  have hd369 : ¬ ((.sl oa29 ((keyN 16)).length ((keyN 16)).length og30) : AV).nameOf n349 := hM326.dis (by have := hN351.1; omega)
  have hd370 : ¬ ((.sl oa47 ((sealed (keyN 16) (b32 (wordsL made life tag peer first pf room out inn tie0 tie1)))).length ((sealed (keyN 16) (b32 (wordsL made life tag peer first pf room out inn tie0 tie1)))).length og48) : AV).nameOf n349 := hM327.dis (by have := hN351.1; omega)
  have hd371 : ¬ ((.sl oa109 ((keyN 16)).length ((keyN 16)).length og110) : AV).nameOf n349 := hM328.dis (by have := hN351.1; omega)
  have hd372 : ¬ ((.sl oa209 ((keyN 16)).length ((keyN 16)).length og210) : AV).nameOf n349 := hM329.dis (by have := hN351.1; omega)
  have hd373 : ¬ (v269 : AV).nameOf n349 := hM330.dis (by have := hN351.1; omega)
  have hnm_n349 : n349 = H318.next := hN351.1
  have hnx_H350 : H350.next = H318.next + 1 := hN351.2.1
  have hlt_n1 : n1 < H350.next := by omega
  have hlt_cb76 : cb76 < H350.next := by omega
  have hlt_n134 : n134 < H350.next := by omega
  have hlt_n233 : n233 < H350.next := by omega
  have hlt_cb337 : cb337 < H350.next := by omega
  have hlt_n349 : n349 < H350.next := by omega
  have hbs374 := Bs.own (k := 1) (l := [0]) hN351.2.2.1 (bc_cons rfl bc_nil) rfl
  have base375 := Old.refl hO363.ok
  have hM381 : Mine H.next 1 H350 (.sl (some (cb337, 0)) ((sealed (keyN 16) (b32 (wordsL made life tag peer first pf room out inn tie0 tie1)))).length ((sealed (keyN 16) (b32 (wordsL made life tag peer first pf room out inn tie0 tie1)))).length cg339) (bcells (sealed (keyN 16) (b32 (wordsL made life tag peer first pf room out inn tie0 tie1)))) := ⟨.mk (n := ((sealed (keyN 16) (b32 (wordsL made life tag peer first pf room out inn tie0 tie1)))).length) hb357 hlt_cb337 hcg340 (by rw [bcells_len, Nat.mul_one] <;> first | rfl | simp only [List.length_set]), fun q hq => by rw [nameOf_sl] at hq; omega⟩
  refine O_qh (by exact r_app (n := ((sealed (keyN 16) (b32 (wordsL made life tag peer first pf room out inn tie0 tie1)))).length) (k := ([0] : List UInt8).length) (new := bcells ([0] : List UInt8)) hO363.ok hO363.next hM381 (by rw [bcells_len, Nat.mul_one] <;> first | rfl | simp only [List.length_set]) rfl rfl ((hbs374.old hO363.ok base375).len) ((hbs374.old hO363.ok base375).src) ((bcells_len _).trans (Nat.mul_one _).symm) (by decide) (by decide) (by first | omega | (simp only [List.length_take, List.length_drop, List.length_append, List.length_cons, List.length_nil, beN_len] <;> omega))) fun o376 H377 hA378 => ?_
  have hB379 := hA378.but
  have hb382 := (hB379.keep _ (by omega) (by omega)).trans hb353
  have hb383 := (hB379.keep _ (by omega) (by omega)).trans hb354
  have hb384 := (hB379.keep _ (by omega) (by omega)).trans hb355
  have hb385 := (hB379.keep _ (by omega) (by omega)).trans hb356
  have hb386 := (hB379.keep _ (by omega) (by omega)).trans hN351.2.2.1
  have hx_hB379 := hB379.next
  have hlt_n1 : n1 < H377.next := by omega
  have hlt_cb76 : cb76 < H377.next := by omega
  have hlt_n134 : n134 < H377.next := by omega
  have hlt_n233 : n233 < H377.next := by omega
  have hlt_n349 : n349 < H377.next := by omega
  have hM387 := hM358.but hB379 hd344
  have hM388 := hM359.but hB379 hd345
  have hM389 := hM360.but hB379 hd346
  have hM390 := hM361.but hB379 hd347
  have hM391 := hM362.but hB379 hd348
  have hO392 := hO363.but hB379 (by omega)
  have hx_hO392 := hO392.next
  have hO393 := hO364.but hB379 (by omega)
  have hO394 := hO365.but hB379 (by omega)
  have hO395 := hO366.but hB379 (by omega)
  have hO396 := hO367.but hB379 (by omega)
  have hO397 := hO368.but hB379 (by omega)
  have hM380 : Mine H.next 1 H377 o376 (bcells ((sealed (keyN 16) (b32 (wordsL made life tag peer first pf room out inn tie0 tie1))) ++ ([0] : List UInt8))) := by rw [← bcells_append]; exact hA378.1
  have hd398 := hA378.dis (n := n1) (by omega) (fun hq => by rw [nameOf_sl] at hq; omega)
  have hd399 := hA378.dis (n := cb76) (by omega) (fun hq => by rw [nameOf_sl] at hq; omega)
  have hd400 := hA378.dis (n := n134) (by omega) (fun hq => by rw [nameOf_sl] at hq; omega)
  have hd401 := hA378.dis (n := n233) (by omega) (fun hq => by rw [nameOf_sl] at hq; omega)
  have hd402 := hA378.dis (n := n349) (by omega) (fun hq => by rw [nameOf_sl] at hq; omega)
  have hsf407 : Own 1 H377 v269 (bcells (keyN 16)) := hM391.own
  obtain ⟨oa403, og404, rfl, hog405, hob406⟩ := hsf407.bs
  have base408 := Old.refl hO392.ok
  have hsf413 : Own 1 H377 o376 (bcells ((sealed (keyN 16) (b32 (wordsL made life tag peer first pf room out inn tie0 tie1))) ++ ([0] : List UInt8))) := hM380.own
  obtain ⟨oa409, og410, rfl, hog411, hob412⟩ := hsf413.bs
  have base414 := Old.refl hO392.ok
  refine O_call (Ev.mono (dec_ev hO392.ok hog405 (hM391.own.asbs) (by first | omega | (simp only [List.length_take, List.length_drop, List.length_append, List.length_cons, List.length_nil, beN_len] <;> omega)) (by first | omega | (simp only [List.length_take, List.length_drop, List.length_append, List.length_cons, List.length_nil, beN_len] <;> omega)) hog411 (hM380.own.asbs) (by first | omega | (simp only [List.length_take, List.length_drop, List.length_append, List.length_cons, List.length_nil, beN_len] <;> omega)) (by first | omega | (simp only [List.length_take, List.length_drop, List.length_append, List.length_cons, List.length_nil, beN_len] <;> omega))) fun v415 H416 hq417 => ?_)
  have hEn : ¬ cErr (keyN 16) ((sealed (keyN 16) (b32 (wordsL made life tag peer first pf room out inn tie0 tie1))) ++ ([0] : List UInt8)) = 0 := by rw [(cErr_3 (key := (keyN 16)) (b := ((sealed (keyN 16) (b32 (wordsL made life tag peer first pf room out inn tie0 tie1))) ++ ([0] : List UInt8))) hk16 (by simp only [List.length_append, List.length_cons, List.length_nil]; omega) (.inl (by simp only [List.length_append, List.length_cons, List.length_nil]; omega)))]; decide
  simp only [cSt_bad hEn] at hq417
  rw [(cErr_3 (key := (keyN 16)) (b := ((sealed (keyN 16) (b32 (wordsL made life tag peer first pf room out inn tie0 tie1))) ++ ([0] : List UInt8))) hk16 (by simp only [List.length_append, List.length_cons, List.length_nil]; omega) (.inl (by simp only [List.length_append, List.length_cons, List.length_nil]; omega)))] at hq417
  obtain ⟨rfl, hK418⟩ := hq417
  have hb419 := (hK418.keep _ (by omega)).trans hb382
  have hb420 := (hK418.keep _ (by omega)).trans hb383
  have hb421 := (hK418.keep _ (by omega)).trans hb384
  have hb422 := (hK418.keep _ (by omega)).trans hb385
  have hb423 := (hK418.keep _ (by omega)).trans hb386
  have hx_hK418 := hK418.next
  have hlt_n1 : n1 < H416.next := by omega
  have hlt_cb76 : cb76 < H416.next := by omega
  have hlt_n134 : n134 < H416.next := by omega
  have hlt_n233 : n233 < H416.next := by omega
  have hlt_n349 : n349 < H416.next := by omega
  have hM424 := hM387.kp hK418
  have hM425 := hM388.kp hK418
  have hM426 := hM389.kp hK418
  have hM427 := hM390.kp hK418
  have hM428 := hM391.kp hK418
  have hM429 := hM380.kp hK418
  have hO430 := hO392.trans hK418
  have hx_hO430 := hO430.next
  have hO431 := hO393.trans hK418
  have hO432 := hO394.trans hK418
  have hO433 := hO395.trans hK418
  have hO434 := hO396.trans hK418
  have hO435 := hO397.trans hK418
  have hO436 := base408.trans hK418
  have hO437 := base414.trans hK418
  refine O_p (.tup [(.agg [(.i .i64 0), (.i .i64 0), (.i .u32 0), (.i .u32 0), (.i .u32 0), (.i .u32 0), (.i .u32 0), (.i .u16 0), (.i .u16 0), (.i .u32 0), (.i .u32 0)]), (.i .i64 3)]) (r_mv rfl) ?_
  refine O_p (.agg [(.i .i64 0), (.i .i64 0), (.i .u32 0), (.i .u32 0), (.i .u32 0), (.i .u32 0), (.i .u32 0), (.i .u16 0), (.i .u16 0), (.i .u32 0), (.i .u32 0)]) (r_ext rfl rfl) ?_
  refine O_p (.i .i64 3) (r_ext rfl rfl) ?_
  refine O_alloc fun n438 H439 hN440 => ?_
  have hF441 := hN440.fr (fun _ => False)
  have hb442 := (hF441.keep _ (by exact hlt_n1) (fun h => h)).trans hb419
  have hb443 := (hF441.keep _ (by exact hlt_cb76) (fun h => h)).trans hb420
  have hb444 := (hF441.keep _ (by exact hlt_n134) (fun h => h)).trans hb421
  have hb445 := (hF441.keep _ (by exact hlt_n233) (fun h => h)).trans hb422
  have hb446 := (hF441.keep _ (by exact hlt_n349) (fun h => h)).trans hb423
  have hM447 := hM424.anew hN440
  have hM448 := hM425.anew hN440
  have hM449 := hM426.anew hN440
  have hM450 := hM427.anew hN440
  have hM451 := hM428.anew hN440
  have hM452 := hM429.anew hN440
  have hO453 := hO430.new hN440
  have hx_hO453 := hO453.next
  have hO454 := hO431.new hN440
  have hO455 := hO432.new hN440
  have hO456 := hO433.new hN440
  have hO457 := hO434.new hN440
  have hO458 := hO435.new hN440
  have hO459 := hO436.new hN440
  have hO460 := hO437.new hN440
  have hd461 : ¬ ((.sl oa29 ((keyN 16)).length ((keyN 16)).length og30) : AV).nameOf n438 := hM424.dis (by have := hN440.1; omega)
  have hd462 : ¬ ((.sl oa47 ((sealed (keyN 16) (b32 (wordsL made life tag peer first pf room out inn tie0 tie1)))).length ((sealed (keyN 16) (b32 (wordsL made life tag peer first pf room out inn tie0 tie1)))).length og48) : AV).nameOf n438 := hM425.dis (by have := hN440.1; omega)
  have hd463 : ¬ ((.sl oa109 ((keyN 16)).length ((keyN 16)).length og110) : AV).nameOf n438 := hM426.dis (by have := hN440.1; omega)
  have hd464 : ¬ ((.sl oa209 ((keyN 16)).length ((keyN 16)).length og210) : AV).nameOf n438 := hM427.dis (by have := hN440.1; omega)
  have hd465 : ¬ ((.sl oa403 ((keyN 16)).length ((keyN 16)).length og404) : AV).nameOf n438 := hM428.dis (by have := hN440.1; omega)
  have hd466 : ¬ ((.sl oa409 (((sealed (keyN 16) (b32 (wordsL made life tag peer first pf room out inn tie0 tie1))) ++ ([0] : List UInt8))).length (((sealed (keyN 16) (b32 (wordsL made life tag peer first pf room out inn tie0 tie1))) ++ ([0] : List UInt8))).length og410) : AV).nameOf n438 := hM429.dis (by have := hN440.1; omega)
  have hnm_n438 : n438 = H416.next := hN440.1
  have hnx_H439 : H439.next = H416.next + 1 := hN440.2.1
  have hlt_n1 : n1 < H439.next := by omega
  have hlt_cb76 : cb76 < H439.next := by omega
  have hlt_n134 : n134 < H439.next := by omega
  have hlt_n233 : n233 < H439.next := by omega
  have hlt_n349 : n349 < H439.next := by omega
  have hlt_n438 : n438 < H439.next := by omega
  refine O_store (vs := [(.i .i64 0), (.i .i64 0), (.i .u32 0), (.i .u32 0), (.i .u32 0), (.i .u32 0), (.i .u32 0), (.i .u16 0), (.i .u16 0), (.i .u32 0), (.i .u32 0)]) (c' := [(.i .i64 0), (.i .i64 0), (.i .u32 0), (.i .u32 0), (.i .u32 0), (.i .u32 0), (.i .u32 0), (.i .u16 0), (.i .u16 0), (.i .u32 0), (.i .u32 0)]) rfl (by rfl) hN440.2.2.1 rfl (List.cons_ne_nil _ _) (Nat.le_of_ble_eq_true rfl) rfl fun H467 hW468 => ?_
  have hb469 := (hW468.2.2 _ (by omega)).trans hb442
  have hb470 := (hW468.2.2 _ (by omega)).trans hb443
  have hb471 := (hW468.2.2 _ (by omega)).trans hb444
  have hb472 := (hW468.2.2 _ (by omega)).trans hb445
  have hb473 := (hW468.2.2 _ (by omega)).trans hb446
  have hM474 := hM447.wr hW468 hd461
  have hM475 := hM448.wr hW468 hd462
  have hM476 := hM449.wr hW468 hd463
  have hM477 := hM450.wr hW468 hd464
  have hM478 := hM451.wr hW468 hd465
  have hM479 := hM452.wr hW468 hd466
  have hO480 := hO453.wr hW468 (by omega) (by omega)
  have hx_hO480 := hO480.next
  have hO481 := hO454.wr hW468 (by omega) (by omega)
  have hO482 := hO455.wr hW468 (by omega) (by omega)
  have hO483 := hO456.wr hW468 (by omega) (by omega)
  have hO484 := hO457.wr hW468 (by omega) (by omega)
  have hO485 := hO458.wr hW468 (by omega) (by omega)
  have hO486 := hO459.wr hW468 (by omega) (by omega)
  have hO487 := hO460.wr hW468 (by omega) (by omega)
  have hnx_H467 : H467.next = H439.next := hW468.1
  have hlt_n1 : n1 < H467.next := by omega
  have hlt_cb76 : cb76 < H467.next := by omega
  have hlt_n134 : n134 < H467.next := by omega
  have hlt_n233 : n233 < H467.next := by omega
  have hlt_n349 : n349 < H467.next := by omega
  have hlt_n438 : n438 < H467.next := by omega
  refine O_p (.i .i64 3) (r_mv rfl) ?_
  refine O_nil ?_
  refine C_seq ?_
  refine C_region ?_
  refine O_p (.b true) (r_mv rfl) ?_
  refine O_p (.b true) (r_mv rfl) ?_
  refine O_gs (v := (.i .u8 0)) rfl (r_mv rfl) ?_
  refine O_gs (v := (.b true)) rfl (r_eqq rfl rfl) ?_
  refine O_gs (v := (.b true)) rfl (r_mv rfl) ?_
  refine O_gs (v := (.i .i64 0)) rfl (r_mv rfl) ?_
  refine O_gs (v := (.b true)) rfl (r_bin rfl rfl rfl) ?_
  refine O_gs (v := (.b true)) rfl (r_pick_t rfl rfl) ?_
  refine O_gs (v := (.b true)) rfl (r_mv rfl) ?_
  refine O_gf rfl ?_
  refine O_gf rfl ?_
  refine O_gf rfl ?_
  refine O_gu rfl ?_
  refine O_gu rfl ?_
  refine O_gf rfl ?_
  refine O_gs (v := (.b true)) rfl (r_pick_t rfl rfl) ?_
  refine O_p (.b true) (r_pick_t rfl rfl) ?_
  refine O_p (.b true) (r_mv rfl) ?_
  refine O_gs (v := (.i .i64 2)) rfl (r_mv rfl) ?_
  refine O_gs (v := (.b true)) rfl (r_bin rfl rfl rfl) ?_
  refine O_p (.b true) (r_pick_t rfl rfl) ?_
  refine O_p (.b true) (r_mv rfl) ?_
  refine O_gs (v := (.i .i64 3)) rfl (r_mv rfl) ?_
  refine O_gs (v := (.b true)) rfl (r_bin rfl rfl rfl) ?_
  refine O_p (.b true) (r_pick_t rfl rfl) ?_
  refine O_p (.b true) (r_mv rfl) ?_
  refine O_nil ?_
  refine C_ret ?_
  exact ⟨.inr rfl, _, resL_one (r_tmp (v := .b true) rfl), rfl⟩
set_option maxRecDepth 100000 in
set_option maxHeartbeats 4000000 in
theorem run7n (H : AH) (hok : H.Ok) (made : Int) (w_made : (Lit.int .i64 made).wf = true) (life : Int) (w_life : (Lit.int .i64 life).wf = true) (tag : Int) (w_tag : (Lit.int .u32 tag).wf = true) (peer : Int) (w_peer : (Lit.int .u32 peer).wf = true) (first : Int) (w_first : (Lit.int .u32 first).wf = true) (pf : Int) (w_pf : (Lit.int .u32 pf).wf = true) (room : Int) (w_room : (Lit.int .u32 room).wf = true) (out : Int) (w_out : (Lit.int .u16 out).wf = true) (inn : Int) (w_inn : (Lit.int .u16 inn).wf = true) (tie0 : Int) (w_tie0 : (Lit.int .u32 tie0).wf = true) (tie1 : Int) (w_tie1 : (Lit.int .u32 tie1).wf = true) (at_ : Int) (w_at_ : (Lit.int .i64 at_).wf = true) (bx : Int) (w_bx : (Lit.int .u8 bx).wf = true) (hS : okS made life = true) (hb0 : ¬ bx = 0) : Ev tabA spA (.fn (.func 7) [] []) [.agg [(.i .i64 made), (.i .i64 life), (.i .u32 tag), (.i .u32 peer), (.i .u32 first), (.i .u32 pf), (.i .u32 room), (.i .u16 out), (.i .u16 inn), (.i .u32 tie0), (.i .u32 tie1)], .i .i64 at_, .i .u8 bx] H (fun v _ => v = .b true) := by
  refine Ev_C (F := x7) rfl ?_
  have hO0 := Old.refl hok
  have hma : -9223372036854775808 ≤ made ∧ made < 9223372036854775808 := by simp [Lit.wf, IntKind.wrap, IntKind.signed, IntKind.bits, IntKind.min, IntKind.max] at w_made; omega
  have hli : -9223372036854775808 ≤ life ∧ life < 9223372036854775808 := by simp [Lit.wf, IntKind.wrap, IntKind.signed, IntKind.bits, IntKind.min, IntKind.max] at w_life; omega
  have ht : 0 ≤ tag ∧ tag < 4294967296 := by simp [Lit.wf, IntKind.wrap, IntKind.signed, IntKind.bits, IntKind.min, IntKind.max] at w_tag; omega
  have hp : 0 ≤ peer ∧ peer < 4294967296 := by simp [Lit.wf, IntKind.wrap, IntKind.signed, IntKind.bits, IntKind.min, IntKind.max] at w_peer; omega
  have hf : 0 ≤ first ∧ first < 4294967296 := by simp [Lit.wf, IntKind.wrap, IntKind.signed, IntKind.bits, IntKind.min, IntKind.max] at w_first; omega
  have hpf : 0 ≤ pf ∧ pf < 4294967296 := by simp [Lit.wf, IntKind.wrap, IntKind.signed, IntKind.bits, IntKind.min, IntKind.max] at w_pf; omega
  have hr : 0 ≤ room ∧ room < 4294967296 := by simp [Lit.wf, IntKind.wrap, IntKind.signed, IntKind.bits, IntKind.min, IntKind.max] at w_room; omega
  have ho : 0 ≤ out ∧ out < 65536 := by simp [Lit.wf, IntKind.wrap, IntKind.signed, IntKind.bits, IntKind.min, IntKind.max] at w_out; omega
  have hi : 0 ≤ inn ∧ inn < 65536 := by simp [Lit.wf, IntKind.wrap, IntKind.signed, IntKind.bits, IntKind.min, IntKind.max] at w_inn; omega
  have h0 : 0 ≤ tie0 ∧ tie0 < 4294967296 := by simp [Lit.wf, IntKind.wrap, IntKind.signed, IntKind.bits, IntKind.min, IntKind.max] at w_tie0; omega
  have h1 : 0 ≤ tie1 ∧ tie1 < 4294967296 := by simp [Lit.wf, IntKind.wrap, IntKind.signed, IntKind.bits, IntKind.min, IntKind.max] at w_tie1; omega
  have hbx : 0 ≤ bx ∧ bx < 256 := by simp [Lit.wf, IntKind.wrap, IntKind.signed, IntKind.bits, IntKind.min, IntKind.max] at w_bx; omega
  have h19 : tabA 19 = some x19 := rfl
  have hk16 := keyN_len 16
  have hS4 : ((0 ≤ made ∧ made ≤ 281474976710656) ∧ 0 ≤ life) ∧ life ≤ 281474976710656 := by unfold okS at hS; simpa only [Bool.and_eq_true, decide_eq_true_eq] using hS
  have hcE : cErr (keyN 16) (sealed (keyN 16) (b32 (wordsL made life tag peer first pf room out inn tie0 tie1))) = 0 := cErr_sealed hk16 ⟨hS4.1.1.1, hS4.1.1.2⟩ ⟨hS4.1.2, hS4.2⟩ ht hp hf hpf hr ho hi h0 h1
  have hl60s : ((sealed (keyN 16) (b32 (wordsL made life tag peer first pf room out inn tie0 tie1)))).length = 60 := by rw [sealed_len, b32_len]; rfl
  refine C_seq ?_
  refine C_region ?_
  refine O_box (z := [(.i .i64 made), (.i .i64 life), (.i .u32 tag), (.i .u32 peer), (.i .u32 first), (.i .u32 pf), (.i .u32 room), (.i .u16 out), (.i .u16 inn), (.i .u32 tie0), (.i .u32 tie1)]) rfl fun n1 H2 hN3 => ?_
  have hF4 := hN3.fr (fun _ => False)
  have hO5 := hO0.new hN3
  have hx_hO5 := hO5.next
  have hnm_n1 : n1 = H.next := hN3.1
  have hnx_H2 : H2.next = H.next + 1 := hN3.2.1
  have hlt_n1 : n1 < H2.next := by omega
  refine O_p (.b false) (r_mv rfl) ?_
  refine O_nil ?_
  refine C_seq ?_
  refine C_region ?_
  refine O_call (Ev.mono (awake_ev hO5.ok) fun v6 H7 hq8 => ?_)
  obtain ⟨rfl, hK9⟩ := hq8
  have hb10 := (hK9.keep _ (by omega)).trans hN3.2.2.1
  have hx_hK9 := hK9.next
  have hlt_n1 : n1 < H7.next := by omega
  have hO11 := hO5.trans hK9
  have hx_hO11 := hO11.next
  refine O_p (.b true) (r_mv rfl) ?_
  refine O_nil ?_
  refine C_seq ?_
  refine C_draw fun b12 H13 hbase14 hA15 => ?_
  have hnx16 : H13.next = H7.next + 8 := hA15.1
  have hb17 := (hA15.2 _).trans hb10
  have hF18 := hA15.fr (fun _ => False)
  have hO19 := hO11.aside hA15
  have hx_hO19 := hO19.next
  have hlt_n1 : n1 < H13.next := by omega
  refine D_r (v := (.agg [(.i .i64 made), (.i .i64 life), (.i .u32 tag), (.i .u32 peer), (.i .u32 first), (.i .u32 pf), (.i .u32 room), (.i .u16 out), (.i .u16 inn), (.i .u32 tie0), (.i .u32 tie1)])) rfl rfl rfl (r_ldA rfl hb17 rfl) ?_
  refine D_call (Ev.mono (key_ev h19 hO19.ok) fun v20 H21 hq22 => ?_)
  obtain ⟨hM23, hK24⟩ := hq22
  have hb25 := (hK24.keep _ (by omega)).trans hb17
  have hx_hK24 := hK24.next
  have hlt_n1 : n1 < H21.next := by omega
  have hO26 := hO19.trans hK24
  have hx_hO26 := hO26.next
  have hM27 := hM23.down (N := H.next) (by omega)
  have hd28 : ¬ v20.nameOf n1 := fun hq => by have := hM23.new _ hq; omega
  refine And.intro (And.intro (Or.inr (look_run rfl rfl (r_ldA rfl hb25 rfl))) True.intro) ?_
  have hsf33 : Own 1 H21 v20 (bcells (keyN 16)) := hM27.own
  obtain ⟨oa29, og30, rfl, hog31, hob32⟩ := hsf33.bs
  have base34 := Old.refl hO26.ok
  refine D_call (Ev.mono (enc_t hO26.ok hog31 (hM27.own.asbs) (by first | omega | (simp only [List.length_take, List.length_drop, List.length_append, List.length_cons, List.length_nil, beN_len] <;> omega)) (by first | omega | (simp only [List.length_take, List.length_drop, List.length_append, List.length_cons, List.length_nil, beN_len] <;> omega)) made life tag peer first pf room out inn tie0 tie1 (keyN_len 16) hS) fun v35 H36 hq37 => ?_)
  obtain ⟨o38, rfl, hM39, hK40⟩ := hq37
  have hb41 := (hK40.keep _ (by omega)).trans hb25
  have hx_hK40 := hK40.next
  have hlt_n1 : n1 < H36.next := by omega
  have hM42 := hM27.kp hK40
  have hO43 := hO26.trans hK40
  have hx_hO43 := hO43.next
  have hO44 := base34.trans hK40
  have hM45 := hM39.down (N := H.next) (by omega)
  have hlz_o38 : ((sealed (keyN 16) (b32 (wordsL made life tag peer first pf room out inn tie0 tie1)))).length = 60 := by rw [sealed_len, b32_len]; rfl
  have hd46 : ¬ o38.nameOf n1 := fun hq => by have := hM39.new _ hq; omega
  refine And.intro (And.intro (Or.inl rfl) True.intro) ?_
  refine D_l (v := (.tup [o38, (.b true)])) rfl rfl rfl (r_mv rfl) ?_
  refine D_l (v := o38) rfl rfl rfl (r_ext rfl rfl) ?_
  refine D_l (v := (.b true)) rfl rfl rfl (r_ext rfl rfl) ?_
  refine D_l (v := o38) rfl rfl rfl (r_mv rfl) ?_
  refine D_l (v := (.b true)) rfl rfl rfl (r_mv rfl) ?_
  refine D_nil ?_
  refine C_seq ?_
  refine C_seq ?_
  refine C_region ?_
  refine O_p (.b true) (r_mv rfl) ?_
  refine O_p (.b false) (r_un rfl rfl) ?_
  refine O_p (.b false) (r_mv rfl) ?_
  refine O_gs (v := o38) rfl (r_mv rfl) ?_
  refine O_gs (v := (.i .i64 60)) rfl (by exact (by rw [show (60 : Int) = (((((sealed (keyN 16) (b32 (wordsL made life tag peer first pf room out inn tie0 tie1)))).length) : Nat) : Int) from by rw [hl60s]; rfl]; exact r_lenOf rfl (hM45.own.lenOf ((bcells_len _).trans (Nat.mul_one _).symm) (by decide)) hM45.own.isSl)) ?_
  refine O_gs (v := (.b false)) rfl (r_bin rfl rfl rfl) ?_
  refine O_p (.b false) (r_pick_f rfl rfl) ?_
  refine O_nil ?_
  refine C_cond (x := false) rfl (fun h => by cases h) (fun _ => ?_)
  refine C_skip ?_
  refine C_seq ?_
  refine C_region ?_
  have hsf51 : Own 1 H36 o38 (bcells (sealed (keyN 16) (b32 (wordsL made life tag peer first pf room out inn tie0 tie1)))) := hM45.own
  obtain ⟨oa47, og48, rfl, hog49, hob50⟩ := hsf51.bs
  have base52 := Old.refl hO43.ok
  refine O_bslice (c := []) rfl fun n53 H54 hN55 => ?_
  have hF56 := hN55.fr (fun _ => False)
  have hb57 := (hF56.keep _ (by exact hlt_n1) (fun h => h)).trans hb41
  have hM58 := hM42.anew hN55
  have hM59 := hM45.anew hN55
  have hO60 := hO43.new hN55
  have hx_hO60 := hO60.next
  have hO61 := hO44.new hN55
  have hO62 := base52.new hN55
  have hd63 : ¬ ((.sl oa29 ((keyN 16)).length ((keyN 16)).length og30) : AV).nameOf n53 := hM42.dis (by have := hN55.1; omega)
  have hd64 : ¬ ((.sl oa47 ((sealed (keyN 16) (b32 (wordsL made life tag peer first pf room out inn tie0 tie1)))).length ((sealed (keyN 16) (b32 (wordsL made life tag peer first pf room out inn tie0 tie1)))).length og48) : AV).nameOf n53 := hM45.dis (by have := hN55.1; omega)
  have hnm_n53 : n53 = H36.next := hN55.1
  have hnx_H54 : H54.next = H36.next + 1 := hN55.2.1
  have hlt_n1 : n1 < H54.next := by omega
  have hlt_n53 : n53 < H54.next := by omega
  refine O_p (.sl oa47 ((sealed (keyN 16) (b32 (wordsL made life tag peer first pf room out inn tie0 tie1)))).length ((sealed (keyN 16) (b32 (wordsL made life tag peer first pf room out inn tie0 tie1)))).length og48) (r_mv rfl) ?_
  refine O_qh (by exact r_app (N := n53) (n := 0) (k := (sealed (keyN 16) (b32 (wordsL made life tag peer first pf room out inn tie0 tie1))).length) (new := bcells (sealed (keyN 16) (b32 (wordsL made life tag peer first pf room out inn tie0 tie1)))) hO60.ok (Nat.le_of_lt hlt_n53) ⟨.mk (n := 0) hN55.2.2.1 hlt_n53 (.inl rfl) rfl, fun q hq => by rw [nameOf_sl] at hq; omega⟩ rfl rfl rfl ((hM59.own.asbs).len) ((hM59.own.asbs).src) ((bcells_len _).trans (Nat.mul_one _).symm) (by decide) (by decide) (by first | omega | (simp only [List.length_take, List.length_drop, List.length_append, List.length_cons, List.length_nil, beN_len] <;> omega))) fun o65 H66 hA67 => ?_
  have hB68 := hA67.but
  have hb70 := (hB68.keep _ (by omega) (by omega)).trans hb57
  have hx_hB68 := hB68.next
  have hlt_n1 : n1 < H66.next := by omega
  have hM71 := hM58.but hB68 hd63
  have hM72 := hM59.but hB68 hd64
  have hO73 := hO60.but hB68 (by omega)
  have hx_hO73 := hO73.next
  have hO74 := hO61.but hB68 (by omega)
  have hO75 := hO62.but hB68 (by omega)
  have hM69 : Mine n53 1 H66 o65 (bcells (sealed (keyN 16) (b32 (wordsL made life tag peer first pf room out inn tie0 tie1)))) := hA67.1
  obtain ⟨cb76, cn77, cg78, rfl, hcg79, hcl80, hcb81, hcn82, hlt_cb76⟩ := hM69.blk (bcells_ne (by first | omega | (simp only [List.length_set, List.length_append, List.length_cons, List.length_nil, List.length_take, List.length_drop] <;> omega)))
  rw [bcells_len, Nat.mul_one] at hcl80
  subst hcl80
  have hd83 : ¬ ((.sl oa29 ((keyN 16)).length ((keyN 16)).length og30) : AV).nameOf cb76 := hM42.dis (by omega)
  have hd84 : ¬ ((.sl oa47 ((sealed (keyN 16) (b32 (wordsL made life tag peer first pf room out inn tie0 tie1)))).length ((sealed (keyN 16) (b32 (wordsL made life tag peer first pf room out inn tie0 tie1)))).length og48) : AV).nameOf cb76 := hM45.dis (by omega)
  refine O_p (.sl (some (cb76, 0)) ((sealed (keyN 16) (b32 (wordsL made life tag peer first pf room out inn tie0 tie1)))).length ((sealed (keyN 16) (b32 (wordsL made life tag peer first pf room out inn tie0 tie1)))).length cg78) (r_mv rfl) ?_
  refine O_nil ?_
  refine C_seq ?_
  refine C_region ?_
  refine O_p (.i .i64 at_) (r_mv rfl) ?_
  obtain ⟨q85, hq85, hlq85⟩ := and_nat at_ 7 (by decide)
  refine O_p (.i .i64 (((q85 : Nat)) : Int)) (by exact (by rw [← hq85]; exact r_bin rfl rfl rfl)) ?_
  refine O_p (.i .i64 (((q85 : Nat)) : Int)) (r_mv rfl) ?_
  refine O_nil ?_
  refine C_seq ?_
  refine C_region ?_
  refine O_p (.sl (some (cb76, 0)) ((sealed (keyN 16) (b32 (wordsL made life tag peer first pf room out inn tie0 tie1)))).length ((sealed (keyN 16) (b32 (wordsL made life tag peer first pf room out inn tie0 tie1)))).length cg78) (r_mv rfl) ?_
  refine O_p (.i .i64 (((q85 : Nat)) : Int)) (r_mv rfl) ?_
  refine O_p (.i .i64 (48 + (((q85 : Nat)) : Int))) (by exact (r_addi rfl rfl (wrap_i64 (by omega) (by omega)))) ?_
  refine O_p (.sl (some (cb76, 0)) ((sealed (keyN 16) (b32 (wordsL made life tag peer first pf room out inn tie0 tie1)))).length ((sealed (keyN 16) (b32 (wordsL made life tag peer first pf room out inn tie0 tie1)))).length cg78) (r_mv rfl) ?_
  refine O_p (.i .i64 (((q85 : Nat)) : Int)) (r_mv rfl) ?_
  refine O_p (.i .i64 (48 + (((q85 : Nat)) : Int))) (by exact (r_addi rfl rfl (wrap_i64 (by omega) (by omega)))) ?_
  refine O_p (.p (some (cb76, (48 + q85)))) (by exact (r_islo rfl (i := (48 + q85)) rfl (by first | omega | (simp only [List.length_set, List.length_append, List.length_cons, List.length_nil, List.length_take, List.length_drop] <;> omega)))) ?_
  refine O_p (.i .u8 (((sealed (keyN 16) (b32 (wordsL made life tag peer first pf room out inn tie0 tie1))).getD (48 + q85) 0).toNat : Int)) (by exact (r_ld rfl hcb81 (bcells_at (by first | omega | (simp only [List.length_set, List.length_append, List.length_cons, List.length_nil, List.length_take, List.length_drop] <;> omega))))) ?_
  refine O_p (.i .u8 bx) (r_mv rfl) ?_
  refine O_p (.i .u8 (IntKind.u8.wrap ((BitVec.ofInt 8 (((sealed (keyN 16) (b32 (wordsL made life tag peer first pf room out inn tie0 tie1))).getD (48 + q85) 0).toNat : Int) ^^^ BitVec.ofInt 8 bx).toNat : Int))) (r_bin rfl rfl rfl) ?_
  refine O_p (.p (some (cb76, (48 + q85)))) (by exact (r_islo rfl (i := (48 + q85)) rfl (by first | omega | (simp only [List.length_set, List.length_append, List.length_cons, List.length_nil, List.length_take, List.length_drop] <;> omega)))) ?_
  refine O_store (vs := [(.i .u8 (IntKind.u8.wrap ((BitVec.ofInt 8 (((sealed (keyN 16) (b32 (wordsL made life tag peer first pf room out inn tie0 tie1))).getD (48 + q85) 0).toNat : Int) ^^^ BitVec.ofInt 8 bx).toNat : Int)))]) (c' := bcells ((sealed (keyN 16) (b32 (wordsL made life tag peer first pf room out inn tie0 tie1))).set (48 + q85) (u8 ((BitVec.ofInt 8 (((sealed (keyN 16) (b32 (wordsL made life tag peer first pf room out inn tie0 tie1))).getD (48 + q85) 0).toNat : Int) ^^^ BitVec.ofInt 8 bx).toNat : Int)))) rfl (by rfl) hcb81 rfl (List.cons_ne_nil _ _) (bcells_lt (by first | omega | (simp only [List.length_set, List.length_append, List.length_cons, List.length_nil, List.length_take, List.length_drop] <;> omega))) (putAt_set (u8_wrap _)) fun H86 hW87 => ?_
  have hb88 := (hW87.2.2 _ (by omega)).trans hb70
  have hM89 := hM71.wr hW87 hd83
  have hM90 := hM72.wr hW87 hd84
  have hO91 := hO73.wr hW87 (by omega) (by omega)
  have hx_hO91 := hO91.next
  have hO92 := hO74.wr hW87 (by omega) (by omega)
  have hO93 := hO75.wr hW87 (by omega) (by omega)
  have hnx_H86 : H86.next = H66.next := hW87.1
  have hlt_n1 : n1 < H86.next := by omega
  have hlt_cb76 : cb76 < H86.next := by omega
  refine O_nil ?_
  refine C_seq ?_
  refine C_region ?_
  have hxor : (u8 ((BitVec.ofInt 8 (((sealed (keyN 16) (b32 (wordsL made life tag peer first pf room out inn tie0 tie1))).getD (48 + q85) 0).toNat : Int) ^^^ BitVec.ofInt 8 bx).toNat : Int)) = ((sealed (keyN 16) (b32 (wordsL made life tag peer first pf room out inn tie0 tie1))).getD (48 + q85) 0) ↔ (bx : Int) = 0 := by have h := xor_u8 ((sealed (keyN 16) (b32 (wordsL made life tag peer first pf room out inn tie0 tie1))).getD (48 + q85) 0) (b := bx) (by omega) (by omega); rw [show IntKind.u8.wrap 0 = 0 from by decide, Int.zero_add] at h; exact h
  have hsetZ : cErr (keyN 16) ((sealed (keyN 16) (b32 (wordsL made life tag peer first pf room out inn tie0 tie1))).set (48 + q85) (u8 ((BitVec.ofInt 8 (((sealed (keyN 16) (b32 (wordsL made life tag peer first pf room out inn tie0 tie1))).getD (48 + q85) 0).toNat : Int) ^^^ BitVec.ofInt 8 bx).toNat : Int))) = 6 := cErr_set (b32_len _) hk16 (by omega) (fun h => hb0 (hxor.1 h))
  refine O_call (Ev.mono (key_ev h19 hO91.ok) fun v94 H95 hq96 => ?_)
  obtain ⟨hM97, hK98⟩ := hq96
  have hb99 := (hK98.keep _ (by omega)).trans hb88
  have hb100 := (hK98.keep _ (by omega)).trans hW87.2.1
  have hx_hK98 := hK98.next
  have hlt_n1 : n1 < H95.next := by omega
  have hlt_cb76 : cb76 < H95.next := by omega
  have hM101 := hM89.kp hK98
  have hM102 := hM90.kp hK98
  have hO103 := hO91.trans hK98
  have hx_hO103 := hO103.next
  have hO104 := hO92.trans hK98
  have hO105 := hO93.trans hK98
  have hM106 := hM97.down (N := H.next) (by omega)
  have hd107 : ¬ v94.nameOf n1 := fun hq => by have := hM97.new _ hq; omega
  have hd108 : ¬ v94.nameOf cb76 := fun hq => by have := hM97.new _ hq; omega
  refine O_p (.sl (some (cb76, 0)) ((sealed (keyN 16) (b32 (wordsL made life tag peer first pf room out inn tie0 tie1)))).length ((sealed (keyN 16) (b32 (wordsL made life tag peer first pf room out inn tie0 tie1)))).length cg78) (r_mv rfl) ?_
  have hsf113 : Own 1 H95 v94 (bcells (keyN 16)) := hM106.own
  obtain ⟨oa109, og110, rfl, hog111, hob112⟩ := hsf113.bs
  have base114 := Old.refl hO103.ok
  have hbs115 := Bs.blk (g := cg78) hb100 (n := ((sealed (keyN 16) (b32 (wordsL made life tag peer first pf room out inn tie0 tie1)))).length) (by first | rfl | simp only [List.length_set])
  have base116 := Old.refl hO103.ok
  have hbs117 := Bs.blk (g := cg78) hb100 (n := ((sealed (keyN 16) (b32 (wordsL made life tag peer first pf room out inn tie0 tie1)))).length) (by first | rfl | simp only [List.length_set])
  have base118 := Old.refl hO103.ok
  refine O_call (Ev.mono (dec_ev hO103.ok hog111 (hM106.own.asbs) (by first | omega | (simp only [List.length_take, List.length_drop, List.length_append, List.length_cons, List.length_nil, beN_len] <;> omega)) (by first | omega | (simp only [List.length_take, List.length_drop, List.length_append, List.length_cons, List.length_nil, beN_len] <;> omega)) hcg79 (hbs117.old hO103.ok base118) (by first | omega | (simp only [List.length_take, List.length_drop, List.length_append, List.length_cons, List.length_nil, beN_len] <;> omega)) (by first | omega | (simp only [List.length_take, List.length_drop, List.length_append, List.length_cons, List.length_nil, beN_len] <;> omega))) fun v119 H120 hq121 => ?_)
  have hEn : ¬ cErr (keyN 16) ((sealed (keyN 16) (b32 (wordsL made life tag peer first pf room out inn tie0 tie1))).set (48 + q85) (u8 ((BitVec.ofInt 8 (((sealed (keyN 16) (b32 (wordsL made life tag peer first pf room out inn tie0 tie1))).getD (48 + q85) 0).toNat : Int) ^^^ BitVec.ofInt 8 bx).toNat : Int))) = 0 := by rw [hsetZ]; decide
  simp only [cSt_bad hEn] at hq121
  rw [hsetZ] at hq121
  obtain ⟨rfl, hK122⟩ := hq121
  have hb123 := (hK122.keep _ (by omega)).trans hb99
  have hb124 := (hK122.keep _ (by omega)).trans hb100
  have hx_hK122 := hK122.next
  have hlt_n1 : n1 < H120.next := by omega
  have hlt_cb76 : cb76 < H120.next := by omega
  have hM125 := hM101.kp hK122
  have hM126 := hM102.kp hK122
  have hM127 := hM106.kp hK122
  have hO128 := hO103.trans hK122
  have hx_hO128 := hO128.next
  have hO129 := hO104.trans hK122
  have hO130 := hO105.trans hK122
  have hO131 := base114.trans hK122
  have hO132 := base116.trans hK122
  have hO133 := base118.trans hK122
  refine O_p (.tup [(.agg [(.i .i64 0), (.i .i64 0), (.i .u32 0), (.i .u32 0), (.i .u32 0), (.i .u32 0), (.i .u32 0), (.i .u16 0), (.i .u16 0), (.i .u32 0), (.i .u32 0)]), (.i .i64 6)]) (r_mv rfl) ?_
  refine O_p (.agg [(.i .i64 0), (.i .i64 0), (.i .u32 0), (.i .u32 0), (.i .u32 0), (.i .u32 0), (.i .u32 0), (.i .u16 0), (.i .u16 0), (.i .u32 0), (.i .u32 0)]) (r_ext rfl rfl) ?_
  refine O_p (.i .i64 6) (r_ext rfl rfl) ?_
  refine O_alloc fun n134 H135 hN136 => ?_
  have hF137 := hN136.fr (fun _ => False)
  have hb138 := (hF137.keep _ (by exact hlt_n1) (fun h => h)).trans hb123
  have hb139 := (hF137.keep _ (by exact hlt_cb76) (fun h => h)).trans hb124
  have hM140 := hM125.anew hN136
  have hM141 := hM126.anew hN136
  have hM142 := hM127.anew hN136
  have hO143 := hO128.new hN136
  have hx_hO143 := hO143.next
  have hO144 := hO129.new hN136
  have hO145 := hO130.new hN136
  have hO146 := hO131.new hN136
  have hO147 := hO132.new hN136
  have hO148 := hO133.new hN136
  have hd149 : ¬ ((.sl oa29 ((keyN 16)).length ((keyN 16)).length og30) : AV).nameOf n134 := hM125.dis (by have := hN136.1; omega)
  have hd150 : ¬ ((.sl oa47 ((sealed (keyN 16) (b32 (wordsL made life tag peer first pf room out inn tie0 tie1)))).length ((sealed (keyN 16) (b32 (wordsL made life tag peer first pf room out inn tie0 tie1)))).length og48) : AV).nameOf n134 := hM126.dis (by have := hN136.1; omega)
  have hd151 : ¬ ((.sl oa109 ((keyN 16)).length ((keyN 16)).length og110) : AV).nameOf n134 := hM127.dis (by have := hN136.1; omega)
  have hnm_n134 : n134 = H120.next := hN136.1
  have hnx_H135 : H135.next = H120.next + 1 := hN136.2.1
  have hlt_n1 : n1 < H135.next := by omega
  have hlt_cb76 : cb76 < H135.next := by omega
  have hlt_n134 : n134 < H135.next := by omega
  refine O_store (vs := [(.i .i64 0), (.i .i64 0), (.i .u32 0), (.i .u32 0), (.i .u32 0), (.i .u32 0), (.i .u32 0), (.i .u16 0), (.i .u16 0), (.i .u32 0), (.i .u32 0)]) (c' := [(.i .i64 0), (.i .i64 0), (.i .u32 0), (.i .u32 0), (.i .u32 0), (.i .u32 0), (.i .u32 0), (.i .u16 0), (.i .u16 0), (.i .u32 0), (.i .u32 0)]) rfl (by rfl) hN136.2.2.1 rfl (List.cons_ne_nil _ _) (Nat.le_of_ble_eq_true rfl) rfl fun H152 hW153 => ?_
  have hb154 := (hW153.2.2 _ (by omega)).trans hb138
  have hb155 := (hW153.2.2 _ (by omega)).trans hb139
  have hM156 := hM140.wr hW153 hd149
  have hM157 := hM141.wr hW153 hd150
  have hM158 := hM142.wr hW153 hd151
  have hO159 := hO143.wr hW153 (by omega) (by omega)
  have hx_hO159 := hO159.next
  have hO160 := hO144.wr hW153 (by omega) (by omega)
  have hO161 := hO145.wr hW153 (by omega) (by omega)
  have hO162 := hO146.wr hW153 (by omega) (by omega)
  have hO163 := hO147.wr hW153 (by omega) (by omega)
  have hO164 := hO148.wr hW153 (by omega) (by omega)
  have hnx_H152 : H152.next = H135.next := hW153.1
  have hlt_n1 : n1 < H152.next := by omega
  have hlt_cb76 : cb76 < H152.next := by omega
  have hlt_n134 : n134 < H152.next := by omega
  refine O_p (.i .i64 6) (r_mv rfl) ?_
  refine O_nil ?_
  refine C_seq ?_
  refine C_draw fun b165 H166 hbase167 hA168 => ?_
  have hnx169 : H166.next = H152.next + 13 := hA168.1
  have hb170 := (hA168.2 _).trans hb154
  have hb171 := (hA168.2 _).trans hb155
  have hb172 := (hA168.2 _).trans hW153.2.1
  have hF173 := hA168.fr (fun _ => False)
  have hM174 := hM156.aside hA168
  have hM175 := hM157.aside hA168
  have hM176 := hM158.aside hA168
  have hO177 := hO159.aside hA168
  have hx_hO177 := hO177.next
  have hO178 := hO160.aside hA168
  have hO179 := hO161.aside hA168
  have hO180 := hO162.aside hA168
  have hO181 := hO163.aside hA168
  have hO182 := hO164.aside hA168
  have hlt_n1 : n1 < H166.next := by omega
  have hlt_cb76 : cb76 < H166.next := by omega
  have hlt_n134 : n134 < H166.next := by omega
  refine D_l (v := (.sl oa47 ((sealed (keyN 16) (b32 (wordsL made life tag peer first pf room out inn tie0 tie1)))).length ((sealed (keyN 16) (b32 (wordsL made life tag peer first pf room out inn tie0 tie1)))).length og48)) rfl rfl rfl (r_mv rfl) ?_
  refine D_l (v := (.i .i64 at_)) rfl rfl rfl (r_mv rfl) ?_
  obtain ⟨q183, hq183, hlq183⟩ := and_nat at_ 65535 (by decide)
  refine D_l (v := (.i .i64 (((q183 : Nat)) : Int))) rfl rfl rfl (by exact (by rw [← hq183]; exact r_bin rfl rfl rfl)) ?_
  refine D_l (v := (.i .i64 ((((q183 % 60) : Nat)) : Int))) rfl rfl rfl (by exact (r_remn (a := q183) (b := 60) rfl rfl (by omega))) ?_
  refine D_q rfl rfl rfl (by exact Bs.hi hob50 hog49 rfl (j := (q183 % 60)) rfl (by first | omega | (simp only [List.length_take, List.length_drop, List.length_append, List.length_cons, List.length_nil, beN_len] <;> omega)) (by first | omega | (simp only [List.length_take, List.length_drop, List.length_append, List.length_cons, List.length_nil, beN_len] <;> omega))) fun v187 hv186 => ?_
  obtain ⟨a184, rfl, hb185⟩ := hv186
  refine D_call (Ev.mono (key_ev h19 hO177.ok) fun v188 H189 hq190 => ?_)
  obtain ⟨hM191, hK192⟩ := hq190
  have hb193 := (hK192.keep _ (by omega)).trans hb170
  have hb194 := (hK192.keep _ (by omega)).trans hb171
  have hb195 := (hK192.keep _ (by omega)).trans hb172
  have hx_hK192 := hK192.next
  have hlt_n1 : n1 < H189.next := by omega
  have hlt_cb76 : cb76 < H189.next := by omega
  have hlt_n134 : n134 < H189.next := by omega
  have hM196 := hM174.kp hK192
  have hM197 := hM175.kp hK192
  have hM198 := hM176.kp hK192
  have hO199 := hO177.trans hK192
  have hx_hO199 := hO199.next
  have hO200 := hO178.trans hK192
  have hO201 := hO179.trans hK192
  have hO202 := hO180.trans hK192
  have hO203 := hO181.trans hK192
  have hO204 := hO182.trans hK192
  have hM205 := hM191.down (N := H.next) (by omega)
  have hd206 : ¬ v188.nameOf n1 := fun hq => by have := hM191.new _ hq; omega
  have hd207 : ¬ v188.nameOf cb76 := fun hq => by have := hM191.new _ hq; omega
  have hd208 : ¬ v188.nameOf n134 := fun hq => by have := hM191.new _ hq; omega
  refine And.intro True.intro ?_
  have hsf213 : Own 1 H189 v188 (bcells (keyN 16)) := hM205.own
  obtain ⟨oa209, og210, rfl, hog211, hob212⟩ := hsf213.bs
  have base214 := Old.refl hO199.ok
  refine D_call (Ev.mono (dec_ev hO199.ok hog211 (hM205.own.asbs) (by first | omega | (simp only [List.length_take, List.length_drop, List.length_append, List.length_cons, List.length_nil, beN_len] <;> omega)) (by first | omega | (simp only [List.length_take, List.length_drop, List.length_append, List.length_cons, List.length_nil, beN_len] <;> omega)) hog49 (hb185.old hO43.ok hO201) (by first | omega | (simp only [List.length_take, List.length_drop, List.length_append, List.length_cons, List.length_nil, beN_len] <;> omega)) (by first | omega | (simp only [List.length_take, List.length_drop, List.length_append, List.length_cons, List.length_nil, beN_len] <;> omega))) fun v215 H216 hq217 => ?_)
  have hEn : ¬ cErr (keyN 16) ((sealed (keyN 16) (b32 (wordsL made life tag peer first pf room out inn tie0 tie1))).take (q183 % 60)) = 0 := by rw [(cErr_2 (key := (keyN 16)) (b := ((sealed (keyN 16) (b32 (wordsL made life tag peer first pf room out inn tie0 tie1))).take (q183 % 60))) hk16 (by simp only [List.length_take] <;> omega))]; decide
  simp only [cSt_bad hEn] at hq217
  rw [(cErr_2 (key := (keyN 16)) (b := ((sealed (keyN 16) (b32 (wordsL made life tag peer first pf room out inn tie0 tie1))).take (q183 % 60))) hk16 (by simp only [List.length_take] <;> omega))] at hq217
  obtain ⟨rfl, hK218⟩ := hq217
  have hb219 := (hK218.keep _ (by omega)).trans hb193
  have hb220 := (hK218.keep _ (by omega)).trans hb194
  have hb221 := (hK218.keep _ (by omega)).trans hb195
  have hx_hK218 := hK218.next
  have hlt_n1 : n1 < H216.next := by omega
  have hlt_cb76 : cb76 < H216.next := by omega
  have hlt_n134 : n134 < H216.next := by omega
  have hM222 := hM196.kp hK218
  have hM223 := hM197.kp hK218
  have hM224 := hM198.kp hK218
  have hM225 := hM205.kp hK218
  have hO226 := hO199.trans hK218
  have hx_hO226 := hO226.next
  have hO227 := hO200.trans hK218
  have hO228 := hO201.trans hK218
  have hO229 := hO202.trans hK218
  have hO230 := hO203.trans hK218
  have hO231 := hO204.trans hK218
  have hO232 := base214.trans hK218
  refine And.intro True.intro ?_
  refine D_l (v := (.tup [(.agg [(.i .i64 0), (.i .i64 0), (.i .u32 0), (.i .u32 0), (.i .u32 0), (.i .u32 0), (.i .u32 0), (.i .u16 0), (.i .u16 0), (.i .u32 0), (.i .u32 0)]), (.i .i64 2)])) rfl rfl rfl (r_mv rfl) ?_
  refine D_l (v := (.agg [(.i .i64 0), (.i .i64 0), (.i .u32 0), (.i .u32 0), (.i .u32 0), (.i .u32 0), (.i .u32 0), (.i .u16 0), (.i .u16 0), (.i .u32 0), (.i .u32 0)])) rfl rfl rfl (r_ext rfl rfl) ?_
  refine D_l (v := (.i .i64 2)) rfl rfl rfl (r_ext rfl rfl) ?_
  refine D_m (f := fun n => ((.p (some (n, 0))), .cells [(.i .i64 0), (.i .i64 0), (.i .u32 0), (.i .u32 0), (.i .u32 0), (.i .u32 0), (.i .u32 0), (.i .u16 0), (.i .u16 0), (.i .u32 0), (.i .u32 0)] true)) rfl rfl fun H234 hW235 => ?_
  generalize hn236 : b165 + 10 = n233 at hW235 ⊢
  have hd237 : ¬ ((.sl oa29 ((keyN 16)).length ((keyN 16)).length og30) : AV).nameOf n233 := hM156.dis (by omega)
  have hd238 : ¬ ((.sl oa47 ((sealed (keyN 16) (b32 (wordsL made life tag peer first pf room out inn tie0 tie1)))).length ((sealed (keyN 16) (b32 (wordsL made life tag peer first pf room out inn tie0 tie1)))).length og48) : AV).nameOf n233 := hM157.dis (by omega)
  have hd239 : ¬ ((.sl oa109 ((keyN 16)).length ((keyN 16)).length og110) : AV).nameOf n233 := hM158.dis (by omega)
  have hd240 : ¬ ((.sl oa209 ((keyN 16)).length ((keyN 16)).length og210) : AV).nameOf n233 := fun hq => by have := hM191.new _ hq; omega
  have hb241 := (hW235.2.2 _ (by omega)).trans hb219
  have hb242 := (hW235.2.2 _ (by omega)).trans hb220
  have hb243 := (hW235.2.2 _ (by omega)).trans hb221
  have hM244 := hM222.wr hW235 hd237
  have hM245 := hM223.wr hW235 hd238
  have hM246 := hM224.wr hW235 hd239
  have hM247 := hM225.wr hW235 hd240
  have hO248 := hO226.wr hW235 (by omega) (by omega)
  have hx_hO248 := hO248.next
  have hO249 := hO227.wr hW235 (by omega) (by omega)
  have hO250 := hO228.wr hW235 (by omega) (by omega)
  have hO251 := hO229.wr hW235 (by omega) (by omega)
  have hO252 := hO230.wr hW235 (by omega) (by omega)
  have hO253 := hO231.wr hW235 (by omega) (by omega)
  have hnx_H234 : H234.next = H216.next := hW235.1
  have hlt_n1 : n1 < H234.next := by omega
  have hlt_cb76 : cb76 < H234.next := by omega
  have hlt_n134 : n134 < H234.next := by omega
  have hlt_n233 : n233 < H234.next := by omega
  refine And.intro True.intro ?_
  refine D_store (vs := [(.i .i64 0), (.i .i64 0), (.i .u32 0), (.i .u32 0), (.i .u32 0), (.i .u32 0), (.i .u32 0), (.i .u16 0), (.i .u16 0), (.i .u32 0), (.i .u32 0)]) (c' := [(.i .i64 0), (.i .i64 0), (.i .u32 0), (.i .u32 0), (.i .u32 0), (.i .u32 0), (.i .u32 0), (.i .u16 0), (.i .u16 0), (.i .u32 0), (.i .u32 0)]) rfl (by rfl) hW235.2.1 rfl (List.cons_ne_nil _ _) (Nat.le_of_ble_eq_true rfl) rfl fun H254 hW255 => ?_
  have hb256 := (hW255.2.2 _ (by omega)).trans hb241
  have hb257 := (hW255.2.2 _ (by omega)).trans hb242
  have hb258 := (hW255.2.2 _ (by omega)).trans hb243
  have hM259 := hM244.wr hW255 hd237
  have hM260 := hM245.wr hW255 hd238
  have hM261 := hM246.wr hW255 hd239
  have hM262 := hM247.wr hW255 hd240
  have hO263 := hO248.wr hW255 (by omega) (by omega)
  have hx_hO263 := hO263.next
  have hO264 := hO249.wr hW255 (by omega) (by omega)
  have hO265 := hO250.wr hW255 (by omega) (by omega)
  have hO266 := hO251.wr hW255 (by omega) (by omega)
  have hO267 := hO252.wr hW255 (by omega) (by omega)
  have hO268 := hO253.wr hW255 (by omega) (by omega)
  have hnx_H254 : H254.next = H234.next := hW255.1
  have hlt_n1 : n1 < H254.next := by omega
  have hlt_cb76 : cb76 < H254.next := by omega
  have hlt_n134 : n134 < H254.next := by omega
  have hlt_n233 : n233 < H254.next := by omega
  refine And.intro True.intro ?_
  refine D_l (v := (.i .i64 2)) rfl rfl rfl (r_mv rfl) ?_
  refine D_nil ?_
  refine C_seq ?_
  refine C_region ?_
  refine O_call (Ev.mono (key_ev h19 hO263.ok) fun v269 H270 hq271 => ?_)
  obtain ⟨hM272, hK273⟩ := hq271
  have hb274 := (hK273.keep _ (by omega)).trans hb256
  have hb275 := (hK273.keep _ (by omega)).trans hb257
  have hb276 := (hK273.keep _ (by omega)).trans hb258
  have hb277 := (hK273.keep _ (by omega)).trans hW255.2.1
  have hx_hK273 := hK273.next
  have hlt_n1 : n1 < H270.next := by omega
  have hlt_cb76 : cb76 < H270.next := by omega
  have hlt_n134 : n134 < H270.next := by omega
  have hlt_n233 : n233 < H270.next := by omega
  have hM278 := hM259.kp hK273
  have hM279 := hM260.kp hK273
  have hM280 := hM261.kp hK273
  have hM281 := hM262.kp hK273
  have hO282 := hO263.trans hK273
  have hx_hO282 := hO282.next
  have hO283 := hO264.trans hK273
  have hO284 := hO265.trans hK273
  have hO285 := hO266.trans hK273
  have hO286 := hO267.trans hK273
  have hO287 := hO268.trans hK273
  have hM288 := hM272.down (N := H.next) (by omega)
  have hd289 : ¬ v269.nameOf n1 := fun hq => by have := hM272.new _ hq; omega
  have hd290 : ¬ v269.nameOf cb76 := fun hq => by have := hM272.new _ hq; omega
  have hd291 : ¬ v269.nameOf n134 := fun hq => by have := hM272.new _ hq; omega
  have hd292 : ¬ v269.nameOf n233 := fun hq => by have := hM272.new _ hq; omega
  refine O_bslice (c := []) rfl fun n293 H294 hN295 => ?_
  have hF296 := hN295.fr (fun _ => False)
  have hb297 := (hF296.keep _ (by exact hlt_n1) (fun h => h)).trans hb274
  have hb298 := (hF296.keep _ (by exact hlt_cb76) (fun h => h)).trans hb275
  have hb299 := (hF296.keep _ (by exact hlt_n134) (fun h => h)).trans hb276
  have hb300 := (hF296.keep _ (by exact hlt_n233) (fun h => h)).trans hb277
  have hM301 := hM278.anew hN295
  have hM302 := hM279.anew hN295
  have hM303 := hM280.anew hN295
  have hM304 := hM281.anew hN295
  have hM305 := hM288.anew hN295
  have hO306 := hO282.new hN295
  have hx_hO306 := hO306.next
  have hO307 := hO283.new hN295
  have hO308 := hO284.new hN295
  have hO309 := hO285.new hN295
  have hO310 := hO286.new hN295
  have hO311 := hO287.new hN295
  have hd312 : ¬ ((.sl oa29 ((keyN 16)).length ((keyN 16)).length og30) : AV).nameOf n293 := hM278.dis (by have := hN295.1; omega)
  have hd313 : ¬ ((.sl oa47 ((sealed (keyN 16) (b32 (wordsL made life tag peer first pf room out inn tie0 tie1)))).length ((sealed (keyN 16) (b32 (wordsL made life tag peer first pf room out inn tie0 tie1)))).length og48) : AV).nameOf n293 := hM279.dis (by have := hN295.1; omega)
  have hd314 : ¬ ((.sl oa109 ((keyN 16)).length ((keyN 16)).length og110) : AV).nameOf n293 := hM280.dis (by have := hN295.1; omega)
  have hd315 : ¬ ((.sl oa209 ((keyN 16)).length ((keyN 16)).length og210) : AV).nameOf n293 := hM281.dis (by have := hN295.1; omega)
  have hd316 : ¬ (v269 : AV).nameOf n293 := hM288.dis (by have := hN295.1; omega)
  have hnm_n293 : n293 = H270.next := hN295.1
  have hnx_H294 : H294.next = H270.next + 1 := hN295.2.1
  have hlt_n1 : n1 < H294.next := by omega
  have hlt_cb76 : cb76 < H294.next := by omega
  have hlt_n134 : n134 < H294.next := by omega
  have hlt_n233 : n233 < H294.next := by omega
  have hlt_n293 : n293 < H294.next := by omega
  refine O_p (.sl oa47 ((sealed (keyN 16) (b32 (wordsL made life tag peer first pf room out inn tie0 tie1)))).length ((sealed (keyN 16) (b32 (wordsL made life tag peer first pf room out inn tie0 tie1)))).length og48) (r_mv rfl) ?_
  refine O_qh (by exact r_app (N := n293) (n := 0) (k := (sealed (keyN 16) (b32 (wordsL made life tag peer first pf room out inn tie0 tie1))).length) (new := bcells (sealed (keyN 16) (b32 (wordsL made life tag peer first pf room out inn tie0 tie1)))) hO306.ok (Nat.le_of_lt hlt_n293) ⟨.mk (n := 0) hN295.2.2.1 hlt_n293 (.inl rfl) rfl, fun q hq => by rw [nameOf_sl] at hq; omega⟩ rfl rfl rfl ((hM302.own.asbs).len) ((hM302.own.asbs).src) ((bcells_len _).trans (Nat.mul_one _).symm) (by decide) (by decide) (by first | omega | (simp only [List.length_take, List.length_drop, List.length_append, List.length_cons, List.length_nil, beN_len] <;> omega))) fun o317 H318 hA319 => ?_
  have hB320 := hA319.but
  have hb322 := (hB320.keep _ (by omega) (by omega)).trans hb297
  have hb323 := (hB320.keep _ (by omega) (by omega)).trans hb298
  have hb324 := (hB320.keep _ (by omega) (by omega)).trans hb299
  have hb325 := (hB320.keep _ (by omega) (by omega)).trans hb300
  have hx_hB320 := hB320.next
  have hlt_n1 : n1 < H318.next := by omega
  have hlt_cb76 : cb76 < H318.next := by omega
  have hlt_n134 : n134 < H318.next := by omega
  have hlt_n233 : n233 < H318.next := by omega
  have hM326 := hM301.but hB320 hd312
  have hM327 := hM302.but hB320 hd313
  have hM328 := hM303.but hB320 hd314
  have hM329 := hM304.but hB320 hd315
  have hM330 := hM305.but hB320 hd316
  have hO331 := hO306.but hB320 (by omega)
  have hx_hO331 := hO331.next
  have hO332 := hO307.but hB320 (by omega)
  have hO333 := hO308.but hB320 (by omega)
  have hO334 := hO309.but hB320 (by omega)
  have hO335 := hO310.but hB320 (by omega)
  have hO336 := hO311.but hB320 (by omega)
  have hM321 : Mine n293 1 H318 o317 (bcells (sealed (keyN 16) (b32 (wordsL made life tag peer first pf room out inn tie0 tie1)))) := hA319.1
  obtain ⟨cb337, cn338, cg339, rfl, hcg340, hcl341, hcb342, hcn343, hlt_cb337⟩ := hM321.blk (bcells_ne (by first | omega | (simp only [List.length_set, List.length_append, List.length_cons, List.length_nil, List.length_take, List.length_drop] <;> omega)))
  rw [bcells_len, Nat.mul_one] at hcl341
  subst hcl341
  have hd344 : ¬ ((.sl oa29 ((keyN 16)).length ((keyN 16)).length og30) : AV).nameOf cb337 := hM278.dis (by omega)
  have hd345 : ¬ ((.sl oa47 ((sealed (keyN 16) (b32 (wordsL made life tag peer first pf room out inn tie0 tie1)))).length ((sealed (keyN 16) (b32 (wordsL made life tag peer first pf room out inn tie0 tie1)))).length og48) : AV).nameOf cb337 := hM279.dis (by omega)
  have hd346 : ¬ ((.sl oa109 ((keyN 16)).length ((keyN 16)).length og110) : AV).nameOf cb337 := hM280.dis (by omega)
  have hd347 : ¬ ((.sl oa209 ((keyN 16)).length ((keyN 16)).length og210) : AV).nameOf cb337 := hM281.dis (by omega)
  have hd348 : ¬ (v269 : AV).nameOf cb337 := hM288.dis (by omega)
  refine O_p (.i .u8 bx) (r_mv rfl) ?_
  refine O_bslice (c := [(.i .u8 bx)]) rfl fun n349 H350 hN351 => ?_
  have hF352 := hN351.fr (fun _ => False)
  have hb353 := (hF352.keep _ (by exact hlt_n1) (fun h => h)).trans hb322
  have hb354 := (hF352.keep _ (by exact hlt_cb76) (fun h => h)).trans hb323
  have hb355 := (hF352.keep _ (by exact hlt_n134) (fun h => h)).trans hb324
  have hb356 := (hF352.keep _ (by exact hlt_n233) (fun h => h)).trans hb325
  have hb357 := (hF352.keep _ (by exact hlt_cb337) (fun h => h)).trans hcb342
  have hM358 := hM326.anew hN351
  have hM359 := hM327.anew hN351
  have hM360 := hM328.anew hN351
  have hM361 := hM329.anew hN351
  have hM362 := hM330.anew hN351
  have hO363 := hO331.new hN351
  have hx_hO363 := hO363.next
  have hO364 := hO332.new hN351
  have hO365 := hO333.new hN351
  have hO366 := hO334.new hN351
  have hO367 := hO335.new hN351
  have hO368 := hO336.new hN351
  have hd369 : ¬ ((.sl oa29 ((keyN 16)).length ((keyN 16)).length og30) : AV).nameOf n349 := hM326.dis (by have := hN351.1; omega)
  have hd370 : ¬ ((.sl oa47 ((sealed (keyN 16) (b32 (wordsL made life tag peer first pf room out inn tie0 tie1)))).length ((sealed (keyN 16) (b32 (wordsL made life tag peer first pf room out inn tie0 tie1)))).length og48) : AV).nameOf n349 := hM327.dis (by have := hN351.1; omega)
  have hd371 : ¬ ((.sl oa109 ((keyN 16)).length ((keyN 16)).length og110) : AV).nameOf n349 := hM328.dis (by have := hN351.1; omega)
  have hd372 : ¬ ((.sl oa209 ((keyN 16)).length ((keyN 16)).length og210) : AV).nameOf n349 := hM329.dis (by have := hN351.1; omega)
  have hd373 : ¬ (v269 : AV).nameOf n349 := hM330.dis (by have := hN351.1; omega)
  have hnm_n349 : n349 = H318.next := hN351.1
  have hnx_H350 : H350.next = H318.next + 1 := hN351.2.1
  have hlt_n1 : n1 < H350.next := by omega
  have hlt_cb76 : cb76 < H350.next := by omega
  have hlt_n134 : n134 < H350.next := by omega
  have hlt_n233 : n233 < H350.next := by omega
  have hlt_cb337 : cb337 < H350.next := by omega
  have hlt_n349 : n349 < H350.next := by omega
  have hbs374 := Bs.own (k := 1) (l := [(u8 bx)]) hN351.2.2.1 (bc_cons (u8_of hbx.1 hbx.2).symm bc_nil) rfl
  have base375 := Old.refl hO363.ok
  have hM381 : Mine H.next 1 H350 (.sl (some (cb337, 0)) ((sealed (keyN 16) (b32 (wordsL made life tag peer first pf room out inn tie0 tie1)))).length ((sealed (keyN 16) (b32 (wordsL made life tag peer first pf room out inn tie0 tie1)))).length cg339) (bcells (sealed (keyN 16) (b32 (wordsL made life tag peer first pf room out inn tie0 tie1)))) := ⟨.mk (n := ((sealed (keyN 16) (b32 (wordsL made life tag peer first pf room out inn tie0 tie1)))).length) hb357 hlt_cb337 hcg340 (by rw [bcells_len, Nat.mul_one] <;> first | rfl | simp only [List.length_set]), fun q hq => by rw [nameOf_sl] at hq; omega⟩
  refine O_qh (by exact r_app (n := ((sealed (keyN 16) (b32 (wordsL made life tag peer first pf room out inn tie0 tie1)))).length) (k := ([(u8 bx)] : List UInt8).length) (new := bcells ([(u8 bx)] : List UInt8)) hO363.ok hO363.next hM381 (by rw [bcells_len, Nat.mul_one] <;> first | rfl | simp only [List.length_set]) rfl rfl ((hbs374.old hO363.ok base375).len) ((hbs374.old hO363.ok base375).src) ((bcells_len _).trans (Nat.mul_one _).symm) (by decide) (by decide) (by first | omega | (simp only [List.length_take, List.length_drop, List.length_append, List.length_cons, List.length_nil, beN_len] <;> omega))) fun o376 H377 hA378 => ?_
  have hB379 := hA378.but
  have hb382 := (hB379.keep _ (by omega) (by omega)).trans hb353
  have hb383 := (hB379.keep _ (by omega) (by omega)).trans hb354
  have hb384 := (hB379.keep _ (by omega) (by omega)).trans hb355
  have hb385 := (hB379.keep _ (by omega) (by omega)).trans hb356
  have hb386 := (hB379.keep _ (by omega) (by omega)).trans hN351.2.2.1
  have hx_hB379 := hB379.next
  have hlt_n1 : n1 < H377.next := by omega
  have hlt_cb76 : cb76 < H377.next := by omega
  have hlt_n134 : n134 < H377.next := by omega
  have hlt_n233 : n233 < H377.next := by omega
  have hlt_n349 : n349 < H377.next := by omega
  have hM387 := hM358.but hB379 hd344
  have hM388 := hM359.but hB379 hd345
  have hM389 := hM360.but hB379 hd346
  have hM390 := hM361.but hB379 hd347
  have hM391 := hM362.but hB379 hd348
  have hO392 := hO363.but hB379 (by omega)
  have hx_hO392 := hO392.next
  have hO393 := hO364.but hB379 (by omega)
  have hO394 := hO365.but hB379 (by omega)
  have hO395 := hO366.but hB379 (by omega)
  have hO396 := hO367.but hB379 (by omega)
  have hO397 := hO368.but hB379 (by omega)
  have hM380 : Mine H.next 1 H377 o376 (bcells ((sealed (keyN 16) (b32 (wordsL made life tag peer first pf room out inn tie0 tie1))) ++ ([(u8 bx)] : List UInt8))) := by rw [← bcells_append]; exact hA378.1
  have hd398 := hA378.dis (n := n1) (by omega) (fun hq => by rw [nameOf_sl] at hq; omega)
  have hd399 := hA378.dis (n := cb76) (by omega) (fun hq => by rw [nameOf_sl] at hq; omega)
  have hd400 := hA378.dis (n := n134) (by omega) (fun hq => by rw [nameOf_sl] at hq; omega)
  have hd401 := hA378.dis (n := n233) (by omega) (fun hq => by rw [nameOf_sl] at hq; omega)
  have hd402 := hA378.dis (n := n349) (by omega) (fun hq => by rw [nameOf_sl] at hq; omega)
  have hsf407 : Own 1 H377 v269 (bcells (keyN 16)) := hM391.own
  obtain ⟨oa403, og404, rfl, hog405, hob406⟩ := hsf407.bs
  have base408 := Old.refl hO392.ok
  have hsf413 : Own 1 H377 o376 (bcells ((sealed (keyN 16) (b32 (wordsL made life tag peer first pf room out inn tie0 tie1))) ++ ([(u8 bx)] : List UInt8))) := hM380.own
  obtain ⟨oa409, og410, rfl, hog411, hob412⟩ := hsf413.bs
  have base414 := Old.refl hO392.ok
  refine O_call (Ev.mono (dec_ev hO392.ok hog405 (hM391.own.asbs) (by first | omega | (simp only [List.length_take, List.length_drop, List.length_append, List.length_cons, List.length_nil, beN_len] <;> omega)) (by first | omega | (simp only [List.length_take, List.length_drop, List.length_append, List.length_cons, List.length_nil, beN_len] <;> omega)) hog411 (hM380.own.asbs) (by first | omega | (simp only [List.length_take, List.length_drop, List.length_append, List.length_cons, List.length_nil, beN_len] <;> omega)) (by first | omega | (simp only [List.length_take, List.length_drop, List.length_append, List.length_cons, List.length_nil, beN_len] <;> omega))) fun v415 H416 hq417 => ?_)
  have hEn : ¬ cErr (keyN 16) ((sealed (keyN 16) (b32 (wordsL made life tag peer first pf room out inn tie0 tie1))) ++ ([(u8 bx)] : List UInt8)) = 0 := by rw [(cErr_3 (key := (keyN 16)) (b := ((sealed (keyN 16) (b32 (wordsL made life tag peer first pf room out inn tie0 tie1))) ++ ([(u8 bx)] : List UInt8))) hk16 (by simp only [List.length_append, List.length_cons, List.length_nil]; omega) (.inl (by simp only [List.length_append, List.length_cons, List.length_nil]; omega)))]; decide
  simp only [cSt_bad hEn] at hq417
  rw [(cErr_3 (key := (keyN 16)) (b := ((sealed (keyN 16) (b32 (wordsL made life tag peer first pf room out inn tie0 tie1))) ++ ([(u8 bx)] : List UInt8))) hk16 (by simp only [List.length_append, List.length_cons, List.length_nil]; omega) (.inl (by simp only [List.length_append, List.length_cons, List.length_nil]; omega)))] at hq417
  obtain ⟨rfl, hK418⟩ := hq417
  have hb419 := (hK418.keep _ (by omega)).trans hb382
  have hb420 := (hK418.keep _ (by omega)).trans hb383
  have hb421 := (hK418.keep _ (by omega)).trans hb384
  have hb422 := (hK418.keep _ (by omega)).trans hb385
  have hb423 := (hK418.keep _ (by omega)).trans hb386
  have hx_hK418 := hK418.next
  have hlt_n1 : n1 < H416.next := by omega
  have hlt_cb76 : cb76 < H416.next := by omega
  have hlt_n134 : n134 < H416.next := by omega
  have hlt_n233 : n233 < H416.next := by omega
  have hlt_n349 : n349 < H416.next := by omega
  have hM424 := hM387.kp hK418
  have hM425 := hM388.kp hK418
  have hM426 := hM389.kp hK418
  have hM427 := hM390.kp hK418
  have hM428 := hM391.kp hK418
  have hM429 := hM380.kp hK418
  have hO430 := hO392.trans hK418
  have hx_hO430 := hO430.next
  have hO431 := hO393.trans hK418
  have hO432 := hO394.trans hK418
  have hO433 := hO395.trans hK418
  have hO434 := hO396.trans hK418
  have hO435 := hO397.trans hK418
  have hO436 := base408.trans hK418
  have hO437 := base414.trans hK418
  refine O_p (.tup [(.agg [(.i .i64 0), (.i .i64 0), (.i .u32 0), (.i .u32 0), (.i .u32 0), (.i .u32 0), (.i .u32 0), (.i .u16 0), (.i .u16 0), (.i .u32 0), (.i .u32 0)]), (.i .i64 3)]) (r_mv rfl) ?_
  refine O_p (.agg [(.i .i64 0), (.i .i64 0), (.i .u32 0), (.i .u32 0), (.i .u32 0), (.i .u32 0), (.i .u32 0), (.i .u16 0), (.i .u16 0), (.i .u32 0), (.i .u32 0)]) (r_ext rfl rfl) ?_
  refine O_p (.i .i64 3) (r_ext rfl rfl) ?_
  refine O_alloc fun n438 H439 hN440 => ?_
  have hF441 := hN440.fr (fun _ => False)
  have hb442 := (hF441.keep _ (by exact hlt_n1) (fun h => h)).trans hb419
  have hb443 := (hF441.keep _ (by exact hlt_cb76) (fun h => h)).trans hb420
  have hb444 := (hF441.keep _ (by exact hlt_n134) (fun h => h)).trans hb421
  have hb445 := (hF441.keep _ (by exact hlt_n233) (fun h => h)).trans hb422
  have hb446 := (hF441.keep _ (by exact hlt_n349) (fun h => h)).trans hb423
  have hM447 := hM424.anew hN440
  have hM448 := hM425.anew hN440
  have hM449 := hM426.anew hN440
  have hM450 := hM427.anew hN440
  have hM451 := hM428.anew hN440
  have hM452 := hM429.anew hN440
  have hO453 := hO430.new hN440
  have hx_hO453 := hO453.next
  have hO454 := hO431.new hN440
  have hO455 := hO432.new hN440
  have hO456 := hO433.new hN440
  have hO457 := hO434.new hN440
  have hO458 := hO435.new hN440
  have hO459 := hO436.new hN440
  have hO460 := hO437.new hN440
  have hd461 : ¬ ((.sl oa29 ((keyN 16)).length ((keyN 16)).length og30) : AV).nameOf n438 := hM424.dis (by have := hN440.1; omega)
  have hd462 : ¬ ((.sl oa47 ((sealed (keyN 16) (b32 (wordsL made life tag peer first pf room out inn tie0 tie1)))).length ((sealed (keyN 16) (b32 (wordsL made life tag peer first pf room out inn tie0 tie1)))).length og48) : AV).nameOf n438 := hM425.dis (by have := hN440.1; omega)
  have hd463 : ¬ ((.sl oa109 ((keyN 16)).length ((keyN 16)).length og110) : AV).nameOf n438 := hM426.dis (by have := hN440.1; omega)
  have hd464 : ¬ ((.sl oa209 ((keyN 16)).length ((keyN 16)).length og210) : AV).nameOf n438 := hM427.dis (by have := hN440.1; omega)
  have hd465 : ¬ ((.sl oa403 ((keyN 16)).length ((keyN 16)).length og404) : AV).nameOf n438 := hM428.dis (by have := hN440.1; omega)
  have hd466 : ¬ ((.sl oa409 (((sealed (keyN 16) (b32 (wordsL made life tag peer first pf room out inn tie0 tie1))) ++ ([(u8 bx)] : List UInt8))).length (((sealed (keyN 16) (b32 (wordsL made life tag peer first pf room out inn tie0 tie1))) ++ ([(u8 bx)] : List UInt8))).length og410) : AV).nameOf n438 := hM429.dis (by have := hN440.1; omega)
  have hnm_n438 : n438 = H416.next := hN440.1
  have hnx_H439 : H439.next = H416.next + 1 := hN440.2.1
  have hlt_n1 : n1 < H439.next := by omega
  have hlt_cb76 : cb76 < H439.next := by omega
  have hlt_n134 : n134 < H439.next := by omega
  have hlt_n233 : n233 < H439.next := by omega
  have hlt_n349 : n349 < H439.next := by omega
  have hlt_n438 : n438 < H439.next := by omega
  refine O_store (vs := [(.i .i64 0), (.i .i64 0), (.i .u32 0), (.i .u32 0), (.i .u32 0), (.i .u32 0), (.i .u32 0), (.i .u16 0), (.i .u16 0), (.i .u32 0), (.i .u32 0)]) (c' := [(.i .i64 0), (.i .i64 0), (.i .u32 0), (.i .u32 0), (.i .u32 0), (.i .u32 0), (.i .u32 0), (.i .u16 0), (.i .u16 0), (.i .u32 0), (.i .u32 0)]) rfl (by rfl) hN440.2.2.1 rfl (List.cons_ne_nil _ _) (Nat.le_of_ble_eq_true rfl) rfl fun H467 hW468 => ?_
  have hb469 := (hW468.2.2 _ (by omega)).trans hb442
  have hb470 := (hW468.2.2 _ (by omega)).trans hb443
  have hb471 := (hW468.2.2 _ (by omega)).trans hb444
  have hb472 := (hW468.2.2 _ (by omega)).trans hb445
  have hb473 := (hW468.2.2 _ (by omega)).trans hb446
  have hM474 := hM447.wr hW468 hd461
  have hM475 := hM448.wr hW468 hd462
  have hM476 := hM449.wr hW468 hd463
  have hM477 := hM450.wr hW468 hd464
  have hM478 := hM451.wr hW468 hd465
  have hM479 := hM452.wr hW468 hd466
  have hO480 := hO453.wr hW468 (by omega) (by omega)
  have hx_hO480 := hO480.next
  have hO481 := hO454.wr hW468 (by omega) (by omega)
  have hO482 := hO455.wr hW468 (by omega) (by omega)
  have hO483 := hO456.wr hW468 (by omega) (by omega)
  have hO484 := hO457.wr hW468 (by omega) (by omega)
  have hO485 := hO458.wr hW468 (by omega) (by omega)
  have hO486 := hO459.wr hW468 (by omega) (by omega)
  have hO487 := hO460.wr hW468 (by omega) (by omega)
  have hnx_H467 : H467.next = H439.next := hW468.1
  have hlt_n1 : n1 < H467.next := by omega
  have hlt_cb76 : cb76 < H467.next := by omega
  have hlt_n134 : n134 < H467.next := by omega
  have hlt_n233 : n233 < H467.next := by omega
  have hlt_n349 : n349 < H467.next := by omega
  have hlt_n438 : n438 < H467.next := by omega
  refine O_p (.i .i64 3) (r_mv rfl) ?_
  refine O_nil ?_
  refine C_seq ?_
  refine C_region ?_
  refine O_p (.b true) (r_mv rfl) ?_
  refine O_p (.b true) (r_mv rfl) ?_
  refine O_gs (v := (.i .u8 bx)) rfl (r_mv rfl) ?_
  refine O_gs (v := (.b false)) rfl (by exact (by rw [r_eql rfl rfl, decide_eq_false (by first | omega | assumption)])) ?_
  refine O_gs (v := (.b false)) rfl (r_mv rfl) ?_
  refine O_gf rfl ?_
  refine O_gf rfl ?_
  refine O_gs (v := (.b false)) rfl (r_pick_f rfl rfl) ?_
  refine O_gs (v := (.b false)) rfl (r_mv rfl) ?_
  refine O_gs (v := (.i .u8 bx)) rfl (r_mv rfl) ?_
  refine O_gs (v := (.b true)) rfl (by exact (by rw [r_neq rfl rfl, decide_eq_false (by first | omega | assumption)]; rfl)) ?_
  refine O_gs (v := (.b true)) rfl (r_mv rfl) ?_
  refine O_gs (v := (.i .i64 6)) rfl (r_mv rfl) ?_
  refine O_gs (v := (.b true)) rfl (r_bin rfl rfl rfl) ?_
  refine O_gs (v := (.b true)) rfl (r_pick_t rfl rfl) ?_
  refine O_gs (v := (.b true)) rfl (r_pick_f rfl rfl) ?_
  refine O_p (.b true) (r_pick_t rfl rfl) ?_
  refine O_p (.b true) (r_mv rfl) ?_
  refine O_gs (v := (.i .i64 2)) rfl (r_mv rfl) ?_
  refine O_gs (v := (.b true)) rfl (r_bin rfl rfl rfl) ?_
  refine O_p (.b true) (r_pick_t rfl rfl) ?_
  refine O_p (.b true) (r_mv rfl) ?_
  refine O_gs (v := (.i .i64 3)) rfl (r_mv rfl) ?_
  refine O_gs (v := (.b true)) rfl (r_bin rfl rfl rfl) ?_
  refine O_p (.b true) (r_pick_t rfl rfl) ?_
  refine O_p (.b true) (r_mv rfl) ?_
  refine O_nil ?_
  refine C_ret ?_
  exact ⟨.inr rfl, _, resL_one (r_tmp (v := .b true) rfl), rfl⟩
theorem run7 (H : AH) (hok : H.Ok) (made : Int) (w_made : (Lit.int .i64 made).wf = true) (life : Int) (w_life : (Lit.int .i64 life).wf = true) (tag : Int) (w_tag : (Lit.int .u32 tag).wf = true) (peer : Int) (w_peer : (Lit.int .u32 peer).wf = true) (first : Int) (w_first : (Lit.int .u32 first).wf = true) (pf : Int) (w_pf : (Lit.int .u32 pf).wf = true) (room : Int) (w_room : (Lit.int .u32 room).wf = true) (out : Int) (w_out : (Lit.int .u16 out).wf = true) (inn : Int) (w_inn : (Lit.int .u16 inn).wf = true) (tie0 : Int) (w_tie0 : (Lit.int .u32 tie0).wf = true) (tie1 : Int) (w_tie1 : (Lit.int .u32 tie1).wf = true) (at_ : Int) (w_at_ : (Lit.int .i64 at_).wf = true) (bx : Int) (w_bx : (Lit.int .u8 bx).wf = true) : Ev tabA spA (.fn (.func 7) [] []) [.agg [(.i .i64 made), (.i .i64 life), (.i .u32 tag), (.i .u32 peer), (.i .u32 first), (.i .u32 pf), (.i .u32 room), (.i .u16 out), (.i .u16 inn), (.i .u32 tie0), (.i .u32 tie1)], .i .i64 at_, .i .u8 bx] H (fun v _ => v = .b true) := by
  cases hS : okS made life with
  | true =>
    by_cases hb0 : bx = 0
    · subst hb0; exact run7z H hok made w_made life w_life tag w_tag peer w_peer first w_first pf w_pf room w_room out w_out inn w_inn tie0 w_tie0 tie1 w_tie1 at_ w_at_ hS
    · exact run7n H hok made w_made life w_life tag w_tag peer w_peer first w_first pf w_pf room w_room out w_out inn w_inn tie0 w_tie0 tie1 w_tie1 at_ w_at_ bx w_bx hS hb0
  | false => exact run7f H hok made w_made life w_life tag w_tag peer w_peer first w_first pf w_pf room w_room out w_out inn w_inn tie0 w_tie0 tie1 w_tie1 at_ w_at_ bx w_bx hS
theorem array2 {P : Program} {H : AH} {k : Nat} {t e : TypeId} {x y : AV} (hu : P.underlying t = some (.array 2 e)) (hz : P.cellsOf e = 1) (h : Typed P H (k + 1) t [x, y]) : Typed P H k e [x] ∧ Typed P H k e [y] := by
  unfold Typed at h; rw [hu] at h
  obtain ⟨_, h⟩ := h
  have h0 := h 0 (by decide)
  have h1 := h 1 (by decide)
  rw [hz] at h0 h1
  exact ⟨h0, h1⟩
theorem law7 (W : World) (ρ : Rho) (H : AH) (xs : List AV) (args : Array Value) (hR : Rel Try.prog W.heap.size W ρ H W) (hro : RO H) (hv : VRL ρ xs args.toList) (ht : TypedVs Try.prog H 9 Try.f7.params.toList xs) :
    Calls Try.prog 7 args W fun e w' => e = .returned (.bool true) ∧ Below W.heap.size W w' := by
  rw [Try.params7] at ht
  obtain ⟨a2, xs, rfl, g2, b0, xs, rfl, gb0, b1, xs, rfl, gb1, rfl⟩ := ht
  obtain ⟨at_, rfl, w_at_⟩ := typedV_int Try.underlying3 gb0
  obtain ⟨bx, rfl, w_bx⟩ := typedV_int Try.underlying5 gb1
  obtain ⟨l, rfl, g3⟩ := typedV_struct Try.underlying27 g2
  obtain ⟨hl, hq⟩ := struct_parts (qs := [(3, 0, 1), (3, 1, 1), (23, 2, 1), (23, 3, 1), (23, 4, 1), (23, 5, 1), (23, 6, 1), (24, 7, 1), (24, 8, 1), (25, 9, 2)]) Try.underlying27 g3 (by kernel_rfl)
  rw [show Try.prog.cellsOf 27 = 11 by kernel_rfl] at hl
  match l, hl with
  | [x0, x1, x2, x3, x4, x5, x6, x7, x8, x9, x10], _ =>
    simp only [List.forall_mem_cons, List.drop_zero, List.drop_succ_cons, List.take_succ_cons, List.take_zero] at hq
    obtain ⟨q0, q1, q2, q3, q4, q5, q6, q7, q8, q9, _⟩ := hq
    obtain ⟨made, e0, w_made⟩ := typed_int Try.underlying3 q0
    obtain ⟨life, e1, w_life⟩ := typed_int Try.underlying3 q1
    obtain ⟨tag, e2, w_tag⟩ := typed_int Try.underlying23 q2
    obtain ⟨peer, e3, w_peer⟩ := typed_int Try.underlying23 q3
    obtain ⟨first, e4, w_first⟩ := typed_int Try.underlying23 q4
    obtain ⟨pf, e5, w_pf⟩ := typed_int Try.underlying23 q5
    obtain ⟨room, e6, w_room⟩ := typed_int Try.underlying23 q6
    obtain ⟨out, e7, w_out⟩ := typed_int Try.underlying24 q7
    obtain ⟨inn, e8, w_inn⟩ := typed_int Try.underlying24 q8
    obtain ⟨q9, q10⟩ := array2 Try.underlying25 (by kernel_rfl) q9
    obtain ⟨tie0, e9, w_tie0⟩ := typed_int Try.underlying23 q9
    obtain ⟨tie1, e10, w_tie1⟩ := typed_int Try.underlying23 q10
    cases e0; cases e1; cases e2; cases e3; cases e4; cases e5; cases e6; cases e7; cases e8; cases e9; cases e10
    obtain ⟨k, v, H', hex, rfl⟩ := run7 H hR.aok made w_made life w_life tag w_tag peer w_peer first w_first pf w_pf room w_room out w_out inn w_inn tie0 w_tie0 tie1 w_tie1 at_ w_at_ bx w_bx
    exact law_of mixed tabA_ok spA_ok hex hR hv
end Go.Proofs.Yteapgimihapefaa.E
namespace Go.Proofs.Yteapgimihapefaa.cookieCodes
open Go.ChangeShapes Go.WideShapes Go.RowKit
set_option linter.unusedVariables false
theorem own : ownKnob Try.prog.godebug = none := by kernel_rfl
theorem types : (Try.f7.params.toList.all fun t => E.fit Try.prog 9 t && (Try.prog.readableRec t && decide (t < Try.prog.types.size))) = true := by kernel_rfl
set_option maxRecDepth 100000 in
theorem lifted (os : Os) (started : os.Started) (H : Type) (enc : TypeId × Value → H) :
    ReturnsInHanded {} Try.checked os 7 .any (Rows.cookieCodesSpec.pre6 enc Try.prog Try.f7 Rows.cookieCodesRow.domain false) (Rows.cookieCodesSpec.post enc Try.prog Try.f7 false true false false) :=
  E.law_lifted (C := Try.checked) (k := 9) (tb := 4) E.globals0 E.laid own started (by kernel_rfl) Try.func7
    (ChangeSpec.witness6 (enc := enc) (C := Try.checked) false ⟨#[], #[.agg #[.int .i64 0, .int .i64 0, .int .u32 0, .int .u32 0, .int .u32 0, .int .u32 0, .int .u32 0, .int .u16 0, .int .u16 0, .int .u32 0, .int .u32 0], .int .i64 0, .int .u8 0], []⟩ 8 (by kernel_rfl) (by kernel_rfl) (by kernel_rfl) (by kernel_rfl))
    rfl rfl Try.underlying4 (fun t ht => by have h := List.all_eq_true.1 types t ht; simp only [Bool.and_eq_true, decide_eq_true_eq] at h; exact h)
    (fun ds hd => by
      rw [Try.params7] at hd
      match ds, hd with
      | [d0, d1, d2], _ => rfl) E.law7
theorem over : Rows.cookieCodesRow.holds Try.pinned (OpenSpec.ofChange Rows.cookieCodesSpec) :=
  OpenClaim.holds_of_wide 7 Try.f7 rfl rfl rfl rfl rfl rfl rfl ⟨rfl, rfl, rfl, rfl, rfl⟩ rfl rfl rfl rfl rfl (by kernel_rfl) Try.func7 (by kernel_rfl)
    (of_decide_eq_true (by kernel_rfl)) (by unfold Func.isWrapper; first | (rw [if_pos (by decide +kernel)]; kernel_rfl) | (rw [if_neg (by decide +kernel)]; exact ⟨rfl, rfl⟩))
    (fun os started H enc _ => lifted os started H enc)
end Go.Proofs.Yteapgimihapefaa.cookieCodes
namespace Go.Proofs.Yteapgimihapefaa
/-- The row, under a short name, for the claim. -/
theorem cookieCodes_holds : Rows.CookieCodesSaid := cookieCodes.over
#print axioms cookieCodes_holds
end Go.Proofs.Yteapgimihapefaa
