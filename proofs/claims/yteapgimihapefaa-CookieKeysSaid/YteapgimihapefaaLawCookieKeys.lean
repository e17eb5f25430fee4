/- CookieKeys, for every input, without conditions. -/
import Derived.Test.YteapgimihapefaaA
import Derived.Test.YteapgimihapefaaE37
import Derived.Test.YteapgimihapefaaRows
import Derived.ProofKit
import Derived.OpenShut
namespace Go.Proofs.Yteapgimihapefaa.E
open Go.RowKit (Below)
set_option linter.unusedVariables false
set_option linter.unusedSimpArgs false
theorem cErr_parts {key b : List UInt8} (h : cErr key b = 0) : key.length = 16 ∧ b.length = 60 ∧ b.drop 56 = [66, 79, 76, 49] ∧ code key (b.take 48) = num ((b.drop 48).take 8) ∧ num (b.take 8) ≤ 281474976710656 ∧ num ((b.drop 8).take 8) ≤ 281474976710656 := by
  unfold cErr at h
  split at h
  · cases h
  · split at h
    · cases h
    · split at h
      · cases h
      · split at h
        · cases h
        · split at h
          · rename_i h1 h2 h3 h4 h5
            have h3' := not_or.1 h3
            exact ⟨by omega, by omega, Decidable.not_not.1 h3'.2, Decidable.not_not.1 h4, h5⟩
          · cases h
theorem r_remn {T : Tm} {H : AH} {c : CallF} {x y : XO} {a b : Nat} (hx : x.ev T = .i .i64 (a : Int)) (hy : y.ev T = .i .i64 (b : Int)) (h1 : 0 < b) : (XOp.bin .rem x y).run c T H = some (.i .i64 ((a % b : Nat) : Int), H) := by
  rw [r_remi hx hy (by omega) (by omega)]; rfl
theorem r_quon {T : Tm} {H : AH} {c : CallF} {x y : XO} {a b : Nat} (hx : x.ev T = .i .i64 (a : Int)) (hy : y.ev T = .i .i64 (b : Int)) (h1 : 0 < b) (h2 : a < 9223372036854775808) : (XOp.bin .quo x y).run c T H = some (.i .i64 ((a / b : Nat) : Int), H) := by
  rw [r_quoi hx hy (by omega) (by omega) (by omega)]; rfl
theorem xor_u8 (y : UInt8) {b : Int} (h0 : 0 ≤ b) (h1 : b < 256) : (u8 (IntKind.u8.wrap 0 + ((BitVec.ofInt 8 (y.toNat : Int) ^^^ BitVec.ofInt 8 b).toNat : Int))) = y ↔ b = 0 := by
  have hz : IntKind.u8.wrap 0 = 0 := by decide
  rw [hz, Int.zero_add]
  obtain ⟨n, rfl⟩ := Int.eq_ofNat_of_zero_le h0
  have hy := y.toNat_lt
  have e1 : (BitVec.ofInt 8 (y.toNat : Int)).toNat = y.toNat := by rw [BitVec.toNat_ofInt]; omega
  have e2 : (BitVec.ofInt 8 (n : Int)).toNat = n := by rw [BitVec.toNat_ofInt]; omega
  have hlt : y.toNat ^^^ n < 256 := Nat.xor_lt_two_pow (n := 8) hy (by omega)
  rw [BitVec.toNat_xor, e1, e2]
  have e3 : (u8 (((y.toNat ^^^ n : Nat)) : Int)).toNat = y.toNat ^^^ n := by
    have := u8_of (n := ((y.toNat ^^^ n : Nat) : Int)) (by omega) (by omega)
    omega
  constructor
  · intro h
    have h2 := congrArg UInt8.toNat h
    rw [e3] at h2
    have h3 := congrArg (fun z => y.toNat ^^^ z) h2
    simp only [← Nat.xor_assoc, Nat.xor_self, Nat.zero_xor] at h3
    omega
  · intro h
    have hn : n = 0 := by omega
    apply UInt8.toNat_inj.1
    rw [e3, hn, Nat.xor_zero]
theorem set_same {l : List UInt8} {i : Nat} (h : i < l.length) : l.set i (l.getD i 0) = l := by
  rw [List.getD_eq_getElem?_getD, List.getElem?_eq_getElem h, Option.getD_some, List.set_getElem_self]
theorem cErr_set {key b : List UInt8} {k : Nat} {v : UInt8} (hb : b.length = 48) (hk : key.length = 16) (h8 : k < 8) (hv : ¬ v = (sealed key b).getD (48 + k) 0) : cErr key ((sealed key b).set (48 + k) v) = 6 := by
  have hl : (sealed key b).length = 60 := by rw [sealed_len, hb]
  have e1 : ((sealed key b).set (48 + k) v).take 48 = b := by rw [List.take_set_of_le (by omega), sealed_take hb]
  have e2 : ((sealed key b).set (48 + k) v).drop 56 = [66, 79, 76, 49] := by rw [List.drop_set_of_lt (by omega), sealed_sign hb]
  refine cErr_6 hk (by rw [List.length_set, hl]) e2 ?_
  rw [e1]
  intro hc
  rw [← sealed_code hb, List.drop_set, if_neg (by omega), show 48 + k - 48 = k by omega, List.take_set] at hc
  have hlen : (((sealed key b).drop 48).take 8).length = 8 := by rw [List.length_take, List.length_drop, hl]; rfl
  have h := num_inj (by rw [List.length_set]) hc
  have h2 := congrArg (fun l => l[k]?) h
  simp only [List.getElem?_set_self (show k < (((sealed key b).drop 48).take 8).length by rw [hlen]; exact h8)] at h2
  rw [List.getElem?_take_of_lt h8, List.getElem?_drop] at h2
  apply hv
  rw [List.getD_eq_getElem?_getD, h2]; rfl
theorem cErr_other {key j b : List UInt8} (hb : b.length = 48) (hk : key.length = 16) (ht : num (b.take 8) ≤ 281474976710656 ∧ num ((b.drop 8).take 8) ≤ 281474976710656) : cErr key (sealed j b) = if code key b = code j b then 0 else 6 := by
  have hl : (sealed j b).length = 60 := by rw [sealed_len, hb]
  have e1 := sealed_take (key := j) hb
  have e2 := sealed_sign (key := j) hb
  have e3 := sealed_code (key := j) hb
  have p1 : (sealed j b).take 8 = b.take 8 := by rw [← e1, List.take_take]; simp [e1]
  have p2 : ((sealed j b).drop 8).take 8 = (b.drop 8).take 8 := by
    conv => rhs; rw [← e1]
    rw [List.drop_take, List.take_take]; rfl
  by_cases h : code key b = code j b
  · rw [if_pos h]
    exact cErr_0 hk hl e2 (by rw [e1, e3, h]) (by rw [p1, p2]; exact ht)
  · rw [if_neg h]
    exact cErr_6 hk hl e2 (by rw [e1, e3]; exact h)
theorem sealed_eq {key j b : List UInt8} (hb : b.length = 48) : sealed key b = sealed j b ↔ code key b = code j b := by
  constructor
  · intro h; rw [← sealed_code (key := key) hb, ← sealed_code (key := j) hb, h]
  · intro h; unfold sealed; rw [h]
theorem keys_time {key b : List UInt8} (hb : b.length = 48) (h : cErr key (sealed key b) = 0) : num (b.take 8) ≤ 281474976710656 ∧ num ((b.drop 8).take 8) ≤ 281474976710656 := by
  obtain ⟨_, _, _, _, h1, h2⟩ := cErr_parts h
  have e1 := sealed_take (key := key) hb
  have p1 : (sealed key b).take 8 = b.take 8 := by rw [← e1, List.take_take]; simp [e1]
  have p2 : ((sealed key b).drop 8).take 8 = (b.drop 8).take 8 := by
    conv => rhs; rw [← e1]
    rw [List.drop_take, List.take_take]; rfl
  rw [p1] at h1; rw [p2] at h2
  exact ⟨h1, h2⟩
theorem keys_dec {key j b : List UInt8} (hb : b.length = 48) (hk : key.length = 16) (h : cErr key (sealed key b) = 0) : decide (cErr key (sealed j b) = 0) = decide (sealed key b = sealed j b) := by
  rw [cErr_other hb hk (keys_time hb h)]
  by_cases hc : code key b = code j b
  · rw [if_pos hc, decide_eq_true rfl, decide_eq_true ((sealed_eq hb).2 hc)]
  · rw [if_neg hc, decide_eq_false (by decide), decide_eq_false (fun h => hc ((sealed_eq hb).1 h))]
theorem keys_same {key j b : List UInt8} (hb : b.length = 48) : (sealed key b).take 48 = (sealed j b).take 48 ∧ (sealed key b).drop 56 = (sealed j b).drop 56 := by
  rw [sealed_take hb, sealed_take hb, sealed_sign hb, sealed_sign hb]; exact ⟨rfl, rfl⟩
set_option maxRecDepth 100000 in
set_option maxHeartbeats 4000000 in
theorem run8l (H : AH) (hok : H.Ok) (ka : Option (Nat × Nat)) (kc : Nat) (key : List UInt8) (khb : Bs H (.sl ka key.length kc 0) key) (khc : key.length ≤ kc) (khm0 : kc ≤ maxLen) (made : Int) (w_made : (Lit.int .i64 made).wf = true) (life : Int) (w_life : (Lit.int .i64 life).wf = true) (tag : Int) (w_tag : (Lit.int .u32 tag).wf = true) (peer : Int) (w_peer : (Lit.int .u32 peer).wf = true) (first : Int) (w_first : (Lit.int .u32 first).wf = true) (pf : Int) (w_pf : (Lit.int .u32 pf).wf = true) (room : Int) (w_room : (Lit.int .u32 room).wf = true) (out : Int) (w_out : (Lit.int .u16 out).wf = true) (inn : Int) (w_inn : (Lit.int .u16 inn).wf = true) (tie0 : Int) (w_tie0 : (Lit.int .u32 tie0).wf = true) (tie1 : Int) (w_tie1 : (Lit.int .u32 tie1).wf = true) (at_ : Int) (w_at_ : (Lit.int .i64 at_).wf = true) (hk16 : ¬ key.length = 16) : Ev tabA spA (.fn (.func 8) [] []) [.sl ka key.length kc 0, .agg [(.i .i64 made), (.i .i64 life), (.i .u32 tag), (.i .u32 peer), (.i .u32 first), (.i .u32 pf), (.i .u32 room), (.i .u16 out), (.i .u16 inn), (.i .u32 tie0), (.i .u32 tie1)], .i .i64 at_] H (fun v _ => v = .b true) := by
  refine Ev_C (F := x8) rfl ?_
  have hO0 := Old.refl hok
  have hma : -9223372036854775808 ≤ made ∧ made < 9223372036854775808 := by simp [Lit.wf, IntKind.wrap, IntKind.signed, IntKind.bits, IntKind.min, IntKind.max] at w_made; omega
  have hli : -9223372036854775808 ≤ life ∧ life < 9223372036854775808 := by simp [Lit.wf, IntKind.wrap, IntKind.signed, IntKind.bits, IntKind.min, IntKind.max] at w_life; omega
  have ht : 0 ≤ tag ∧ tag < 4294967296 := by simp [Lit.wf, IntKind.wrap, IntKind.signed, IntKind.bits, IntKind.min, IntKind.max] at w_tag; omega
  have hp : 0 ≤ peer ∧ peer < 4294967296 := by simp [Lit.wf, IntKind.wrap, IntKind.signed, IntKind.bits, IntKind.min, IntKind.max] at w_peer; omega
  have hf : 0 ≤ first ∧ first < 4294967296 := by simp [Lit.wf, IntKind.wrap, IntKind.signed, IntKind.bits, IntKind.min, IntKind.max] at w_first; omega
  have hpf : 0 ≤ pf ∧ pf < 4294967296 := by simp [Lit.wf, IntKind.wrap, IntKind.signed, IntKind.bits, IntKind.min, IntKind.max] at w_pf; omega
  have hr : 0 ≤ room ∧ room < 4294967296 := by simp [Lit.wf, IntKind.wrap, IntKind.signed, IntKind.bits, IntKind.min, IntKind.max] at w_room; omega
  have ho : 0 ≤ out ∧ out < 65536 := by simp [Lit.wf, IntKind.wrap, IntKind.signed, IntKind.bits, IntKind.min, IntKind.max] at w_out; omega
  have hi : 0 ≤ inn ∧ inn < 65536 := by simp [Lit.wf, IntKind.wrap, IntKind.signed, IntKind.bits, IntKind.min, IntKind.max] at w_inn; omega
  have h0 : 0 ≤ tie0 ∧ tie0 < 4294967296 := by simp [Lit.wf, IntKind.wrap, IntKind.signed, IntKind.bits, IntKind.min, IntKind.max] at w_tie0; omega
  have h1 : 0 ≤ tie1 ∧ tie1 < 4294967296 := by simp [Lit.wf, IntKind.wrap, IntKind.signed, IntKind.bits, IntKind.min, IntKind.max] at w_tie1; omega
  have khm : kc ≤ 9223372036854775807 := khm0
  have h13 : tabA 13 = some x13 := rfl
  refine C_seq ?_
  refine C_region ?_
  refine O_box (z := [(.i .i64 made), (.i .i64 life), (.i .u32 tag), (.i .u32 peer), (.i .u32 first), (.i .u32 pf), (.i .u32 room), (.i .u16 out), (.i .u16 inn), (.i .u32 tie0), (.i .u32 tie1)]) rfl fun n1 H2 hN3 => ?_
  have hF4 := hN3.fr (fun _ => False)
  have hO5 := hO0.new hN3
  have hx_hO5 := hO5.next
  have hnm_n1 : n1 = H.next := hN3.1
  have hnx_H2 : H2.next = H.next + 1 := hN3.2.1
  have hlt_n1 : n1 < H2.next := by omega
  refine O_p (.b false) (r_mv rfl) ?_
  refine O_nil ?_
  refine C_seq ?_
  refine C_region ?_
  refine O_call (Ev.mono (awake_ev hO5.ok) fun v6 H7 hq8 => ?_)
  obtain ⟨rfl, hK9⟩ := hq8
  have hb10 := (hK9.keep _ (by omega)).trans hN3.2.2.1
  have hx_hK9 := hK9.next
  have hlt_n1 : n1 < H7.next := by omega
  have hO11 := hO5.trans hK9
  have hx_hO11 := hO11.next
  refine O_p (.b true) (r_mv rfl) ?_
  refine O_nil ?_
  refine C_seq ?_
  refine C_seq ?_
  refine C_region ?_
  refine O_p (.sl ka key.length kc 0) (r_mv rfl) ?_
  refine O_p (.i .i64 (((key.length : Nat)) : Int)) (r_len rfl) ?_
  refine O_p (.b true) (by exact (by rw [r_neq rfl rfl, decide_eq_false (by first | omega | assumption)]; rfl)) ?_
  refine O_nil ?_
  refine C_cond (x := true) rfl (fun _ => ?_) (fun h => by cases h)
  refine C_seq ?_
  refine C_region ?_
  refine O_p (.b true) (r_mv rfl) ?_
  refine O_p (.b true) (r_mv rfl) ?_
  refine O_nil ?_
  refine C_ret ?_
  refine nx_ret ?_
  exact ⟨.inr rfl, _, resL_one (r_tmp (v := .b true) rfl), rfl⟩
set_option maxRecDepth 100000 in
set_option maxHeartbeats 4000000 in
theorem run8f (H : AH) (hok : H.Ok) (ka : Option (Nat × Nat)) (kc : Nat) (key : List UInt8) (khb : Bs H (.sl ka key.length kc 0) key) (khc : key.length ≤ kc) (khm0 : kc ≤ maxLen) (made : Int) (w_made : (Lit.int .i64 made).wf = true) (life : Int) (w_life : (Lit.int .i64 life).wf = true) (tag : Int) (w_tag : (Lit.int .u32 tag).wf = true) (peer : Int) (w_peer : (Lit.int .u32 peer).wf = true) (first : Int) (w_first : (Lit.int .u32 first).wf = true) (pf : Int) (w_pf : (Lit.int .u32 pf).wf = true) (room : Int) (w_room : (Lit.int .u32 room).wf = true) (out : Int) (w_out : (Lit.int .u16 out).wf = true) (inn : Int) (w_inn : (Lit.int .u16 inn).wf = true) (tie0 : Int) (w_tie0 : (Lit.int .u32 tie0).wf = true) (tie1 : Int) (w_tie1 : (Lit.int .u32 tie1).wf = true) (at_ : Int) (w_at_ : (Lit.int .i64 at_).wf = true) (hk16 : key.length = 16) (hS : okS made life = false) : Ev tabA spA (.fn (.func 8) [] []) [.sl ka key.length kc 0, .agg [(.i .i64 made), (.i .i64 life), (.i .u32 tag), (.i .u32 peer), (.i .u32 first), (.i .u32 pf), (.i .u32 room), (.i .u16 out), (.i .u16 inn), (.i .u32 tie0), (.i .u32 tie1)], .i .i64 at_] H (fun v _ => v = .b true) := by
  refine Ev_C (F := x8) rfl ?_
  have hO0 := Old.refl hok
  have hma : -9223372036854775808 ≤ made ∧ made < 9223372036854775808 := by simp [Lit.wf, IntKind.wrap, IntKind.signed, IntKind.bits, IntKind.min, IntKind.max] at w_made; omega
  have hli : -9223372036854775808 ≤ life ∧ life < 9223372036854775808 := by simp [Lit.wf, IntKind.wrap, IntKind.signed, IntKind.bits, IntKind.min, IntKind.max] at w_life; omega
  have ht : 0 ≤ tag ∧ tag < 4294967296 := by simp [Lit.wf, IntKind.wrap, IntKind.signed, IntKind.bits, IntKind.min, IntKind.max] at w_tag; omega
  have hp : 0 ≤ peer ∧ peer < 4294967296 := by simp [Lit.wf, IntKind.wrap, IntKind.signed, IntKind.bits, IntKind.min, IntKind.max] at w_peer; omega
  have hf : 0 ≤ first ∧ first < 4294967296 := by simp [Lit.wf, IntKind.wrap, IntKind.signed, IntKind.bits, IntKind.min, IntKind.max] at w_first; omega
  have hpf : 0 ≤ pf ∧ pf < 4294967296 := by simp [Lit.wf, IntKind.wrap, IntKind.signed, IntKind.bits, IntKind.min, IntKind.max] at w_pf; omega
  have hr : 0 ≤ room ∧ room < 4294967296 := by simp [Lit.wf, IntKind.wrap, IntKind.signed, IntKind.bits, IntKind.min, IntKind.max] at w_room; omega
  have ho : 0 ≤ out ∧ out < 65536 := by simp [Lit.wf, IntKind.wrap, IntKind.signed, IntKind.bits, IntKind.min, IntKind.max] at w_out; omega
  have hi : 0 ≤ inn ∧ inn < 65536 := by simp [Lit.wf, IntKind.wrap, IntKind.signed, IntKind.bits, IntKind.min, IntKind.max] at w_inn; omega
  have h0 : 0 ≤ tie0 ∧ tie0 < 4294967296 := by simp [Lit.wf, IntKind.wrap, IntKind.signed, IntKind.bits, IntKind.min, IntKind.max] at w_tie0; omega
  have h1 : 0 ≤ tie1 ∧ tie1 < 4294967296 := by simp [Lit.wf, IntKind.wrap, IntKind.signed, IntKind.bits, IntKind.min, IntKind.max] at w_tie1; omega
  have khm : kc ≤ 9223372036854775807 := khm0
  have h13 : tabA 13 = some x13 := rfl
  refine C_seq ?_
  refine C_region ?_
  refine O_box (z := [(.i .i64 made), (.i .i64 life), (.i .u32 tag), (.i .u32 peer), (.i .u32 first), (.i .u32 pf), (.i .u32 room), (.i .u16 out), (.i .u16 inn), (.i .u32 tie0), (.i .u32 tie1)]) rfl fun n1 H2 hN3 => ?_
  have hF4 := hN3.fr (fun _ => False)
  have hO5 := hO0.new hN3
  have hx_hO5 := hO5.next
  have hnm_n1 : n1 = H.next := hN3.1
  have hnx_H2 : H2.next = H.next + 1 := hN3.2.1
  have hlt_n1 : n1 < H2.next := by omega
  refine O_p (.b false) (r_mv rfl) ?_
  refine O_nil ?_
  refine C_seq ?_
  refine C_region ?_
  refine O_call (Ev.mono (awake_ev hO5.ok) fun v6 H7 hq8 => ?_)
  obtain ⟨rfl, hK9⟩ := hq8
  have hb10 := (hK9.keep _ (by omega)).trans hN3.2.2.1
  have hx_hK9 := hK9.next
  have hlt_n1 : n1 < H7.next := by omega
  have hO11 := hO5.trans hK9
  have hx_hO11 := hO11.next
  refine O_p (.b true) (r_mv rfl) ?_
  refine O_nil ?_
  refine C_seq ?_
  refine C_seq ?_
  refine C_region ?_
  refine O_p (.sl ka key.length kc 0) (r_mv rfl) ?_
  refine O_p (.i .i64 (((key.length : Nat)) : Int)) (r_len rfl) ?_
  refine O_p (.b false) (by exact (by rw [r_neq rfl rfl, decide_eq_true (by first | omega | assumption)]; rfl)) ?_
  refine O_nil ?_
  refine C_cond (x := false) rfl (fun h => by cases h) (fun _ => ?_)
  refine C_skip ?_
  refine C_seq ?_
  refine C_region ?_
  refine O_bslice (c := []) rfl fun n12 H13 hN14 => ?_
  have hF15 := hN14.fr (fun _ => False)
  have hb16 := (hF15.keep _ (by exact hlt_n1) (fun h => h)).trans hb10
  have hO17 := hO11.new hN14
  have hx_hO17 := hO17.next
  have hnm_n12 : n12 = H7.next := hN14.1
  have hnx_H13 : H13.next = H7.next + 1 := hN14.2.1
  have hlt_n1 : n1 < H13.next := by omega
  have hlt_n12 : n12 < H13.next := by omega
  refine O_p (.sl ka key.length kc 0) (r_mv rfl) ?_
  refine O_qh (by exact r_app (N := n12) (n := 0) (k := key.length) (new := bcells key) hO17.ok (Nat.le_of_lt hlt_n12) ⟨.mk (n := 0) hN14.2.2.1 hlt_n12 (.inl rfl) rfl, fun q hq => by rw [nameOf_sl] at hq; omega⟩ rfl rfl rfl ((khb.old hok hO17).len) ((khb.old hok hO17).src) ((bcells_len _).trans (Nat.mul_one _).symm) (by decide) (by decide) (by first | omega | (simp only [List.length_take, List.length_drop, List.length_append, List.length_cons, List.length_nil, beN_len] <;> omega))) fun o18 H19 hA20 => ?_
  have hB21 := hA20.but
  have hb23 := (hB21.keep _ (by omega) (by omega)).trans hb16
  have hx_hB21 := hB21.next
  have hlt_n1 : n1 < H19.next := by omega
  have hO24 := hO17.but hB21 (by omega)
  have hx_hO24 := hO24.next
  have hM22 : Mine n12 1 H19 o18 (bcells key) := hA20.1
  obtain ⟨cb25, cn26, cg27, rfl, hcg28, hcl29, hcb30, hcn31, hlt_cb25⟩ := hM22.blk (bcells_ne (by first | omega | (simp only [List.length_set, List.length_append, List.length_cons, List.length_nil, List.length_take, List.length_drop] <;> omega)))
  rw [bcells_len, Nat.mul_one] at hcl29
  subst hcl29
  refine O_p (.sl (some (cb25, 0)) (key).length (key).length cg27) (r_mv rfl) ?_
  refine O_nil ?_
  refine C_seq ?_
  refine C_region ?_
  refine O_p (.i .i64 at_) (r_mv rfl) ?_
  obtain ⟨q32, hq32, hlq32⟩ := and_nat at_ 127 (by decide)
  refine O_p (.i .i64 (((q32 : Nat)) : Int)) (by exact (by rw [← hq32]; exact r_bin rfl rfl rfl)) ?_
  refine O_p (.i .i64 (((q32 : Nat)) : Int)) (r_mv rfl) ?_
  refine O_nil ?_
  refine C_seq ?_
  refine C_region ?_
  refine O_p (.sl (some (cb25, 0)) (key).length (key).length cg27) (r_mv rfl) ?_
  refine O_p (.i .i64 (((q32 : Nat)) : Int)) (r_mv rfl) ?_
  refine O_p (.i .i64 ((((q32 / 8) : Nat)) : Int)) (by exact (r_quon (a := q32) (b := 8) rfl rfl (by omega) (by omega))) ?_
  refine O_p (.sl (some (cb25, 0)) (key).length (key).length cg27) (r_mv rfl) ?_
  refine O_p (.i .i64 (((q32 : Nat)) : Int)) (r_mv rfl) ?_
  refine O_p (.i .i64 ((((q32 / 8) : Nat)) : Int)) (by exact (r_quon (a := q32) (b := 8) rfl rfl (by omega) (by omega))) ?_
  refine O_p (.p (some (cb25, (q32 / 8)))) (by exact (r_islo rfl (i := (q32 / 8)) rfl (by first | omega | (simp only [List.length_set, List.length_append, List.length_cons, List.length_nil, List.length_take, List.length_drop] <;> omega)))) ?_
  refine O_p (.i .u8 ((key.getD (q32 / 8) 0).toNat : Int)) (by exact (r_ld rfl hcb30 (bcells_at (by first | omega | (simp only [List.length_set, List.length_append, List.length_cons, List.length_nil, List.length_take, List.length_drop] <;> omega))))) ?_
  refine O_p (.i .i64 (((q32 : Nat)) : Int)) (r_mv rfl) ?_
  refine O_p (.i .i64 ((((q32 % 8) : Nat)) : Int)) (by exact (r_remn (a := q32) (b := 8) rfl rfl (by omega))) ?_
  refine O_p (.i .u64 (IntKind.u64.wrap ((((q32 % 8) : Nat)) : Int))) (r_cint rfl) ?_
  refine O_p (.i .u8 (IntKind.u8.wrap (1 * 2 ^ (min ((IntKind.u64.wrap ((((q32 % 8) : Nat)) : Int)) : Int).toNat 8)))) (r_bin rfl rfl rfl) ?_
  refine O_p (.i .u8 (IntKind.u8.wrap ((BitVec.ofInt 8 ((key.getD (q32 / 8) 0).toNat : Int) ^^^ BitVec.ofInt 8 (IntKind.u8.wrap (1 * 2 ^ (min ((IntKind.u64.wrap ((((q32 % 8) : Nat)) : Int)) : Int).toNat 8)))).toNat : Int))) (r_bin rfl rfl rfl) ?_
  refine O_p (.p (some (cb25, (q32 / 8)))) (by exact (r_islo rfl (i := (q32 / 8)) rfl (by first | omega | (simp only [List.length_set, List.length_append, List.length_cons, List.length_nil, List.length_take, List.length_drop] <;> omega)))) ?_
  refine O_store (vs := [(.i .u8 (IntKind.u8.wrap ((BitVec.ofInt 8 ((key.getD (q32 / 8) 0).toNat : Int) ^^^ BitVec.ofInt 8 (IntKind.u8.wrap (1 * 2 ^ (min ((IntKind.u64.wrap ((((q32 % 8) : Nat)) : Int)) : Int).toNat 8)))).toNat : Int)))]) (c' := bcells (key.set (q32 / 8) (u8 ((BitVec.ofInt 8 ((key.getD (q32 / 8) 0).toNat : Int) ^^^ BitVec.ofInt 8 (IntKind.u8.wrap (1 * 2 ^ (min ((IntKind.u64.wrap ((((q32 % 8) : Nat)) : Int)) : Int).toNat 8)))).toNat : Int)))) rfl (by rfl) hcb30 rfl (List.cons_ne_nil _ _) (bcells_lt (by first | omega | (simp only [List.length_set, List.length_append, List.length_cons, List.length_nil, List.length_take, List.length_drop] <;> omega))) (putAt_set (u8_wrap _)) fun H33 hW34 => ?_
  have hb35 := (hW34.2.2 _ (by omega)).trans hb23
  have hO36 := hO24.wr hW34 (by omega) (by omega)
  have hx_hO36 := hO36.next
  have hnx_H33 : H33.next = H19.next := hW34.1
  have hlt_n1 : n1 < H33.next := by omega
  have hlt_cb25 : cb25 < H33.next := by omega
  refine O_nil ?_
  refine C_seq ?_
  refine C_region ?_
  refine O_p (.sl ka key.length kc 0) (r_mv rfl) ?_
  refine O_p (.agg [(.i .i64 made), (.i .i64 life), (.i .u32 tag), (.i .u32 peer), (.i .u32 first), (.i .u32 pf), (.i .u32 room), (.i .u16 out), (.i .u16 inn), (.i .u32 tie0), (.i .u32 tie1)]) (r_ldA rfl hb35 rfl) ?_
  refine O_call (Ev.mono (enc_f1 hO36.ok (.inl rfl) (khb.old hok hO36) (by first | omega | (simp only [List.length_take, List.length_drop, List.length_append, List.length_cons, List.length_nil, beN_len] <;> omega)) (by first | omega | (simp only [List.length_take, List.length_drop, List.length_append, List.length_cons, List.length_nil, beN_len] <;> omega)) made life tag peer first pf room out inn tie0 tie1 hk16 hS) fun v37 H38 hq39 => ?_)
  obtain ⟨o40, rfl, hM41, hK42⟩ := hq39
  have hb43 := (hK42.keep _ (by omega)).trans hb35
  have hb44 := (hK42.keep _ (by omega)).trans hW34.2.1
  have hx_hK42 := hK42.next
  have hlt_n1 : n1 < H38.next := by omega
  have hlt_cb25 : cb25 < H38.next := by omega
  have hO45 := hO36.trans hK42
  have hx_hO45 := hO45.next
  have hM46 := hM41.down (N := H.next) (by omega)
  have hM47 : Mine H.next 1 H38 o40 (bcells ([] : List UInt8)) := hM46
  have hd48 : ¬ o40.nameOf n1 := fun hq => by have := hM41.new _ hq; omega
  have hd49 : ¬ o40.nameOf cb25 := fun hq => by have := hM41.new _ hq; omega
  refine O_p (.tup [o40, (.b false)]) (r_mv rfl) ?_
  refine O_p o40 (r_ext rfl rfl) ?_
  refine O_p (.b false) (r_ext rfl rfl) ?_
  refine O_p o40 (r_mv rfl) ?_
  refine O_p (.b false) (r_mv rfl) ?_
  refine O_nil ?_
  refine C_seq ?_
  refine C_region ?_
  refine O_p (.sl (some (cb25, 0)) (key).length (key).length cg27) (r_mv rfl) ?_
  refine O_p (.agg [(.i .i64 made), (.i .i64 life), (.i .u32 tag), (.i .u32 peer), (.i .u32 first), (.i .u32 pf), (.i .u32 room), (.i .u16 out), (.i .u16 inn), (.i .u32 tie0), (.i .u32 tie1)]) (r_ldA rfl hb43 rfl) ?_
  have hbs50 := Bs.blk (g := cg27) hb44 (n := (key).length) (by first | rfl | simp only [List.length_set])
  have base51 := Old.refl hO45.ok
  have hj16 : ((key.set (q32 / 8) (u8 ((BitVec.ofInt 8 ((key.getD (q32 / 8) 0).toNat : Int) ^^^ BitVec.ofInt 8 (IntKind.u8.wrap (1 * 2 ^ (min ((IntKind.u64.wrap ((((q32 % 8) : Nat)) : Int)) : Int).toNat 8)))).toNat : Int)))).length = 16 := by rw [List.length_set]; exact hk16
  have hbs52 := Bs.blk (g := cg27) hb44 (n := (key).length) (by first | rfl | simp only [List.length_set])
  have base53 := Old.refl hO45.ok
  refine O_call (Ev.mono (enc_f1 hO45.ok hcg28 (hbs52.old hO45.ok base53) (by first | omega | (simp only [List.length_take, List.length_drop, List.length_append, List.length_cons, List.length_nil, beN_len] <;> omega)) (by first | omega | (simp only [List.length_take, List.length_drop, List.length_append, List.length_cons, List.length_nil, beN_len] <;> omega)) made life tag peer first pf room out inn tie0 tie1 hj16 hS) fun v54 H55 hq56 => ?_)
  obtain ⟨o57, rfl, hM58, hK59⟩ := hq56
  have hb60 := (hK59.keep _ (by omega)).trans hb43
  have hb61 := (hK59.keep _ (by omega)).trans hb44
  have hx_hK59 := hK59.next
  have hlt_n1 : n1 < H55.next := by omega
  have hlt_cb25 : cb25 < H55.next := by omega
  have hM62 := hM47.kp hK59
  have hO63 := hO45.trans hK59
  have hx_hO63 := hO63.next
  have hO64 := base51.trans hK59
  have hO65 := base53.trans hK59
  have hM66 := hM58.down (N := H.next) (by omega)
  have hM67 : Mine H.next 1 H55 o57 (bcells ([] : List UInt8)) := hM66
  have hd68 : ¬ o57.nameOf n1 := fun hq => by have := hM58.new _ hq; omega
  have hd69 : ¬ o57.nameOf cb25 := fun hq => by have := hM58.new _ hq; omega
  refine O_p (.tup [o57, (.b false)]) (r_mv rfl) ?_
  refine O_p o57 (r_ext rfl rfl) ?_
  refine O_p (.b false) (r_ext rfl rfl) ?_
  refine O_p o57 (r_mv rfl) ?_
  refine O_p (.b false) (r_mv rfl) ?_
  refine O_nil ?_
  refine C_seq ?_
  refine C_seq ?_
  refine C_region ?_
  refine O_p (.b false) (r_mv rfl) ?_
  refine O_p (.b true) (r_un rfl rfl) ?_
  refine O_p (.b true) (r_mv rfl) ?_
  refine O_gf rfl ?_
  refine O_gf rfl ?_
  refine O_p (.b true) (r_pick_t rfl rfl) ?_
  refine O_p (.b true) (r_mv rfl) ?_
  refine O_gf rfl ?_
  refine O_gf rfl ?_
  refine O_gf rfl ?_
  refine O_p (.b true) (r_pick_t rfl rfl) ?_
  refine O_p (.b true) (r_mv rfl) ?_
  refine O_gf rfl ?_
  refine O_gf rfl ?_
  refine O_gf rfl ?_
  refine O_p (.b true) (r_pick_t rfl rfl) ?_
  refine O_nil ?_
  refine C_cond (x := true) rfl (fun _ => ?_) (fun h => by cases h)
  refine C_seq ?_
  refine C_region ?_
  refine O_p (.b true) (r_mv rfl) ?_
  refine O_p (.b true) (r_mv rfl) ?_
  refine O_gs (v := (.b false)) rfl (r_mv rfl) ?_
  refine O_gs (v := (.b false)) rfl (r_mv rfl) ?_
  refine O_gs (v := (.b true)) rfl (r_beqq rfl rfl) ?_
  refine O_p (.b true) (r_pick_t rfl rfl) ?_
  refine O_p (.b true) (r_mv rfl) ?_
  refine O_gs (v := (.b false)) rfl (r_mv rfl) ?_
  refine O_gs (v := (.b true)) rfl (r_un rfl rfl) ?_
  refine O_p (.b true) (r_pick_t rfl rfl) ?_
  refine O_p (.b true) (r_mv rfl) ?_
  refine O_nil ?_
  refine C_ret ?_
  refine nx_ret ?_
  exact ⟨.inr rfl, _, resL_one (r_tmp (v := .b true) rfl), rfl⟩
set_option maxRecDepth 100000 in
set_option maxHeartbeats 4000000 in
theorem run8t (H : AH) (hok : H.Ok) (ka : Option (Nat × Nat)) (kc : Nat) (key : List UInt8) (khb : Bs H (.sl ka key.length kc 0) key) (khc : key.length ≤ kc) (khm0 : kc ≤ maxLen) (made : Int) (w_made : (Lit.int .i64 made).wf = true) (life : Int) (w_life : (Lit.int .i64 life).wf = true) (tag : Int) (w_tag : (Lit.int .u32 tag).wf = true) (peer : Int) (w_peer : (Lit.int .u32 peer).wf = true) (first : Int) (w_first : (Lit.int .u32 first).wf = true) (pf : Int) (w_pf : (Lit.int .u32 pf).wf = true) (room : Int) (w_room : (Lit.int .u32 room).wf = true) (out : Int) (w_out : (Lit.int .u16 out).wf = true) (inn : Int) (w_inn : (Lit.int .u16 inn).wf = true) (tie0 : Int) (w_tie0 : (Lit.int .u32 tie0).wf = true) (tie1 : Int) (w_tie1 : (Lit.int .u32 tie1).wf = true) (at_ : Int) (w_at_ : (Lit.int .i64 at_).wf = true) (hk16 : key.length = 16) (hS : okS made life = true) : Ev tabA spA (.fn (.func 8) [] []) [.sl ka key.length kc 0, .agg [(.i .i64 made), (.i .i64 life), (.i .u32 tag), (.i .u32 peer), (.i .u32 first), (.i .u32 pf), (.i .u32 room), (.i .u16 out), (.i .u16 inn), (.i .u32 tie0), (.i .u32 tie1)], .i .i64 at_] H (fun v _ => v = .b true) := by
  refine Ev_C (F := x8) rfl ?_
  have hO0 := Old.refl hok
  have hma : -9223372036854775808 ≤ made ∧ made < 9223372036854775808 := by simp [Lit.wf, IntKind.wrap, IntKind.signed, IntKind.bits, IntKind.min, IntKind.max] at w_made; omega
  have hli : -9223372036854775808 ≤ life ∧ life < 9223372036854775808 := by simp [Lit.wf, IntKind.wrap, IntKind.signed, IntKind.bits, IntKind.min, IntKind.max] at w_life; omega
  have ht : 0 ≤ tag ∧ tag < 4294967296 := by simp [Lit.wf, IntKind.wrap, IntKind.signed, IntKind.bits, IntKind.min, IntKind.max] at w_tag; omega
  have hp : 0 ≤ peer ∧ peer < 4294967296 := by simp [Lit.wf, IntKind.wrap, IntKind.signed, IntKind.bits, IntKind.min, IntKind.max] at w_peer; omega
  have hf : 0 ≤ first ∧ first < 4294967296 := by simp [Lit.wf, IntKind.wrap, IntKind.signed, IntKind.bits, IntKind.min, IntKind.max] at w_first; omega
  have hpf : 0 ≤ pf ∧ pf < 4294967296 := by simp [Lit.wf, IntKind.wrap, IntKind.signed, IntKind.bits, IntKind.min, IntKind.max] at w_pf; omega
  have hr : 0 ≤ room ∧ room < 4294967296 := by simp [Lit.wf, IntKind.wrap, IntKind.signed, IntKind.bits, IntKind.min, IntKind.max] at w_room; omega
  have ho : 0 ≤ out ∧ out < 65536 := by simp [Lit.wf, IntKind.wrap, IntKind.signed, IntKind.bits, IntKind.min, IntKind.max] at w_out; omega
  have hi : 0 ≤ inn ∧ inn < 65536 := by simp [Lit.wf, IntKind.wrap, IntKind.signed, IntKind.bits, IntKind.min, IntKind.max] at w_inn; omega
  have h0 : 0 ≤ tie0 ∧ tie0 < 4294967296 := by simp [Lit.wf, IntKind.wrap, IntKind.signed, IntKind.bits, IntKind.min, IntKind.max] at w_tie0; omega
  have h1 : 0 ≤ tie1 ∧ tie1 < 4294967296 := by simp [Lit.wf, IntKind.wrap, IntKind.signed, IntKind.bits, IntKind.min, IntKind.max] at w_tie1; omega
  have khm : kc ≤ 9223372036854775807 := khm0
  have h13 : tabA 13 = some x13 := rfl
  have hS4 : ((0 ≤ made ∧ made ≤ 281474976710656) ∧ 0 ≤ life) ∧ life ≤ 281474976710656 := by unfold okS at hS; simpa only [Bool.and_eq_true, decide_eq_true_eq] using hS
  have hcE : cErr key (sealed key (b32 (wordsL made life tag peer first pf room out inn tie0 tie1))) = 0 := cErr_sealed hk16 ⟨hS4.1.1.1, hS4.1.1.2⟩ ⟨hS4.1.2, hS4.2⟩ ht hp hf hpf hr ho hi h0 h1
  refine C_seq ?_
  refine C_region ?_
  refine O_box (z := [(.i .i64 made), (.i .i64 life), (.i .u32 tag), (.i .u32 peer), (.i .u32 first), (.i .u32 pf), (.i .u32 room), (.i .u16 out), (.i .u16 inn), (.i .u32 tie0), (.i .u32 tie1)]) rfl fun n1 H2 hN3 => ?_
  have hF4 := hN3.fr (fun _ => False)
  have hO5 := hO0.new hN3
  have hx_hO5 := hO5.next
  have hnm_n1 : n1 = H.next := hN3.1
  have hnx_H2 : H2.next = H.next + 1 := hN3.2.1
  have hlt_n1 : n1 < H2.next := by omega
  refine O_p (.b false) (r_mv rfl) ?_
  refine O_nil ?_
  refine C_seq ?_
  refine C_region ?_
  refine O_call (Ev.mono (awake_ev hO5.ok) fun v6 H7 hq8 => ?_)
  obtain ⟨rfl, hK9⟩ := hq8
  have hb10 := (hK9.keep _ (by omega)).trans hN3.2.2.1
  have hx_hK9 := hK9.next
  have hlt_n1 : n1 < H7.next := by omega
  have hO11 := hO5.trans hK9
  have hx_hO11 := hO11.next
  refine O_p (.b true) (r_mv rfl) ?_
  refine O_nil ?_
  refine C_seq ?_
  refine C_seq ?_
  refine C_region ?_
  refine O_p (.sl ka key.length kc 0) (r_mv rfl) ?_
  refine O_p (.i .i64 (((key.length : Nat)) : Int)) (r_len rfl) ?_
  refine O_p (.b false) (by exact (by rw [r_neq rfl rfl, decide_eq_true (by first | omega | assumption)]; rfl)) ?_
  refine O_nil ?_
  refine C_cond (x := false) rfl (fun h => by cases h) (fun _ => ?_)
  refine C_skip ?_
  refine C_seq ?_
  refine C_region ?_
  refine O_bslice (c := []) rfl fun n12 H13 hN14 => ?_
  have hF15 := hN14.fr (fun _ => False)
  have hb16 := (hF15.keep _ (by exact hlt_n1) (fun h => h)).trans hb10
  have hO17 := hO11.new hN14
  have hx_hO17 := hO17.next
  have hnm_n12 : n12 = H7.next := hN14.1
  have hnx_H13 : H13.next = H7.next + 1 := hN14.2.1
  have hlt_n1 : n1 < H13.next := by omega
  have hlt_n12 : n12 < H13.next := by omega
  refine O_p (.sl ka key.length kc 0) (r_mv rfl) ?_
  refine O_qh (by exact r_app (N := n12) (n := 0) (k := key.length) (new := bcells key) hO17.ok (Nat.le_of_lt hlt_n12) ⟨.mk (n := 0) hN14.2.2.1 hlt_n12 (.inl rfl) rfl, fun q hq => by rw [nameOf_sl] at hq; omega⟩ rfl rfl rfl ((khb.old hok hO17).len) ((khb.old hok hO17).src) ((bcells_len _).trans (Nat.mul_one _).symm) (by decide) (by decide) (by first | omega | (simp only [List.length_take, List.length_drop, List.length_append, List.length_cons, List.length_nil, beN_len] <;> omega))) fun o18 H19 hA20 => ?_
  have hB21 := hA20.but
  have hb23 := (hB21.keep _ (by omega) (by omega)).trans hb16
  have hx_hB21 := hB21.next
  have hlt_n1 : n1 < H19.next := by omega
  have hO24 := hO17.but hB21 (by omega)
  have hx_hO24 := hO24.next
  have hM22 : Mine n12 1 H19 o18 (bcells key) := hA20.1
  obtain ⟨cb25, cn26, cg27, rfl, hcg28, hcl29, hcb30, hcn31, hlt_cb25⟩ := hM22.blk (bcells_ne (by first | omega | (simp only [List.length_set, List.length_append, List.length_cons, List.length_nil, List.length_take, List.length_drop] <;> omega)))
  rw [bcells_len, Nat.mul_one] at hcl29
  subst hcl29
  refine O_p (.sl (some (cb25, 0)) (key).length (key).length cg27) (r_mv rfl) ?_
  refine O_nil ?_
  refine C_seq ?_
  refine C_region ?_
  refine O_p (.i .i64 at_) (r_mv rfl) ?_
  obtain ⟨q32, hq32, hlq32⟩ := and_nat at_ 127 (by decide)
  refine O_p (.i .i64 (((q32 : Nat)) : Int)) (by exact (by rw [← hq32]; exact r_bin rfl rfl rfl)) ?_
  refine O_p (.i .i64 (((q32 : Nat)) : Int)) (r_mv rfl) ?_
  refine O_nil ?_
  refine C_seq ?_
  refine C_region ?_
  refine O_p (.sl (some (cb25, 0)) (key).length (key).length cg27) (r_mv rfl) ?_
  refine O_p (.i .i64 (((q32 : Nat)) : Int)) (r_mv rfl) ?_
  refine O_p (.i .i64 ((((q32 / 8) : Nat)) : Int)) (by exact (r_quon (a := q32) (b := 8) rfl rfl (by omega) (by omega))) ?_
  refine O_p (.sl (some (cb25, 0)) (key).length (key).length cg27) (r_mv rfl) ?_
  refine O_p (.i .i64 (((q32 : Nat)) : Int)) (r_mv rfl) ?_
  refine O_p (.i .i64 ((((q32 / 8) : Nat)) : Int)) (by exact (r_quon (a := q32) (b := 8) rfl rfl (by omega) (by omega))) ?_
  refine O_p (.p (some (cb25, (q32 / 8)))) (by exact (r_islo rfl (i := (q32 / 8)) rfl (by first | omega | (simp only [List.length_set, List.length_append, List.length_cons, List.length_nil, List.length_take, List.length_drop] <;> omega)))) ?_
  refine O_p (.i .u8 ((key.getD (q32 / 8) 0).toNat : Int)) (by exact (r_ld rfl hcb30 (bcells_at (by first | omega | (simp only [List.length_set, List.length_append, List.length_cons, List.length_nil, List.length_take, List.length_drop] <;> omega))))) ?_
  refine O_p (.i .i64 (((q32 : Nat)) : Int)) (r_mv rfl) ?_
  refine O_p (.i .i64 ((((q32 % 8) : Nat)) : Int)) (by exact (r_remn (a := q32) (b := 8) rfl rfl (by omega))) ?_
  refine O_p (.i .u64 (IntKind.u64.wrap ((((q32 % 8) : Nat)) : Int))) (r_cint rfl) ?_
  refine O_p (.i .u8 (IntKind.u8.wrap (1 * 2 ^ (min ((IntKind.u64.wrap ((((q32 % 8) : Nat)) : Int)) : Int).toNat 8)))) (r_bin rfl rfl rfl) ?_
  refine O_p (.i .u8 (IntKind.u8.wrap ((BitVec.ofInt 8 ((key.getD (q32 / 8) 0).toNat : Int) ^^^ BitVec.ofInt 8 (IntKind.u8.wrap (1 * 2 ^ (min ((IntKind.u64.wrap ((((q32 % 8) : Nat)) : Int)) : Int).toNat 8)))).toNat : Int))) (r_bin rfl rfl rfl) ?_
  refine O_p (.p (some (cb25, (q32 / 8)))) (by exact (r_islo rfl (i := (q32 / 8)) rfl (by first | omega | (simp only [List.length_set, List.length_append, List.length_cons, List.length_nil, List.length_take, List.length_drop] <;> omega)))) ?_
  refine O_store (vs := [(.i .u8 (IntKind.u8.wrap ((BitVec.ofInt 8 ((key.getD (q32 / 8) 0).toNat : Int) ^^^ BitVec.ofInt 8 (IntKind.u8.wrap (1 * 2 ^ (min ((IntKind.u64.wrap ((((q32 % 8) : Nat)) : Int)) : Int).toNat 8)))).toNat : Int)))]) (c' := bcells (key.set (q32 / 8) (u8 ((BitVec.ofInt 8 ((key.getD (q32 / 8) 0).toNat : Int) ^^^ BitVec.ofInt 8 (IntKind.u8.wrap (1 * 2 ^ (min ((IntKind.u64.wrap ((((q32 % 8) : Nat)) : Int)) : Int).toNat 8)))).toNat : Int)))) rfl (by rfl) hcb30 rfl (List.cons_ne_nil _ _) (bcells_lt (by first | omega | (simp only [List.length_set, List.length_append, List.length_cons, List.length_nil, List.length_take, List.length_drop] <;> omega))) (putAt_set (u8_wrap _)) fun H33 hW34 => ?_
  have hb35 := (hW34.2.2 _ (by omega)).trans hb23
  have hO36 := hO24.wr hW34 (by omega) (by omega)
  have hx_hO36 := hO36.next
  have hnx_H33 : H33.next = H19.next := hW34.1
  have hlt_n1 : n1 < H33.next := by omega
  have hlt_cb25 : cb25 < H33.next := by omega
  refine O_nil ?_
  refine C_seq ?_
  refine C_region ?_
  refine O_p (.sl ka key.length kc 0) (r_mv rfl) ?_
  refine O_p (.agg [(.i .i64 made), (.i .i64 life), (.i .u32 tag), (.i .u32 peer), (.i .u32 first), (.i .u32 pf), (.i .u32 room), (.i .u16 out), (.i .u16 inn), (.i .u32 tie0), (.i .u32 tie1)]) (r_ldA rfl hb35 rfl) ?_
  refine O_call (Ev.mono (enc_t hO36.ok (.inl rfl) (khb.old hok hO36) (by first | omega | (simp only [List.length_take, List.length_drop, List.length_append, List.length_cons, List.length_nil, beN_len] <;> omega)) (by first | omega | (simp only [List.length_take, List.length_drop, List.length_append, List.length_cons, List.length_nil, beN_len] <;> omega)) made life tag peer first pf room out inn tie0 tie1 hk16 hS) fun v37 H38 hq39 => ?_)
  obtain ⟨o40, rfl, hM41, hK42⟩ := hq39
  have hb43 := (hK42.keep _ (by omega)).trans hb35
  have hb44 := (hK42.keep _ (by omega)).trans hW34.2.1
  have hx_hK42 := hK42.next
  have hlt_n1 : n1 < H38.next := by omega
  have hlt_cb25 : cb25 < H38.next := by omega
  have hO45 := hO36.trans hK42
  have hx_hO45 := hO45.next
  have hM46 := hM41.down (N := H.next) (by omega)
  have hlz_o40 : ((sealed key (b32 (wordsL made life tag peer first pf room out inn tie0 tie1)))).length = 60 := by rw [sealed_len, b32_len]; rfl
  have hd47 : ¬ o40.nameOf n1 := fun hq => by have := hM41.new _ hq; omega
  have hd48 : ¬ o40.nameOf cb25 := fun hq => by have := hM41.new _ hq; omega
  refine O_p (.tup [o40, (.b true)]) (r_mv rfl) ?_
  refine O_p o40 (r_ext rfl rfl) ?_
  refine O_p (.b true) (r_ext rfl rfl) ?_
  refine O_p o40 (r_mv rfl) ?_
  refine O_p (.b true) (r_mv rfl) ?_
  refine O_nil ?_
  refine C_seq ?_
  refine C_region ?_
  refine O_p (.sl (some (cb25, 0)) (key).length (key).length cg27) (r_mv rfl) ?_
  refine O_p (.agg [(.i .i64 made), (.i .i64 life), (.i .u32 tag), (.i .u32 peer), (.i .u32 first), (.i .u32 pf), (.i .u32 room), (.i .u16 out), (.i .u16 inn), (.i .u32 tie0), (.i .u32 tie1)]) (r_ldA rfl hb43 rfl) ?_
  have hbs49 := Bs.blk (g := cg27) hb44 (n := (key).length) (by first | rfl | simp only [List.length_set])
  have base50 := Old.refl hO45.ok
  have hj16 : ((key.set (q32 / 8) (u8 ((BitVec.ofInt 8 ((key.getD (q32 / 8) 0).toNat : Int) ^^^ BitVec.ofInt 8 (IntKind.u8.wrap (1 * 2 ^ (min ((IntKind.u64.wrap ((((q32 % 8) : Nat)) : Int)) : Int).toNat 8)))).toNat : Int)))).length = 16 := by rw [List.length_set]; exact hk16
  have hbs51 := Bs.blk (g := cg27) hb44 (n := (key).length) (by first | rfl | simp only [List.length_set])
  have base52 := Old.refl hO45.ok
  refine O_call (Ev.mono (enc_t hO45.ok hcg28 (hbs51.old hO45.ok base52) (by first | omega | (simp only [List.length_take, List.length_drop, List.length_append, List.length_cons, List.length_nil, beN_len] <;> omega)) (by first | omega | (simp only [List.length_take, List.length_drop, List.length_append, List.length_cons, List.length_nil, beN_len] <;> omega)) made life tag peer first pf room out inn tie0 tie1 hj16 hS) fun v53 H54 hq55 => ?_)
  obtain ⟨o56, rfl, hM57, hK58⟩ := hq55
  have hb59 := (hK58.keep _ (by omega)).trans hb43
  have hb60 := (hK58.keep _ (by omega)).trans hb44
  have hx_hK58 := hK58.next
  have hlt_n1 : n1 < H54.next := by omega
  have hlt_cb25 : cb25 < H54.next := by omega
  have hM61 := hM46.kp hK58
  have hO62 := hO45.trans hK58
  have hx_hO62 := hO62.next
  have hO63 := base50.trans hK58
  have hO64 := base52.trans hK58
  have hM65 := hM57.down (N := H.next) (by omega)
  have hlz_o56 : ((sealed (key.set (q32 / 8) (u8 ((BitVec.ofInt 8 ((key.getD (q32 / 8) 0).toNat : Int) ^^^ BitVec.ofInt 8 (IntKind.u8.wrap (1 * 2 ^ (min ((IntKind.u64.wrap ((((q32 % 8) : Nat)) : Int)) : Int).toNat 8)))).toNat : Int))) (b32 (wordsL made life tag peer first pf room out inn tie0 tie1)))).length = 60 := by rw [sealed_len, b32_len]; rfl
  have hd66 : ¬ o56.nameOf n1 := fun hq => by have := hM57.new _ hq; omega
  have hd67 : ¬ o56.nameOf cb25 := fun hq => by have := hM57.new _ hq; omega
  refine O_p (.tup [o56, (.b true)]) (r_mv rfl) ?_
  refine O_p o56 (r_ext rfl rfl) ?_
  refine O_p (.b true) (r_ext rfl rfl) ?_
  refine O_p o56 (r_mv rfl) ?_
  refine O_p (.b true) (r_mv rfl) ?_
  refine O_nil ?_
  refine C_seq ?_
  refine C_seq ?_
  refine C_region ?_
  refine O_p (.b true) (r_mv rfl) ?_
  refine O_p (.b false) (r_un rfl rfl) ?_
  refine O_p (.b false) (r_mv rfl) ?_
  refine O_gs (v := (.b true)) rfl (r_mv rfl) ?_
  refine O_gs (v := (.b false)) rfl (r_un rfl rfl) ?_
  refine O_p (.b false) (r_pick_f rfl rfl) ?_
  refine O_p (.b false) (r_mv rfl) ?_
  refine O_gs (v := o40) rfl (r_mv rfl) ?_
  refine O_gs (v := (.i .i64 60)) rfl (by exact (by rw [show (60 : Int) = (((((sealed key (b32 (wordsL made life tag peer first pf room out inn tie0 tie1)))).length) : Nat) : Int) from by rw [sealed_len, b32_len]; rfl]; exact r_lenOf rfl (hM61.own.lenOf ((bcells_len _).trans (Nat.mul_one _).symm) (by decide)) hM61.own.isSl)) ?_
  refine O_gs (v := (.b false)) rfl (r_bin rfl rfl rfl) ?_
  refine O_p (.b false) (r_pick_f rfl rfl) ?_
  refine O_p (.b false) (r_mv rfl) ?_
  refine O_gs (v := o56) rfl (r_mv rfl) ?_
  refine O_gs (v := (.i .i64 60)) rfl (by exact (by rw [show (60 : Int) = (((((sealed (key.set (q32 / 8) (u8 ((BitVec.ofInt 8 ((key.getD (q32 / 8) 0).toNat : Int) ^^^ BitVec.ofInt 8 (IntKind.u8.wrap (1 * 2 ^ (min ((IntKind.u64.wrap ((((q32 % 8) : Nat)) : Int)) : Int).toNat 8)))).toNat : Int))) (b32 (wordsL made life tag peer first pf room out inn tie0 tie1)))).length) : Nat) : Int) from by rw [sealed_len, b32_len]; rfl]; exact r_lenOf rfl (hM65.own.lenOf ((bcells_len _).trans (Nat.mul_one _).symm) (by decide)) hM65.own.isSl)) ?_
  refine O_gs (v := (.b false)) rfl (r_bin rfl rfl rfl) ?_
  refine O_p (.b false) (r_pick_f rfl rfl) ?_
  refine O_nil ?_
  refine C_cond (x := false) rfl (fun h => by cases h) (fun _ => ?_)
  refine C_skip ?_
  refine C_seq ?_
  refine C_region ?_
  refine O_p (.sl ka key.length kc 0) (r_mv rfl) ?_
  refine O_p o56 (r_mv rfl) ?_
  have hsf72 : Own 1 H54 o56 (bcells (sealed (key.set (q32 / 8) (u8 ((BitVec.ofInt 8 ((key.getD (q32 / 8) 0).toNat : Int) ^^^ BitVec.ofInt 8 (IntKind.u8.wrap (1 * 2 ^ (min ((IntKind.u64.wrap ((((q32 % 8) : Nat)) : Int)) : Int).toNat 8)))).toNat : Int))) (b32 (wordsL made life tag peer first pf room out inn tie0 tie1)))) := hM65.own
  obtain ⟨oa68, og69, rfl, hog70, hob71⟩ := hsf72.bs
  have base73 := Old.refl hO62.ok
  refine O_call (Ev.mono (dec_ev hO62.ok (.inl rfl) (khb.old hok hO62) (by first | omega | (simp only [List.length_take, List.length_drop, List.length_append, List.length_cons, List.length_nil, beN_len] <;> omega)) (by first | omega | (simp only [List.length_take, List.length_drop, List.length_append, List.length_cons, List.length_nil, beN_len] <;> omega)) hog70 (hM65.own.asbs) (by first | omega | (simp only [List.length_take, List.length_drop, List.length_append, List.length_cons, List.length_nil, beN_len] <;> omega)) (by first | omega | (simp only [List.length_take, List.length_drop, List.length_append, List.length_cons, List.length_nil, beN_len] <;> omega))) fun v74 H75 hq76 => ?_)
  obtain ⟨rfl, hK77⟩ := hq76
  have hb78 := (hK77.keep _ (by omega)).trans hb59
  have hb79 := (hK77.keep _ (by omega)).trans hb60
  have hx_hK77 := hK77.next
  have hlt_n1 : n1 < H75.next := by omega
  have hlt_cb25 : cb25 < H75.next := by omega
  have hM80 := hM61.kp hK77
  have hM81 := hM65.kp hK77
  have hO82 := hO62.trans hK77
  have hx_hO82 := hO82.next
  have hO83 := hO63.trans hK77
  have hO84 := hO64.trans hK77
  have hO85 := base73.trans hK77
  refine O_p (.tup [(.agg [(.i .i64 (cSt key (sealed (key.set (q32 / 8) (u8 ((BitVec.ofInt 8 ((key.getD (q32 / 8) 0).toNat : Int) ^^^ BitVec.ofInt 8 (IntKind.u8.wrap (1 * 2 ^ (min ((IntKind.u64.wrap ((((q32 % 8) : Nat)) : Int)) : Int).toNat 8)))).toNat : Int))) (b32 (wordsL made life tag peer first pf room out inn tie0 tie1))) 0)), (.i .i64 (cSt key (sealed (key.set (q32 / 8) (u8 ((BitVec.ofInt 8 ((key.getD (q32 / 8) 0).toNat : Int) ^^^ BitVec.ofInt 8 (IntKind.u8.wrap (1 * 2 ^ (min ((IntKind.u64.wrap ((((q32 % 8) : Nat)) : Int)) : Int).toNat 8)))).toNat : Int))) (b32 (wordsL made life tag peer first pf room out inn tie0 tie1))) 1)), (.i .u32 (cSt key (sealed (key.set (q32 / 8) (u8 ((BitVec.ofInt 8 ((key.getD (q32 / 8) 0).toNat : Int) ^^^ BitVec.ofInt 8 (IntKind.u8.wrap (1 * 2 ^ (min ((IntKind.u64.wrap ((((q32 % 8) : Nat)) : Int)) : Int).toNat 8)))).toNat : Int))) (b32 (wordsL made life tag peer first pf room out inn tie0 tie1))) 2)), (.i .u32 (cSt key (sealed (key.set (q32 / 8) (u8 ((BitVec.ofInt 8 ((key.getD (q32 / 8) 0).toNat : Int) ^^^ BitVec.ofInt 8 (IntKind.u8.wrap (1 * 2 ^ (min ((IntKind.u64.wrap ((((q32 % 8) : Nat)) : Int)) : Int).toNat 8)))).toNat : Int))) (b32 (wordsL made life tag peer first pf room out inn tie0 tie1))) 3)), (.i .u32 (cSt key (sealed (key.set (q32 / 8) (u8 ((BitVec.ofInt 8 ((key.getD (q32 / 8) 0).toNat : Int) ^^^ BitVec.ofInt 8 (IntKind.u8.wrap (1 * 2 ^ (min ((IntKind.u64.wrap ((((q32 % 8) : Nat)) : Int)) : Int).toNat 8)))).toNat : Int))) (b32 (wordsL made life tag peer first pf room out inn tie0 tie1))) 4)), (.i .u32 (cSt key (sealed (key.set (q32 / 8) (u8 ((BitVec.ofInt 8 ((key.getD (q32 / 8) 0).toNat : Int) ^^^ BitVec.ofInt 8 (IntKind.u8.wrap (1 * 2 ^ (min ((IntKind.u64.wrap ((((q32 % 8) : Nat)) : Int)) : Int).toNat 8)))).toNat : Int))) (b32 (wordsL made life tag peer first pf room out inn tie0 tie1))) 5)), (.i .u32 (cSt key (sealed (key.set (q32 / 8) (u8 ((BitVec.ofInt 8 ((key.getD (q32 / 8) 0).toNat : Int) ^^^ BitVec.ofInt 8 (IntKind.u8.wrap (1 * 2 ^ (min ((IntKind.u64.wrap ((((q32 % 8) : Nat)) : Int)) : Int).toNat 8)))).toNat : Int))) (b32 (wordsL made life tag peer first pf room out inn tie0 tie1))) 6)), (.i .u16 (cSt key (sealed (key.set (q32 / 8) (u8 ((BitVec.ofInt 8 ((key.getD (q32 / 8) 0).toNat : Int) ^^^ BitVec.ofInt 8 (IntKind.u8.wrap (1 * 2 ^ (min ((IntKind.u64.wrap ((((q32 % 8) : Nat)) : Int)) : Int).toNat 8)))).toNat : Int))) (b32 (wordsL made life tag peer first pf room out inn tie0 tie1))) 7)), (.i .u16 (cSt key (sealed (key.set (q32 / 8) (u8 ((BitVec.ofInt 8 ((key.getD (q32 / 8) 0).toNat : Int) ^^^ BitVec.ofInt 8 (IntKind.u8.wrap (1 * 2 ^ (min ((IntKind.u64.wrap ((((q32 % 8) : Nat)) : Int)) : Int).toNat 8)))).toNat : Int))) (b32 (wordsL made life tag peer first pf room out inn tie0 tie1))) 8)), (.i .u32 (cSt key (sealed (key.set (q32 / 8) (u8 ((BitVec.ofInt 8 ((key.getD (q32 / 8) 0).toNat : Int) ^^^ BitVec.ofInt 8 (IntKind.u8.wrap (1 * 2 ^ (min ((IntKind.u64.wrap ((((q32 % 8) : Nat)) : Int)) : Int).toNat 8)))).toNat : Int))) (b32 (wordsL made life tag peer first pf room out inn tie0 tie1))) 9)), (.i .u32 (cSt key (sealed (key.set (q32 / 8) (u8 ((BitVec.ofInt 8 ((key.getD (q32 / 8) 0).toNat : Int) ^^^ BitVec.ofInt 8 (IntKind.u8.wrap (1 * 2 ^ (min ((IntKind.u64.wrap ((((q32 % 8) : Nat)) : Int)) : Int).toNat 8)))).toNat : Int))) (b32 (wordsL made life tag peer first pf room out inn tie0 tie1))) 10))]), (.i .i64 (cErr key (sealed (key.set (q32 / 8) (u8 ((BitVec.ofInt 8 ((key.getD (q32 / 8) 0).toNat : Int) ^^^ BitVec.ofInt 8 (IntKind.u8.wrap (1 * 2 ^ (min ((IntKind.u64.wrap ((((q32 % 8) : Nat)) : Int)) : Int).toNat 8)))).toNat : Int))) (b32 (wordsL made life tag peer first pf room out inn tie0 tie1)))))]) (r_mv rfl) ?_
  refine O_p (.agg [(.i .i64 (cSt key (sealed (key.set (q32 / 8) (u8 ((BitVec.ofInt 8 ((key.getD (q32 / 8) 0).toNat : Int) ^^^ BitVec.ofInt 8 (IntKind.u8.wrap (1 * 2 ^ (min ((IntKind.u64.wrap ((((q32 % 8) : Nat)) : Int)) : Int).toNat 8)))).toNat : Int))) (b32 (wordsL made life tag peer first pf room out inn tie0 tie1))) 0)), (.i .i64 (cSt key (sealed (key.set (q32 / 8) (u8 ((BitVec.ofInt 8 ((key.getD (q32 / 8) 0).toNat : Int) ^^^ BitVec.ofInt 8 (IntKind.u8.wrap (1 * 2 ^ (min ((IntKind.u64.wrap ((((q32 % 8) : Nat)) : Int)) : Int).toNat 8)))).toNat : Int))) (b32 (wordsL made life tag peer first pf room out inn tie0 tie1))) 1)), (.i .u32 (cSt key (sealed (key.set (q32 / 8) (u8 ((BitVec.ofInt 8 ((key.getD (q32 / 8) 0).toNat : Int) ^^^ BitVec.ofInt 8 (IntKind.u8.wrap (1 * 2 ^ (min ((IntKind.u64.wrap ((((q32 % 8) : Nat)) : Int)) : Int).toNat 8)))).toNat : Int))) (b32 (wordsL made life tag peer first pf room out inn tie0 tie1))) 2)), (.i .u32 (cSt key (sealed (key.set (q32 / 8) (u8 ((BitVec.ofInt 8 ((key.getD (q32 / 8) 0).toNat : Int) ^^^ BitVec.ofInt 8 (IntKind.u8.wrap (1 * 2 ^ (min ((IntKind.u64.wrap ((((q32 % 8) : Nat)) : Int)) : Int).toNat 8)))).toNat : Int))) (b32 (wordsL made life tag peer first pf room out inn tie0 tie1))) 3)), (.i .u32 (cSt key (sealed (key.set (q32 / 8) (u8 ((BitVec.ofInt 8 ((key.getD (q32 / 8) 0).toNat : Int) ^^^ BitVec.ofInt 8 (IntKind.u8.wrap (1 * 2 ^ (min ((IntKind.u64.wrap ((((q32 % 8) : Nat)) : Int)) : Int).toNat 8)))).toNat : Int))) (b32 (wordsL made life tag peer first pf room out inn tie0 tie1))) 4)), (.i .u32 (cSt key (sealed (key.set (q32 / 8) (u8 ((BitVec.ofInt 8 ((key.getD (q32 / 8) 0).toNat : Int) ^^^ BitVec.ofInt 8 (IntKind.u8.wrap (1 * 2 ^ (min ((IntKind.u64.wrap ((((q32 % 8) : Nat)) : Int)) : Int).toNat 8)))).toNat : Int))) (b32 (wordsL made life tag peer first pf room out inn tie0 tie1))) 5)), (.i .u32 (cSt key (sealed (key.set (q32 / 8) (u8 ((BitVec.ofInt 8 ((key.getD (q32 / 8) 0).toNat : Int) ^^^ BitVec.ofInt 8 (IntKind.u8.wrap (1 * 2 ^ (min ((IntKind.u64.wrap ((((q32 % 8) : Nat)) : Int)) : Int).toNat 8)))).toNat : Int))) (b32 (wordsL made life tag peer first pf room out inn tie0 tie1))) 6)), (.i .u16 (cSt key (sealed (key.set (q32 / 8) (u8 ((BitVec.ofInt 8 ((key.getD (q32 / 8) 0).toNat : Int) ^^^ BitVec.ofInt 8 (IntKind.u8.wrap (1 * 2 ^ (min ((IntKind.u64.wrap ((((q32 % 8) : Nat)) : Int)) : Int).toNat 8)))).toNat : Int))) (b32 (wordsL made life tag peer first pf room out inn tie0 tie1))) 7)), (.i .u16 (cSt key (sealed (key.set (q32 / 8) (u8 ((BitVec.ofInt 8 ((key.getD (q32 / 8) 0).toNat : Int) ^^^ BitVec.ofInt 8 (IntKind.u8.wrap (1 * 2 ^ (min ((IntKind.u64.wrap ((((q32 % 8) : Nat)) : Int)) : Int).toNat 8)))).toNat : Int))) (b32 (wordsL made life tag peer first pf room out inn tie0 tie1))) 8)), (.i .u32 (cSt key (sealed (key.set (q32 / 8) (u8 ((BitVec.ofInt 8 ((key.getD (q32 / 8) 0).toNat : Int) ^^^ BitVec.ofInt 8 (IntKind.u8.wrap (1 * 2 ^ (min ((IntKind.u64.wrap ((((q32 % 8) : Nat)) : Int)) : Int).toNat 8)))).toNat : Int))) (b32 (wordsL made life tag peer first pf room out inn tie0 tie1))) 9)), (.i .u32 (cSt key (sealed (key.set (q32 / 8) (u8 ((BitVec.ofInt 8 ((key.getD (q32 / 8) 0).toNat : Int) ^^^ BitVec.ofInt 8 (IntKind.u8.wrap (1 * 2 ^ (min ((IntKind.u64.wrap ((((q32 % 8) : Nat)) : Int)) : Int).toNat 8)))).toNat : Int))) (b32 (wordsL made life tag peer first pf room out inn tie0 tie1))) 10))]) (r_ext rfl rfl) ?_
  refine O_p (.i .i64 (cErr key (sealed (key.set (q32 / 8) (u8 ((BitVec.ofInt 8 ((key.getD (q32 / 8) 0).toNat : Int) ^^^ BitVec.ofInt 8 (IntKind.u8.wrap (1 * 2 ^ (min ((IntKind.u64.wrap ((((q32 % 8) : Nat)) : Int)) : Int).toNat 8)))).toNat : Int))) (b32 (wordsL made life tag peer first pf room out inn tie0 tie1))))) (r_ext rfl rfl) ?_
  refine O_alloc fun n86 H87 hN88 => ?_
  have hF89 := hN88.fr (fun _ => False)
  have hb90 := (hF89.keep _ (by exact hlt_n1) (fun h => h)).trans hb78
  have hb91 := (hF89.keep _ (by exact hlt_cb25) (fun h => h)).trans hb79
  have hM92 := hM80.anew hN88
  have hM93 := hM81.anew hN88
  have hO94 := hO82.new hN88
  have hx_hO94 := hO94.next
  have hO95 := hO83.new hN88
  have hO96 := hO84.new hN88
  have hO97 := hO85.new hN88
  have hd98 : ¬ (o40 : AV).nameOf n86 := hM80.dis (by have := hN88.1; omega)
  have hd99 : ¬ ((.sl oa68 ((sealed (key.set (q32 / 8) (u8 ((BitVec.ofInt 8 ((key.getD (q32 / 8) 0).toNat : Int) ^^^ BitVec.ofInt 8 (IntKind.u8.wrap (1 * 2 ^ (min ((IntKind.u64.wrap ((((q32 % 8) : Nat)) : Int)) : Int).toNat 8)))).toNat : Int))) (b32 (wordsL made life tag peer first pf room out inn tie0 tie1)))).length ((sealed (key.set (q32 / 8) (u8 ((BitVec.ofInt 8 ((key.getD (q32 / 8) 0).toNat : Int) ^^^ BitVec.ofInt 8 (IntKind.u8.wrap (1 * 2 ^ (min ((IntKind.u64.wrap ((((q32 % 8) : Nat)) : Int)) : Int).toNat 8)))).toNat : Int))) (b32 (wordsL made life tag peer first pf room out inn tie0 tie1)))).length og69) : AV).nameOf n86 := hM81.dis (by have := hN88.1; omega)
  have hnm_n86 : n86 = H75.next := hN88.1
  have hnx_H87 : H87.next = H75.next + 1 := hN88.2.1
  have hlt_n1 : n1 < H87.next := by omega
  have hlt_cb25 : cb25 < H87.next := by omega
  have hlt_n86 : n86 < H87.next := by omega
  refine O_store (vs := [(.i .i64 (cSt key (sealed (key.set (q32 / 8) (u8 ((BitVec.ofInt 8 ((key.getD (q32 / 8) 0).toNat : Int) ^^^ BitVec.ofInt 8 (IntKind.u8.wrap (1 * 2 ^ (min ((IntKind.u64.wrap ((((q32 % 8) : Nat)) : Int)) : Int).toNat 8)))).toNat : Int))) (b32 (wordsL made life tag peer first pf room out inn tie0 tie1))) 0)), (.i .i64 (cSt key (sealed (key.set (q32 / 8) (u8 ((BitVec.ofInt 8 ((key.getD (q32 / 8) 0).toNat : Int) ^^^ BitVec.ofInt 8 (IntKind.u8.wrap (1 * 2 ^ (min ((IntKind.u64.wrap ((((q32 % 8) : Nat)) : Int)) : Int).toNat 8)))).toNat : Int))) (b32 (wordsL made life tag peer first pf room out inn tie0 tie1))) 1)), (.i .u32 (cSt key (sealed (key.set (q32 / 8) (u8 ((BitVec.ofInt 8 ((key.getD (q32 / 8) 0).toNat : Int) ^^^ BitVec.ofInt 8 (IntKind.u8.wrap (1 * 2 ^ (min ((IntKind.u64.wrap ((((q32 % 8) : Nat)) : Int)) : Int).toNat 8)))).toNat : Int))) (b32 (wordsL made life tag peer first pf room out inn tie0 tie1))) 2)), (.i .u32 (cSt key (sealed (key.set (q32 / 8) (u8 ((BitVec.ofInt 8 ((key.getD (q32 / 8) 0).toNat : Int) ^^^ BitVec.ofInt 8 (IntKind.u8.wrap (1 * 2 ^ (min ((IntKind.u64.wrap ((((q32 % 8) : Nat)) : Int)) : Int).toNat 8)))).toNat : Int))) (b32 (wordsL made life tag peer first pf room out inn tie0 tie1))) 3)), (.i .u32 (cSt key (sealed (key.set (q32 / 8) (u8 ((BitVec.ofInt 8 ((key.getD (q32 / 8) 0).toNat : Int) ^^^ BitVec.ofInt 8 (IntKind.u8.wrap (1 * 2 ^ (min ((IntKind.u64.wrap ((((q32 % 8) : Nat)) : Int)) : Int).toNat 8)))).toNat : Int))) (b32 (wordsL made life tag peer first pf room out inn tie0 tie1))) 4)), (.i .u32 (cSt key (sealed (key.set (q32 / 8) (u8 ((BitVec.ofInt 8 ((key.getD (q32 / 8) 0).toNat : Int) ^^^ BitVec.ofInt 8 (IntKind.u8.wrap (1 * 2 ^ (min ((IntKind.u64.wrap ((((q32 % 8) : Nat)) : Int)) : Int).toNat 8)))).toNat : Int))) (b32 (wordsL made life tag peer first pf room out inn tie0 tie1))) 5)), (.i .u32 (cSt key (sealed (key.set (q32 / 8) (u8 ((BitVec.ofInt 8 ((key.getD (q32 / 8) 0).toNat : Int) ^^^ BitVec.ofInt 8 (IntKind.u8.wrap (1 * 2 ^ (min ((IntKind.u64.wrap ((((q32 % 8) : Nat)) : Int)) : Int).toNat 8)))).toNat : Int))) (b32 (wordsL made life tag peer first pf room out inn tie0 tie1))) 6)), (.i .u16 (cSt key (sealed (key.set (q32 / 8) (u8 ((BitVec.ofInt 8 ((key.getD (q32 / 8) 0).toNat : Int) ^^^ BitVec.ofInt 8 (IntKind.u8.wrap (1 * 2 ^ (min ((IntKind.u64.wrap ((((q32 % 8) : Nat)) : Int)) : Int).toNat 8)))).toNat : Int))) (b32 (wordsL made life tag peer first pf room out inn tie0 tie1))) 7)), (.i .u16 (cSt key (sealed (key.set (q32 / 8) (u8 ((BitVec.ofInt 8 ((key.getD (q32 / 8) 0).toNat : Int) ^^^ BitVec.ofInt 8 (IntKind.u8.wrap (1 * 2 ^ (min ((IntKind.u64.wrap ((((q32 % 8) : Nat)) : Int)) : Int).toNat 8)))).toNat : Int))) (b32 (wordsL made life tag peer first pf room out inn tie0 tie1))) 8)), (.i .u32 (cSt key (sealed (key.set (q32 / 8) (u8 ((BitVec.ofInt 8 ((key.getD (q32 / 8) 0).toNat : Int) ^^^ BitVec.ofInt 8 (IntKind.u8.wrap (1 * 2 ^ (min ((IntKind.u64.wrap ((((q32 % 8) : Nat)) : Int)) : Int).toNat 8)))).toNat : Int))) (b32 (wordsL made life tag peer first pf room out inn tie0 tie1))) 9)), (.i .u32 (cSt key (sealed (key.set (q32 / 8) (u8 ((BitVec.ofInt 8 ((key.getD (q32 / 8) 0).toNat : Int) ^^^ BitVec.ofInt 8 (IntKind.u8.wrap (1 * 2 ^ (min ((IntKind.u64.wrap ((((q32 % 8) : Nat)) : Int)) : Int).toNat 8)))).toNat : Int))) (b32 (wordsL made life tag peer first pf room out inn tie0 tie1))) 10))]) (c' := [(.i .i64 (cSt key (sealed (key.set (q32 / 8) (u8 ((BitVec.ofInt 8 ((key.getD (q32 / 8) 0).toNat : Int) ^^^ BitVec.ofInt 8 (IntKind.u8.wrap (1 * 2 ^ (min ((IntKind.u64.wrap ((((q32 % 8) : Nat)) : Int)) : Int).toNat 8)))).toNat : Int))) (b32 (wordsL made life tag peer first pf room out inn tie0 tie1))) 0)), (.i .i64 (cSt key (sealed (key.set (q32 / 8) (u8 ((BitVec.ofInt 8 ((key.getD (q32 / 8) 0).toNat : Int) ^^^ BitVec.ofInt 8 (IntKind.u8.wrap (1 * 2 ^ (min ((IntKind.u64.wrap ((((q32 % 8) : Nat)) : Int)) : Int).toNat 8)))).toNat : Int))) (b32 (wordsL made life tag peer first pf room out inn tie0 tie1))) 1)), (.i .u32 (cSt key (sealed (key.set (q32 / 8) (u8 ((BitVec.ofInt 8 ((key.getD (q32 / 8) 0).toNat : Int) ^^^ BitVec.ofInt 8 (IntKind.u8.wrap (1 * 2 ^ (min ((IntKind.u64.wrap ((((q32 % 8) : Nat)) : Int)) : Int).toNat 8)))).toNat : Int))) (b32 (wordsL made life tag peer first pf room out inn tie0 tie1))) 2)), (.i .u32 (cSt key (sealed (key.set (q32 / 8) (u8 ((BitVec.ofInt 8 ((key.getD (q32 / 8) 0).toNat : Int) ^^^ BitVec.ofInt 8 (IntKind.u8.wrap (1 * 2 ^ (min ((IntKind.u64.wrap ((((q32 % 8) : Nat)) : Int)) : Int).toNat 8)))).toNat : Int))) (b32 (wordsL made life tag peer first pf room out inn tie0 tie1))) 3)), (.i .u32 (cSt key (sealed (key.set (q32 / 8) (u8 ((BitVec.ofInt 8 ((key.getD (q32 / 8) 0).toNat : Int) ^^^ BitVec.ofInt 8 (IntKind.u8.wrap (1 * 2 ^ (min ((IntKind.u64.wrap ((((q32 % 8) : Nat)) : Int)) : Int).toNat 8)))).toNat : Int))) (b32 (wordsL made life tag peer first pf room out inn tie0 tie1))) 4)), (.i .u32 (cSt key (sealed (key.set (q32 / 8) (u8 ((BitVec.ofInt 8 ((key.getD (q32 / 8) 0).toNat : Int) ^^^ BitVec.ofInt 8 (IntKind.u8.wrap (1 * 2 ^ (min ((IntKind.u64.wrap ((((q32 % 8) : Nat)) : Int)) : Int).toNat 8)))).toNat : Int))) (b32 (wordsL made life tag peer first pf room out inn tie0 tie1))) 5)), (.i .u32 (cSt key (sealed (key.set (q32 / 8) (u8 ((BitVec.ofInt 8 ((key.getD (q32 / 8) 0).toNat : Int) ^^^ BitVec.ofInt 8 (IntKind.u8.wrap (1 * 2 ^ (min ((IntKind.u64.wrap ((((q32 % 8) : Nat)) : Int)) : Int).toNat 8)))).toNat : Int))) (b32 (wordsL made life tag peer first pf room out inn tie0 tie1))) 6)), (.i .u16 (cSt key (sealed (key.set (q32 / 8) (u8 ((BitVec.ofInt 8 ((key.getD (q32 / 8) 0).toNat : Int) ^^^ BitVec.ofInt 8 (IntKind.u8.wrap (1 * 2 ^ (min ((IntKind.u64.wrap ((((q32 % 8) : Nat)) : Int)) : Int).toNat 8)))).toNat : Int))) (b32 (wordsL made life tag peer first pf room out inn tie0 tie1))) 7)), (.i .u16 (cSt key (sealed (key.set (q32 / 8) (u8 ((BitVec.ofInt 8 ((key.getD (q32 / 8) 0).toNat : Int) ^^^ BitVec.ofInt 8 (IntKind.u8.wrap (1 * 2 ^ (min ((IntKind.u64.wrap ((((q32 % 8) : Nat)) : Int)) : Int).toNat 8)))).toNat : Int))) (b32 (wordsL made life tag peer first pf room out inn tie0 tie1))) 8)), (.i .u32 (cSt key (sealed (key.set (q32 / 8) (u8 ((BitVec.ofInt 8 ((key.getD (q32 / 8) 0).toNat : Int) ^^^ BitVec.ofInt 8 (IntKind.u8.wrap (1 * 2 ^ (min ((IntKind.u64.wrap ((((q32 % 8) : Nat)) : Int)) : Int).toNat 8)))).toNat : Int))) (b32 (wordsL made life tag peer first pf room out inn tie0 tie1))) 9)), (.i .u32 (cSt key (sealed (key.set (q32 / 8) (u8 ((BitVec.ofInt 8 ((key.getD (q32 / 8) 0).toNat : Int) ^^^ BitVec.ofInt 8 (IntKind.u8.wrap (1 * 2 ^ (min ((IntKind.u64.wrap ((((q32 % 8) : Nat)) : Int)) : Int).toNat 8)))).toNat : Int))) (b32 (wordsL made life tag peer first pf room out inn tie0 tie1))) 10))]) rfl (by rfl) hN88.2.2.1 rfl (List.cons_ne_nil _ _) (Nat.le_of_ble_eq_true rfl) rfl fun H100 hW101 => ?_
  have hb102 := (hW101.2.2 _ (by omega)).trans hb90
  have hb103 := (hW101.2.2 _ (by omega)).trans hb91
  have hM104 := hM92.wr hW101 hd98
  have hM105 := hM93.wr hW101 hd99
  have hO106 := hO94.wr hW101 (by omega) (by omega)
  have hx_hO106 := hO106.next
  have hO107 := hO95.wr hW101 (by omega) (by omega)
  have hO108 := hO96.wr hW101 (by omega) (by omega)
  have hO109 := hO97.wr hW101 (by omega) (by omega)
  have hnx_H100 : H100.next = H87.next := hW101.1
  have hlt_n1 : n1 < H100.next := by omega
  have hlt_cb25 : cb25 < H100.next := by omega
  have hlt_n86 : n86 < H100.next := by omega
  refine O_p (.i .i64 (cErr key (sealed (key.set (q32 / 8) (u8 ((BitVec.ofInt 8 ((key.getD (q32 / 8) 0).toNat : Int) ^^^ BitVec.ofInt 8 (IntKind.u8.wrap (1 * 2 ^ (min ((IntKind.u64.wrap ((((q32 % 8) : Nat)) : Int)) : Int).toNat 8)))).toNat : Int))) (b32 (wordsL made life tag peer first pf room out inn tie0 tie1))))) (r_mv rfl) ?_
  refine O_nil ?_
  refine C_seq ?_
  refine C_draw fun b110 H111 hbase112 hA113 => ?_
  have hnx114 : H111.next = H100.next + 24 := hA113.1
  have hb115 := (hA113.2 _).trans hb102
  have hb116 := (hA113.2 _).trans hb103
  have hb117 := (hA113.2 _).trans hW101.2.1
  have hF118 := hA113.fr (fun _ => False)
  have hM119 := hM104.aside hA113
  have hM120 := hM105.aside hA113
  have hO121 := hO106.aside hA113
  have hx_hO121 := hO121.next
  have hO122 := hO107.aside hA113
  have hO123 := hO108.aside hA113
  have hO124 := hO109.aside hA113
  have hlt_n1 : n1 < H111.next := by omega
  have hlt_cb25 : cb25 < H111.next := by omega
  have hlt_n86 : n86 < H111.next := by omega
  refine D_l (v := (.b true)) rfl rfl rfl (r_mv rfl) ?_
  refine D_l (v := (.b true)) rfl rfl rfl (r_mv rfl) ?_
  refine D_gl (v := o40) rfl rfl rfl rfl (r_mv rfl) ?_
  have hsf129 : Own 1 H111 o40 (bcells (sealed key (b32 (wordsL made life tag peer first pf room out inn tie0 tie1)))) := hM119.own
  obtain ⟨oa125, og126, rfl, hog127, hob128⟩ := hsf129.bs
  have base130 := Old.refl hO121.ok
  refine D_gqs rfl rfl rfl rfl (by exact Bs.hi hob128 hog127 rfl (j := 48) rfl (by first | omega | (simp only [List.length_take, List.length_drop, List.length_append, List.length_cons, List.length_nil, beN_len] <;> omega)) (by first | omega | (simp only [List.length_take, List.length_drop, List.length_append, List.length_cons, List.length_nil, beN_len] <;> omega))) fun v134 hv133 => ?_
  obtain ⟨a131, rfl, hb132⟩ := hv133
  refine D_gl (v := (.sl oa68 ((sealed (key.set (q32 / 8) (u8 ((BitVec.ofInt 8 ((key.getD (q32 / 8) 0).toNat : Int) ^^^ BitVec.ofInt 8 (IntKind.u8.wrap (1 * 2 ^ (min ((IntKind.u64.wrap ((((q32 % 8) : Nat)) : Int)) : Int).toNat 8)))).toNat : Int))) (b32 (wordsL made life tag peer first pf room out inn tie0 tie1)))).length ((sealed (key.set (q32 / 8) (u8 ((BitVec.ofInt 8 ((key.getD (q32 / 8) 0).toNat : Int) ^^^ BitVec.ofInt 8 (IntKind.u8.wrap (1 * 2 ^ (min ((IntKind.u64.wrap ((((q32 % 8) : Nat)) : Int)) : Int).toNat 8)))).toNat : Int))) (b32 (wordsL made life tag peer first pf room out inn tie0 tie1)))).length og69)) rfl rfl rfl rfl (r_mv rfl) ?_
  refine D_gqs rfl rfl rfl rfl (by exact Bs.hi hob71 hog70 rfl (j := 48) rfl (by first | omega | (simp only [List.length_take, List.length_drop, List.length_append, List.length_cons, List.length_nil, beN_len] <;> omega)) (by first | omega | (simp only [List.length_take, List.length_drop, List.length_append, List.length_cons, List.length_nil, beN_len] <;> omega))) fun v138 hv137 => ?_
  obtain ⟨a135, rfl, hb136⟩ := hv137
  refine D_gcall rfl (Ev.mono (same_ev h13 hO121.ok hog127 (hb132.old hO121.ok base130) (by first | omega | (simp only [List.length_take, List.length_drop, List.length_append, List.length_cons, List.length_nil, beN_len] <;> omega)) (by first | omega | (simp only [List.length_take, List.length_drop, List.length_append, List.length_cons, List.length_nil, beN_len] <;> omega)) hog70 (hb136.old hO62.ok hO124) (by first | omega | (simp only [List.length_take, List.length_drop, List.length_append, List.length_cons, List.length_nil, beN_len] <;> omega)) (by first | omega | (simp only [List.length_take, List.length_drop, List.length_append, List.length_cons, List.length_nil, beN_len] <;> omega))) fun v139 H140 hq141 => ?_)
  rw [decide_eq_true (keys_same (b32_len _)).1] at hq141
  obtain ⟨rfl, rfl⟩ := hq141
  refine And.intro True.intro ?_
  refine D_l (v := (.b true)) rfl rfl rfl (r_pick_t rfl rfl) ?_
  refine D_l (v := (.b true)) rfl rfl rfl (r_mv rfl) ?_
  refine D_gl (v := (.sl oa125 ((sealed key (b32 (wordsL made life tag peer first pf room out inn tie0 tie1)))).length ((sealed key (b32 (wordsL made life tag peer first pf room out inn tie0 tie1)))).length og126)) rfl rfl rfl rfl (r_mv rfl) ?_
  refine D_gqs rfl rfl rfl rfl (by exact Bs.lo hob128 hog127 rfl (i := 56) rfl (by first | omega | (simp only [List.length_take, List.length_drop, List.length_append, List.length_cons, List.length_nil, beN_len] <;> omega)) (by first | omega | (simp only [List.length_take, List.length_drop, List.length_append, List.length_cons, List.length_nil, beN_len] <;> omega))) fun v145 hv144 => ?_
  obtain ⟨a142, rfl, hb143⟩ := hv144
  refine D_gl (v := (.sl oa68 ((sealed (key.set (q32 / 8) (u8 ((BitVec.ofInt 8 ((key.getD (q32 / 8) 0).toNat : Int) ^^^ BitVec.ofInt 8 (IntKind.u8.wrap (1 * 2 ^ (min ((IntKind.u64.wrap ((((q32 % 8) : Nat)) : Int)) : Int).toNat 8)))).toNat : Int))) (b32 (wordsL made life tag peer first pf room out inn tie0 tie1)))).length ((sealed (key.set (q32 / 8) (u8 ((BitVec.ofInt 8 ((key.getD (q32 / 8) 0).toNat : Int) ^^^ BitVec.ofInt 8 (IntKind.u8.wrap (1 * 2 ^ (min ((IntKind.u64.wrap ((((q32 % 8) : Nat)) : Int)) : Int).toNat 8)))).toNat : Int))) (b32 (wordsL made life tag peer first pf room out inn tie0 tie1)))).length og69)) rfl rfl rfl rfl (r_mv rfl) ?_
  refine D_gqs rfl rfl rfl rfl (by exact Bs.lo hob71 hog70 rfl (i := 56) rfl (by first | omega | (simp only [List.length_take, List.length_drop, List.length_append, List.length_cons, List.length_nil, beN_len] <;> omega)) (by first | omega | (simp only [List.length_take, List.length_drop, List.length_append, List.length_cons, List.length_nil, beN_len] <;> omega))) fun v149 hv148 => ?_
  obtain ⟨a146, rfl, hb147⟩ := hv148
  refine D_gcall rfl (Ev.mono (same_ev h13 hO121.ok hog127 (hb143.old hO121.ok base130) (by first | omega | (simp only [List.length_take, List.length_drop, List.length_append, List.length_cons, List.length_nil, beN_len] <;> omega)) (by first | omega | (simp only [List.length_take, List.length_drop, List.length_append, List.length_cons, List.length_nil, beN_len] <;> omega)) hog70 (hb147.old hO62.ok hO124) (by first | omega | (simp only [List.length_take, List.length_drop, List.length_append, List.length_cons, List.length_nil, beN_len] <;> omega)) (by first | omega | (simp only [List.length_take, List.length_drop, List.length_append, List.length_cons, List.length_nil, beN_len] <;> omega))) fun v150 H151 hq152 => ?_)
  rw [decide_eq_true (keys_same (b32_len _)).2] at hq152
  obtain ⟨rfl, rfl⟩ := hq152
  refine And.intro True.intro ?_
  refine D_l (v := (.b true)) rfl rfl rfl (r_pick_t rfl rfl) ?_
  refine D_l (v := (.b true)) rfl rfl rfl (r_mv rfl) ?_
  refine D_gl (v := (.i .i64 (cErr key (sealed (key.set (q32 / 8) (u8 ((BitVec.ofInt 8 ((key.getD (q32 / 8) 0).toNat : Int) ^^^ BitVec.ofInt 8 (IntKind.u8.wrap (1 * 2 ^ (min ((IntKind.u64.wrap ((((q32 % 8) : Nat)) : Int)) : Int).toNat 8)))).toNat : Int))) (b32 (wordsL made life tag peer first pf room out inn tie0 tie1)))))) rfl rfl rfl rfl (r_mv rfl) ?_
  refine D_gl (v := (.b (decide ((sealed key (b32 (wordsL made life tag peer first pf room out inn tie0 tie1))) = (sealed (key.set (q32 / 8) (u8 ((BitVec.ofInt 8 ((key.getD (q32 / 8) 0).toNat : Int) ^^^ BitVec.ofInt 8 (IntKind.u8.wrap (1 * 2 ^ (min ((IntKind.u64.wrap ((((q32 % 8) : Nat)) : Int)) : Int).toNat 8)))).toNat : Int))) (b32 (wordsL made life tag peer first pf room out inn tie0 tie1))))))) rfl rfl rfl rfl (by exact (by rw [r_eql rfl rfl, keys_dec (b32_len _) hk16 hcE])) ?_
  refine D_gl (v := (.sl oa125 ((sealed key (b32 (wordsL made life tag peer first pf room out inn tie0 tie1)))).length ((sealed key (b32 (wordsL made life tag peer first pf room out inn tie0 tie1)))).length og126)) rfl rfl rfl rfl (r_mv rfl) ?_
  refine D_gl (v := (.sl oa68 ((sealed (key.set (q32 / 8) (u8 ((BitVec.ofInt 8 ((key.getD (q32 / 8) 0).toNat : Int) ^^^ BitVec.ofInt 8 (IntKind.u8.wrap (1 * 2 ^ (min ((IntKind.u64.wrap ((((q32 % 8) : Nat)) : Int)) : Int).toNat 8)))).toNat : Int))) (b32 (wordsL made life tag peer first pf room out inn tie0 tie1)))).length ((sealed (key.set (q32 / 8) (u8 ((BitVec.ofInt 8 ((key.getD (q32 / 8) 0).toNat : Int) ^^^ BitVec.ofInt 8 (IntKind.u8.wrap (1 * 2 ^ (min ((IntKind.u64.wrap ((((q32 % 8) : Nat)) : Int)) : Int).toNat 8)))).toNat : Int))) (b32 (wordsL made life tag peer first pf room out inn tie0 tie1)))).length og69)) rfl rfl rfl rfl (r_mv rfl) ?_
  refine D_gcall rfl (Ev.mono (same_ev h13 hO121.ok hog127 (hM119.own.asbs) (by first | omega | (simp only [List.length_take, List.length_drop, List.length_append, List.length_cons, List.length_nil, beN_len] <;> omega)) (by first | omega | (simp only [List.length_take, List.length_drop, List.length_append, List.length_cons, List.length_nil, beN_len] <;> omega)) hog70 (hM120.own.asbs) (by first | omega | (simp only [List.length_take, List.length_drop, List.length_append, List.length_cons, List.length_nil, beN_len] <;> omega)) (by first | omega | (simp only [List.length_take, List.length_drop, List.length_append, List.length_cons, List.length_nil, beN_len] <;> omega))) fun v153 H154 hq155 => ?_)
  obtain ⟨rfl, rfl⟩ := hq155
  refine And.intro True.intro ?_
  refine D_gl (v := (.b true)) rfl rfl rfl rfl (r_beqq rfl rfl) ?_
  refine D_l (v := (.b true)) rfl rfl rfl (r_pick_t rfl rfl) ?_
  refine D_l (v := (.b true)) rfl rfl rfl (r_mv rfl) ?_
  refine D_nil ?_
  refine C_ret ?_
  exact ⟨.inr rfl, _, resL_one (r_tmp (v := .b true) rfl), rfl⟩
theorem run8 (H : AH) (hok : H.Ok) (ka : Option (Nat × Nat)) (kc : Nat) (key : List UInt8) (khb : Bs H (.sl ka key.length kc 0) key) (khc : key.length ≤ kc) (khm0 : kc ≤ maxLen) (made : Int) (w_made : (Lit.int .i64 made).wf = true) (life : Int) (w_life : (Lit.int .i64 life).wf = true) (tag : Int) (w_tag : (Lit.int .u32 tag).wf = true) (peer : Int) (w_peer : (Lit.int .u32 peer).wf = true) (first : Int) (w_first : (Lit.int .u32 first).wf = true) (pf : Int) (w_pf : (Lit.int .u32 pf).wf = true) (room : Int) (w_room : (Lit.int .u32 room).wf = true) (out : Int) (w_out : (Lit.int .u16 out).wf = true) (inn : Int) (w_inn : (Lit.int .u16 inn).wf = true) (tie0 : Int) (w_tie0 : (Lit.int .u32 tie0).wf = true) (tie1 : Int) (w_tie1 : (Lit.int .u32 tie1).wf = true) (at_ : Int) (w_at_ : (Lit.int .i64 at_).wf = true) : Ev tabA spA (.fn (.func 8) [] []) [.sl ka key.length kc 0, .agg [(.i .i64 made), (.i .i64 life), (.i .u32 tag), (.i .u32 peer), (.i .u32 first), (.i .u32 pf), (.i .u32 room), (.i .u16 out), (.i .u16 inn), (.i .u32 tie0), (.i .u32 tie1)], .i .i64 at_] H (fun v _ => v = .b true) := by
  by_cases hk : key.length = 16
  · cases hS : okS made life with
    | true => exact run8t H hok ka kc key khb khc khm0 made w_made life w_life tag w_tag peer w_peer first w_first pf w_pf room w_room out w_out inn w_inn tie0 w_tie0 tie1 w_tie1 at_ w_at_ hk hS
    | false => exact run8f H hok ka kc key khb khc khm0 made w_made life w_life tag w_tag peer w_peer first w_first pf w_pf room w_room out w_out inn w_inn tie0 w_tie0 tie1 w_tie1 at_ w_at_ hk hS
  · exact run8l H hok ka kc key khb khc khm0 made w_made life w_life tag w_tag peer w_peer first w_first pf w_pf room w_room out w_out inn w_inn tie0 w_tie0 tie1 w_tie1 at_ w_at_ hk
theorem array2 {P : Program} {H : AH} {k : Nat} {t e : TypeId} {x y : AV} (hu : P.underlying t = some (.array 2 e)) (hz : P.cellsOf e = 1) (h : Typed P H (k + 1) t [x, y]) : Typed P H k e [x] ∧ Typed P H k e [y] := by
  unfold Typed at h; rw [hu] at h
  obtain ⟨_, h⟩ := h
  have h0 := h 0 (by decide)
  have h1 := h 1 (by decide)
  rw [hz] at h0 h1
  exact ⟨h0, h1⟩
theorem law8 (W : World) (ρ : Rho) (H : AH) (xs : List AV) (args : Array Value) (hR : Rel Try.prog W.heap.size W ρ H W) (hro : RO H) (hv : VRL ρ xs args.toList) (ht : TypedVs Try.prog H 9 Try.f8.params.toList xs) :
    Calls Try.prog 8 args W fun e w' => e = .returned (.bool true) ∧ Below W.heap.size W w' := by
  rw [Try.params8] at ht
  obtain ⟨a1, xs, rfl, g1, a2, xs, rfl, g2, b0, xs, rfl, gb0, rfl⟩ := ht
  obtain ⟨at_, rfl, w_at_⟩ := typedV_int Try.underlying3 gb0
  obtain ⟨ka, kn, kc, key, rfl, hb1, rfl, hc1, hm1⟩ := typed_bytes Try.underlying22 Try.underlying5 (by kernel_rfl) (typedV_slice Try.underlying22 g1)
  obtain ⟨l, rfl, g3⟩ := typedV_struct Try.underlying27 g2
  obtain ⟨hl, hq⟩ := struct_parts (qs := [(3, 0, 1), (3, 1, 1), (23, 2, 1), (23, 3, 1), (23, 4, 1), (23, 5, 1), (23, 6, 1), (24, 7, 1), (24, 8, 1), (25, 9, 2)]) Try.underlying27 g3 (by kernel_rfl)
  rw [show Try.prog.cellsOf 27 = 11 by kernel_rfl] at hl
  match l, hl with
  | [x0, x1, x2, x3, x4, x5, x6, x7, x8, x9, x10], _ =>
    simp only [List.forall_mem_cons, List.drop_zero, List.drop_succ_cons, List.take_succ_cons, List.take_zero] at hq
    obtain ⟨q0, q1, q2, q3, q4, q5, q6, q7, q8, q9, _⟩ := hq
    obtain ⟨made, e0, w_made⟩ := typed_int Try.underlying3 q0
    obtain ⟨life, e1, w_life⟩ := typed_int Try.underlying3 q1
    obtain ⟨tag, e2, w_tag⟩ := typed_int Try.underlying23 q2
    obtain ⟨peer, e3, w_peer⟩ := typed_int Try.underlying23 q3
    obtain ⟨first, e4, w_first⟩ := typed_int Try.underlying23 q4
    obtain ⟨pf, e5, w_pf⟩ := typed_int Try.underlying23 q5
    obtain ⟨room, e6, w_room⟩ := typed_int Try.underlying23 q6
    obtain ⟨out, e7, w_out⟩ := typed_int Try.underlying24 q7
    obtain ⟨inn, e8, w_inn⟩ := typed_int Try.underlying24 q8
    obtain ⟨q9, q10⟩ := array2 Try.underlying25 (by kernel_rfl) q9
    obtain ⟨tie0, e9, w_tie0⟩ := typed_int Try.underlying23 q9
    obtain ⟨tie1, e10, w_tie1⟩ := typed_int Try.underlying23 q10
    cases e0; cases e1; cases e2; cases e3; cases e4; cases e5; cases e6; cases e7; cases e8; cases e9; cases e10
    obtain ⟨k, v, H', hex, rfl⟩ := run8 H hR.aok ka kc key hb1 hc1 hm1 made w_made life w_life tag w_tag peer w_peer first w_first pf w_pf room w_room out w_out inn w_inn tie0 w_tie0 tie1 w_tie1 at_ w_at_
    exact law_of mixed tabA_ok spA_ok hex hR hv
end Go.Proofs.Yteapgimihapefaa.E
namespace Go.Proofs.Yteapgimihapefaa.cookieKeys
open Go.ChangeShapes Go.WideShapes Go.RowKit
set_option linter.unusedVariables false
theorem own : ownKnob Try.prog.godebug = none := by kernel_rfl
theorem types : (Try.f8.params.toList.all fun t => E.fit Try.prog 9 t && (Try.prog.readableRec t && decide (t < Try.prog.types.size))) = true := by kernel_rfl
set_option maxRecDepth 100000 in
theorem lifted (os : Os) (started : os.Started) (H : Type) (enc : TypeId × Value → H) :
    ReturnsInHanded {} Try.checked os 8 .any (Rows.cookieKeysSpec.pre6 enc Try.prog Try.f8 Rows.cookieKeysRow.domain false) (Rows.cookieKeysSpec.post enc Try.prog Try.f8 false true false false) :=
  E.law_lifted (C := Try.checked) (k := 9) (tb := 4) E.globals0 E.laid own started (by kernel_rfl) Try.func8
    (ChangeSpec.witness6 (enc := enc) (C := Try.checked) false ⟨#[], #[.slice none 0 0, .agg #[.int .i64 0, .int .i64 0, .int .u32 0, .int .u32 0, .int .u32 0, .int .u32 0, .int .u32 0, .int .u16 0, .int .u16 0, .int .u32 0, .int .u32 0], .int .i64 0], []⟩ 8 (by kernel_rfl) (by kernel_rfl) (by kernel_rfl) (by kernel_rfl))
    rfl rfl Try.underlying4 (fun t ht => by have h := List.all_eq_true.1 types t ht; simp only [Bool.and_eq_true, decide_eq_true_eq] at h; exact h)
    (fun ds hd => by
      rw [Try.params8] at hd
      match ds, hd with
      | [d0, d1, d2], _ => rfl) E.law8
theorem over : Rows.cookieKeysRow.holds Try.pinned (OpenSpec.ofChange Rows.cookieKeysSpec) :=
  OpenClaim.holds_of_wide 8 Try.f8 rfl rfl rfl rfl rfl rfl rfl ⟨rfl, rfl, rfl, rfl, rfl⟩ rfl rfl rfl rfl rfl (by kernel_rfl) Try.func8 (by kernel_rfl)
    (of_decide_eq_true (by kernel_rfl)) (by unfold Func.isWrapper; first | (rw [if_pos (by decide +kernel)]; kernel_rfl) | (rw [if_neg (by decide +kernel)]; exact ⟨rfl, rfl⟩))
    (fun os started H enc _ => lifted os started H enc)
end Go.Proofs.Yteapgimihapefaa.cookieKeys
namespace Go.Proofs.Yteapgimihapefaa
/-- The row, under a short name, for the claim. -/
theorem cookieKeys_holds : Rows.CookieKeysSaid := cookieKeys.over
#print axioms cookieKeys_holds
end Go.Proofs.Yteapgimihapefaa
