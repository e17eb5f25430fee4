/- Layer 18's small functions, walked. It bears no condition. -/
import Derived.Test.YtfhbdddjclodhaaDoorD
namespace Go.Proofs.YtfhbdddjclodhaaDoor.E

open Go.Lib
set_option linter.unusedVariables false
set_option linter.unusedSimpArgs false
theorem encE_0 {kind : Int} {label proto : List UInt8} (h : encE kind label proto = 0) : mayB kind label proto = true ∧ label.length ≤ 256 ∧ proto.length ≤ 256 := by
  unfold encE at h
  split at h
  · cases h
  · split at h
    · cases h
    · rename_i h1 h2
      exact ⟨by simpa using h1, by omega, by omega⟩
theorem encB_cells (kind prio limit : Int) (label proto : List UInt8) : encB kind prio limit label proto = 3 :: u8 kind :: u8 (prio.fdiv (2 ^ 8)) :: u8 (prio.fdiv (2 ^ 0)) :: u8 (limit.fdiv (2 ^ 24)) :: u8 (limit.fdiv (2 ^ 16)) :: u8 (limit.fdiv (2 ^ 8)) :: u8 (limit.fdiv (2 ^ 0)) :: u8 ((label.length : Int).fdiv (2 ^ 8)) :: u8 ((label.length : Int).fdiv (2 ^ 0)) :: u8 ((proto.length : Int).fdiv (2 ^ 8)) :: u8 ((proto.length : Int).fdiv (2 ^ 0)) :: (label ++ proto) := by
 simp [encB, beN]
theorem encB_len (kind prio limit : Int) (label proto : List UInt8) : (encB kind prio limit label proto).length = 12 + label.length + proto.length := by
 rw [encB_cells]; simp only [List.length_cons, List.length_append]; omega
section
variable {kind prio limit : Int} {label proto : List UInt8}
theorem dec_enc (hk : 0 ≤ kind ∧ kind < 256) (hp : 0 ≤ prio ∧ prio < 65536) (hl : 0 ≤ limit ∧ limit < 4294967296) (h : encE kind label proto = 0) : dErr (encB kind prio limit label proto) = 0 ∧ dCells (encB kind prio limit label proto) = [.i .u8 kind, .i .u16 prio, .i .u32 limit, .s (txt label), .s (txt proto)] := by
 obtain ⟨hm, h1, h2⟩ := encE_0 h
 have hlen := encB_len kind prio limit label proto
 have e0 : (encB kind prio limit label proto).getD 0 0 = 3 := by rw [encB_cells]; rfl
 have e1 : (((encB kind prio limit label proto).getD 1 0).toNat : Int) = kind := by rw [encB_cells]; exact u8_of hk.1 hk.2
 have e2 : num (((encB kind prio limit label proto).drop 2).take 2) = prio := by rw [encB_cells]; exact num_be2 hp.1 hp.2
 have e4 : num (((encB kind prio limit label proto).drop 4).take 4) = limit := by rw [encB_cells]; exact num_be4 hl.1 hl.2
 have e8 : num (((encB kind prio limit label proto).drop 8).take 2) = (label.length : Int) := by rw [encB_cells]; exact num_be2 (by omega) (by omega)
 have e10 : num (((encB kind prio limit label proto).drop 10).take 2) = (proto.length : Int) := by rw [encB_cells]; exact num_be2 (by omega) (by omega)
 have hN : dN (encB kind prio limit label proto) = label.length := by unfold dN; rw [e8]; rfl
 have hM : dM (encB kind prio limit label proto) = proto.length := by unfold dM; rw [e10]; rfl
 have e12 : (encB kind prio limit label proto).drop 12 = label ++ proto := by rw [encB_cells]; rfl
 have hT : dTxt (encB kind prio limit label proto) = label := by unfold dTxt; rw [hN, e12, List.take_left]
 have hP : dPro (encB kind prio limit label proto) = proto := by
  unfold dPro; rw [hN, hM, ← List.drop_drop, e12, List.drop_left, List.take_length]
 have hE : dErr (encB kind prio limit label proto) = 0 := dErr_0 (by rw [e0]; rintro ⟨_, h⟩; exact h rfl) (by omega) (by omega) (by omega) (by rw [e1, hT, hP]; exact hm)
 refine ⟨hE, ?_⟩
 rw [dCells_ok hE, e1, e2, e4, hT, hP]
end
/-! ### What is sent of texts -/
def uK (ppid : Int) (b : List UInt8) : Nat := if ppid = 56 ∨ ppid = 57 then 1 else if (ppid = 51 ∨ ppid = 53) ∧ 0 < b.length then 2 else 0
def uT (ppid : Int) (b : List UInt8) : Bool := if uK ppid b = 1 then decide (ppid = 56) else if uK ppid b = 2 then decide (ppid = 51) else false
def uB (ppid : Int) (b : List UInt8) : List UInt8 := if uK ppid b = 2 then b else []
def uO (ppid : Int) (b : List UInt8) : Bool := decide (uK ppid b ≠ 0)
theorem u_1 {ppid : Int} {b : List UInt8} (h : ppid = 56 ∨ ppid = 57) : uT ppid b = decide (ppid = 56) ∧ uB ppid b = [] ∧ uO ppid b = true := by
 have e : uK ppid b = 1 := if_pos h
 simp [uT, uB, uO, e]
theorem u_2 {ppid : Int} {b : List UInt8} (h : ¬ (ppid = 56 ∨ ppid = 57)) (h2 : ppid = 51 ∨ ppid = 53) (h3 : 0 < b.length) : uT ppid b = decide (ppid = 51) ∧ uB ppid b = b ∧ uO ppid b = true := by
 have e : uK ppid b = 2 := by unfold uK; rw [if_neg h, if_pos ⟨h2, h3⟩]
 simp [uT, uB, uO, e]
theorem u_0 {ppid : Int} {b : List UInt8} (h : ¬ (ppid = 56 ∨ ppid = 57)) (h2 : ¬ ((ppid = 51 ∨ ppid = 53) ∧ 0 < b.length)) : uT ppid b = false ∧ uB ppid b = [] ∧ uO ppid b = false := by
 have e : uK ppid b = 0 := by unfold uK; rw [if_neg h, if_neg h2]
 simp [uT, uB, uO, e]
theorem theirs_ev {H : AH} (hok : H.Ok) (kind prio limit : Int) (label proto : List UInt8) : Ev tabV spV (.fn (.func 14) [] []) [.agg [(.i .u8 kind), (.i .u16 prio), (.i .u32 limit), (.s (txt label)), (.s (txt proto))]] H (fun r H' => r = .agg [(.i .u8 kind), (.i .u16 prio), (.i .u32 limit), (.s (txt label)), (.s (txt proto))] ∧ Kp H H') := by
 refine Ev_C (F := x14) rfl ?_
 have hO0 := Old.refl hok
 refine sr ?_
 refine O_box (z := [(.i .u8 kind), (.i .u16 prio), (.i .u32 limit), (.s (txt label)), (.s (txt proto))]) rfl fun n1 H2 hN3 => ?_
 have hF4 := hN3.fr (fun _ => False)
 have hO5 := hO0.new hN3
 have hx_hO5 := hO5.next
 have hnm_n1 : n1 = H.next := hN3.1
 have hnx_H2 : H2.next = H.next + 1 := hN3.2.1
 have hlt_n1 : n1 < H2.next := by omega
 refine O_alloc fun n6 H7 hN8 => ?_
 have hF9 := hN8.fr (fun _ => False)
 have hb10 := (hF9.keep _ (by exact hlt_n1) (fun h => h)).trans hN3.2.2.1
 have hO11 := hO5.new hN8
 have hx_hO11 := hO11.next
 have hnm_n6 : n6 = H2.next := hN8.1
 have hnx_H7 : H7.next = H2.next + 1 := hN8.2.1
 have hlt_n1 : n1 < H7.next := by omega
 have hlt_n6 : n6 < H7.next := by omega
 refine O_nil (sr ?_)
 refine pf (.p (some (n1, 0))) rfl rfl ?_
 refine O_p (.i .u8 kind) (r_ld rfl hb10 rfl) ?_
 refine pf (.p (some (n1, 1))) rfl rfl ?_
 refine O_p (.i .u16 prio) (r_ld rfl hb10 rfl) ?_
 refine pf (.p (some (n1, 2))) rfl rfl ?_
 refine O_p (.i .u32 limit) (r_ld rfl hb10 rfl) ?_
 refine pf (.p (some (n1, 3))) rfl rfl ?_
 refine O_p (.s (txt label)) (r_ld rfl hb10 rfl) ?_
 refine pf (.p (some (n1, 4))) rfl rfl ?_
 refine O_p (.s (txt proto)) (r_ld rfl hb10 rfl) ?_
 refine O_p (.agg [(.i .u8 kind), (.i .u16 prio), (.i .u32 limit), (.s (txt label)), (.s (txt proto))]) (r_build rfl) ?_
 refine O_store (vs := [(.i .u8 kind), (.i .u16 prio), (.i .u32 limit), (.s (txt label)), (.s (txt proto))]) (c' := [(.i .u8 kind), (.i .u16 prio), (.i .u32 limit), (.s (txt label)), (.s (txt proto))]) rfl (by rfl) hN8.2.2.1 rfl (List.cons_ne_nil _ _) (Nat.le_of_ble_eq_true rfl) rfl fun H12 hW13 => ?_
 have hb14 := (hW13.2.2 _ (by omega)).trans hb10
 have hO15 := hO11.wr hW13 (by omega) (by omega)
 have hx_hO15 := hO15.next
 have hnx_H12 : H12.next = H7.next := hW13.1
 have hlt_n1 : n1 < H12.next := by omega
 have hlt_n6 : n6 < H12.next := by omega
 refine O_nil ?_
 refine C_ret ?_
 exact ⟨.inr rfl, _, resL_one (r_cellA rfl hW13.2.1 rfl), rfl, hO15⟩
theorem alike_ev {H : AH} (hok : H.Ok) (kind prio limit : Int) (label proto : List UInt8) : Ev tabV spV (.fn (.func 18) [] []) [.agg [(.i .u8 kind), (.i .u16 prio), (.i .u32 limit), (.s (txt label)), (.s (txt proto))], .agg [(.i .u8 kind), (.i .u16 prio), (.i .u32 limit), (.s (txt label)), (.s (txt proto))]] H (fun r H' => r = .b true ∧ Kp H H') := by
 refine Ev_C (F := x18) rfl ?_
 have hO0 := Old.refl hok
 refine sr ?_
 refine O_box (z := [(.i .u8 kind), (.i .u16 prio), (.i .u32 limit), (.s (txt label)), (.s (txt proto))]) rfl fun n1 H2 hN3 => ?_
 have hF4 := hN3.fr (fun _ => False)
 have hO5 := hO0.new hN3
 have hx_hO5 := hO5.next
 have hnm_n1 : n1 = H.next := hN3.1
 have hnx_H2 : H2.next = H.next + 1 := hN3.2.1
 have hlt_n1 : n1 < H2.next := by omega
 refine O_box (z := [(.i .u8 kind), (.i .u16 prio), (.i .u32 limit), (.s (txt label)), (.s (txt proto))]) rfl fun n6 H7 hN8 => ?_
 have hF9 := hN8.fr (fun _ => False)
 have hb10 := (hF9.keep _ (by exact hlt_n1) (fun h => h)).trans hN3.2.2.1
 have hO11 := hO5.new hN8
 have hx_hO11 := hO11.next
 have hnm_n6 : n6 = H2.next := hN8.1
 have hnx_H7 : H7.next = H2.next + 1 := hN8.2.1
 have hlt_n1 : n1 < H7.next := by omega
 have hlt_n6 : n6 < H7.next := by omega
 refine pv (.b false) rfl ?_
 refine O_nil (sr ?_)
 refine pf (.p (some (n1, 0))) rfl rfl ?_
 refine O_p (.i .u8 kind) (r_ld rfl hb10 rfl) ?_
 refine pf (.p (some (n6, 0))) rfl rfl ?_
 refine O_p (.i .u8 kind) (r_ld rfl hN8.2.2.1 rfl) ?_
 refine O_p (.b true) (r_eqq rfl rfl) ?_
 refine pv (.b true) rfl ?_
 refine O_gs (v := (.p (some (n1, 1)))) rfl (r_fadd' rfl rfl) ?_
 refine O_gs (v := (.i .u16 prio)) rfl (r_ld rfl hb10 rfl) ?_
 refine O_gs (v := (.p (some (n6, 1)))) rfl (r_fadd' rfl rfl) ?_
 refine O_gs (v := (.i .u16 prio)) rfl (r_ld rfl hN8.2.2.1 rfl) ?_
 refine O_gs (v := (.b true)) rfl (r_eqq rfl rfl) ?_
 refine O_p (.b true) (r_pick_t rfl rfl) ?_
 refine pv (.b true) rfl ?_
 refine O_gs (v := (.p (some (n1, 2)))) rfl (r_fadd' rfl rfl) ?_
 refine O_gs (v := (.i .u32 limit)) rfl (r_ld rfl hb10 rfl) ?_
 refine O_gs (v := (.p (some (n6, 2)))) rfl (r_fadd' rfl rfl) ?_
 refine O_gs (v := (.i .u32 limit)) rfl (r_ld rfl hN8.2.2.1 rfl) ?_
 refine O_gs (v := (.b true)) rfl (r_eqq rfl rfl) ?_
 refine O_p (.b true) (r_pick_t rfl rfl) ?_
 refine pv (.b true) rfl ?_
 refine O_gs (v := (.p (some (n1, 3)))) rfl (r_fadd' rfl rfl) ?_
 refine O_gs (v := (.s (txt label))) rfl (r_ld rfl hb10 rfl) ?_
 refine O_gs (v := (.p (some (n6, 3)))) rfl (r_fadd' rfl rfl) ?_
 refine O_gs (v := (.s (txt label))) rfl (r_ld rfl hN8.2.2.1 rfl) ?_
 refine O_gs (v := (.b true)) rfl (by exact (by rw [r_eqt (a := label) (b := label) rfl rfl, decide_eq_true rfl])) ?_
 refine O_p (.b true) (r_pick_t rfl rfl) ?_
 refine pv (.b true) rfl ?_
 refine O_gs (v := (.p (some (n1, 4)))) rfl (r_fadd' rfl rfl) ?_
 refine O_gs (v := (.s (txt proto))) rfl (r_ld rfl hb10 rfl) ?_
 refine O_gs (v := (.p (some (n6, 4)))) rfl (r_fadd' rfl rfl) ?_
 refine O_gs (v := (.s (txt proto))) rfl (r_ld rfl hN8.2.2.1 rfl) ?_
 refine O_gs (v := (.b true)) rfl (by exact (by rw [r_eqt (a := proto) (b := proto) rfl rfl, decide_eq_true rfl])) ?_
 refine O_p (.b true) (r_pick_t rfl rfl) ?_
 refine pv (.b true) rfl ?_
 refine O_nil ?_
 refine C_ret ?_
 exact ⟨.inr rfl, _, resL_one (r_tmp (v := (.b true)) rfl), rfl, hO11⟩
theorem unwrap_ev {H : AH} (hok : H.Ok) (ppid : Int) {ba : Option (Nat × Nat)} {bn bc bg : Nat} (bhg : bg = 0 ∨ bg = 1) {b : List UInt8} (bhb : Bs H (.sl ba bn bc bg) b) (bhc : bn ≤ bc) (bhm : bc ≤ 9223372036854775807) (hfit : bn ≤ 1073741824) : Ev tabV spV (.fn (.func 20) [] []) [.i .u32 ppid, .sl ba bn bc bg] H (fun r H' => ∃ v, r = .tup [.b (uT ppid b), v, .b (uO ppid b)] ∧ Mine H.next 1 H' v (bcells (uB ppid b)) ∧ Kp H H') := by
 refine Ev_C (F := x20) rfl ?_
 have bhl := bhb.length
 subst bhl
 have hO0 := Old.refl hok
 have h48 : tabV 48 = some x48 := rfl
 refine sr ?_
 refine pv (.b false) rfl ?_
 refine pv (.sl none 0 0 0) rfl ?_
 refine pv (.b false) rfl ?_
 refine O_nil ?_
 refine C_seq ?_
 refine sr ?_
 refine pv (.i .u32 ppid) rfl ?_
 refine O_nil ?_
 refine C_block ?_
 refine C_seq ?_
 refine sr ?_
 refine O_p (.b (decide (ppid = 56))) (r_eql rfl rfl) ?_
 refine pv (.b (decide (ppid = 56))) rfl ?_
 refine O_nil ?_
 refine C_cond (x := (decide (ppid = 56))) rfl (fun hc1 => ?_) (fun hc1 => ?_)
 ·
  have hr2 := hc1
  simp only [decide_eq_true_eq, decide_eq_false_iff_not, Bool.not_eq_true', Bool.not_eq_false', Bool.and_eq_true, Bool.or_eq_true, Bool.or_eq_false_iff, Bool.not_not] at hc1
  refine C_skip ?_
  refine C_cond (x := true) (Eq.trans rfl (congrArg AV.b hr2)) (fun _ => ?_) (fun h => by cases h)
  refine sr ?_
  refine pv (.i .u32 ppid) rfl ?_
  refine O_p (.b (decide (ppid = 56))) (r_eql rfl rfl) ?_
  refine pv (.b (decide (ppid = 56))) rfl ?_
  refine pv (.sl none 0 0 0) rfl ?_
  refine pv (.b true) rfl ?_
  refine O_nil ?_
  refine C_ret ?_
  refine bk_ret ?_
  refine nx_ret ?_
  obtain ⟨e1, e2, e3⟩ := u_1 (ppid := ppid) (b := b) (by omega)
  exact ⟨.inr rfl, _, resL_cons (r_tmp (v := (.b (decide (ppid = 56)))) rfl) (resL_cons (r_tmp (v := (.sl none 0 0 0)) rfl) (resL_one (r_tmp (v := (.b true)) rfl))), _, by rw [e1, e3]; rfl, by rw [e2]; exact Mine.nil _ _ _, hO0⟩
 ·
  have hr3 := hc1
  simp only [decide_eq_true_eq, decide_eq_false_iff_not, Bool.not_eq_true', Bool.not_eq_false', Bool.and_eq_true, Bool.or_eq_true, Bool.or_eq_false_iff, Bool.not_not] at hc1
  refine C_region ?_
  refine O_p (.b (decide (ppid = 57))) (r_eql rfl rfl) ?_
  refine pv (.b (decide (ppid = 57))) rfl ?_
  refine O_nil ?_
  refine C_cond (x := (decide (ppid = 57))) rfl (fun hc4 => ?_) (fun hc4 => ?_)
  ·
   have hr5 := hc4
   simp only [decide_eq_true_eq, decide_eq_false_iff_not, Bool.not_eq_true', Bool.not_eq_false', Bool.and_eq_true, Bool.or_eq_true, Bool.or_eq_false_iff, Bool.not_not] at hc4
   refine sr ?_
   refine pv (.i .u32 ppid) rfl ?_
   refine O_p (.b (decide (ppid = 56))) (r_eql rfl rfl) ?_
   refine pv (.b (decide (ppid = 56))) rfl ?_
   refine pv (.sl none 0 0 0) rfl ?_
   refine pv (.b true) rfl ?_
   refine O_nil ?_
   refine C_ret ?_
   refine bk_ret ?_
   refine nx_ret ?_
   obtain ⟨e1, e2, e3⟩ := u_1 (ppid := ppid) (b := b) (by omega)
   exact ⟨.inr rfl, _, resL_cons (r_tmp (v := (.b (decide (ppid = 56)))) rfl) (resL_cons (r_tmp (v := (.sl none 0 0 0)) rfl) (resL_one (r_tmp (v := (.b true)) rfl))), _, by rw [e1, e3]; rfl, by rw [e2]; exact Mine.nil _ _ _, hO0⟩
  ·
   have hr6 := hc4
   simp only [decide_eq_true_eq, decide_eq_false_iff_not, Bool.not_eq_true', Bool.not_eq_false', Bool.and_eq_true, Bool.or_eq_true, Bool.or_eq_false_iff, Bool.not_not] at hc4
   refine C_seq ?_
   refine sr ?_
   refine O_p (.b (decide (ppid = 51))) (r_eql rfl rfl) ?_
   refine pv (.b (decide (ppid = 51))) rfl ?_
   refine O_nil ?_
   refine C_cond (x := (decide (ppid = 51))) rfl (fun hc7 => ?_) (fun hc7 => ?_)
   ·
    have hr8 := hc7
    simp only [decide_eq_true_eq, decide_eq_false_iff_not, Bool.not_eq_true', Bool.not_eq_false', Bool.and_eq_true, Bool.or_eq_true, Bool.or_eq_false_iff, Bool.not_not] at hc7
    refine C_skip ?_
    refine C_cond (x := true) (Eq.trans rfl (congrArg AV.b hr8)) (fun _ => ?_) (fun h => by cases h)
    refine sr ?_
    refine pv (.sl ba b.length bc bg) rfl ?_
    refine O_p (.i .i64 (((b.length : Nat)) : Int)) (r_len rfl) ?_
    refine O_p (.b (decide (0 < (((b.length : Nat)) : Int)))) (r_gtr rfl rfl) ?_
    refine O_nil ?_
    refine C_cond (x := (decide (0 < (((b.length : Nat)) : Int)))) rfl (fun hc9 => ?_) (fun hc9 => ?_)
    ·
     have hr10 := hc9
     simp only [decide_eq_true_eq, decide_eq_false_iff_not, Bool.not_eq_true', Bool.not_eq_false', Bool.and_eq_true, Bool.or_eq_true, Bool.or_eq_false_iff, Bool.not_not] at hc9
     refine sr ?_
     refine pv (.i .u32 ppid) rfl ?_
     refine O_p (.b (decide (ppid = 51))) (r_eql rfl rfl) ?_
     refine pv (.sl ba b.length bc bg) rfl ?_
     refine O_call (Ev.mono (clone_ev h48 hO0.ok bhg (bhb.old hok hO0) (by first | omega | (simp only [List.length_take, List.length_drop, List.length_append, List.length_cons, List.length_nil, beN_len] <;> omega)) (by first | omega | (simp only [List.length_take, List.length_drop, List.length_append, List.length_cons, List.length_nil, beN_len] <;> omega)) (by first | omega | (simp only [List.length_take, List.length_drop, List.length_append, List.length_cons, List.length_nil, beN_len] <;> omega))) fun v11 H12 hq13 => ?_)
     obtain ⟨hM14, hK15⟩ := hq13
     have hx_hK15 := hK15.next
     have hO16 := hO0.trans hK15
     have hx_hO16 := hO16.next
     have hM17 := hM14.down (N := H.next) (by omega)
     refine pv (.b (decide (ppid = 51))) rfl ?_
     refine pv v11 rfl ?_
     refine pv (.b true) rfl ?_
     refine O_nil ?_
     refine C_ret ?_
     refine bk_ret ?_
     refine nx_ret ?_
     obtain ⟨e1, e2, e3⟩ := u_2 (ppid := ppid) (b := b) (by omega) (by omega) (by omega)
     exact ⟨.inr rfl, _, resL_cons (r_tmp (v := (.b (decide (ppid = 51)))) rfl) (resL_cons (r_tmp (v := v11) rfl) (resL_one (r_tmp (v := (.b true)) rfl))), _, by rw [e1, e3]; rfl, by rw [e2]; exact hM17, hO16⟩
    ·
     have hr18 := hc9
     simp only [decide_eq_true_eq, decide_eq_false_iff_not, Bool.not_eq_true', Bool.not_eq_false', Bool.and_eq_true, Bool.or_eq_true, Bool.or_eq_false_iff, Bool.not_not] at hc9
     refine C_skip ?_
     refine sr ?_
     refine pv (.b false) rfl ?_
     refine pv (.sl none 0 0 0) rfl ?_
     refine pv (.b false) rfl ?_
     refine O_nil ?_
     refine C_ret ?_
     obtain ⟨e1, e2, e3⟩ := u_0 (ppid := ppid) (b := b) (by omega) (by omega)
     exact ⟨.inr rfl, _, resL_cons (r_tmp (v := (.b false)) rfl) (resL_cons (r_tmp (v := (.sl none 0 0 0)) rfl) (resL_one (r_tmp (v := (.b false)) rfl))), _, by rw [e1, e3]; rfl, by rw [e2]; exact Mine.nil _ _ _, hO0⟩
   ·
    have hr19 := hc7
    simp only [decide_eq_true_eq, decide_eq_false_iff_not, Bool.not_eq_true', Bool.not_eq_false', Bool.and_eq_true, Bool.or_eq_true, Bool.or_eq_false_iff, Bool.not_not] at hc7
    refine C_region ?_
    refine O_p (.b (decide (ppid = 53))) (r_eql rfl rfl) ?_
    refine pv (.b (decide (ppid = 53))) rfl ?_
    refine O_nil ?_
    refine C_cond (x := (decide (ppid = 53))) rfl (fun hc20 => ?_) (fun hc20 => ?_)
    ·
     have hr21 := hc20
     simp only [decide_eq_true_eq, decide_eq_false_iff_not, Bool.not_eq_true', Bool.not_eq_false', Bool.and_eq_true, Bool.or_eq_true, Bool.or_eq_false_iff, Bool.not_not] at hc20
     refine sr ?_
     refine pv (.sl ba b.length bc bg) rfl ?_
     refine O_p (.i .i64 (((b.length : Nat)) : Int)) (r_len rfl) ?_
     refine O_p (.b (decide (0 < (((b.length : Nat)) : Int)))) (r_gtr rfl rfl) ?_
     refine O_nil ?_
     refine C_cond (x := (decide (0 < (((b.length : Nat)) : Int)))) rfl (fun hc22 => ?_) (fun hc22 => ?_)
     ·
      have hr23 := hc22
      simp only [decide_eq_true_eq, decide_eq_false_iff_not, Bool.not_eq_true', Bool.not_eq_false', Bool.and_eq_true, Bool.or_eq_true, Bool.or_eq_false_iff, Bool.not_not] at hc22
      refine sr ?_
      refine pv (.i .u32 ppid) rfl ?_
      refine O_p (.b (decide (ppid = 51))) (r_eql rfl rfl) ?_
      refine pv (.sl ba b.length bc bg) rfl ?_
      refine O_call (Ev.mono (clone_ev h48 hO0.ok bhg (bhb.old hok hO0) (by first | omega | (simp only [List.length_take, List.length_drop, List.length_append, List.length_cons, List.length_nil, beN_len] <;> omega)) (by first | omega | (simp only [List.length_take, List.length_drop, List.length_append, List.length_cons, List.length_nil, beN_len] <;> omega)) (by first | omega | (simp only [List.length_take, List.length_drop, List.length_append, List.length_cons, List.length_nil, beN_len] <;> omega))) fun v24 H25 hq26 => ?_)
      obtain ⟨hM27, hK28⟩ := hq26
      have hx_hK28 := hK28.next
      have hO29 := hO0.trans hK28
      have hx_hO29 := hO29.next
      have hM30 := hM27.down (N := H.next) (by omega)
      refine pv (.b (decide (ppid = 51))) rfl ?_
      refine pv v24 rfl ?_
      refine pv (.b true) rfl ?_
      refine O_nil ?_
      refine C_ret ?_
      refine bk_ret ?_
      refine nx_ret ?_
      obtain ⟨e1, e2, e3⟩ := u_2 (ppid := ppid) (b := b) (by omega) (by omega) (by omega)
      exact ⟨.inr rfl, _, resL_cons (r_tmp (v := (.b (decide (ppid = 51)))) rfl) (resL_cons (r_tmp (v := v24) rfl) (resL_one (r_tmp (v := (.b true)) rfl))), _, by rw [e1, e3]; rfl, by rw [e2]; exact hM30, hO29⟩
     ·
      have hr31 := hc22
      simp only [decide_eq_true_eq, decide_eq_false_iff_not, Bool.not_eq_true', Bool.not_eq_false', Bool.and_eq_true, Bool.or_eq_true, Bool.or_eq_false_iff, Bool.not_not] at hc22
      refine C_skip ?_
      refine sr ?_
      refine pv (.b false) rfl ?_
      refine pv (.sl none 0 0 0) rfl ?_
      refine pv (.b false) rfl ?_
      refine O_nil ?_
      refine C_ret ?_
      obtain ⟨e1, e2, e3⟩ := u_0 (ppid := ppid) (b := b) (by omega) (by omega)
      exact ⟨.inr rfl, _, resL_cons (r_tmp (v := (.b false)) rfl) (resL_cons (r_tmp (v := (.sl none 0 0 0)) rfl) (resL_one (r_tmp (v := (.b false)) rfl))), _, by rw [e1, e3]; rfl, by rw [e2]; exact Mine.nil _ _ _, hO0⟩
    ·
     have hr32 := hc20
     simp only [decide_eq_true_eq, decide_eq_false_iff_not, Bool.not_eq_true', Bool.not_eq_false', Bool.and_eq_true, Bool.or_eq_true, Bool.or_eq_false_iff, Bool.not_not] at hc20
     refine C_skip ?_
     refine sr ?_
     refine pv (.b false) rfl ?_
     refine pv (.sl none 0 0 0) rfl ?_
     refine pv (.b false) rfl ?_
     refine O_nil ?_
     refine C_ret ?_
     obtain ⟨e1, e2, e3⟩ := u_0 (ppid := ppid) (b := b) (by omega) (by omega)
     exact ⟨.inr rfl, _, resL_cons (r_tmp (v := (.b false)) rfl) (resL_cons (r_tmp (v := (.sl none 0 0 0)) rfl) (resL_one (r_tmp (v := (.b false)) rfl))), _, by rw [e1, e3]; rfl, by rw [e2]; exact Mine.nil _ _ _, hO0⟩
end Go.Proofs.YtfhbdddjclodhaaDoor.E
