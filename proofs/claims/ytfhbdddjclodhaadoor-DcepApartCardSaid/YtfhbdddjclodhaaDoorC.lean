/- Layer 18's Encode, walked. It bears no condition. -/
import Derived.Test.YtfhbdddjclodhaaDoorU
namespace Go.Proofs.YtfhbdddjclodhaaDoor.E

open Go.Lib
set_option linter.unusedVariables false
set_option linter.unusedSimpArgs false
theorem valid_ev' {H : AH} (h : Tb H) (l : List UInt8) (hs : l.length ≤ 9223372036854775807) : Ev tabV spV (.fn (.func 63) [] []) [.s (txt l)] H (fun r H' => r = .b (validD l) ∧ H' = H) := by
 have := valid_ev h (txt l) (by rw [txt_size]; exact hs)
 rwa [txt_data] at this
def mayB (kind : Int) (label proto : List UInt8) : Bool := (decide (kind % 128 ≤ 2) && validD label) && validD proto
theorem not128 {k : Int} (h0 : 0 ≤ k) (h1 : k < 256) : IntKind.u8.wrap ((BitVec.ofInt 8 k &&& ~~~BitVec.ofInt 8 128).toNat : Int) = k % 128 := by
 obtain ⟨n, rfl⟩ := Int.eq_ofNat_of_zero_le h0
 have key : ∀ b : BitVec 8, (b &&& ~~~128#8).toNat = b.toNat % 128 := by decide +kernel
 have e : (BitVec.ofInt 8 (n : Int) &&& ~~~BitVec.ofInt 8 128).toNat = n % 128 := by
  rw [show BitVec.ofInt 8 128 = 128#8 from rfl, key, BitVec.toNat_ofInt]; omega
 rw [e, wrap_u8]; omega
def encE (kind : Int) (label proto : List UInt8) : Int := if mayB kind label proto = false then 1 else if 256 < label.length ∨ 256 < proto.length then 10 else 0
def encB (kind prio limit : Int) (label proto : List UInt8) : List UInt8 := (((((([3, u8 kind] : List UInt8) ++ beN prio 2) ++ beN limit 4) ++ beN (label.length : Nat) 2) ++ beN (proto.length : Nat) 2) ++ label) ++ proto
def encR (kind prio limit : Int) (label proto : List UInt8) : List UInt8 := if encE kind label proto = 0 then encB kind prio limit label proto else []
theorem encR_ok {kind prio limit : Int} {label proto : List UInt8} (h : encE kind label proto = 0) : encR kind prio limit label proto = encB kind prio limit label proto := if_pos h
theorem encR_bad {kind prio limit : Int} {label proto : List UInt8} (h : ¬ encE kind label proto = 0) : encR kind prio limit label proto = [] := if_neg h
theorem right_ev {H : AH} (hok : H.Ok) (htb : Tb H) (kind prio limit : Int) (label proto : List UInt8) (hk : 0 ≤ kind ∧ kind < 256) (hll : label.length ≤ 9223372036854775807) (hpl : proto.length ≤ 9223372036854775807) : Ev tabV spV (.fn (.func 36) [] []) [.agg [(.i .u8 kind), (.i .u16 prio), (.i .u32 limit), (.s (txt label)), (.s (txt proto))]] H (fun r H' => r = .b (mayB kind label proto) ∧ Kp H H') := by
 refine Ev_C (F := x36) rfl ?_
 have hO0 := Old.refl hok
 refine sr ?_
 refine O_box (z := [(.i .u8 kind), (.i .u16 prio), (.i .u32 limit), (.s (txt label)), (.s (txt proto))]) rfl fun n1 H2 hN3 => ?_
 have hF4 := hN3.fr (fun _ => False)
 have hO5 := hO0.new hN3
 have hx_hO5 := hO5.next
 have hnm_n1 : n1 = H.next := hN3.1
 have hnx_H2 : H2.next = H.next + 1 := hN3.2.1
 have hlt_n1 : n1 < H2.next := by omega
 refine pv (.b false) rfl ?_
 refine O_nil (sr ?_)
 refine pf (.p (some (n1, 0))) rfl rfl ?_
 refine O_p (.i .u8 kind) (r_ld rfl hN3.2.2.1 rfl) ?_
 refine O_p (.i .u8 (kind % 128)) (r_bin rfl rfl (congrArg (fun z => some (AV.i .u8 z)) (not128 hk.1 hk.2))) ?_
 refine O_p (.b (decide ((kind % 128) ≤ 2))) (r_leq rfl rfl) ?_
 refine pv (.b (decide ((kind % 128) ≤ 2))) rfl ?_
 refine O_gx (e := (decide ((kind % 128) ≤ 2))) (v := (.p (some (n1, 3)))) (wt rfl) (fun he => (r_fadd' rfl rfl)) ?_
 refine O_gx (e := (decide ((kind % 128) ≤ 2))) (v := (.s (txt label))) (wt rfl) (fun he => (r_ld (cond_pos he) hN3.2.2.1 rfl)) ?_
 refine O_gc2 (e := (decide ((kind % 128) ≤ 2))) (v := (.b (validD label))) (as' := [(.s (txt label))]) (wt rfl) (fun he => by exact (cons_eq (cond_pos he) rfl)) (fun he => (valid_ev' (htb.kp hok hO5) label (by first | omega | (simp only [List.length_take, List.length_drop, List.length_append, List.length_cons, List.length_nil, beN_len] <;> omega)))) ?_
 refine O_p (.b ((decide ((kind % 128) ≤ 2)) && (validD label))) (r_pick_and rfl rfl rfl rfl) ?_
 refine pv (.b ((decide ((kind % 128) ≤ 2)) && (validD label))) rfl ?_
 refine O_gx (e := ((decide ((kind % 128) ≤ 2)) && (validD label))) (v := (.p (some (n1, 4)))) (wt rfl) (fun he => (r_fadd' rfl rfl)) ?_
 refine O_gx (e := ((decide ((kind % 128) ≤ 2)) && (validD label))) (v := (.s (txt proto))) (wt rfl) (fun he => (r_ld (cond_pos he) hN3.2.2.1 rfl)) ?_
 refine O_gc2 (e := ((decide ((kind % 128) ≤ 2)) && (validD label))) (v := (.b (validD proto))) (as' := [(.s (txt proto))]) (wt rfl) (fun he => by exact (cons_eq (cond_pos he) rfl)) (fun he => (valid_ev' (htb.kp hok hO5) proto (by first | omega | (simp only [List.length_take, List.length_drop, List.length_append, List.length_cons, List.length_nil, beN_len] <;> omega)))) ?_
 refine O_p (.b (((decide ((kind % 128) ≤ 2)) && (validD label)) && (validD proto))) (r_pick_and rfl rfl rfl rfl) ?_
 refine pv (.b (((decide ((kind % 128) ≤ 2)) && (validD label)) && (validD proto))) rfl ?_
 refine O_nil ?_
 refine C_ret ?_
 exact ⟨.inr rfl, _, resL_one (r_tmp (v := (.b (((decide ((kind % 128) ≤ 2)) && (validD label)) && (validD proto)))) rfl), rfl, hO5⟩
set_option maxRecDepth 100000 in
theorem enc_ev {H : AH} (hok : H.Ok) (htb : Tb H) (kind prio limit : Int) (label proto : List UInt8) (hk : 0 ≤ kind ∧ kind < 256) (hp : 0 ≤ prio ∧ prio < 65536) (hl : 0 ≤ limit ∧ limit < 4294967296) (hll : label.length ≤ 9223372036854775807) (hpl : proto.length ≤ 9223372036854775807) : Ev tabV spV (.fn (.func 12) [] []) [.agg [(.i .u8 kind), (.i .u16 prio), (.i .u32 limit), (.s (txt label)), (.s (txt proto))]] H (fun r H' => ∃ v, r = .tup [v, .i .i64 (encE kind label proto)] ∧ Mine H.next 1 H' v (bcells (encR kind prio limit label proto)) ∧ Kp H H') := by
 refine Ev_C (F := x12) rfl ?_
 have hO0 := Old.refl hok
 have h64 : tabV 64 = some x64 := rfl
 have h38 : tabV 38 = some x38 := rfl
 have h37 : tabV 37 = some x37 := rfl
 refine sr ?_
 refine O_box (z := [(.i .u8 kind), (.i .u16 prio), (.i .u32 limit), (.s (txt label)), (.s (txt proto))]) rfl fun n1 H2 hN3 => ?_
 have hF4 := hN3.fr (fun _ => False)
 have hO5 := hO0.new hN3
 have hx_hO5 := hO5.next
 have hnm_n1 : n1 = H.next := hN3.1
 have hnx_H2 : H2.next = H.next + 1 := hN3.2.1
 have hlt_n1 : n1 < H2.next := by omega
 refine pv (.sl none 0 0 0) rfl ?_
 refine pv (.i .i64 0) rfl ?_
 refine O_nil ?_
 refine C_seq ?_
 refine C_block ?_
 refine sr ?_
 refine O_p (.agg [(.i .u8 kind), (.i .u16 prio), (.i .u32 limit), (.s (txt label)), (.s (txt proto))]) (r_ldA rfl hN3.2.2.1 rfl) ?_
 refine O_call (Ev.mono (right_ev hO5.ok (htb.kp hok hO5) kind prio limit label proto (by exact ⟨hk.1, hk.2⟩) (by first | omega | (simp only [List.length_take, List.length_drop, List.length_append, List.length_cons, List.length_nil, beN_len] <;> omega)) (by first | omega | (simp only [List.length_take, List.length_drop, List.length_append, List.length_cons, List.length_nil, beN_len] <;> omega))) fun v6 H7 hq8 => ?_)
 obtain ⟨rfl, hK9⟩ := hq8
 have hb10 := (hK9.keep _ (by omega)).trans hN3.2.2.1
 have hx_hK9 := hK9.next
 have hlt_n1 : n1 < H7.next := by omega
 have hO11 := hO5.trans hK9
 have hx_hO11 := hO11.next
 refine O_p (.b (!(mayB kind label proto))) (r_not rfl) ?_
 refine pv (.b (!(mayB kind label proto))) rfl ?_
 refine O_nil ?_
 refine C_cond (x := (!(mayB kind label proto))) rfl (fun hc12 => ?_) (fun hc12 => ?_)
 ·
  simp only [decide_eq_true_eq, decide_eq_false_iff_not, Bool.not_eq_true', Bool.not_eq_false', Bool.and_eq_true, Bool.or_eq_true, Bool.or_eq_false_iff, Bool.not_not] at hc12
  refine sr ?_
  refine pv (.sl none 0 0 0) rfl ?_
  refine pv (.i .i64 1) rfl ?_
  refine O_nil ?_
  refine C_ret ?_
  refine bk_ret ?_
  refine nx_ret ?_
  have he : encE kind label proto = 1 := by
   unfold encE; repeat' split
   all_goals first | rfl | omega | simp_all
  exact ⟨.inr rfl, _, resL_cons (r_tmp (v := .sl none 0 0 0) rfl) (resL_one (r_tmp (v := .i .i64 1) rfl)), _, by rw [he]; rfl, by rw [encR_bad (by rw [he]; decide)]; exact Mine.nil _ _ _, hO11⟩
 ·
  simp only [decide_eq_true_eq, decide_eq_false_iff_not, Bool.not_eq_true', Bool.not_eq_false', Bool.and_eq_true, Bool.or_eq_true, Bool.or_eq_false_iff, Bool.not_not] at hc12
  refine sr ?_
  refine pf (.p (some (n1, 3))) rfl rfl ?_
  refine O_p (.s (txt label)) (r_ld rfl hb10 rfl) ?_
  refine O_p (.i .i64 ((((label).length : Nat)) : Int)) (r_lent (l := label) rfl) ?_
  refine O_p (.b (decide (256 < ((((label).length : Nat)) : Int)))) (r_gtr rfl rfl) ?_
  refine pv (.b (decide (256 < ((((label).length : Nat)) : Int)))) rfl ?_
  refine O_gx (e := (!(decide (256 < ((((label).length : Nat)) : Int))))) (v := (.p (some (n1, 4)))) (wf rfl) (fun he => (r_fadd' rfl rfl)) ?_
  refine O_gx (e := (!(decide (256 < ((((label).length : Nat)) : Int))))) (v := (.s (txt proto))) (wf rfl) (fun he => (r_ld (cond_pos he) hb10 rfl)) ?_
  refine O_gx (e := (!(decide (256 < ((((label).length : Nat)) : Int))))) (v := (.i .i64 ((((proto).length : Nat)) : Int))) (wf rfl) (fun he => (r_lent (l := proto) (cond_pos he))) ?_
  refine O_gx (e := (!(decide (256 < ((((label).length : Nat)) : Int))))) (v := (.b (decide (256 < ((((proto).length : Nat)) : Int))))) (wf rfl) (fun he => (r_gtr (cond_pos he) rfl)) ?_
  refine O_p (.b ((decide (256 < ((((label).length : Nat)) : Int))) || (decide (256 < ((((proto).length : Nat)) : Int))))) (r_pick_or rfl rfl rfl rfl) ?_
  refine pv (.b ((decide (256 < ((((label).length : Nat)) : Int))) || (decide (256 < ((((proto).length : Nat)) : Int))))) rfl ?_
  refine O_nil ?_
  refine C_cond (x := ((decide (256 < ((((label).length : Nat)) : Int))) || (decide (256 < ((((proto).length : Nat)) : Int))))) rfl (fun hc13 => ?_) (fun hc13 => ?_)
  ·
   simp only [decide_eq_true_eq, decide_eq_false_iff_not, Bool.not_eq_true', Bool.not_eq_false', Bool.and_eq_true, Bool.or_eq_true, Bool.or_eq_false_iff, Bool.not_not] at hc13
   refine sr ?_
   refine pv (.sl none 0 0 0) rfl ?_
   refine pv (.i .i64 10) rfl ?_
   refine O_nil ?_
   refine C_ret ?_
   refine bk_ret ?_
   refine nx_ret ?_
   have he : encE kind label proto = 10 := by
    unfold encE; repeat' split
    all_goals first | rfl | omega | simp_all
   exact ⟨.inr rfl, _, resL_cons (r_tmp (v := .sl none 0 0 0) rfl) (resL_one (r_tmp (v := .i .i64 10) rfl)), _, by rw [he]; rfl, by rw [encR_bad (by rw [he]; decide)]; exact Mine.nil _ _ _, hO11⟩
  ·
   simp only [decide_eq_true_eq, decide_eq_false_iff_not, Bool.not_eq_true', Bool.not_eq_false', Bool.and_eq_true, Bool.or_eq_true, Bool.or_eq_false_iff, Bool.not_not] at hc13
   refine C_skip ?_
   refine C_seq ?_
   refine C_draw fun b14 H15 hbase16 hA17 => ?_
   have hnx18 : H15.next = H7.next + 10 := hA17.1
   have hb19 := (hA17.2 _).trans hb10
   have hF20 := hA17.fr (fun _ => False)
   have hO21 := hO11.aside hA17
   have hx_hO21 := hO21.next
   have hlt_n1 : n1 < H15.next := by omega
   refine D_l (v := (.p (some (n1, 0)))) rfl rfl rfl (r_fadd' rfl rfl) ?_
   refine D_l (v := (.p (some (n1, 1)))) rfl rfl rfl (r_fadd' rfl rfl) ?_
   refine D_l (v := (.p (some (n1, 2)))) rfl rfl rfl (r_fadd' rfl rfl) ?_
   refine D_r (v := (.i .u8 kind)) rfl rfl rfl (r_ld rfl hb19 rfl) ?_
   refine D_r (v := (.i .u16 prio)) rfl rfl rfl (r_ld rfl hb19 rfl) ?_
   refine D_r (v := (.i .u32 limit)) rfl rfl rfl (r_ld rfl hb19 rfl) ?_
   refine D_m (f := fun n => ((.sl (some (n, 0)) 2 2 0), .cells [(.i .u8 3), (.i .u8 kind)] true)) rfl rfl fun H23 hW24 => ?_
   generalize hn25 : b14 + 2 = n22 at hW24 ⊢
   have hb26 := (hW24.2.2 _ (by omega)).trans hb19
   have hO27 := hO21.wr hW24 (by omega) (by omega)
   have hx_hO27 := hO27.next
   have hnx_H23 : H23.next = H15.next := hW24.1
   have hlt_n1 : n1 < H23.next := by omega
   have hlt_n22 : n22 < H23.next := by omega
   refine And.intro (And.intro (Or.inr (look_run rfl rfl (r_ld rfl hb26 rfl))) (And.intro (Or.inr (look_run rfl rfl (r_ld rfl hb26 rfl))) (And.intro (Or.inl rfl) True.intro))) ?_
   have hbs28 := Bs.own (k := 2) (l := [3, (u8 kind)]) hW24.2.1 (bc_cons rfl (bc_cons (u8_of hk.1 hk.2).symm bc_nil)) rfl
   have base29 := Old.refl hO27.ok
   refine D_call (Ev.mono (put16_ev h64 h38 hO27.ok (.inl rfl) (hbs28.old hO27.ok base29) (by first | omega | (simp only [List.length_take, List.length_drop, List.length_append, List.length_cons, List.length_nil, beN_len] <;> omega)) (by first | omega | (simp only [List.length_take, List.length_drop, List.length_append, List.length_cons, List.length_nil, beN_len] <;> omega)) prio (by first | omega | (simp only [List.length_append, List.length_cons, List.length_nil, beN_len] <;> omega))) fun v30 H31 hq32 => ?_)
   obtain ⟨hM33, hK34⟩ := hq32
   have hb35 := (hK34.keep _ (by omega)).trans hb26
   have hb36 := (hK34.keep _ (by omega)).trans hW24.2.1
   have hx_hK34 := hK34.next
   have hlt_n1 : n1 < H31.next := by omega
   have hlt_n22 : n22 < H31.next := by omega
   have hO37 := hO27.trans hK34
   have hx_hO37 := hO37.next
   have hO38 := base29.trans hK34
   have hM39 := hM33.down (N := H.next) (by omega)
   have hd40 : ¬ v30.nameOf n1 := fun hq => by have := hM33.new _ hq; omega
   have hd41 : ¬ v30.nameOf n22 := fun hq => by have := hM33.new _ hq; omega
   refine And.intro (And.intro (Or.inr (look_run rfl rfl (r_ld rfl hb35 rfl))) (And.intro (Or.inl rfl) True.intro)) ?_
   have hsf46 : Own 1 H31 v30 (bcells (([3, (u8 kind)] : List UInt8) ++ beN prio 2)) := hM39.own
   obtain ⟨oa42, og43, rfl, hog44, hob45⟩ := hsf46.bs
   have base47 := Old.refl hO37.ok
   refine D_call (Ev.mono (put32_ev h64 h37 hO37.ok hog44 (hM39.own.asbs) (by first | omega | (simp only [List.length_take, List.length_drop, List.length_append, List.length_cons, List.length_nil, beN_len] <;> omega)) (by first | omega | (simp only [List.length_take, List.length_drop, List.length_append, List.length_cons, List.length_nil, beN_len] <;> omega)) limit (by first | omega | (simp only [List.length_append, List.length_cons, List.length_nil, beN_len] <;> omega))) fun v48 H49 hq50 => ?_)
   obtain ⟨hM51, hK52⟩ := hq50
   have hb53 := (hK52.keep _ (by omega)).trans hb35
   have hb54 := (hK52.keep _ (by omega)).trans hb36
   have hx_hK52 := hK52.next
   have hlt_n1 : n1 < H49.next := by omega
   have hlt_n22 : n22 < H49.next := by omega
   have hM55 := hM39.kp hK52
   have hO56 := hO37.trans hK52
   have hx_hO56 := hO56.next
   have hO57 := hO38.trans hK52
   have hO58 := base47.trans hK52
   have hM59 := hM51.down (N := H.next) (by omega)
   have hd60 : ¬ v48.nameOf n1 := fun hq => by have := hM51.new _ hq; omega
   have hd61 : ¬ v48.nameOf n22 := fun hq => by have := hM51.new _ hq; omega
   refine And.intro (And.intro (Or.inl rfl) True.intro) ?_
   refine D_l (v := v48) rfl rfl rfl (r_mv rfl) ?_
   refine D_nil ?_
   refine C_seq ?_
   refine C_draw fun b62 H63 hbase64 hA65 => ?_
   have hnx66 : H63.next = H49.next + 12 := hA65.1
   have hb67 := (hA65.2 _).trans hb53
   have hb68 := (hA65.2 _).trans hb54
   have hF69 := hA65.fr (fun _ => False)
   have hM70 := hM55.aside hA65
   have hM71 := hM59.aside hA65
   have hO72 := hO56.aside hA65
   have hx_hO72 := hO72.next
   have hO73 := hO57.aside hA65
   have hO74 := hO58.aside hA65
   have hlt_n1 : n1 < H63.next := by omega
   have hlt_n22 : n22 < H63.next := by omega
   refine D_l (v := v48) rfl rfl rfl (r_mv rfl) ?_
   refine D_l (v := (.p (some (n1, 3)))) rfl rfl rfl (r_fadd' rfl rfl) ?_
   refine D_l (v := (.p (some (n1, 4)))) rfl rfl rfl (r_fadd' rfl rfl) ?_
   refine D_r (v := (.s (txt label))) rfl rfl rfl (r_ld rfl hb67 rfl) ?_
   refine D_l (v := (.i .i64 ((((label).length : Nat)) : Int))) rfl rfl rfl (r_lent (l := label) rfl) ?_
   refine D_l (v := (.i .u16 ((((label).length : Nat)) : Int))) rfl rfl rfl (by exact (r_cint' rfl (by rw [wrap_u16]; omega))) ?_
   refine D_r (v := (.s (txt proto))) rfl rfl rfl (r_ld rfl hb67 rfl) ?_
   refine D_l (v := (.i .i64 ((((proto).length : Nat)) : Int))) rfl rfl rfl (r_lent (l := proto) rfl) ?_
   refine D_l (v := (.i .u16 ((((proto).length : Nat)) : Int))) rfl rfl rfl (by exact (r_cint' rfl (by rw [wrap_u16]; omega))) ?_
   have hsf79 : Own 1 H63 v48 (bcells ((([3, (u8 kind)] : List UInt8) ++ beN prio 2) ++ beN limit 4)) := hM71.own
   obtain ⟨oa75, og76, rfl, hog77, hob78⟩ := hsf79.bs
   have base80 := Old.refl hO72.ok
   refine D_call (Ev.mono (put16_ev h64 h38 hO72.ok hog77 (hM71.own.asbs) (by first | omega | (simp only [List.length_take, List.length_drop, List.length_append, List.length_cons, List.length_nil, beN_len] <;> omega)) (by first | omega | (simp only [List.length_take, List.length_drop, List.length_append, List.length_cons, List.length_nil, beN_len] <;> omega)) ((((label).length : Nat)) : Int) (by first | omega | (simp only [List.length_append, List.length_cons, List.length_nil, beN_len] <;> omega))) fun v81 H82 hq83 => ?_)
   obtain ⟨hM84, hK85⟩ := hq83
   have hb86 := (hK85.keep _ (by omega)).trans hb67
   have hb87 := (hK85.keep _ (by omega)).trans hb68
   have hx_hK85 := hK85.next
   have hlt_n1 : n1 < H82.next := by omega
   have hlt_n22 : n22 < H82.next := by omega
   have hM88 := hM70.kp hK85
   have hM89 := hM71.kp hK85
   have hO90 := hO72.trans hK85
   have hx_hO90 := hO90.next
   have hO91 := hO73.trans hK85
   have hO92 := hO74.trans hK85
   have hO93 := base80.trans hK85
   have hM94 := hM84.down (N := H.next) (by omega)
   have hd95 : ¬ v81.nameOf n1 := fun hq => by have := hM84.new _ hq; omega
   have hd96 : ¬ v81.nameOf n22 := fun hq => by have := hM84.new _ hq; omega
   refine And.intro (And.intro (Or.inr (look_run rfl rfl (r_ld rfl hb86 rfl))) (And.intro (Or.inl rfl) True.intro)) ?_
   have hsf101 : Own 1 H82 v81 (bcells (((([3, (u8 kind)] : List UInt8) ++ beN prio 2) ++ beN limit 4) ++ beN ((((label).length : Nat)) : Int) 2)) := hM94.own
   obtain ⟨oa97, og98, rfl, hog99, hob100⟩ := hsf101.bs
   have base102 := Old.refl hO90.ok
   refine D_call (Ev.mono (put16_ev h64 h38 hO90.ok hog99 (hM94.own.asbs) (by first | omega | (simp only [List.length_take, List.length_drop, List.length_append, List.length_cons, List.length_nil, beN_len] <;> omega)) (by first | omega | (simp only [List.length_take, List.length_drop, List.length_append, List.length_cons, List.length_nil, beN_len] <;> omega)) ((((proto).length : Nat)) : Int) (by first | omega | (simp only [List.length_append, List.length_cons, List.length_nil, beN_len] <;> omega))) fun v103 H104 hq105 => ?_)
   obtain ⟨hM106, hK107⟩ := hq105
   have hb108 := (hK107.keep _ (by omega)).trans hb86
   have hb109 := (hK107.keep _ (by omega)).trans hb87
   have hx_hK107 := hK107.next
   have hlt_n1 : n1 < H104.next := by omega
   have hlt_n22 : n22 < H104.next := by omega
   have hM110 := hM88.kp hK107
   have hM111 := hM89.kp hK107
   have hM112 := hM94.kp hK107
   have hO113 := hO90.trans hK107
   have hx_hO113 := hO113.next
   have hO114 := hO91.trans hK107
   have hO115 := hO92.trans hK107
   have hO116 := hO93.trans hK107
   have hO117 := base102.trans hK107
   have hM118 := hM106.down (N := H.next) (by omega)
   have hd119 : ¬ v103.nameOf n1 := fun hq => by have := hM106.new _ hq; omega
   have hd120 : ¬ v103.nameOf n22 := fun hq => by have := hM106.new _ hq; omega
   refine And.intro (And.intro (Or.inl rfl) True.intro) ?_
   refine D_l (v := v103) rfl rfl rfl (r_mv rfl) ?_
   refine D_nil ?_
   refine C_seq ?_
   refine C_draw fun b121 H122 hbase123 hA124 => ?_
   have hnx125 : H122.next = H104.next + 9 := hA124.1
   have hb126 := (hA124.2 _).trans hb108
   have hb127 := (hA124.2 _).trans hb109
   have hF128 := hA124.fr (fun _ => False)
   have hM129 := hM110.aside hA124
   have hM130 := hM111.aside hA124
   have hM131 := hM112.aside hA124
   have hM132 := hM118.aside hA124
   have hO133 := hO113.aside hA124
   have hx_hO133 := hO133.next
   have hO134 := hO114.aside hA124
   have hO135 := hO115.aside hA124
   have hO136 := hO116.aside hA124
   have hO137 := hO117.aside hA124
   have hlt_n1 : n1 < H122.next := by omega
   have hlt_n22 : n22 < H122.next := by omega
   refine D_l (v := v103) rfl rfl rfl (r_mv rfl) ?_
   refine D_l (v := (.p (some (n1, 3)))) rfl rfl rfl (r_fadd' rfl rfl) ?_
   refine D_l (v := (.p (some (n1, 4)))) rfl rfl rfl (r_fadd' rfl rfl) ?_
   refine D_r (v := (.s (txt label))) rfl rfl rfl (r_ld rfl hb126 rfl) ?_
   refine D_r (v := (.s (txt proto))) rfl rfl rfl (r_ld rfl hb126 rfl) ?_
   refine D_qh rfl rfl (by exact r_app (n := (((((([3, (u8 kind)] : List UInt8) ++ beN prio 2) ++ beN limit 4) ++ beN ((((label).length : Nat)) : Int) 2) ++ beN ((((proto).length : Nat)) : Int) 2)).length) (k := label.length) (new := (bcells label)) hO133.ok hO133.next hM132 ((bcells_len _).trans (Nat.mul_one _).symm) rfl rfl (len_txt _) (src_txt _) ((bcells_len _).trans (Nat.mul_one _).symm) (by decide) (by decide) (by first | omega | (simp only [List.length_take, List.length_drop, List.length_append, List.length_cons, List.length_nil, beN_len] <;> omega))) fun o138 H139 hA140 => ?_
   have hx_H139 := hA140.2.1
   have hb141 := (hA140.2.2.1 _ (by omega) hd119).trans hb126
   have hb142 := (hA140.2.2.1 _ (by omega) hd120).trans hb127
   have hlt_n1 : n1 < H139.next := by omega
   have hlt_n22 : n22 < H139.next := by omega
   have hO143 := hA140.old hM132 hO133
   have hx_hO143 := hO143.next
   have hd144 := hA140.dis (n := n1) (by omega) hd119
   have hd145 := hA140.dis (n := n22) (by omega) hd120
   refine And.intro (And.intro (Or.inr (look_run rfl rfl (r_ld rfl hb141 rfl))) (And.intro (Or.inl rfl) True.intro)) ?_
   refine D_qh rfl rfl (by exact r_app (n := ((((((([3, (u8 kind)] : List UInt8) ++ beN prio 2) ++ beN limit 4) ++ beN ((((label).length : Nat)) : Int) 2) ++ beN ((((proto).length : Nat)) : Int) 2)).length + label.length)) (k := proto.length) (new := (bcells proto)) hO143.ok hO143.next hA140.1 (len_app ((bcells_len _).trans (Nat.mul_one _).symm) ((bcells_len _).trans (Nat.mul_one _).symm)) rfl rfl (len_txt _) (src_txt _) ((bcells_len _).trans (Nat.mul_one _).symm) (by decide) (by decide) (by first | omega | (simp only [List.length_take, List.length_drop, List.length_append, List.length_cons, List.length_nil, beN_len] <;> omega))) fun o146 H147 hA148 => ?_
   have hx_H147 := hA148.2.1
   have hb149 := (hA148.2.2.1 _ (by omega) hd144).trans hb141
   have hb150 := (hA148.2.2.1 _ (by omega) hd145).trans hb142
   have hlt_n1 : n1 < H147.next := by omega
   have hlt_n22 : n22 < H147.next := by omega
   have hO151 := hA148.old hA140.1 hO143
   have hx_hO151 := hO151.next
   have hd152 := hA148.dis (n := n1) (by omega) hd144
   have hd153 := hA148.dis (n := n22) (by omega) hd145
   refine And.intro (And.intro (Or.inl rfl) True.intro) ?_
   refine D_l (v := o146) rfl rfl rfl (r_mv rfl) ?_
   refine D_l (v := (.i .i64 0)) rfl rfl rfl (r_mv rfl) ?_
   refine D_nil ?_
   refine C_ret ?_
   have he : encE kind label proto = 0 := by
    unfold encE; repeat' split
    all_goals first | rfl | omega | simp_all
   have hfin : Mine H.next 1 H147 o146 (bcells (encR kind prio limit label proto)) := by rw [encR_ok he]; have h := hA148.1; unfold encB; simp only [← bcells_append] at h ⊢; exact h
   exact ⟨.inr rfl, _, resL_cons (r_tmp (v := o146) rfl) (resL_one (r_tmp (v := .i .i64 0) rfl)), _, by rw [he]; rfl, hfin, hO151⟩
end Go.Proofs.YtfhbdddjclodhaaDoor.E
