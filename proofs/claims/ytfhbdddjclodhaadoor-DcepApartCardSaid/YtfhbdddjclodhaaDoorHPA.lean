/- Layer 18's Hear, walked. It bears no condition. -/
import Derived.Test.YtfhbdddjclodhaaDoorT2
namespace Go.Proofs.YtfhbdddjclodhaaDoor.E
abbrev zHPAAA : List AV := [(.i .i64 0), (.i .u16 0), (.i .u8 0), (.i .u16 0), (.i .u32 0), (.s ⟨#[]⟩), (.s ⟨#[]⟩), (.b false), (.sl none 0 0 0)]
open Go.Lib
set_option linter.unusedVariables false
set_option linter.unusedSimpArgs false
/-- What Hear tells: the event (kind, id, opening, text, data), the answer's octets, the error, the channels. -/
structure HR where
 ek : Int
 ei : Int
 ko : Int
 po : Int
 lo : Int
 ot : List UInt8
 oo : List UInt8
 et : Bool
 ed : List UInt8
 rep : List UInt8
 er : Int
 cs : List Ch
def HR.none (e : Int) (cs : List Ch) : HR := ⟨0, 0, 0, 0, 0, [], [], false, [], [], e, cs⟩
def hear (cs : List Ch) (even : Bool) (k : Nat) (ppid : Int) (b : List UInt8) : HR :=
 if ¬ k < cs.length then .none 1 cs
 else if ppid = 50 then
  if b = [2] then
   if (cs.getD k ch0).st = 0 then .none 8 cs
   else if (cs.getD k ch0).st = 1 then ⟨2, k, (cs.getD k ch0).kind, (cs.getD k ch0).prio, (cs.getD k ch0).limit, (cs.getD k ch0).label, (cs.getD k ch0).proto, false, [], [], 0, cs.set k ((cs.getD k ch0).to 2)⟩
   else .none 0 cs
  else if dErr b ≠ 0 then .none (dErr b) cs
  else if (cs.getD k ch0).st ≠ 0 ∨ ownB k even = true then .none 8 cs
  else ⟨1, k, dK b, dP b, dL b, dT b, dO b, false, [], [2], 0, cs.set k ⟨2, dK b, dP b, dL b, dT b, dO b, false, false⟩⟩
 else if (cs.getD k ch0).st = 0 then .none 11 cs
 else if uO ppid b = false then .none 3 cs
 else if (cs.getD k ch0).st = 3 then .none 0 cs
 else ⟨3, k, 0, 0, 0, [], [], uT ppid b, uB ppid b, [], 0, cs⟩
def HR.cells (r : HR) (d : AV) : List AV := [.i .i64 r.ek, .i .u16 r.ei, .i .u8 r.ko, .i .u16 r.po, .i .u32 r.lo, .s (txt r.ot), .s (txt r.oo), .b r.et, d]
theorem Hs.fst {H : AH} {A R : HL} (h : Hs H (A ++ R)) : Hs H A := (h.perm List.perm_append_comm).sub
def Capd (v : AV) (n : Nat) : Prop := ∃ a c g, v = .sl a n c g ∧ (g = 0 ∨ g = 1) ∧ n ≤ c ∧ c ≤ 9223372036854775807
/-- B: what the message's data lie in. -/
def HearP (T Lb : Nat) (even : Bool) (B R : HL) (hr : HR) (r : AV) (H' : AH) : Prop := ∃ a n c g v q D, r = .tup [.agg (hr.cells (.sl a n c g)), v, .i .i64 hr.er] ∧ (g = 0 ∨ g = 1) ∧ n ≤ c ∧ c ≤ 9223372036854775807 ∧ (∀ H'', Hs H'' (D ++ B) → Bs H'' (.sl a n c g) hr.ed) ∧ Sq 1 v q (bcells hr.rep) ∧ Capd v hr.rep.length ∧ Hs H' (D ++ (qseg v q ++ ([(T, some (.cells [.sl (some (Lb, 0)) hr.cs.length hr.cs.length 0, .b even] true))] ++ ([(Lb, some (.cells (hr.cs.map Ch.row).flatten true))] ++ (B ++ R)))))
theorem HearP.nil {T Lb : Nat} {even : Bool} {B R : HL} {hr : HR} {r : AV} {H' : AH} (hr0 : r = .tup [.agg (hr.cells (.sl .none 0 0 0)), .sl .none 0 0 0, .i .i64 hr.er]) (h1 : hr.ed = []) (h2 : hr.rep = []) (hH : Hs H' ([(T, some (.cells [.sl (some (Lb, 0)) hr.cs.length hr.cs.length 0, .b even] true))] ++ ([(Lb, some (.cells (hr.cs.map Ch.row).flatten true))] ++ (B ++ R)))) : HearP T Lb even B R hr r H' :=
 ⟨_, _, _, _, _, [], [], hr0, .inl rfl, Nat.le_refl _, by omega, fun _ _ => by rw [h1]; exact .nil, by rw [h2]; exact .nil, by rw [h2]; exact ⟨_, _, _, rfl, .inl rfl, Nat.le_refl _, by omega⟩, hH⟩
theorem uB_le {ppid : Int} {b : List UInt8} : (uB ppid b).length ≤ b.length := by unfold uB; split <;> simp
theorem eq_a {H : AH} (hok : H.Ok) {ba : Option (Nat × Nat)} {bn bc bg : Nat} (bhg : bg = 0 ∨ bg = 1) {b : List UInt8} (bhb : Bs H (.sl ba bn bc bg) b) (bhc : bn ≤ bc) (bhm : bc ≤ 9223372036854775807) {n2 : Nat} (hn2 : H.get n2 = some (.cells [.i .u8 2] true)) (hl : ¬ b.length = 1) : Ev tabV spV (.fn (.func 60) [] []) [.sl ba bn bc bg, .sl (some (n2, 0)) 1 1 0] H (fun r H' => r = .b false ∧ Kp H H') := by
 refine Ev_C (F := x60) rfl ?_
 have bhl := bhb.length
 subst bhl
 have hO0 := Old.refl hok
 have hlt_n2 := hok _ _ hn2
 refine sr ?_
 refine pv (.b false) rfl ?_
 refine O_nil ?_
 refine C_seq ?_
 refine sr ?_
 refine pv (.sl ba b.length bc bg) rfl ?_
 refine O_p (.i .i64 (((b.length : Nat)) : Int)) (r_len rfl) ?_
 refine pv (.sl (some (n2, 0)) 1 1 0) rfl ?_
 refine O_p (.i .i64 1) (r_len rfl) ?_
 refine O_p (.b true) (by exact (by rw [r_neq rfl rfl, decide_eq_false (by first | omega | assumption)]; rfl)) ?_
 refine O_nil ?_
 refine C_cond (x := true) rfl (fun _ => ?_) (fun h => by cases h)
 refine sr ?_
 refine pv (.b false) rfl ?_
 refine O_nil ?_
 refine C_ret ?_
 refine nx_ret ?_
 exact ⟨.inr rfl, _, resL_one (r_tmp (v := .b false) rfl), rfl, hO0⟩
theorem eq_b {H : AH} (hok : H.Ok) {ba : Option (Nat × Nat)} {bn bc bg : Nat} (bhg : bg = 0 ∨ bg = 1) {b : List UInt8} (bhb : Bs H (.sl ba bn bc bg) b) (bhc : bn ≤ bc) (bhm : bc ≤ 9223372036854775807) {n2 : Nat} (hn2 : H.get n2 = some (.cells [.i .u8 2] true)) (hl : b.length = 1) (h2 : ¬ ((b.getD 0 0).toNat : Int) = 2) : Ev tabV spV (.fn (.func 60) [] []) [.sl ba bn bc bg, .sl (some (n2, 0)) 1 1 0] H (fun r H' => r = .b false ∧ Kp H H') := by
 refine Ev_C (F := x60) rfl ?_
 have bhl := bhb.length
 subst bhl
 have hO0 := Old.refl hok
 have hlt_n2 := hok _ _ hn2
 refine sr ?_
 refine pv (.b false) rfl ?_
 refine O_nil ?_
 refine C_seq ?_
 refine sr ?_
 refine pv (.sl ba b.length bc bg) rfl ?_
 refine O_p (.i .i64 (((b.length : Nat)) : Int)) (r_len rfl) ?_
 refine pv (.sl (some (n2, 0)) 1 1 0) rfl ?_
 refine O_p (.i .i64 1) (r_len rfl) ?_
 refine O_p (.b false) (by exact (by rw [r_neq rfl rfl, decide_eq_true (by first | omega | assumption)]; rfl)) ?_
 refine O_nil ?_
 refine C_cond (x := false) rfl (fun h => by cases h) (fun _ => ?_)
 refine C_skip ?_
 refine C_seq ?_
 refine sr ?_
 refine pv (.sl ba b.length bc bg) rfl ?_
 refine O_p (.i .i64 (((b.length : Nat)) : Int)) (r_len rfl) ?_
 refine pv (.i .i64 0) rfl ?_
 refine O_nil ?_
 refine C_block ?_
 refine C_loop ?_
 refine sr ?_
 refine O_p (.b true) (by exact (by rw [r_lss rfl rfl, decide_eq_true (by first | omega | assumption)])) ?_
 refine O_nil ?_
 refine C_seq ?_
 refine C_cond (x := true) rfl (fun _ => ?_) (fun h => by cases h)
 refine C_skip ?_
 refine C_seq ?_
 refine C_block ?_
 refine sr ?_
 refine pv (.i .i64 0) rfl ?_
 refine pv (.i .i64 0) rfl ?_
 refine O_nil ?_
 refine C_seq ?_
 refine C_draw fun b1 H2 hbase3 hA4 => ?_
 have hnx5 : H2.next = H.next + 9 := hA4.1
 have hb6 := (hA4.2 _).trans hn2
 have hF7 := hA4.fr (fun _ => False)
 have hO8 := hO0.aside hA4
 have hx_hO8 := hO8.next
 have hlt_n2 : n2 < H2.next := by omega
 refine D_l (v := (.sl ba b.length bc bg)) rfl rfl rfl (r_mv rfl) ?_
 refine D_l (v := (.i .i64 0)) rfl rfl rfl (r_mv rfl) ?_
 refine D_q rfl rfl rfl (by exact Bs.ix0 bhb rfl (i := 0) rfl (by first | omega | (simp only [List.length_take, List.length_drop, List.length_append, List.length_cons, List.length_nil, beN_len] <;> omega))) fun v10 hv9 => ?_
 refine D_l (v := (.sl (some (n2, 0)) 1 1 0)) rfl rfl rfl (r_mv rfl) ?_
 refine D_l (v := (.i .i64 0)) rfl rfl rfl (r_mv rfl) ?_
 refine D_l (v := (.p (some (n2, 0)))) rfl rfl rfl (by exact (r_isl' rfl rfl (by decide) (by decide) rfl)) ?_
 refine D_r (v := (.i .u8 ((b.getD 0 0).toNat : Int))) rfl rfl rfl ((hv9.old hok hO8).load rfl) ?_
 refine D_r (v := (.i .u8 2)) rfl rfl rfl (r_ld rfl hb6 rfl) ?_
 refine D_l (v := (.b true)) rfl rfl rfl (by exact (by rw [r_neq rfl rfl, decide_eq_false (by first | omega | assumption)]; rfl)) ?_
 refine D_nil ?_
 refine C_cond (x := true) rfl (fun _ => ?_) (fun h => by cases h)
 refine sr ?_
 refine pv (.b false) rfl ?_
 refine O_nil ?_
 refine C_ret ?_
 refine bk_ret ?_
 refine nx_ret ?_
 refine nx_ret ?_
 refine bk_ret ?_
 refine nx_ret ?_
 exact ⟨.inr rfl, _, resL_one (r_tmp (v := .b false) rfl), rfl, hO8⟩
theorem eq_c {H : AH} (hok : H.Ok) {ba : Option (Nat × Nat)} {bn bc bg : Nat} (bhg : bg = 0 ∨ bg = 1) {b : List UInt8} (bhb : Bs H (.sl ba bn bc bg) b) (bhc : bn ≤ bc) (bhm : bc ≤ 9223372036854775807) {n2 : Nat} (hn2 : H.get n2 = some (.cells [.i .u8 2] true)) (hl : b.length = 1) (h2 : ((b.getD 0 0).toNat : Int) = 2) : Ev tabV spV (.fn (.func 60) [] []) [.sl ba bn bc bg, .sl (some (n2, 0)) 1 1 0] H (fun r H' => r = .b true ∧ Kp H H') := by
 refine Ev_C (F := x60) rfl ?_
 have bhl := bhb.length
 subst bhl
 have hO0 := Old.refl hok
 have hlt_n2 := hok _ _ hn2
 refine sr ?_
 refine pv (.b false) rfl ?_
 refine O_nil ?_
 refine C_seq ?_
 refine sr ?_
 refine pv (.sl ba b.length bc bg) rfl ?_
 refine O_p (.i .i64 (((b.length : Nat)) : Int)) (r_len rfl) ?_
 refine pv (.sl (some (n2, 0)) 1 1 0) rfl ?_
 refine O_p (.i .i64 1) (r_len rfl) ?_
 refine O_p (.b false) (by exact (by rw [r_neq rfl rfl, decide_eq_true (by first | omega | assumption)]; rfl)) ?_
 refine O_nil ?_
 refine C_cond (x := false) rfl (fun h => by cases h) (fun _ => ?_)
 refine C_skip ?_
 refine C_seq ?_
 refine sr ?_
 refine pv (.sl ba b.length bc bg) rfl ?_
 refine O_p (.i .i64 (((b.length : Nat)) : Int)) (r_len rfl) ?_
 refine pv (.i .i64 0) rfl ?_
 refine O_nil ?_
 refine C_block ?_
 refine C_loop ?_
 refine sr ?_
 refine O_p (.b true) (by exact (by rw [r_lss rfl rfl, decide_eq_true (by first | omega | assumption)])) ?_
 refine O_nil ?_
 refine C_seq ?_
 refine C_cond (x := true) rfl (fun _ => ?_) (fun h => by cases h)
 refine C_skip ?_
 refine C_seq ?_
 refine C_block ?_
 refine sr ?_
 refine pv (.i .i64 0) rfl ?_
 refine pv (.i .i64 0) rfl ?_
 refine O_nil ?_
 refine C_seq ?_
 refine C_draw fun b1 H2 hbase3 hA4 => ?_
 have hnx5 : H2.next = H.next + 9 := hA4.1
 have hb6 := (hA4.2 _).trans hn2
 have hF7 := hA4.fr (fun _ => False)
 have hO8 := hO0.aside hA4
 have hx_hO8 := hO8.next
 have hlt_n2 : n2 < H2.next := by omega
 refine D_l (v := (.sl ba b.length bc bg)) rfl rfl rfl (r_mv rfl) ?_
 refine D_l (v := (.i .i64 0)) rfl rfl rfl (r_mv rfl) ?_
 refine D_q rfl rfl rfl (by exact Bs.ix0 bhb rfl (i := 0) rfl (by first | omega | (simp only [List.length_take, List.length_drop, List.length_append, List.length_cons, List.length_nil, beN_len] <;> omega))) fun v10 hv9 => ?_
 refine D_l (v := (.sl (some (n2, 0)) 1 1 0)) rfl rfl rfl (r_mv rfl) ?_
 refine D_l (v := (.i .i64 0)) rfl rfl rfl (r_mv rfl) ?_
 refine D_l (v := (.p (some (n2, 0)))) rfl rfl rfl (by exact (r_isl' rfl rfl (by decide) (by decide) rfl)) ?_
 refine D_r (v := (.i .u8 ((b.getD 0 0).toNat : Int))) rfl rfl rfl ((hv9.old hok hO8).load rfl) ?_
 refine D_r (v := (.i .u8 2)) rfl rfl rfl (r_ld rfl hb6 rfl) ?_
 refine D_l (v := (.b false)) rfl rfl rfl (by exact (by rw [r_neq rfl rfl, decide_eq_true (by first | omega | assumption)]; rfl)) ?_
 refine D_nil ?_
 refine C_cond (x := false) rfl (fun h => by cases h) (fun _ => ?_)
 refine C_skip ?_
 refine C_region ?_
 refine O_p (.i .i64 1) (r_bin rfl rfl rfl) ?_
 refine pv (.i .i64 1) rfl ?_
 refine O_nil ?_
 refine C_loop ?_
 refine sr ?_
 refine O_p (.b false) (by exact (by rw [r_lss rfl rfl, decide_eq_false (by first | omega | assumption)])) ?_
 refine O_nil ?_
 refine C_seq ?_
 refine C_cond (x := false) rfl (fun h => by cases h) (fun _ => ?_)
 refine C_exit ?_
 refine nx_exit ?_
 refine nx_exit ?_
 refine bk_hit ?_
 refine sr ?_
 refine pv (.b true) rfl ?_
 refine O_nil ?_
 refine C_ret ?_
 exact ⟨.inr rfl, _, resL_one (r_tmp (v := .b true) rfl), rfl, hO8⟩
theorem two_iff {b : List UInt8} : b = [2] ↔ b.length = 1 ∧ ((b.getD 0 0).toNat : Int) = 2 := by
  constructor
  · rintro rfl; exact ⟨rfl, rfl⟩
  · rintro ⟨h1, h2⟩
    match b, h1 with
    | [x], _ => have e : x.toNat = 2 := by have h3 : ((x.toNat : Nat) : Int) = 2 := h2; omega
                rw [show x = 2 from UInt8.toNat_inj.1 e]
theorem eq_ev {H : AH} (hok : H.Ok) {ba : Option (Nat × Nat)} {bn bc bg : Nat} (bhg : bg = 0 ∨ bg = 1) {b : List UInt8} (bhb : Bs H (.sl ba bn bc bg) b) (bhc : bn ≤ bc) (bhm : bc ≤ 9223372036854775807) {n2 : Nat} (hn2 : H.get n2 = some (.cells [.i .u8 2] true)) : Ev tabV spV (.fn (.func 60) [] []) [.sl ba bn bc bg, .sl (some (n2, 0)) 1 1 0] H (fun r H' => r = .b (decide (b = [2])) ∧ Kp H H') := by
  by_cases hl : b.length = 1
  · by_cases h2 : ((b.getD 0 0).toNat : Int) = 2
    · rw [decide_eq_true (two_iff.2 ⟨hl, h2⟩)]; exact eq_c hok bhg bhb bhc bhm hn2 hl h2
    · rw [decide_eq_false (fun h => h2 (two_iff.1 h).2)]; exact eq_b hok bhg bhb bhc bhm hn2 hl h2
  · rw [decide_eq_false (fun h => hl (two_iff.1 h).1)]; exact eq_a hok bhg bhb bhc bhm hn2 hl
theorem ack_0 {H : AH} {Lb : Nat} {cs : List Ch} {R : HL} {k : Nat} (c : Ch) (hk : k < cs.length) (h0 : c.st = 0) (hH0 : Hs H ([(Lb, some (.cells ((cs.map Ch.row).set k (Ch.row c)).flatten true))] ++ R)) : Ev tabV spV (.fn (.func 61) [] []) [.p (some (Lb, k * 8 + 0)), .i .u16 k] H (fun r H' => r = .tup [.agg (HR.cells (.none 0 []) (.sl none 0 0 0)), .i .i64 8] ∧ Hs H' ([(Lb, some (.cells ((cs.map Ch.row).set k (Ch.row c)).flatten true))] ++ R)) := by
 refine Ev_C (F := x61) rfl ?_
 refine sr ?_
 refine O_alloc fun n1 H2 hN3 => ?_
 have hH4 := hH0.new hN3
 refine pv (.i .i64 0) rfl ?_
 refine O_nil ?_
 refine C_seq ?_
 refine sr ?_
 refine pv (.p (some (Lb, (k * 8 + 0)))) rfl ?_
 refine O_p (.p (some (Lb, (k * 8 + 0)))) (r_nilc rfl) ?_
 refine pf (.p (some (Lb, (k * 8 + 0)))) rfl rfl ?_
 refine O_p (.i .i64 c.st) (by exact (r_ld rfl hH4.get1 ((foc_get (rows_map Ch.row_len cs) (by rw [List.length_map]; exact hk) rfl (by decide)).trans rfl))) ?_
 refine O_nil ?_
 refine C_block ?_
 refine sr ?_
 refine O_p (.b true) (by exact (by rw [r_eql rfl rfl, decide_eq_true (by first | omega | assumption)])) ?_
 refine pv (.b true) rfl ?_
 refine O_nil ?_
 refine C_cond (x := true) rfl (fun _ => ?_) (fun h => by cases h)
 refine sr ?_
 refine O_p (.agg zHPAAA ) (r_build rfl) ?_
 refine O_store (vs := zHPAAA ) (c' := zHPAAA ) rfl (by rfl) hH4.get0 rfl (List.cons_ne_nil _ _) (Nat.le_of_ble_eq_true rfl) rfl fun H5 hW6 => ?_
 have hH7 := hH4.wr0 hW6
 refine pv (.i .i64 8) rfl ?_
 refine O_nil ?_
 refine C_ret ?_
 refine bk_ret ?_
 refine nx_ret ?_
 have hcell := hH7.get0
 have hH8 := (hH7.sub0)
 exact ⟨.inr rfl, _, resL_cons (r_cellA rfl hcell rfl) (resL_one (r_tmp (v := (.i .i64 8)) rfl)), rfl, hH8⟩
theorem ack_1 {H : AH} {Lb : Nat} {cs : List Ch} {R : HL} {k : Nat} (c : Ch) (hk : k < cs.length) (h0 : c.st = 1) (hH0 : Hs H ([(Lb, some (.cells ((cs.map Ch.row).set k (Ch.row c)).flatten true))] ++ R)) : Ev tabV spV (.fn (.func 61) [] []) [.p (some (Lb, k * 8 + 0)), .i .u16 k] H (fun r H' => r = .tup [.agg [.i .i64 2, .i .u16 k, .i .u8 c.kind, .i .u16 c.prio, .i .u32 c.limit, .s (txt c.label), .s (txt c.proto), .b false, .sl none 0 0 0], .i .i64 0] ∧ Hs H' ([(Lb, some (.cells ((cs.map Ch.row).set k (Ch.row (c.to 2))).flatten true))] ++ R)) := by
 refine Ev_C (F := x61) rfl ?_
 refine sr ?_
 refine O_alloc fun n1 H2 hN3 => ?_
 have hH4 := hH0.new hN3
 refine pv (.i .i64 0) rfl ?_
 refine O_nil ?_
 refine C_seq ?_
 refine sr ?_
 refine pv (.p (some (Lb, (k * 8 + 0)))) rfl ?_
 refine O_p (.p (some (Lb, (k * 8 + 0)))) (r_nilc rfl) ?_
 refine pf (.p (some (Lb, (k * 8 + 0)))) rfl rfl ?_
 refine O_p (.i .i64 c.st) (by exact (r_ld rfl hH4.get1 ((foc_get (rows_map Ch.row_len cs) (by rw [List.length_map]; exact hk) rfl (by decide)).trans rfl))) ?_
 refine O_nil ?_
 refine C_block ?_
 refine sr ?_
 refine O_p (.b false) (by exact (by rw [r_eql rfl rfl, decide_eq_false (by first | omega | assumption)])) ?_
 refine pv (.b false) rfl ?_
 refine O_nil ?_
 refine C_cond (x := false) rfl (fun h => by cases h) (fun _ => ?_)
 refine sr ?_
 refine O_p (.b true) (by exact (by rw [r_eql rfl rfl, decide_eq_true (by first | omega | assumption)])) ?_
 refine pv (.b true) rfl ?_
 refine O_nil ?_
 refine C_cond (x := true) rfl (fun _ => ?_) (fun h => by cases h)
 refine sr ?_
 refine pv (.p (some (Lb, (k * 8 + 0)))) rfl ?_
 refine O_p (.p (some (Lb, (k * 8 + 0)))) (r_nilc rfl) ?_
 refine pf (.p (some (Lb, (k * 8 + 0)))) rfl rfl ?_
 refine O_store (vs := [(.i .i64 2)]) (c' := ((cs.map Ch.row).set k [(.i .i64 2), (.i .u8 c.kind), (.i .u16 c.prio), (.i .u32 c.limit), (.s (txt c.label)), (.s (txt c.proto)), (.b c.mine), (.b c.theirs)]).flatten) rfl (by rfl) hH4.get1 rfl (List.cons_ne_nil _ _) (foc_len (n := 1) (rows_map Ch.row_len cs) (by rw [List.length_map]; exact hk) rfl (Nat.le_of_ble_eq_true rfl)) (foc_put (rows_map Ch.row_len cs) (by rw [List.length_map]; exact hk) rfl (Nat.le_of_ble_eq_true rfl) rfl) fun H5 hW6 => ?_
 have hH7 := hH4.wr1 hW6
 refine O_nil (sr ?_)
 refine pv (.i .u16 ((k : Nat) : Int)) rfl ?_
 refine pv (.p (some (Lb, (k * 8 + 0)))) rfl ?_
 refine O_p (.p (some (Lb, (k * 8 + 0)))) (r_nilc rfl) ?_
 refine pf (.p (some (Lb, (k * 8 + 1)))) rfl rfl ?_
 refine O_p (.agg [(.i .u8 c.kind), (.i .u16 c.prio), (.i .u32 c.limit), (.s (txt c.label)), (.s (txt c.proto))]) (by exact (r_ldA rfl hH7.get1 ((foc_take (rows_map Ch.row_len cs) (by rw [List.length_map]; exact hk) rfl (by decide)).trans rfl))) ?_
 refine O_p (.agg [(.i .i64 2), (.i .u16 ((k : Nat) : Int)), (.i .u8 c.kind), (.i .u16 c.prio), (.i .u32 c.limit), (.s (txt c.label)), (.s (txt c.proto)), (.b false), (.sl none 0 0 0)]) (r_build rfl) ?_
 refine O_store (vs := [(.i .i64 2), (.i .u16 ((k : Nat) : Int)), (.i .u8 c.kind), (.i .u16 c.prio), (.i .u32 c.limit), (.s (txt c.label)), (.s (txt c.proto)), (.b false), (.sl none 0 0 0)]) (c' := [(.i .i64 2), (.i .u16 ((k : Nat) : Int)), (.i .u8 c.kind), (.i .u16 c.prio), (.i .u32 c.limit), (.s (txt c.label)), (.s (txt c.proto)), (.b false), (.sl none 0 0 0)]) rfl (by rfl) hH7.get0 rfl (List.cons_ne_nil _ _) (Nat.le_of_ble_eq_true rfl) rfl fun H8 hW9 => ?_
 have hH10 := hH7.wr0 hW9
 refine pv (.i .i64 0) rfl ?_
 refine O_nil ?_
 refine C_ret ?_
 refine bk_ret ?_
 refine nx_ret ?_
 have hcell := hH10.get0
 have hH11 := (hH10.sub0)
 exact ⟨.inr rfl, _, resL_cons (r_cellA rfl hcell rfl) (resL_one (r_tmp (v := (.i .i64 0)) rfl)), rfl, hH11⟩
theorem ack_2 {H : AH} {Lb : Nat} {cs : List Ch} {R : HL} {k : Nat} (c : Ch) (hk : k < cs.length) (h0 : ¬ c.st = 0) (h1 : ¬ c.st = 1) (hH0 : Hs H ([(Lb, some (.cells ((cs.map Ch.row).set k (Ch.row c)).flatten true))] ++ R)) : Ev tabV spV (.fn (.func 61) [] []) [.p (some (Lb, k * 8 + 0)), .i .u16 k] H (fun r H' => r = .tup [.agg (HR.cells (.none 0 []) (.sl none 0 0 0)), .i .i64 0] ∧ Hs H' ([(Lb, some (.cells ((cs.map Ch.row).set k (Ch.row c)).flatten true))] ++ R)) := by
 refine Ev_C (F := x61) rfl ?_
 refine sr ?_
 refine O_alloc fun n1 H2 hN3 => ?_
 have hH4 := hH0.new hN3
 refine pv (.i .i64 0) rfl ?_
 refine O_nil ?_
 refine C_seq ?_
 refine sr ?_
 refine pv (.p (some (Lb, (k * 8 + 0)))) rfl ?_
 refine O_p (.p (some (Lb, (k * 8 + 0)))) (r_nilc rfl) ?_
 refine pf (.p (some (Lb, (k * 8 + 0)))) rfl rfl ?_
 refine O_p (.i .i64 c.st) (by exact (r_ld rfl hH4.get1 ((foc_get (rows_map Ch.row_len cs) (by rw [List.length_map]; exact hk) rfl (by decide)).trans rfl))) ?_
 refine O_nil ?_
 refine C_block ?_
 refine sr ?_
 refine O_p (.b false) (by exact (by rw [r_eql rfl rfl, decide_eq_false (by first | omega | assumption)])) ?_
 refine pv (.b false) rfl ?_
 refine O_nil ?_
 refine C_cond (x := false) rfl (fun h => by cases h) (fun _ => ?_)
 refine sr ?_
 refine O_p (.b false) (by exact (by rw [r_eql rfl rfl, decide_eq_false (by first | omega | assumption)])) ?_
 refine pv (.b false) rfl ?_
 refine O_nil ?_
 refine C_cond (x := false) rfl (fun h => by cases h) (fun _ => ?_)
 refine C_skip ?_
 refine sr ?_
 refine O_p (.agg zHPAAA ) (r_build rfl) ?_
 refine O_store (vs := zHPAAA ) (c' := zHPAAA ) rfl (by rfl) hH4.get0 rfl (List.cons_ne_nil _ _) (Nat.le_of_ble_eq_true rfl) rfl fun H5 hW6 => ?_
 have hH7 := hH4.wr0 hW6
 refine pv (.i .i64 0) rfl ?_
 refine O_nil ?_
 refine C_ret ?_
 have hcell := hH7.get0
 have hH8 := (hH7.sub0)
 exact ⟨.inr rfl, _, resL_cons (r_cellA rfl hcell rfl) (resL_one (r_tmp (v := (.i .i64 0)) rfl)), rfl, hH8⟩
theorem own_v {H : AH} {T Lb : Nat} {cs : List Ch} {even : Bool} (hok : H.Ok) (hT : H.get T = some (.cells [.sl (some (Lb, 0)) cs.length cs.length 0, .b even] true)) (k : Nat) (hk : k < 9223372036854775808) {v : Bool} (h : ownB k even = v) : Ev tabV spV (.fn (.func 49) [] []) [.p (some (T, 0)), .i .i64 k] H (fun r H' => r = .b v ∧ H' = H) := (own_ev hok hT k hk).mono fun r H' hq => ⟨hq.1.trans (congrArg AV.b h), hq.2⟩
structure HC (cs : List Ch) (k : Nat) (B : HL) (ppid : Int) (da : Option (Nat × Nat)) (dc dg : Nat) (b : List UInt8) : Prop where
 hk16 : k < 65536
 hcs : cs.length ≤ 64
 htB : ∀ H', Hs H' B → Tb H'
 dhg : dg = 0 ∨ dg = 1
 hb : ∀ H', Hs H' B → Bs H' (.sl da b.length dc dg) b
 dhc : b.length ≤ dc
 dhm : dc ≤ 9223372036854775807
 dfit : b.length ≤ 1073741824
abbrev HearEv (n : Nat) (xs : List AV) (H : AH) (T Lb : Nat) (cs : List Ch) (even : Bool) (B R : HL) (k : Nat) (un : Bool) (ppid : Int) (da : Option (Nat × Nat)) (dc dg : Nat) (b : List UInt8) : Prop := Hs H ([(T, some (.cells [.sl (some (Lb, 0)) cs.length cs.length 0, .b even] true))] ++ ([(Lb, some (.cells ((cs).map Ch.row).flatten true))] ++ (B ++ R))) → Ev tabV spV (.fn (.func n) [] []) (.p (some (T, 0)) :: .agg [.i .u16 k, .b un, .i .u32 ppid, .sl da b.length dc dg] :: xs) H (fun r H' => HearP T Lb even B R (hear cs even k ppid b) r H')
section
variable {H : AH} {T Lb : Nat} {cs : List Ch} {even : Bool} {B R : HL} {k : Nat} {un : Bool} {ppid : Int} {da : Option (Nat × Nat)} {dc dg : Nat} {b : List UInt8}
theorem opened_e (hx : HC cs k B ppid da dc dg b) (hk : k < cs.length) (hp : ppid = 50) (hb2 : ¬ b = [2]) (hE : ¬ dErr b = 0) : HearEv 62 [.p (some (Lb, k * 8 + 0))] H T Lb cs even B R k un ppid da dc dg b := by
 obtain ⟨hk16, hcs, htB, dhg, hb, dhc, dhm, dfit⟩ := hx
 intro hH0
 refine Ev_C (F := x62) rfl ?_
 obtain ⟨c, hc⟩ := ex_at hk
 have hgd := getD_of hc
 try rw [hgd] at hs
 have hH1 := hH0.cong1 (seg_foc (n := Lb) (enc := Ch.row) hc)
 refine sr ?_
 refine O_box (z := [(.i .u16 ((k : Nat) : Int)), (.b un), (.i .u32 ppid), (.sl da b.length dc dg)]) rfl fun n2 H3 hN4 => ?_
 have hH5 := hH1.new hN4
 refine O_alloc fun n6 H7 hN8 => ?_
 have hH9 := hH5.new hN8
 refine pv (.sl none 0 0 0) rfl ?_
 refine pv (.i .i64 0) rfl ?_
 refine O_nil (sr ?_)
 refine pf (.p (some (n2, 3))) rfl rfl ?_
 refine O_p (.sl da b.length dc dg) (r_ld rfl hH9.get1 rfl) ?_
 refine O_call (Ev.mono (dec_ev hH9.ok (htB _ hH9.top4.fst) dhg (hb _ hH9.top4.fst) dhc dhm dfit) fun v10 H11 hq12 => ?_)
 obtain ⟨rfl, hK13⟩ := hq12
 have hH14 := (hH9.kp hK13)
 refine pv (.tup [(.agg [(.i .u8 (dK b)), (.i .u16 (dP b)), (.i .u32 (dL b)), (.s (txt (dT b))), (.s (txt (dO b)))]), (.i .i64 (dErr b))]) rfl ?_
 refine O_p (.agg [(.i .u8 (dK b)), (.i .u16 (dP b)), (.i .u32 (dL b)), (.s (txt (dT b))), (.s (txt (dO b)))]) (r_ext rfl rfl) ?_
 refine O_p (.i .i64 (dErr b)) (r_ext rfl rfl) ?_
 refine O_alloc fun n15 H16 hN17 => ?_
 have hH18 := hH14.new hN17
 refine O_store (vs := [(.i .u8 (dK b)), (.i .u16 (dP b)), (.i .u32 (dL b)), (.s (txt (dT b))), (.s (txt (dO b)))]) (c' := [(.i .u8 (dK b)), (.i .u16 (dP b)), (.i .u32 (dL b)), (.s (txt (dT b))), (.s (txt (dO b)))]) rfl (by rfl) hH18.get0 rfl (List.cons_ne_nil _ _) (Nat.le_of_ble_eq_true rfl) rfl fun H19 hW20 => ?_
 have hH21 := hH18.wr0 hW20
 refine pv (.i .i64 (dErr b)) rfl ?_
 refine O_nil ?_
 refine C_seq ?_
 refine C_block ?_
 refine sr ?_
 refine pv (.i .i64 (dErr b)) rfl ?_
 refine O_p (.b true) (by exact (by rw [r_neq rfl rfl, decide_eq_false (by first | omega | assumption)]; rfl)) ?_
 refine pv (.b true) rfl ?_
 refine O_nil ?_
 refine C_cond (x := true) rfl (fun _ => ?_) (fun h => by cases h)
 refine sr ?_
 refine O_p (.agg zHPAAA ) (r_build rfl) ?_
 refine pv (.i .i64 (dErr b)) rfl ?_
 refine O_store (vs := zHPAAA ) (c' := zHPAAA ) rfl (by rfl) hH21.get1 rfl (List.cons_ne_nil _ _) (Nat.le_of_ble_eq_true rfl) rfl fun H22 hW23 => ?_
 have hH24 := hH21.wr1 hW23
 refine pv (.sl none 0 0 0) rfl ?_
 refine pv (.i .i64 (dErr b)) rfl ?_
 refine O_nil ?_
 refine C_ret ?_
 refine bk_ret ?_
 refine nx_ret ?_
 have hcell := hH24.get1
 have hh : hear cs even k ppid b = .none (dErr b) cs := by unfold hear; rw [hgd]; rw [if_neg (by omega), if_pos hp, if_neg hb2, if_pos hE]
 have hH25 := (((hH24.sub0).sub0).sub0)
 have hH26 := (((hH25.top2).top2).top2)
 have hH27 := (Hs.cong1 hH26 (seg_foc (n := Lb) (enc := Ch.row) hc).symm)
 rw [hh]
 exact ⟨.inr rfl, _, resL_cons (r_cellA rfl hcell rfl) (resL_cons (r_tmp (v := (.sl none 0 0 0)) rfl) (resL_one (r_tmp (v := (.i .i64 (dErr b))) rfl))), HearP.nil rfl rfl rfl hH27⟩
theorem opened_s (hx : HC cs k B ppid da dc dg b) (hk : k < cs.length) (hp : ppid = 50) (hb2 : ¬ b = [2]) (hE : dErr b = 0) (hs : ¬ (cs.getD k ch0).st = 0) : HearEv 62 [.p (some (Lb, k * 8 + 0))] H T Lb cs even B R k un ppid da dc dg b := by
 obtain ⟨hk16, hcs, htB, dhg, hb, dhc, dhm, dfit⟩ := hx
 intro hH0
 refine Ev_C (F := x62) rfl ?_
 obtain ⟨c, hc⟩ := ex_at hk
 have hgd := getD_of hc
 try rw [hgd] at hs
 have hH1 := hH0.cong1 (seg_foc (n := Lb) (enc := Ch.row) hc)
 refine sr ?_
 refine O_box (z := [(.i .u16 ((k : Nat) : Int)), (.b un), (.i .u32 ppid), (.sl da b.length dc dg)]) rfl fun n2 H3 hN4 => ?_
 have hH5 := hH1.new hN4
 refine O_alloc fun n6 H7 hN8 => ?_
 have hH9 := hH5.new hN8
 refine pv (.sl none 0 0 0) rfl ?_
 refine pv (.i .i64 0) rfl ?_
 refine O_nil (sr ?_)
 refine pf (.p (some (n2, 3))) rfl rfl ?_
 refine O_p (.sl da b.length dc dg) (r_ld rfl hH9.get1 rfl) ?_
 refine O_call (Ev.mono (dec_ev hH9.ok (htB _ hH9.top4.fst) dhg (hb _ hH9.top4.fst) dhc dhm dfit) fun v10 H11 hq12 => ?_)
 obtain ⟨rfl, hK13⟩ := hq12
 have hH14 := (hH9.kp hK13)
 refine pv (.tup [(.agg [(.i .u8 (dK b)), (.i .u16 (dP b)), (.i .u32 (dL b)), (.s (txt (dT b))), (.s (txt (dO b)))]), (.i .i64 (dErr b))]) rfl ?_
 refine O_p (.agg [(.i .u8 (dK b)), (.i .u16 (dP b)), (.i .u32 (dL b)), (.s (txt (dT b))), (.s (txt (dO b)))]) (r_ext rfl rfl) ?_
 refine O_p (.i .i64 (dErr b)) (r_ext rfl rfl) ?_
 refine O_alloc fun n15 H16 hN17 => ?_
 have hH18 := hH14.new hN17
 refine O_store (vs := [(.i .u8 (dK b)), (.i .u16 (dP b)), (.i .u32 (dL b)), (.s (txt (dT b))), (.s (txt (dO b)))]) (c' := [(.i .u8 (dK b)), (.i .u16 (dP b)), (.i .u32 (dL b)), (.s (txt (dT b))), (.s (txt (dO b)))]) rfl (by rfl) hH18.get0 rfl (List.cons_ne_nil _ _) (Nat.le_of_ble_eq_true rfl) rfl fun H19 hW20 => ?_
 have hH21 := hH18.wr0 hW20
 refine pv (.i .i64 (dErr b)) rfl ?_
 refine O_nil ?_
 refine C_seq ?_
 refine C_block ?_
 refine sr ?_
 refine pv (.i .i64 (dErr b)) rfl ?_
 refine O_p (.b false) (by exact (by rw [r_neq rfl rfl, decide_eq_true (by first | omega | assumption)]; rfl)) ?_
 refine pv (.b false) rfl ?_
 refine O_nil ?_
 refine C_cond (x := false) rfl (fun h => by cases h) (fun _ => ?_)
 refine sr ?_
 refine pv (.p (some (Lb, (k * 8 + 0)))) rfl ?_
 refine O_p (.p (some (Lb, (k * 8 + 0)))) (r_nilc rfl) ?_
 refine pf (.p (some (Lb, (k * 8 + 0)))) rfl rfl ?_
 refine O_p (.i .i64 c.st) (by exact (r_ld rfl hH21.get4 ((foc_get (rows_map Ch.row_len cs) (by rw [List.length_map]; omega) rfl (by decide)).trans rfl))) ?_
 refine O_p (.b true) (by exact (by rw [r_neq rfl rfl, decide_eq_false (by first | omega | assumption)]; rfl)) ?_
 refine pv (.b true) rfl ?_
 refine O_gf rfl ?_
 refine O_gf rfl ?_
 refine O_gf rfl ?_
 refine O_gf rfl ?_
 refine O_gf rfl ?_
 refine O_p (.b true) (r_pick_t rfl rfl) ?_
 refine pv (.b true) rfl ?_
 refine O_nil ?_
 refine C_cond (x := true) rfl (fun _ => ?_) (fun h => by cases h)
 refine sr ?_
 refine O_p (.agg zHPAAA ) (r_build rfl) ?_
 refine O_store (vs := zHPAAA ) (c' := zHPAAA ) rfl (by rfl) hH21.get1 rfl (List.cons_ne_nil _ _) (Nat.le_of_ble_eq_true rfl) rfl fun H22 hW23 => ?_
 have hH24 := hH21.wr1 hW23
 refine pv (.sl none 0 0 0) rfl ?_
 refine pv (.i .i64 8) rfl ?_
 refine O_nil ?_
 refine C_ret ?_
 refine bk_ret ?_
 refine nx_ret ?_
 have hcell := hH24.get1
 have hh : hear cs even k ppid b = .none 8 cs := by unfold hear; rw [hgd]; rw [if_neg (by omega), if_pos hp, if_neg hb2, if_neg (by omega), if_pos (.inl hs)]
 have hH25 := (((hH24.sub0).sub0).sub0)
 have hH26 := (((hH25.top2).top2).top2)
 have hH27 := (Hs.cong1 hH26 (seg_foc (n := Lb) (enc := Ch.row) hc).symm)
 rw [hh]
 exact ⟨.inr rfl, _, resL_cons (r_cellA rfl hcell rfl) (resL_cons (r_tmp (v := (.sl none 0 0 0)) rfl) (resL_one (r_tmp (v := (.i .i64 8)) rfl))), HearP.nil rfl rfl rfl hH27⟩
theorem opened_o (hx : HC cs k B ppid da dc dg b) (hk : k < cs.length) (hp : ppid = 50) (hb2 : ¬ b = [2]) (hE : dErr b = 0) (hs : (cs.getD k ch0).st = 0) (hown : ownB k even = true) : HearEv 62 [.p (some (Lb, k * 8 + 0))] H T Lb cs even B R k un ppid da dc dg b := by
 obtain ⟨hk16, hcs, htB, dhg, hb, dhc, dhm, dfit⟩ := hx
 intro hH0
 refine Ev_C (F := x62) rfl ?_
 obtain ⟨c, hc⟩ := ex_at hk
 have hgd := getD_of hc
 try rw [hgd] at hs
 have hH1 := hH0.cong1 (seg_foc (n := Lb) (enc := Ch.row) hc)
 refine sr ?_
 refine O_box (z := [(.i .u16 ((k : Nat) : Int)), (.b un), (.i .u32 ppid), (.sl da b.length dc dg)]) rfl fun n2 H3 hN4 => ?_
 have hH5 := hH1.new hN4
 refine O_alloc fun n6 H7 hN8 => ?_
 have hH9 := hH5.new hN8
 refine pv (.sl none 0 0 0) rfl ?_
 refine pv (.i .i64 0) rfl ?_
 refine O_nil (sr ?_)
 refine pf (.p (some (n2, 3))) rfl rfl ?_
 refine O_p (.sl da b.length dc dg) (r_ld rfl hH9.get1 rfl) ?_
 refine O_call (Ev.mono (dec_ev hH9.ok (htB _ hH9.top4.fst) dhg (hb _ hH9.top4.fst) dhc dhm dfit) fun v10 H11 hq12 => ?_)
 obtain ⟨rfl, hK13⟩ := hq12
 have hH14 := (hH9.kp hK13)
 refine pv (.tup [(.agg [(.i .u8 (dK b)), (.i .u16 (dP b)), (.i .u32 (dL b)), (.s (txt (dT b))), (.s (txt (dO b)))]), (.i .i64 (dErr b))]) rfl ?_
 refine O_p (.agg [(.i .u8 (dK b)), (.i .u16 (dP b)), (.i .u32 (dL b)), (.s (txt (dT b))), (.s (txt (dO b)))]) (r_ext rfl rfl) ?_
 refine O_p (.i .i64 (dErr b)) (r_ext rfl rfl) ?_
 refine O_alloc fun n15 H16 hN17 => ?_
 have hH18 := hH14.new hN17
 refine O_store (vs := [(.i .u8 (dK b)), (.i .u16 (dP b)), (.i .u32 (dL b)), (.s (txt (dT b))), (.s (txt (dO b)))]) (c' := [(.i .u8 (dK b)), (.i .u16 (dP b)), (.i .u32 (dL b)), (.s (txt (dT b))), (.s (txt (dO b)))]) rfl (by rfl) hH18.get0 rfl (List.cons_ne_nil _ _) (Nat.le_of_ble_eq_true rfl) rfl fun H19 hW20 => ?_
 have hH21 := hH18.wr0 hW20
 refine pv (.i .i64 (dErr b)) rfl ?_
 refine O_nil ?_
 refine C_seq ?_
 refine C_block ?_
 refine sr ?_
 refine pv (.i .i64 (dErr b)) rfl ?_
 refine O_p (.b false) (by exact (by rw [r_neq rfl rfl, decide_eq_true (by first | omega | assumption)]; rfl)) ?_
 refine pv (.b false) rfl ?_
 refine O_nil ?_
 refine C_cond (x := false) rfl (fun h => by cases h) (fun _ => ?_)
 refine sr ?_
 refine pv (.p (some (Lb, (k * 8 + 0)))) rfl ?_
 refine O_p (.p (some (Lb, (k * 8 + 0)))) (r_nilc rfl) ?_
 refine pf (.p (some (Lb, (k * 8 + 0)))) rfl rfl ?_
 refine O_p (.i .i64 c.st) (by exact (r_ld rfl hH21.get4 ((foc_get (rows_map Ch.row_len cs) (by rw [List.length_map]; omega) rfl (by decide)).trans rfl))) ?_
 refine O_p (.b false) (by exact (by rw [r_neq rfl rfl, decide_eq_true (by first | omega | assumption)]; rfl)) ?_
 refine pv (.b false) rfl ?_
 refine O_gk rfl ?_
 refine pv (.p (some (T, 0))) rfl ?_
 refine O_gk rfl ?_
 refine pf (.p (some (n2, 0))) rfl rfl ?_
 refine O_gk rfl ?_
 refine O_p (.i .u16 ((k : Nat) : Int)) (r_ld rfl hH21.get2 rfl) ?_
 refine O_gk rfl ?_
 refine O_p (.i .i64 (((k : Nat)) : Int)) (by exact (r_cint' rfl (wrap_i64 (by omega) (by omega)))) ?_
 refine O_gk rfl ?_
 refine O_call (Ev.mono (own_v hH21.ok (hH21.get3) k (by omega) hown) fun v22 H23 hq24 => ?_)
 obtain ⟨rfl, hq24⟩ := hq24
 subst H23
 refine O_p (.b true) (r_pick_f rfl rfl) ?_
 refine pv (.b true) rfl ?_
 refine O_nil ?_
 refine C_cond (x := true) rfl (fun _ => ?_) (fun h => by cases h)
 refine sr ?_
 refine O_p (.agg zHPAAA ) (r_build rfl) ?_
 refine O_store (vs := zHPAAA ) (c' := zHPAAA ) rfl (by rfl) hH21.get1 rfl (List.cons_ne_nil _ _) (Nat.le_of_ble_eq_true rfl) rfl fun H25 hW26 => ?_
 have hH27 := hH21.wr1 hW26
 refine pv (.sl none 0 0 0) rfl ?_
 refine pv (.i .i64 8) rfl ?_
 refine O_nil ?_
 refine C_ret ?_
 refine bk_ret ?_
 refine nx_ret ?_
 have hcell := hH27.get1
 have hh : hear cs even k ppid b = .none 8 cs := by unfold hear; rw [hgd]; rw [if_neg (by omega), if_pos hp, if_neg hb2, if_neg (by omega), if_pos (.inr hown)]
 have hH28 := (((hH27.sub0).sub0).sub0)
 have hH29 := (((hH28.top2).top2).top2)
 have hH30 := (Hs.cong1 hH29 (seg_foc (n := Lb) (enc := Ch.row) hc).symm)
 rw [hh]
 exact ⟨.inr rfl, _, resL_cons (r_cellA rfl hcell rfl) (resL_cons (r_tmp (v := (.sl none 0 0 0)) rfl) (resL_one (r_tmp (v := (.i .i64 8)) rfl))), HearP.nil rfl rfl rfl hH30⟩
theorem opened_k (hx : HC cs k B ppid da dc dg b) (hk : k < cs.length) (hp : ppid = 50) (hb2 : ¬ b = [2]) (hE : dErr b = 0) (hs : (cs.getD k ch0).st = 0) (hown : ownB k even = false) : HearEv 62 [.p (some (Lb, k * 8 + 0))] H T Lb cs even B R k un ppid da dc dg b := by
 obtain ⟨hk16, hcs, htB, dhg, hb, dhc, dhm, dfit⟩ := hx
 intro hH0
 refine Ev_C (F := x62) rfl ?_
 obtain ⟨c, hc⟩ := ex_at hk
 have hgd := getD_of hc
 try rw [hgd] at hs
 have hH1 := hH0.cong1 (seg_foc (n := Lb) (enc := Ch.row) hc)
 refine sr ?_
 refine O_box (z := [(.i .u16 ((k : Nat) : Int)), (.b un), (.i .u32 ppid), (.sl da b.length dc dg)]) rfl fun n2 H3 hN4 => ?_
 have hH5 := hH1.new hN4
 refine O_alloc fun n6 H7 hN8 => ?_
 have hH9 := hH5.new hN8
 refine pv (.sl none 0 0 0) rfl ?_
 refine pv (.i .i64 0) rfl ?_
 refine O_nil (sr ?_)
 refine pf (.p (some (n2, 3))) rfl rfl ?_
 refine O_p (.sl da b.length dc dg) (r_ld rfl hH9.get1 rfl) ?_
 refine O_call (Ev.mono (dec_ev hH9.ok (htB _ hH9.top4.fst) dhg (hb _ hH9.top4.fst) dhc dhm dfit) fun v10 H11 hq12 => ?_)
 obtain ⟨rfl, hK13⟩ := hq12
 have hH14 := (hH9.kp hK13)
 refine pv (.tup [(.agg [(.i .u8 (dK b)), (.i .u16 (dP b)), (.i .u32 (dL b)), (.s (txt (dT b))), (.s (txt (dO b)))]), (.i .i64 (dErr b))]) rfl ?_
 refine O_p (.agg [(.i .u8 (dK b)), (.i .u16 (dP b)), (.i .u32 (dL b)), (.s (txt (dT b))), (.s (txt (dO b)))]) (r_ext rfl rfl) ?_
 refine O_p (.i .i64 (dErr b)) (r_ext rfl rfl) ?_
 refine O_alloc fun n15 H16 hN17 => ?_
 have hH18 := hH14.new hN17
 refine O_store (vs := [(.i .u8 (dK b)), (.i .u16 (dP b)), (.i .u32 (dL b)), (.s (txt (dT b))), (.s (txt (dO b)))]) (c' := [(.i .u8 (dK b)), (.i .u16 (dP b)), (.i .u32 (dL b)), (.s (txt (dT b))), (.s (txt (dO b)))]) rfl (by rfl) hH18.get0 rfl (List.cons_ne_nil _ _) (Nat.le_of_ble_eq_true rfl) rfl fun H19 hW20 => ?_
 have hH21 := hH18.wr0 hW20
 refine pv (.i .i64 (dErr b)) rfl ?_
 refine O_nil ?_
 refine C_seq ?_
 refine C_block ?_
 refine sr ?_
 refine pv (.i .i64 (dErr b)) rfl ?_
 refine O_p (.b false) (by exact (by rw [r_neq rfl rfl, decide_eq_true (by first | omega | assumption)]; rfl)) ?_
 refine pv (.b false) rfl ?_
 refine O_nil ?_
 refine C_cond (x := false) rfl (fun h => by cases h) (fun _ => ?_)
 refine sr ?_
 refine pv (.p (some (Lb, (k * 8 + 0)))) rfl ?_
 refine O_p (.p (some (Lb, (k * 8 + 0)))) (r_nilc rfl) ?_
 refine pf (.p (some (Lb, (k * 8 + 0)))) rfl rfl ?_
 refine O_p (.i .i64 c.st) (by exact (r_ld rfl hH21.get4 ((foc_get (rows_map Ch.row_len cs) (by rw [List.length_map]; omega) rfl (by decide)).trans rfl))) ?_
 refine O_p (.b false) (by exact (by rw [r_neq rfl rfl, decide_eq_true (by first | omega | assumption)]; rfl)) ?_
 refine pv (.b false) rfl ?_
 refine O_gk rfl ?_
 refine pv (.p (some (T, 0))) rfl ?_
 refine O_gk rfl ?_
 refine pf (.p (some (n2, 0))) rfl rfl ?_
 refine O_gk rfl ?_
 refine O_p (.i .u16 ((k : Nat) : Int)) (r_ld rfl hH21.get2 rfl) ?_
 refine O_gk rfl ?_
 refine O_p (.i .i64 (((k : Nat)) : Int)) (by exact (r_cint' rfl (wrap_i64 (by omega) (by omega)))) ?_
 refine O_gk rfl ?_
 refine O_call (Ev.mono (own_v hH21.ok (hH21.get3) k (by omega) hown) fun v22 H23 hq24 => ?_)
 obtain ⟨rfl, hq24⟩ := hq24
 subst H23
 refine O_p (.b false) (r_pick_f rfl rfl) ?_
 refine pv (.b false) rfl ?_
 refine O_nil ?_
 refine C_cond (x := false) rfl (fun h => by cases h) (fun _ => ?_)
 refine C_skip ?_
 refine sr ?_
 refine pv (.p (some (Lb, (k * 8 + 0)))) rfl ?_
 refine O_p (.agg [(.i .u8 (dK b)), (.i .u16 (dP b)), (.i .u32 (dL b)), (.s (txt (dT b))), (.s (txt (dO b)))]) (r_ldA rfl hH21.get0 rfl) ?_
 refine O_p (.agg [(.i .i64 2), (.i .u8 (dK b)), (.i .u16 (dP b)), (.i .u32 (dL b)), (.s (txt (dT b))), (.s (txt (dO b))), (.b false), (.b false)]) (r_build rfl) ?_
 refine O_p (.p (some (Lb, (k * 8 + 0)))) (r_nilc rfl) ?_
 refine O_store (vs := [(.i .i64 2), (.i .u8 (dK b)), (.i .u16 (dP b)), (.i .u32 (dL b)), (.s (txt (dT b))), (.s (txt (dO b))), (.b false), (.b false)]) (c' := ((cs.map Ch.row).set k [(.i .i64 2), (.i .u8 (dK b)), (.i .u16 (dP b)), (.i .u32 (dL b)), (.s (txt (dT b))), (.s (txt (dO b))), (.b false), (.b false)]).flatten) rfl (by rfl) hH21.get4 rfl (List.cons_ne_nil _ _) (foc_len (n := 8) (rows_map Ch.row_len cs) (by rw [List.length_map]; omega) rfl (Nat.le_of_ble_eq_true rfl)) (foc_put (rows_map Ch.row_len cs) (by rw [List.length_map]; omega) rfl (Nat.le_of_ble_eq_true rfl) rfl) fun H25 hW26 => ?_
 have hH27 := hH21.wr4 hW26
 refine O_nil (sr ?_)
 refine pf (.p (some (n2, 0))) rfl rfl ?_
 refine O_p (.i .u16 ((k : Nat) : Int)) (r_ld rfl hH27.get2 rfl) ?_
 refine O_p (.agg [(.i .u8 (dK b)), (.i .u16 (dP b)), (.i .u32 (dL b)), (.s (txt (dT b))), (.s (txt (dO b)))]) (r_ldA rfl hH27.get0 rfl) ?_
 refine O_p (.agg [(.i .i64 1), (.i .u16 ((k : Nat) : Int)), (.i .u8 (dK b)), (.i .u16 (dP b)), (.i .u32 (dL b)), (.s (txt (dT b))), (.s (txt (dO b))), (.b false), (.sl none 0 0 0)]) (r_build rfl) ?_
 refine O_bslice (c := [(.i .u8 2)]) rfl fun n28 H29 hN30 => ?_
 have hH31 := hH27.new hN30
 refine O_store (vs := [(.i .i64 1), (.i .u16 ((k : Nat) : Int)), (.i .u8 (dK b)), (.i .u16 (dP b)), (.i .u32 (dL b)), (.s (txt (dT b))), (.s (txt (dO b))), (.b false), (.sl none 0 0 0)]) (c' := [(.i .i64 1), (.i .u16 ((k : Nat) : Int)), (.i .u8 (dK b)), (.i .u16 (dP b)), (.i .u32 (dL b)), (.s (txt (dT b))), (.s (txt (dO b))), (.b false), (.sl none 0 0 0)]) rfl (by rfl) hH31.get2 rfl (List.cons_ne_nil _ _) (Nat.le_of_ble_eq_true rfl) rfl fun H32 hW33 => ?_
 have hH34 := hH31.wr2 hW33
 refine pv (.sl (some (n28, 0)) 1 1 0) rfl ?_
 refine pv (.i .i64 0) rfl ?_
 refine O_nil ?_
 refine C_ret ?_
 have hcell := hH34.get2
 have hh : hear cs even k ppid b = ⟨1, k, dK b, dP b, dL b, dT b, dO b, false, [], [2], 0, cs.set k ⟨2, dK b, dP b, dL b, dT b, dO b, false, false⟩⟩ := by unfold hear; rw [hgd]; rw [if_neg (by omega), if_pos hp, if_neg hb2, if_neg (by omega), if_neg (by rw [hown, hs]; decide)]
 have hH35 := (((hH34.sub1).sub1).sub1)
 have hH36 := ((((hH35.top3).top3).top3).top3)
 have hF := hH36
 have hH37 := (Hs.cong2 (B := [(Lb, some (.cells ((cs.set k ⟨2, dK b, dP b, dL b, dT b, dO b, false, false⟩).map Ch.row).flatten true))]) hF (seg_shut (enc := Ch.row) (c := ⟨2, dK b, dP b, dL b, dT b, dO b, false, false⟩)))
 rw [show cs.length = (cs.set k ⟨2, dK b, dP b, dL b, dT b, dO b, false, false⟩).length by rw [List.length_set]] at hH37
 rw [hh]
 exact ⟨.inr rfl, _, resL_cons (r_cellA rfl hcell rfl) (resL_cons (r_tmp (v := (.sl (some (n28, 0)) 1 1 0)) rfl) (resL_one (r_tmp (v := (.i .i64 0)) rfl))), none, 0, 0, 0, (.sl (some (n28, 0)) 1 1 0), _, [], rfl, .inl rfl, Nat.le_refl _, by omega, fun _ _ => .nil, Sq.full (b := n28) (n := 1) (g := 0) (sz := 1) (l := [.i .u8 2]) (.inl rfl) rfl, ⟨_, _, _, rfl, .inl rfl, Nat.le_refl _, by simp⟩, hH37⟩
end
theorem opened_ev {H : AH} {T Lb : Nat} {cs : List Ch} {even : Bool} {B R : HL} {k : Nat} (hk16 : k < 65536) (hcs : cs.length ≤ 64) (hk : k < cs.length) (htB : ∀ H', Hs H' B → Tb H') (un : Bool) (ppid : Int) {da : Option (Nat × Nat)} {dc dg : Nat} (dhg : dg = 0 ∨ dg = 1) {b : List UInt8} (hb : ∀ H', Hs H' B → Bs H' (.sl da b.length dc dg) b) (dhc : b.length ≤ dc) (dhm : dc ≤ 9223372036854775807) (dfit : b.length ≤ 1073741824) (hp : ppid = 50) (hb2 : ¬ b = [2]) (hH0 : Hs H ([(T, some (.cells [.sl (some (Lb, 0)) cs.length cs.length 0, .b even] true))] ++ ([(Lb, some (.cells ((cs).map Ch.row).flatten true))] ++ (B ++ R)))) : Ev tabV spV (.fn (.func 62) [] []) [.p (some (T, 0)), .agg [.i .u16 k, .b un, .i .u32 ppid, .sl da b.length dc dg], .p (some (Lb, k * 8 + 0))] H (fun r H' => HearP T Lb even B R (hear cs even k ppid b) r H') := by
  by_cases hE : dErr b = 0
  · by_cases hs : (cs.getD k ch0).st = 0
    · cases hown : ownB k even
      · exact opened_k ⟨hk16, hcs, htB, dhg, hb, dhc, dhm, dfit⟩ hk hp hb2 hE hs hown hH0
      · exact opened_o ⟨hk16, hcs, htB, dhg, hb, dhc, dhm, dfit⟩ hk hp hb2 hE hs hown hH0
    · exact opened_s ⟨hk16, hcs, htB, dhg, hb, dhc, dhm, dfit⟩ hk hp hb2 hE hs hH0
  · exact opened_e ⟨hk16, hcs, htB, dhg, hb, dhc, dhm, dfit⟩ hk hp hb2 hE hH0
section
variable {H : AH} {T Lb : Nat} {cs : List Ch} {even : Bool} {B R : HL} {k : Nat} {un : Bool} {ppid : Int} {da : Option (Nat × Nat)} {dc dg : Nat} {b : List UInt8}
theorem hear_out (hx : HC cs k B ppid da dc dg b) (hk : ¬ k < cs.length)  : HearEv 35 [] H T Lb cs even B R k un ppid da dc dg b := by
 obtain ⟨hk16, hcs, htB, dhg, hb, dhc, dhm, dfit⟩ := hx
 intro hH0
 refine Ev_C (F := x35) rfl ?_
 have hgd := getD_out hk
 refine sr ?_
 refine O_box (z := [(.i .u16 ((k : Nat) : Int)), (.b un), (.i .u32 ppid), (.sl da b.length dc dg)]) rfl fun n1 H2 hN3 => ?_
 have hH4 := hH0.new hN3
 refine O_alloc fun n5 H6 hN7 => ?_
 have hH8 := hH4.new hN7
 refine pv (.sl none 0 0 0) rfl ?_
 refine pv (.i .i64 0) rfl ?_
 refine O_nil (sr ?_)
 refine pv (.p (some (T, 0))) rfl ?_
 refine pf (.p (some (n1, 0))) rfl rfl ?_
 refine O_p (.i .u16 ((k : Nat) : Int)) (r_ld rfl hH8.get1 rfl) ?_
 refine O_call (Ev.mono (at_out hH8.ok (hH8.get2) hk16 hk) fun v9 H10 hq11 => ?_)
 obtain ⟨rfl, hq11⟩ := hq11
 subst H10
 refine pv (.p none) rfl ?_
 refine O_nil ?_
 refine C_seq ?_
 refine C_block ?_
 refine sr ?_
 refine pv (.p none) rfl ?_
 refine O_p (.b true) (r_nilq_n rfl) ?_
 refine pv (.b true) rfl ?_
 refine O_nil ?_
 refine C_cond (x := true) rfl (fun _ => ?_) (fun h => by cases h)
 refine sr ?_
 refine O_p (.agg zHPAAA ) (r_build rfl) ?_
 refine O_store (vs := zHPAAA ) (c' := zHPAAA ) rfl (by rfl) hH8.get0 rfl (List.cons_ne_nil _ _) (Nat.le_of_ble_eq_true rfl) rfl fun H12 hW13 => ?_
 have hH14 := hH8.wr0 hW13
 refine pv (.sl none 0 0 0) rfl ?_
 refine pv (.i .i64 1) rfl ?_
 refine O_nil ?_
 refine C_ret ?_
 refine bk_ret ?_
 refine nx_ret ?_
 have hcell := hH14.get0
 have hh : hear cs even k ppid b = .none 1 cs := by unfold hear; rw [hgd]; rw [if_pos hk]
 have hH15 := ((hH14.sub0).sub0)
 have hH16 := (((hH15.top2).top2).top2)
 rw [hh]
 exact ⟨.inr rfl, _, resL_cons (r_cellA rfl hcell rfl) (resL_cons (r_tmp (v := (.sl none 0 0 0)) rfl) (resL_one (r_tmp (v := (.i .i64 1)) rfl))), HearP.nil rfl rfl rfl hH16⟩
theorem hear_b0 (hx : HC cs k B ppid da dc dg b) (hk : k < cs.length) (hp : ppid = 50) (hb2 : b = [2]) (hs : (cs.getD k ch0).st = 0) : HearEv 35 [] H T Lb cs even B R k un ppid da dc dg b := by
 obtain ⟨hk16, hcs, htB, dhg, hb, dhc, dhm, dfit⟩ := hx
 intro hH0
 refine Ev_C (F := x35) rfl ?_
 obtain ⟨c, hc⟩ := ex_at hk
 have hgd := getD_of hc
 try rw [hgd] at hs
 have hH1 := hH0.cong1 (seg_foc (n := Lb) (enc := Ch.row) hc)
 refine sr ?_
 refine O_box (z := [(.i .u16 ((k : Nat) : Int)), (.b un), (.i .u32 ppid), (.sl da b.length dc dg)]) rfl fun n2 H3 hN4 => ?_
 have hH5 := hH1.new hN4
 refine O_alloc fun n6 H7 hN8 => ?_
 have hH9 := hH5.new hN8
 refine pv (.sl none 0 0 0) rfl ?_
 refine pv (.i .i64 0) rfl ?_
 refine O_nil (sr ?_)
 refine pv (.p (some (T, 0))) rfl ?_
 refine pf (.p (some (n2, 0))) rfl rfl ?_
 refine O_p (.i .u16 ((k : Nat) : Int)) (r_ld rfl hH9.get1 rfl) ?_
 refine O_call (Ev.mono (at_in hH9.ok (hH9.get2) hk16 hk) fun v10 H11 hq12 => ?_)
 obtain ⟨rfl, hq12⟩ := hq12
 subst H11
 refine pv (.p (some (Lb, (k * 8 + 0)))) rfl ?_
 refine O_nil ?_
 refine C_seq ?_
 refine C_block ?_
 refine sr ?_
 refine pv (.p (some (Lb, (k * 8 + 0)))) rfl ?_
 refine O_p (.b false) (r_nilq_s rfl) ?_
 refine pv (.b false) rfl ?_
 refine O_nil ?_
 refine C_cond (x := false) rfl (fun h => by cases h) (fun _ => ?_)
 refine sr ?_
 refine pf (.p (some (n2, 2))) rfl rfl ?_
 refine O_p (.i .u32 ppid) (r_ld rfl hH9.get1 rfl) ?_
 refine O_p (.b true) (by exact (by rw [r_eql rfl rfl, decide_eq_true (by first | omega | assumption)])) ?_
 refine pv (.b true) rfl ?_
 refine O_gk rfl ?_
 refine pf (.p (some (n2, 3))) rfl rfl ?_
 refine O_gk rfl ?_
 refine O_p (.sl da b.length dc dg) (r_ld rfl hH9.get1 rfl) ?_
 refine O_gk rfl ?_
 refine O_bslice (c := [(.i .u8 2)]) rfl fun n13 H14 hN15 => ?_
 have hH16 := hH9.new hN15
 refine O_gk rfl ?_
 refine O_call (Ev.mono (eq_ev hH16.ok dhg (hb _ hH16.top5.fst) dhc dhm (hH16.get0)) fun v17 H18 hq19 => ?_)
 rw [decide_eq_true hb2] at hq19
 obtain ⟨rfl, hK20⟩ := hq19
 have hH21 := (hH16.kp hK20)
 refine O_p (.b true) (r_pick_t rfl rfl) ?_
 refine pv (.b true) rfl ?_
 refine O_nil ?_
 refine C_cond (x := true) rfl (fun _ => ?_) (fun h => by cases h)
 refine sr ?_
 refine pv (.p (some (Lb, (k * 8 + 0)))) rfl ?_
 refine pf (.p (some (n2, 0))) rfl rfl ?_
 refine O_p (.i .u16 ((k : Nat) : Int)) (r_ld rfl hH21.get2 rfl) ?_
 have hH22 := (hH21.top4)
 refine O_call (Ev.mono (ack_0 c hk hs hH22) fun v23 H24 hq25 => ?_)
 obtain ⟨rfl, hH26⟩ := hq25
 refine pv (.tup [(.agg zHPAAA ), (.i .i64 8)]) rfl ?_
 refine O_p (.agg zHPAAA ) (r_ext rfl rfl) ?_
 refine O_p (.i .i64 8) (r_ext rfl rfl) ?_
 refine O_alloc fun n27 H28 hN29 => ?_
 have hH30 := hH26.new hN29
 refine O_store (vs := zHPAAA ) (c' := zHPAAA ) rfl (by rfl) hH30.get0 rfl (List.cons_ne_nil _ _) (Nat.le_of_ble_eq_true rfl) rfl fun H31 hW32 => ?_
 have hH33 := hH30.wr0 hW32
 refine pv (.i .i64 8) rfl ?_
 refine O_nil (sr ?_)
 refine O_p (.agg zHPAAA ) (r_ldA rfl hH33.get0 rfl) ?_
 refine pv (.i .i64 8) rfl ?_
 refine O_store (vs := zHPAAA ) (c' := zHPAAA ) rfl (by rfl) hH33.get3 rfl (List.cons_ne_nil _ _) (Nat.le_of_ble_eq_true rfl) rfl fun H34 hW35 => ?_
 have hH36 := hH33.wr3 hW35
 refine pv (.sl none 0 0 0) rfl ?_
 refine pv (.i .i64 8) rfl ?_
 refine O_nil ?_
 refine C_ret ?_
 refine bk_ret ?_
 refine nx_ret ?_
 have hcell := hH36.get3
 have hh : hear cs even k ppid b = .none 8 cs := by unfold hear; rw [hgd]; rw [if_neg (by omega), if_pos hp, if_pos hb2, if_pos hs]
 have hH37 := ((((hH36.sub0).sub1).sub1).sub1)
 have hH38 := (((hH37.top2).top1).top2)
 have hH39 := (Hs.cong1 hH38 (seg_foc (n := Lb) (enc := Ch.row) hc).symm)
 rw [hh]
 exact ⟨.inr rfl, _, resL_cons (r_cellA rfl hcell rfl) (resL_cons (r_tmp (v := (.sl none 0 0 0)) rfl) (resL_one (r_tmp (v := (.i .i64 8)) rfl))), HearP.nil rfl rfl rfl hH39⟩
theorem hear_b1 (hx : HC cs k B ppid da dc dg b) (hk : k < cs.length) (hp : ppid = 50) (hb2 : b = [2]) (hs : (cs.getD k ch0).st = 1) : HearEv 35 [] H T Lb cs even B R k un ppid da dc dg b := by
 obtain ⟨hk16, hcs, htB, dhg, hb, dhc, dhm, dfit⟩ := hx
 intro hH0
 refine Ev_C (F := x35) rfl ?_
 obtain ⟨c, hc⟩ := ex_at hk
 have hgd := getD_of hc
 try rw [hgd] at hs
 have hH1 := hH0.cong1 (seg_foc (n := Lb) (enc := Ch.row) hc)
 refine sr ?_
 refine O_box (z := [(.i .u16 ((k : Nat) : Int)), (.b un), (.i .u32 ppid), (.sl da b.length dc dg)]) rfl fun n2 H3 hN4 => ?_
 have hH5 := hH1.new hN4
 refine O_alloc fun n6 H7 hN8 => ?_
 have hH9 := hH5.new hN8
 refine pv (.sl none 0 0 0) rfl ?_
 refine pv (.i .i64 0) rfl ?_
 refine O_nil (sr ?_)
 refine pv (.p (some (T, 0))) rfl ?_
 refine pf (.p (some (n2, 0))) rfl rfl ?_
 refine O_p (.i .u16 ((k : Nat) : Int)) (r_ld rfl hH9.get1 rfl) ?_
 refine O_call (Ev.mono (at_in hH9.ok (hH9.get2) hk16 hk) fun v10 H11 hq12 => ?_)
 obtain ⟨rfl, hq12⟩ := hq12
 subst H11
 refine pv (.p (some (Lb, (k * 8 + 0)))) rfl ?_
 refine O_nil ?_
 refine C_seq ?_
 refine C_block ?_
 refine sr ?_
 refine pv (.p (some (Lb, (k * 8 + 0)))) rfl ?_
 refine O_p (.b false) (r_nilq_s rfl) ?_
 refine pv (.b false) rfl ?_
 refine O_nil ?_
 refine C_cond (x := false) rfl (fun h => by cases h) (fun _ => ?_)
 refine sr ?_
 refine pf (.p (some (n2, 2))) rfl rfl ?_
 refine O_p (.i .u32 ppid) (r_ld rfl hH9.get1 rfl) ?_
 refine O_p (.b true) (by exact (by rw [r_eql rfl rfl, decide_eq_true (by first | omega | assumption)])) ?_
 refine pv (.b true) rfl ?_
 refine O_gk rfl ?_
 refine pf (.p (some (n2, 3))) rfl rfl ?_
 refine O_gk rfl ?_
 refine O_p (.sl da b.length dc dg) (r_ld rfl hH9.get1 rfl) ?_
 refine O_gk rfl ?_
 refine O_bslice (c := [(.i .u8 2)]) rfl fun n13 H14 hN15 => ?_
 have hH16 := hH9.new hN15
 refine O_gk rfl ?_
 refine O_call (Ev.mono (eq_ev hH16.ok dhg (hb _ hH16.top5.fst) dhc dhm (hH16.get0)) fun v17 H18 hq19 => ?_)
 rw [decide_eq_true hb2] at hq19
 obtain ⟨rfl, hK20⟩ := hq19
 have hH21 := (hH16.kp hK20)
 refine O_p (.b true) (r_pick_t rfl rfl) ?_
 refine pv (.b true) rfl ?_
 refine O_nil ?_
 refine C_cond (x := true) rfl (fun _ => ?_) (fun h => by cases h)
 refine sr ?_
 refine pv (.p (some (Lb, (k * 8 + 0)))) rfl ?_
 refine pf (.p (some (n2, 0))) rfl rfl ?_
 refine O_p (.i .u16 ((k : Nat) : Int)) (r_ld rfl hH21.get2 rfl) ?_
 have hH22 := (hH21.top4)
 refine O_call (Ev.mono (ack_1 c hk hs hH22) fun v23 H24 hq25 => ?_)
 obtain ⟨rfl, hH26⟩ := hq25
 refine pv (.tup [(.agg [(.i .i64 2), (.i .u16 ((k : Nat) : Int)), (.i .u8 c.kind), (.i .u16 c.prio), (.i .u32 c.limit), (.s (txt c.label)), (.s (txt c.proto)), (.b false), (.sl none 0 0 0)]), (.i .i64 0)]) rfl ?_
 refine O_p (.agg [(.i .i64 2), (.i .u16 ((k : Nat) : Int)), (.i .u8 c.kind), (.i .u16 c.prio), (.i .u32 c.limit), (.s (txt c.label)), (.s (txt c.proto)), (.b false), (.sl none 0 0 0)]) (r_ext rfl rfl) ?_
 refine O_p (.i .i64 0) (r_ext rfl rfl) ?_
 refine O_alloc fun n27 H28 hN29 => ?_
 have hH30 := hH26.new hN29
 refine O_store (vs := [(.i .i64 2), (.i .u16 ((k : Nat) : Int)), (.i .u8 c.kind), (.i .u16 c.prio), (.i .u32 c.limit), (.s (txt c.label)), (.s (txt c.proto)), (.b false), (.sl none 0 0 0)]) (c' := [(.i .i64 2), (.i .u16 ((k : Nat) : Int)), (.i .u8 c.kind), (.i .u16 c.prio), (.i .u32 c.limit), (.s (txt c.label)), (.s (txt c.proto)), (.b false), (.sl none 0 0 0)]) rfl (by rfl) hH30.get0 rfl (List.cons_ne_nil _ _) (Nat.le_of_ble_eq_true rfl) rfl fun H31 hW32 => ?_
 have hH33 := hH30.wr0 hW32
 refine pv (.i .i64 0) rfl ?_
 refine O_nil (sr ?_)
 refine O_p (.agg [(.i .i64 2), (.i .u16 ((k : Nat) : Int)), (.i .u8 c.kind), (.i .u16 c.prio), (.i .u32 c.limit), (.s (txt c.label)), (.s (txt c.proto)), (.b false), (.sl none 0 0 0)]) (r_ldA rfl hH33.get0 rfl) ?_
 refine pv (.i .i64 0) rfl ?_
 refine O_store (vs := [(.i .i64 2), (.i .u16 ((k : Nat) : Int)), (.i .u8 c.kind), (.i .u16 c.prio), (.i .u32 c.limit), (.s (txt c.label)), (.s (txt c.proto)), (.b false), (.sl none 0 0 0)]) (c' := [(.i .i64 2), (.i .u16 ((k : Nat) : Int)), (.i .u8 c.kind), (.i .u16 c.prio), (.i .u32 c.limit), (.s (txt c.label)), (.s (txt c.proto)), (.b false), (.sl none 0 0 0)]) rfl (by rfl) hH33.get3 rfl (List.cons_ne_nil _ _) (Nat.le_of_ble_eq_true rfl) rfl fun H34 hW35 => ?_
 have hH36 := hH33.wr3 hW35
 refine pv (.sl none 0 0 0) rfl ?_
 refine pv (.i .i64 0) rfl ?_
 refine O_nil ?_
 refine C_ret ?_
 refine bk_ret ?_
 refine nx_ret ?_
 have hcell := hH36.get3
 have hh : hear cs even k ppid b = ⟨2, k, c.kind, c.prio, c.limit, c.label, c.proto, false, [], [], 0, cs.set k (c.to 2)⟩ := by unfold hear; rw [hgd]; rw [if_neg (by omega), if_pos hp, if_pos hb2, if_neg (by omega), if_pos hs]
 have hH37 := ((((hH36.sub0).sub1).sub1).sub1)
 have hH38 := (((hH37.top2).top1).top2)
 have hF := hH38
 have hH39 := (Hs.cong1 (B := [(Lb, some (.cells ((cs.set k (c.to 2)).map Ch.row).flatten true))]) hF (seg_shut (enc := Ch.row) (c := (c.to 2))))
 rw [show cs.length = (cs.set k (c.to 2)).length by rw [List.length_set]] at hH39
 rw [hh]
 exact ⟨.inr rfl, _, resL_cons (r_cellA rfl hcell rfl) (resL_cons (r_tmp (v := (.sl none 0 0 0)) rfl) (resL_one (r_tmp (v := (.i .i64 0)) rfl))), HearP.nil rfl rfl rfl hH39⟩
theorem hear_b2 (hx : HC cs k B ppid da dc dg b) (hk : k < cs.length) (hp : ppid = 50) (hb2 : b = [2]) (hs : ¬ ((cs.getD k ch0).st = 0 ∨ (cs.getD k ch0).st = 1)) : HearEv 35 [] H T Lb cs even B R k un ppid da dc dg b := by
 obtain ⟨hk16, hcs, htB, dhg, hb, dhc, dhm, dfit⟩ := hx
 intro hH0
 refine Ev_C (F := x35) rfl ?_
 obtain ⟨c, hc⟩ := ex_at hk
 have hgd := getD_of hc
 try rw [hgd] at hs
 have hH1 := hH0.cong1 (seg_foc (n := Lb) (enc := Ch.row) hc)
 refine sr ?_
 refine O_box (z := [(.i .u16 ((k : Nat) : Int)), (.b un), (.i .u32 ppid), (.sl da b.length dc dg)]) rfl fun n2 H3 hN4 => ?_
 have hH5 := hH1.new hN4
 refine O_alloc fun n6 H7 hN8 => ?_
 have hH9 := hH5.new hN8
 refine pv (.sl none 0 0 0) rfl ?_
 refine pv (.i .i64 0) rfl ?_
 refine O_nil (sr ?_)
 refine pv (.p (some (T, 0))) rfl ?_
 refine pf (.p (some (n2, 0))) rfl rfl ?_
 refine O_p (.i .u16 ((k : Nat) : Int)) (r_ld rfl hH9.get1 rfl) ?_
 refine O_call (Ev.mono (at_in hH9.ok (hH9.get2) hk16 hk) fun v10 H11 hq12 => ?_)
 obtain ⟨rfl, hq12⟩ := hq12
 subst H11
 refine pv (.p (some (Lb, (k * 8 + 0)))) rfl ?_
 refine O_nil ?_
 refine C_seq ?_
 refine C_block ?_
 refine sr ?_
 refine pv (.p (some (Lb, (k * 8 + 0)))) rfl ?_
 refine O_p (.b false) (r_nilq_s rfl) ?_
 refine pv (.b false) rfl ?_
 refine O_nil ?_
 refine C_cond (x := false) rfl (fun h => by cases h) (fun _ => ?_)
 refine sr ?_
 refine pf (.p (some (n2, 2))) rfl rfl ?_
 refine O_p (.i .u32 ppid) (r_ld rfl hH9.get1 rfl) ?_
 refine O_p (.b true) (by exact (by rw [r_eql rfl rfl, decide_eq_true (by first | omega | assumption)])) ?_
 refine pv (.b true) rfl ?_
 refine O_gk rfl ?_
 refine pf (.p (some (n2, 3))) rfl rfl ?_
 refine O_gk rfl ?_
 refine O_p (.sl da b.length dc dg) (r_ld rfl hH9.get1 rfl) ?_
 refine O_gk rfl ?_
 refine O_bslice (c := [(.i .u8 2)]) rfl fun n13 H14 hN15 => ?_
 have hH16 := hH9.new hN15
 refine O_gk rfl ?_
 refine O_call (Ev.mono (eq_ev hH16.ok dhg (hb _ hH16.top5.fst) dhc dhm (hH16.get0)) fun v17 H18 hq19 => ?_)
 rw [decide_eq_true hb2] at hq19
 obtain ⟨rfl, hK20⟩ := hq19
 have hH21 := (hH16.kp hK20)
 refine O_p (.b true) (r_pick_t rfl rfl) ?_
 refine pv (.b true) rfl ?_
 refine O_nil ?_
 refine C_cond (x := true) rfl (fun _ => ?_) (fun h => by cases h)
 refine sr ?_
 refine pv (.p (some (Lb, (k * 8 + 0)))) rfl ?_
 refine pf (.p (some (n2, 0))) rfl rfl ?_
 refine O_p (.i .u16 ((k : Nat) : Int)) (r_ld rfl hH21.get2 rfl) ?_
 have hH22 := (hH21.top4)
 refine O_call (Ev.mono (ack_2 c hk (by omega) (by omega) hH22) fun v23 H24 hq25 => ?_)
 obtain ⟨rfl, hH26⟩ := hq25
 refine pv (.tup [(.agg zHPAAA ), (.i .i64 0)]) rfl ?_
 refine O_p (.agg zHPAAA ) (r_ext rfl rfl) ?_
 refine O_p (.i .i64 0) (r_ext rfl rfl) ?_
 refine O_alloc fun n27 H28 hN29 => ?_
 have hH30 := hH26.new hN29
 refine O_store (vs := zHPAAA ) (c' := zHPAAA ) rfl (by rfl) hH30.get0 rfl (List.cons_ne_nil _ _) (Nat.le_of_ble_eq_true rfl) rfl fun H31 hW32 => ?_
 have hH33 := hH30.wr0 hW32
 refine pv (.i .i64 0) rfl ?_
 refine O_nil (sr ?_)
 refine O_p (.agg zHPAAA ) (r_ldA rfl hH33.get0 rfl) ?_
 refine pv (.i .i64 0) rfl ?_
 refine O_store (vs := zHPAAA ) (c' := zHPAAA ) rfl (by rfl) hH33.get3 rfl (List.cons_ne_nil _ _) (Nat.le_of_ble_eq_true rfl) rfl fun H34 hW35 => ?_
 have hH36 := hH33.wr3 hW35
 refine pv (.sl none 0 0 0) rfl ?_
 refine pv (.i .i64 0) rfl ?_
 refine O_nil ?_
 refine C_ret ?_
 refine bk_ret ?_
 refine nx_ret ?_
 have hcell := hH36.get3
 have hh : hear cs even k ppid b = .none 0 cs := by unfold hear; rw [hgd]; rw [if_neg (by omega), if_pos hp, if_pos hb2, if_neg (by omega), if_neg (by omega)]
 have hH37 := ((((hH36.sub0).sub1).sub1).sub1)
 have hH38 := (((hH37.top2).top1).top2)
 have hH39 := (Hs.cong1 hH38 (seg_foc (n := Lb) (enc := Ch.row) hc).symm)
 rw [hh]
 exact ⟨.inr rfl, _, resL_cons (r_cellA rfl hcell rfl) (resL_cons (r_tmp (v := (.sl none 0 0 0)) rfl) (resL_one (r_tmp (v := (.i .i64 0)) rfl))), HearP.nil rfl rfl rfl hH39⟩
theorem hear_c (hx : HC cs k B ppid da dc dg b) (hk : k < cs.length) (hp : ppid = 50) (hb2 : ¬ b = [2]) : HearEv 35 [] H T Lb cs even B R k un ppid da dc dg b := by
 obtain ⟨hk16, hcs, htB, dhg, hb, dhc, dhm, dfit⟩ := hx
 intro hH0
 refine Ev_C (F := x35) rfl ?_
 obtain ⟨c, hc⟩ := ex_at hk
 have hgd := getD_of hc
 try rw [hgd] at hs
 have hH1 := hH0.cong1 (seg_foc (n := Lb) (enc := Ch.row) hc)
 refine sr ?_
 refine O_box (z := [(.i .u16 ((k : Nat) : Int)), (.b un), (.i .u32 ppid), (.sl da b.length dc dg)]) rfl fun n2 H3 hN4 => ?_
 have hH5 := hH1.new hN4
 refine O_alloc fun n6 H7 hN8 => ?_
 have hH9 := hH5.new hN8
 refine pv (.sl none 0 0 0) rfl ?_
 refine pv (.i .i64 0) rfl ?_
 refine O_nil (sr ?_)
 refine pv (.p (some (T, 0))) rfl ?_
 refine pf (.p (some (n2, 0))) rfl rfl ?_
 refine O_p (.i .u16 ((k : Nat) : Int)) (r_ld rfl hH9.get1 rfl) ?_
 refine O_call (Ev.mono (at_in hH9.ok (hH9.get2) hk16 hk) fun v10 H11 hq12 => ?_)
 obtain ⟨rfl, hq12⟩ := hq12
 subst H11
 refine pv (.p (some (Lb, (k * 8 + 0)))) rfl ?_
 refine O_nil ?_
 refine C_seq ?_
 refine C_block ?_
 refine sr ?_
 refine pv (.p (some (Lb, (k * 8 + 0)))) rfl ?_
 refine O_p (.b false) (r_nilq_s rfl) ?_
 refine pv (.b false) rfl ?_
 refine O_nil ?_
 refine C_cond (x := false) rfl (fun h => by cases h) (fun _ => ?_)
 refine sr ?_
 refine pf (.p (some (n2, 2))) rfl rfl ?_
 refine O_p (.i .u32 ppid) (r_ld rfl hH9.get1 rfl) ?_
 refine O_p (.b true) (by exact (by rw [r_eql rfl rfl, decide_eq_true (by first | omega | assumption)])) ?_
 refine pv (.b true) rfl ?_
 refine O_gk rfl ?_
 refine pf (.p (some (n2, 3))) rfl rfl ?_
 refine O_gk rfl ?_
 refine O_p (.sl da b.length dc dg) (r_ld rfl hH9.get1 rfl) ?_
 refine O_gk rfl ?_
 refine O_bslice (c := [(.i .u8 2)]) rfl fun n13 H14 hN15 => ?_
 have hH16 := hH9.new hN15
 refine O_gk rfl ?_
 refine O_call (Ev.mono (eq_ev hH16.ok dhg (hb _ hH16.top5.fst) dhc dhm (hH16.get0)) fun v17 H18 hq19 => ?_)
 rw [decide_eq_false hb2] at hq19
 obtain ⟨rfl, hK20⟩ := hq19
 have hH21 := (hH16.kp hK20)
 refine O_p (.b false) (r_pick_t rfl rfl) ?_
 refine pv (.b false) rfl ?_
 refine O_nil ?_
 refine C_cond (x := false) rfl (fun h => by cases h) (fun _ => ?_)
 refine sr ?_
 refine pf (.p (some (n2, 2))) rfl rfl ?_
 refine O_p (.i .u32 ppid) (r_ld rfl hH21.get2 rfl) ?_
 refine O_p (.b true) (by exact (by rw [r_eql rfl rfl, decide_eq_true (by first | omega | assumption)])) ?_
 refine pv (.b true) rfl ?_
 refine O_nil ?_
 refine C_cond (x := true) rfl (fun _ => ?_) (fun h => by cases h)
 refine sr ?_
 refine pv (.p (some (T, 0))) rfl ?_
 refine O_p (.agg [(.i .u16 ((k : Nat) : Int)), (.b un), (.i .u32 ppid), (.sl da b.length dc dg)]) (r_ldA rfl hH21.get2 rfl) ?_
 refine pv (.p (some (Lb, (k * 8 + 0)))) rfl ?_
 have hH22 := (Hs.cong4 hH21 (seg_foc (n := Lb) (enc := Ch.row) hc).symm)
 have hH23 := (((hH22.top5).top5).top5)
 refine O_call (Ev.mono (opened_ev hk16 hcs hk htB un ppid dhg hb dhc dhm dfit hp hb2 hH23) fun v24 H25 hq26 => ?_)
 obtain ⟨ra, rn, rc, rg, rv, rq, rD, rfl, hrg, hrnc, hrcm, hrall, hrsq, hrcap, hrH⟩ := hq26
 refine O_p (.agg [(.i .i64 (hear cs even k ppid b).ek), (.i .u16 (hear cs even k ppid b).ei), (.i .u8 (hear cs even k ppid b).ko), (.i .u16 (hear cs even k ppid b).po), (.i .u32 (hear cs even k ppid b).lo), (.s (txt (hear cs even k ppid b).ot)), (.s (txt (hear cs even k ppid b).oo)), (.b (hear cs even k ppid b).et), (.sl ra rn rc rg)]) (r_ext rfl rfl) ?_
 refine O_p rv (r_ext rfl rfl) ?_
 refine O_p (.i .i64 (hear cs even k ppid b).er) (r_ext rfl rfl) ?_
 refine O_store (vs := [(.i .i64 (hear cs even k ppid b).ek), (.i .u16 (hear cs even k ppid b).ei), (.i .u8 (hear cs even k ppid b).ko), (.i .u16 (hear cs even k ppid b).po), (.i .u32 (hear cs even k ppid b).lo), (.s (txt (hear cs even k ppid b).ot)), (.s (txt (hear cs even k ppid b).oo)), (.b (hear cs even k ppid b).et), (.sl ra rn rc rg)]) (c' := [(.i .i64 (hear cs even k ppid b).ek), (.i .u16 (hear cs even k ppid b).ei), (.i .u8 (hear cs even k ppid b).ko), (.i .u16 (hear cs even k ppid b).po), (.i .u32 (hear cs even k ppid b).lo), (.s (txt (hear cs even k ppid b).ot)), (.s (txt (hear cs even k ppid b).oo)), (.b (hear cs even k ppid b).et), (.sl ra rn rc rg)]) rfl (by rfl) hrH.get6 rfl (List.cons_ne_nil _ _) (Nat.le_of_ble_eq_true rfl) rfl fun H27 hW28 => ?_
 have hH29 := hrH.wr6 hW28
 refine pv rv rfl ?_
 refine pv (.i .i64 (hear cs even k ppid b).er) rfl ?_
 refine O_nil ?_
 refine C_ret ?_
 refine bk_ret ?_
 refine nx_ret ?_
 have hcell := hH29.get6
 have hH30 := (((hH29.sub5).sub5).sub5)
 have hH31 := (((((hH30.top4).top4).top4).top4).top4)
 exact ⟨.inr rfl, _, resL_cons (r_cellA rfl hcell rfl) (resL_cons (r_tmp (v := rv) rfl) (resL_one (r_tmp (v := (.i .i64 (hear cs even k ppid b).er)) rfl))), ra, rn, rc, rg, rv, rq, rD, rfl, hrg, hrnc, hrcm, hrall, hrsq, hrcap, hH31⟩
theorem hear_d0 (hx : HC cs k B ppid da dc dg b) (hk : k < cs.length) (hp : ¬ ppid = 50) (hs : (cs.getD k ch0).st = 0) : HearEv 35 [] H T Lb cs even B R k un ppid da dc dg b := by
 obtain ⟨hk16, hcs, htB, dhg, hb, dhc, dhm, dfit⟩ := hx
 intro hH0
 refine Ev_C (F := x35) rfl ?_
 obtain ⟨c, hc⟩ := ex_at hk
 have hgd := getD_of hc
 try rw [hgd] at hs
 have hH1 := hH0.cong1 (seg_foc (n := Lb) (enc := Ch.row) hc)
 refine sr ?_
 refine O_box (z := [(.i .u16 ((k : Nat) : Int)), (.b un), (.i .u32 ppid), (.sl da b.length dc dg)]) rfl fun n2 H3 hN4 => ?_
 have hH5 := hH1.new hN4
 refine O_alloc fun n6 H7 hN8 => ?_
 have hH9 := hH5.new hN8
 refine pv (.sl none 0 0 0) rfl ?_
 refine pv (.i .i64 0) rfl ?_
 refine O_nil (sr ?_)
 refine pv (.p (some (T, 0))) rfl ?_
 refine pf (.p (some (n2, 0))) rfl rfl ?_
 refine O_p (.i .u16 ((k : Nat) : Int)) (r_ld rfl hH9.get1 rfl) ?_
 refine O_call (Ev.mono (at_in hH9.ok (hH9.get2) hk16 hk) fun v10 H11 hq12 => ?_)
 obtain ⟨rfl, hq12⟩ := hq12
 subst H11
 refine pv (.p (some (Lb, (k * 8 + 0)))) rfl ?_
 refine O_nil ?_
 refine C_seq ?_
 refine C_block ?_
 refine sr ?_
 refine pv (.p (some (Lb, (k * 8 + 0)))) rfl ?_
 refine O_p (.b false) (r_nilq_s rfl) ?_
 refine pv (.b false) rfl ?_
 refine O_nil ?_
 refine C_cond (x := false) rfl (fun h => by cases h) (fun _ => ?_)
 refine sr ?_
 refine pf (.p (some (n2, 2))) rfl rfl ?_
 refine O_p (.i .u32 ppid) (r_ld rfl hH9.get1 rfl) ?_
 refine O_p (.b false) (by exact (by rw [r_eql rfl rfl, decide_eq_false (by first | omega | assumption)])) ?_
 refine pv (.b false) rfl ?_
 refine O_gf rfl ?_
 refine O_gf rfl ?_
 refine O_gf rfl ?_
 refine O_gf rfl ?_
 refine O_p (.b false) (r_pick_f rfl rfl) ?_
 refine pv (.b false) rfl ?_
 refine O_nil ?_
 refine C_cond (x := false) rfl (fun h => by cases h) (fun _ => ?_)
 refine sr ?_
 refine pf (.p (some (n2, 2))) rfl rfl ?_
 refine O_p (.i .u32 ppid) (r_ld rfl hH9.get1 rfl) ?_
 refine O_p (.b false) (by exact (by rw [r_eql rfl rfl, decide_eq_false (by first | omega | assumption)])) ?_
 refine pv (.b false) rfl ?_
 refine O_nil ?_
 refine C_cond (x := false) rfl (fun h => by cases h) (fun _ => ?_)
 refine sr ?_
 refine pv (.p (some (Lb, (k * 8 + 0)))) rfl ?_
 refine O_p (.p (some (Lb, (k * 8 + 0)))) (r_nilc rfl) ?_
 refine pf (.p (some (Lb, (k * 8 + 0)))) rfl rfl ?_
 refine O_p (.i .i64 c.st) (by exact (r_ld rfl hH9.get3 ((foc_get (rows_map Ch.row_len cs) (by rw [List.length_map]; omega) rfl (by decide)).trans rfl))) ?_
 refine O_p (.b true) (by exact (by rw [r_eql rfl rfl, decide_eq_true (by first | omega | assumption)])) ?_
 refine pv (.b true) rfl ?_
 refine O_nil ?_
 refine C_cond (x := true) rfl (fun _ => ?_) (fun h => by cases h)
 refine sr ?_
 refine O_p (.agg zHPAAA ) (r_build rfl) ?_
 refine O_store (vs := zHPAAA ) (c' := zHPAAA ) rfl (by rfl) hH9.get0 rfl (List.cons_ne_nil _ _) (Nat.le_of_ble_eq_true rfl) rfl fun H13 hW14 => ?_
 have hH15 := hH9.wr0 hW14
 refine pv (.sl none 0 0 0) rfl ?_
 refine pv (.i .i64 11) rfl ?_
 refine O_nil ?_
 refine C_ret ?_
 refine bk_ret ?_
 refine nx_ret ?_
 have hcell := hH15.get0
 have hh : hear cs even k ppid b = .none 11 cs := by unfold hear; rw [hgd]; rw [if_neg (by omega), if_neg hp, if_pos hs]
 have hH16 := ((hH15.sub0).sub0)
 have hH17 := (((hH16.top2).top2).top2)
 have hH18 := (Hs.cong1 hH17 (seg_foc (n := Lb) (enc := Ch.row) hc).symm)
 rw [hh]
 exact ⟨.inr rfl, _, resL_cons (r_cellA rfl hcell rfl) (resL_cons (r_tmp (v := (.sl none 0 0 0)) rfl) (resL_one (r_tmp (v := (.i .i64 11)) rfl))), HearP.nil rfl rfl rfl hH18⟩
theorem hear_d1 (hx : HC cs k B ppid da dc dg b) (hk : k < cs.length) (hp : ¬ ppid = 50) (hs : ¬ (cs.getD k ch0).st = 0) (hu : uO ppid b = false) : HearEv 35 [] H T Lb cs even B R k un ppid da dc dg b := by
 obtain ⟨hk16, hcs, htB, dhg, hb, dhc, dhm, dfit⟩ := hx
 intro hH0
 refine Ev_C (F := x35) rfl ?_
 obtain ⟨c, hc⟩ := ex_at hk
 have hgd := getD_of hc
 try rw [hgd] at hs
 have hH1 := hH0.cong1 (seg_foc (n := Lb) (enc := Ch.row) hc)
 refine sr ?_
 refine O_box (z := [(.i .u16 ((k : Nat) : Int)), (.b un), (.i .u32 ppid), (.sl da b.length dc dg)]) rfl fun n2 H3 hN4 => ?_
 have hH5 := hH1.new hN4
 refine O_alloc fun n6 H7 hN8 => ?_
 have hH9 := hH5.new hN8
 refine pv (.sl none 0 0 0) rfl ?_
 refine pv (.i .i64 0) rfl ?_
 refine O_nil (sr ?_)
 refine pv (.p (some (T, 0))) rfl ?_
 refine pf (.p (some (n2, 0))) rfl rfl ?_
 refine O_p (.i .u16 ((k : Nat) : Int)) (r_ld rfl hH9.get1 rfl) ?_
 refine O_call (Ev.mono (at_in hH9.ok (hH9.get2) hk16 hk) fun v10 H11 hq12 => ?_)
 obtain ⟨rfl, hq12⟩ := hq12
 subst H11
 refine pv (.p (some (Lb, (k * 8 + 0)))) rfl ?_
 refine O_nil ?_
 refine C_seq ?_
 refine C_block ?_
 refine sr ?_
 refine pv (.p (some (Lb, (k * 8 + 0)))) rfl ?_
 refine O_p (.b false) (r_nilq_s rfl) ?_
 refine pv (.b false) rfl ?_
 refine O_nil ?_
 refine C_cond (x := false) rfl (fun h => by cases h) (fun _ => ?_)
 refine sr ?_
 refine pf (.p (some (n2, 2))) rfl rfl ?_
 refine O_p (.i .u32 ppid) (r_ld rfl hH9.get1 rfl) ?_
 refine O_p (.b false) (by exact (by rw [r_eql rfl rfl, decide_eq_false (by first | omega | assumption)])) ?_
 refine pv (.b false) rfl ?_
 refine O_gf rfl ?_
 refine O_gf rfl ?_
 refine O_gf rfl ?_
 refine O_gf rfl ?_
 refine O_p (.b false) (r_pick_f rfl rfl) ?_
 refine pv (.b false) rfl ?_
 refine O_nil ?_
 refine C_cond (x := false) rfl (fun h => by cases h) (fun _ => ?_)
 refine sr ?_
 refine pf (.p (some (n2, 2))) rfl rfl ?_
 refine O_p (.i .u32 ppid) (r_ld rfl hH9.get1 rfl) ?_
 refine O_p (.b false) (by exact (by rw [r_eql rfl rfl, decide_eq_false (by first | omega | assumption)])) ?_
 refine pv (.b false) rfl ?_
 refine O_nil ?_
 refine C_cond (x := false) rfl (fun h => by cases h) (fun _ => ?_)
 refine sr ?_
 refine pv (.p (some (Lb, (k * 8 + 0)))) rfl ?_
 refine O_p (.p (some (Lb, (k * 8 + 0)))) (r_nilc rfl) ?_
 refine pf (.p (some (Lb, (k * 8 + 0)))) rfl rfl ?_
 refine O_p (.i .i64 c.st) (by exact (r_ld rfl hH9.get3 ((foc_get (rows_map Ch.row_len cs) (by rw [List.length_map]; omega) rfl (by decide)).trans rfl))) ?_
 refine O_p (.b false) (by exact (by rw [r_eql rfl rfl, decide_eq_false (by first | omega | assumption)])) ?_
 refine pv (.b false) rfl ?_
 refine O_nil ?_
 refine C_cond (x := false) rfl (fun h => by cases h) (fun _ => ?_)
 refine C_skip ?_
 refine sr ?_
 refine pf (.p (some (n2, 2))) rfl rfl ?_
 refine O_p (.i .u32 ppid) (r_ld rfl hH9.get1 rfl) ?_
 refine pf (.p (some (n2, 3))) rfl rfl ?_
 refine O_p (.sl da b.length dc dg) (r_ld rfl hH9.get1 rfl) ?_
 refine O_call (Ev.mono (unwrap_ev hH9.ok ppid dhg (hb _ hH9.top4.fst) dhc dhm dfit) fun v13 H14 hq15 => ?_)
 rw [hu] at hq15
 obtain ⟨o16, rfl, hM17, hK18⟩ := hq15
 obtain ⟨qa19, qg20, rfl, hqg21, hqb22⟩ := hM17.own.bs
 have hsq23 := Sq.ofMine hH9 hM17 hK18
 have hH24 := Hs.ofMine hH9 hM17 hK18
 refine pv (.tup [(.b (uT ppid b)), (.sl qa19 (uB ppid b).length (uB ppid b).length qg20), (.b false)]) rfl ?_
 refine O_p (.b (uT ppid b)) (r_ext rfl rfl) ?_
 refine O_p (.sl qa19 (uB ppid b).length (uB ppid b).length qg20) (r_ext rfl rfl) ?_
 refine O_p (.b false) (r_ext rfl rfl) ?_
 refine pv (.b (uT ppid b)) rfl ?_
 refine pv (.sl qa19 (uB ppid b).length (uB ppid b).length qg20) rfl ?_
 refine pv (.b false) rfl ?_
 refine O_nil ?_
 refine C_seq ?_
 refine C_block ?_
 refine sr ?_
 refine pv (.b false) rfl ?_
 refine O_p (.b true) (r_un rfl rfl) ?_
 refine pv (.b true) rfl ?_
 refine O_nil ?_
 refine C_cond (x := true) rfl (fun _ => ?_) (fun h => by cases h)
 refine sr ?_
 refine O_p (.agg zHPAAA ) (r_build rfl) ?_
 refine O_store (vs := zHPAAA ) (c' := zHPAAA ) rfl (by rfl) hH24.get1 rfl (List.cons_ne_nil _ _) (Nat.le_of_ble_eq_true rfl) rfl fun H25 hW26 => ?_
 have hH27 := hH24.wr1 hW26
 refine pv (.sl none 0 0 0) rfl ?_
 refine pv (.i .i64 3) rfl ?_
 refine O_nil ?_
 refine C_ret ?_
 refine bk_ret ?_
 refine nx_ret ?_
 have hcell := hH27.get1
 have hh : hear cs even k ppid b = .none 3 cs := by unfold hear; rw [hgd]; rw [if_neg (by omega), if_neg hp, if_neg hs, if_pos hu]
 have hH28 := (((hH27.sub0).sub0).sub0)
 have hH29 := (((hH28.top2).top2).top2)
 have hH30 := (Hs.cong1 hH29 (seg_foc (n := Lb) (enc := Ch.row) hc).symm)
 rw [hh]
 exact ⟨.inr rfl, _, resL_cons (r_cellA rfl hcell rfl) (resL_cons (r_tmp (v := (.sl none 0 0 0)) rfl) (resL_one (r_tmp (v := (.i .i64 3)) rfl))), HearP.nil rfl rfl rfl hH30⟩
theorem hear_d2 (hx : HC cs k B ppid da dc dg b) (hk : k < cs.length) (hp : ¬ ppid = 50) (hs : (cs.getD k ch0).st = 3) (hu : uO ppid b = true) : HearEv 35 [] H T Lb cs even B R k un ppid da dc dg b := by
 obtain ⟨hk16, hcs, htB, dhg, hb, dhc, dhm, dfit⟩ := hx
 intro hH0
 refine Ev_C (F := x35) rfl ?_
 obtain ⟨c, hc⟩ := ex_at hk
 have hgd := getD_of hc
 try rw [hgd] at hs
 have hH1 := hH0.cong1 (seg_foc (n := Lb) (enc := Ch.row) hc)
 refine sr ?_
 refine O_box (z := [(.i .u16 ((k : Nat) : Int)), (.b un), (.i .u32 ppid), (.sl da b.length dc dg)]) rfl fun n2 H3 hN4 => ?_
 have hH5 := hH1.new hN4
 refine O_alloc fun n6 H7 hN8 => ?_
 have hH9 := hH5.new hN8
 refine pv (.sl none 0 0 0) rfl ?_
 refine pv (.i .i64 0) rfl ?_
 refine O_nil (sr ?_)
 refine pv (.p (some (T, 0))) rfl ?_
 refine pf (.p (some (n2, 0))) rfl rfl ?_
 refine O_p (.i .u16 ((k : Nat) : Int)) (r_ld rfl hH9.get1 rfl) ?_
 refine O_call (Ev.mono (at_in hH9.ok (hH9.get2) hk16 hk) fun v10 H11 hq12 => ?_)
 obtain ⟨rfl, hq12⟩ := hq12
 subst H11
 refine pv (.p (some (Lb, (k * 8 + 0)))) rfl ?_
 refine O_nil ?_
 refine C_seq ?_
 refine C_block ?_
 refine sr ?_
 refine pv (.p (some (Lb, (k * 8 + 0)))) rfl ?_
 refine O_p (.b false) (r_nilq_s rfl) ?_
 refine pv (.b false) rfl ?_
 refine O_nil ?_
 refine C_cond (x := false) rfl (fun h => by cases h) (fun _ => ?_)
 refine sr ?_
 refine pf (.p (some (n2, 2))) rfl rfl ?_
 refine O_p (.i .u32 ppid) (r_ld rfl hH9.get1 rfl) ?_
 refine O_p (.b false) (by exact (by rw [r_eql rfl rfl, decide_eq_false (by first | omega | assumption)])) ?_
 refine pv (.b false) rfl ?_
 refine O_gf rfl ?_
 refine O_gf rfl ?_
 refine O_gf rfl ?_
 refine O_gf rfl ?_
 refine O_p (.b false) (r_pick_f rfl rfl) ?_
 refine pv (.b false) rfl ?_
 refine O_nil ?_
 refine C_cond (x := false) rfl (fun h => by cases h) (fun _ => ?_)
 refine sr ?_
 refine pf (.p (some (n2, 2))) rfl rfl ?_
 refine O_p (.i .u32 ppid) (r_ld rfl hH9.get1 rfl) ?_
 refine O_p (.b false) (by exact (by rw [r_eql rfl rfl, decide_eq_false (by first | omega | assumption)])) ?_
 refine pv (.b false) rfl ?_
 refine O_nil ?_
 refine C_cond (x := false) rfl (fun h => by cases h) (fun _ => ?_)
 refine sr ?_
 refine pv (.p (some (Lb, (k * 8 + 0)))) rfl ?_
 refine O_p (.p (some (Lb, (k * 8 + 0)))) (r_nilc rfl) ?_
 refine pf (.p (some (Lb, (k * 8 + 0)))) rfl rfl ?_
 refine O_p (.i .i64 c.st) (by exact (r_ld rfl hH9.get3 ((foc_get (rows_map Ch.row_len cs) (by rw [List.length_map]; omega) rfl (by decide)).trans rfl))) ?_
 refine O_p (.b false) (by exact (by rw [r_eql rfl rfl, decide_eq_false (by first | omega | assumption)])) ?_
 refine pv (.b false) rfl ?_
 refine O_nil ?_
 refine C_cond (x := false) rfl (fun h => by cases h) (fun _ => ?_)
 refine C_skip ?_
 refine sr ?_
 refine pf (.p (some (n2, 2))) rfl rfl ?_
 refine O_p (.i .u32 ppid) (r_ld rfl hH9.get1 rfl) ?_
 refine pf (.p (some (n2, 3))) rfl rfl ?_
 refine O_p (.sl da b.length dc dg) (r_ld rfl hH9.get1 rfl) ?_
 refine O_call (Ev.mono (unwrap_ev hH9.ok ppid dhg (hb _ hH9.top4.fst) dhc dhm dfit) fun v13 H14 hq15 => ?_)
 rw [hu] at hq15
 obtain ⟨o16, rfl, hM17, hK18⟩ := hq15
 obtain ⟨qa19, qg20, rfl, hqg21, hqb22⟩ := hM17.own.bs
 have hsq23 := Sq.ofMine hH9 hM17 hK18
 have hH24 := Hs.ofMine hH9 hM17 hK18
 refine pv (.tup [(.b (uT ppid b)), (.sl qa19 (uB ppid b).length (uB ppid b).length qg20), (.b true)]) rfl ?_
 refine O_p (.b (uT ppid b)) (r_ext rfl rfl) ?_
 refine O_p (.sl qa19 (uB ppid b).length (uB ppid b).length qg20) (r_ext rfl rfl) ?_
 refine O_p (.b true) (r_ext rfl rfl) ?_
 refine pv (.b (uT ppid b)) rfl ?_
 refine pv (.sl qa19 (uB ppid b).length (uB ppid b).length qg20) rfl ?_
 refine pv (.b true) rfl ?_
 refine O_nil ?_
 refine C_seq ?_
 refine C_block ?_
 refine sr ?_
 refine pv (.b true) rfl ?_
 refine O_p (.b false) (r_un rfl rfl) ?_
 refine pv (.b false) rfl ?_
 refine O_nil ?_
 refine C_cond (x := false) rfl (fun h => by cases h) (fun _ => ?_)
 refine sr ?_
 refine pv (.p (some (Lb, (k * 8 + 0)))) rfl ?_
 refine O_p (.p (some (Lb, (k * 8 + 0)))) (r_nilc rfl) ?_
 refine pf (.p (some (Lb, (k * 8 + 0)))) rfl rfl ?_
 refine O_p (.i .i64 c.st) (by exact (r_ld rfl hH24.get4 ((foc_get (rows_map Ch.row_len cs) (by rw [List.length_map]; omega) rfl (by decide)).trans rfl))) ?_
 refine O_p (.b true) (by exact (by rw [r_eql rfl rfl, decide_eq_true (by first | omega | assumption)])) ?_
 refine pv (.b true) rfl ?_
 refine O_nil ?_
 refine C_cond (x := true) rfl (fun _ => ?_) (fun h => by cases h)
 refine sr ?_
 refine O_p (.agg zHPAAA ) (r_build rfl) ?_
 refine O_store (vs := zHPAAA ) (c' := zHPAAA ) rfl (by rfl) hH24.get1 rfl (List.cons_ne_nil _ _) (Nat.le_of_ble_eq_true rfl) rfl fun H25 hW26 => ?_
 have hH27 := hH24.wr1 hW26
 refine pv (.sl none 0 0 0) rfl ?_
 refine pv (.i .i64 0) rfl ?_
 refine O_nil ?_
 refine C_ret ?_
 refine bk_ret ?_
 refine nx_ret ?_
 have hcell := hH27.get1
 have hh : hear cs even k ppid b = .none 0 cs := by unfold hear; rw [hgd]; rw [if_neg (by omega), if_neg hp, if_neg (by omega), if_neg (by rw [hu]; decide), if_pos hs]
 have hH28 := (((hH27.sub0).sub0).sub0)
 have hH29 := (((hH28.top2).top2).top2)
 have hH30 := (Hs.cong1 hH29 (seg_foc (n := Lb) (enc := Ch.row) hc).symm)
 rw [hh]
 exact ⟨.inr rfl, _, resL_cons (r_cellA rfl hcell rfl) (resL_cons (r_tmp (v := (.sl none 0 0 0)) rfl) (resL_one (r_tmp (v := (.i .i64 0)) rfl))), HearP.nil rfl rfl rfl hH30⟩
theorem hear_d3 (hx : HC cs k B ppid da dc dg b) (hk : k < cs.length) (hp : ¬ ppid = 50) (hs : ¬ ((cs.getD k ch0).st = 0 ∨ (cs.getD k ch0).st = 3)) (hu : uO ppid b = true) : HearEv 35 [] H T Lb cs even B R k un ppid da dc dg b := by
 obtain ⟨hk16, hcs, htB, dhg, hb, dhc, dhm, dfit⟩ := hx
 intro hH0
 refine Ev_C (F := x35) rfl ?_
 obtain ⟨c, hc⟩ := ex_at hk
 have hgd := getD_of hc
 try rw [hgd] at hs
 have hH1 := hH0.cong1 (seg_foc (n := Lb) (enc := Ch.row) hc)
 refine sr ?_
 refine O_box (z := [(.i .u16 ((k : Nat) : Int)), (.b un), (.i .u32 ppid), (.sl da b.length dc dg)]) rfl fun n2 H3 hN4 => ?_
 have hH5 := hH1.new hN4
 refine O_alloc fun n6 H7 hN8 => ?_
 have hH9 := hH5.new hN8
 refine pv (.sl none 0 0 0) rfl ?_
 refine pv (.i .i64 0) rfl ?_
 refine O_nil (sr ?_)
 refine pv (.p (some (T, 0))) rfl ?_
 refine pf (.p (some (n2, 0))) rfl rfl ?_
 refine O_p (.i .u16 ((k : Nat) : Int)) (r_ld rfl hH9.get1 rfl) ?_
 refine O_call (Ev.mono (at_in hH9.ok (hH9.get2) hk16 hk) fun v10 H11 hq12 => ?_)
 obtain ⟨rfl, hq12⟩ := hq12
 subst H11
 refine pv (.p (some (Lb, (k * 8 + 0)))) rfl ?_
 refine O_nil ?_
 refine C_seq ?_
 refine C_block ?_
 refine sr ?_
 refine pv (.p (some (Lb, (k * 8 + 0)))) rfl ?_
 refine O_p (.b false) (r_nilq_s rfl) ?_
 refine pv (.b false) rfl ?_
 refine O_nil ?_
 refine C_cond (x := false) rfl (fun h => by cases h) (fun _ => ?_)
 refine sr ?_
 refine pf (.p (some (n2, 2))) rfl rfl ?_
 refine O_p (.i .u32 ppid) (r_ld rfl hH9.get1 rfl) ?_
 refine O_p (.b false) (by exact (by rw [r_eql rfl rfl, decide_eq_false (by first | omega | assumption)])) ?_
 refine pv (.b false) rfl ?_
 refine O_gf rfl ?_
 refine O_gf rfl ?_
 refine O_gf rfl ?_
 refine O_gf rfl ?_
 refine O_p (.b false) (r_pick_f rfl rfl) ?_
 refine pv (.b false) rfl ?_
 refine O_nil ?_
 refine C_cond (x := false) rfl (fun h => by cases h) (fun _ => ?_)
 refine sr ?_
 refine pf (.p (some (n2, 2))) rfl rfl ?_
 refine O_p (.i .u32 ppid) (r_ld rfl hH9.get1 rfl) ?_
 refine O_p (.b false) (by exact (by rw [r_eql rfl rfl, decide_eq_false (by first | omega | assumption)])) ?_
 refine pv (.b false) rfl ?_
 refine O_nil ?_
 refine C_cond (x := false) rfl (fun h => by cases h) (fun _ => ?_)
 refine sr ?_
 refine pv (.p (some (Lb, (k * 8 + 0)))) rfl ?_
 refine O_p (.p (some (Lb, (k * 8 + 0)))) (r_nilc rfl) ?_
 refine pf (.p (some (Lb, (k * 8 + 0)))) rfl rfl ?_
 refine O_p (.i .i64 c.st) (by exact (r_ld rfl hH9.get3 ((foc_get (rows_map Ch.row_len cs) (by rw [List.length_map]; omega) rfl (by decide)).trans rfl))) ?_
 refine O_p (.b false) (by exact (by rw [r_eql rfl rfl, decide_eq_false (by first | omega | assumption)])) ?_
 refine pv (.b false) rfl ?_
 refine O_nil ?_
 refine C_cond (x := false) rfl (fun h => by cases h) (fun _ => ?_)
 refine C_skip ?_
 refine sr ?_
 refine pf (.p (some (n2, 2))) rfl rfl ?_
 refine O_p (.i .u32 ppid) (r_ld rfl hH9.get1 rfl) ?_
 refine pf (.p (some (n2, 3))) rfl rfl ?_
 refine O_p (.sl da b.length dc dg) (r_ld rfl hH9.get1 rfl) ?_
 refine O_call (Ev.mono (unwrap_ev hH9.ok ppid dhg (hb _ hH9.top4.fst) dhc dhm dfit) fun v13 H14 hq15 => ?_)
 rw [hu] at hq15
 obtain ⟨o16, rfl, hM17, hK18⟩ := hq15
 obtain ⟨qa19, qg20, rfl, hqg21, hqb22⟩ := hM17.own.bs
 have hsq23 := Sq.ofMine hH9 hM17 hK18
 have hH24 := Hs.ofMine hH9 hM17 hK18
 refine pv (.tup [(.b (uT ppid b)), (.sl qa19 (uB ppid b).length (uB ppid b).length qg20), (.b true)]) rfl ?_
 refine O_p (.b (uT ppid b)) (r_ext rfl rfl) ?_
 refine O_p (.sl qa19 (uB ppid b).length (uB ppid b).length qg20) (r_ext rfl rfl) ?_
 refine O_p (.b true) (r_ext rfl rfl) ?_
 refine pv (.b (uT ppid b)) rfl ?_
 refine pv (.sl qa19 (uB ppid b).length (uB ppid b).length qg20) rfl ?_
 refine pv (.b true) rfl ?_
 refine O_nil ?_
 refine C_seq ?_
 refine C_block ?_
 refine sr ?_
 refine pv (.b true) rfl ?_
 refine O_p (.b false) (r_un rfl rfl) ?_
 refine pv (.b false) rfl ?_
 refine O_nil ?_
 refine C_cond (x := false) rfl (fun h => by cases h) (fun _ => ?_)
 refine sr ?_
 refine pv (.p (some (Lb, (k * 8 + 0)))) rfl ?_
 refine O_p (.p (some (Lb, (k * 8 + 0)))) (r_nilc rfl) ?_
 refine pf (.p (some (Lb, (k * 8 + 0)))) rfl rfl ?_
 refine O_p (.i .i64 c.st) (by exact (r_ld rfl hH24.get4 ((foc_get (rows_map Ch.row_len cs) (by rw [List.length_map]; omega) rfl (by decide)).trans rfl))) ?_
 refine O_p (.b false) (by exact (by rw [r_eql rfl rfl, decide_eq_false (by first | omega | assumption)])) ?_
 refine pv (.b false) rfl ?_
 refine O_nil ?_
 refine C_cond (x := false) rfl (fun h => by cases h) (fun _ => ?_)
 refine C_skip ?_
 refine sr ?_
 refine pf (.p (some (n2, 0))) rfl rfl ?_
 refine O_p (.i .u16 ((k : Nat) : Int)) (r_ld rfl hH24.get2 rfl) ?_
 refine pv (.b (uT ppid b)) rfl ?_
 refine pv (.sl qa19 (uB ppid b).length (uB ppid b).length qg20) rfl ?_
 refine O_p (.agg [(.i .i64 3), (.i .u16 ((k : Nat) : Int)), (.i .u8 0), (.i .u16 0), (.i .u32 0), (.s ⟨#[]⟩), (.s ⟨#[]⟩), (.b (uT ppid b)), (.sl qa19 (uB ppid b).length (uB ppid b).length qg20)]) (r_build rfl) ?_
 refine O_store (vs := [(.i .i64 3), (.i .u16 ((k : Nat) : Int)), (.i .u8 0), (.i .u16 0), (.i .u32 0), (.s ⟨#[]⟩), (.s ⟨#[]⟩), (.b (uT ppid b)), (.sl qa19 (uB ppid b).length (uB ppid b).length qg20)]) (c' := [(.i .i64 3), (.i .u16 ((k : Nat) : Int)), (.i .u8 0), (.i .u16 0), (.i .u32 0), (.s ⟨#[]⟩), (.s ⟨#[]⟩), (.b (uT ppid b)), (.sl qa19 (uB ppid b).length (uB ppid b).length qg20)]) rfl (by rfl) hH24.get1 rfl (List.cons_ne_nil _ _) (Nat.le_of_ble_eq_true rfl) rfl fun H25 hW26 => ?_
 have hH27 := hH24.wr1 hW26
 refine pv (.sl none 0 0 0) rfl ?_
 refine pv (.i .i64 0) rfl ?_
 refine O_nil ?_
 refine C_ret ?_
 have hcell := hH27.get1
 have hh : hear cs even k ppid b = ⟨3, k, 0, 0, 0, [], [], uT ppid b, uB ppid b, [], 0, cs⟩ := by unfold hear; rw [hgd]; rw [if_neg (by omega), if_neg hp, if_neg (by omega), if_neg (by rw [hu]; decide), if_neg (by omega)]
 have hH28 := ((hH27.sub1).sub1)
 have hH29 := ((((hH28.top3).top3).top3).top3)
 have hH30 := (Hs.cong2 hH29 (seg_foc (n := Lb) (enc := Ch.row) hc).symm)
 rw [hh]
 exact ⟨.inr rfl, _, resL_cons (r_cellA rfl hcell rfl) (resL_cons (r_tmp (v := (.sl none 0 0 0)) rfl) (resL_one (r_tmp (v := (.i .i64 0)) rfl))), _, _, _, _, _, [], qseg (.sl qa19 (uB ppid b).length (uB ppid b).length qg20) (bcells (uB ppid b)), rfl, hqg21, Nat.le_refl _, by have := uB_le (ppid := ppid) (b := b); omega, fun _ h => (hsq23).bs h, .nil, ⟨_, _, _, rfl, .inl rfl, Nat.le_refl _, by simp⟩, hH30⟩
end
theorem hear_ev {H : AH} {T Lb : Nat} {cs : List Ch} {even : Bool} {B R : HL} {k : Nat} (hk16 : k < 65536) (hcs : cs.length ≤ 64) (htB : ∀ H', Hs H' B → Tb H') (un : Bool) (ppid : Int) {da : Option (Nat × Nat)} {dc dg : Nat} (dhg : dg = 0 ∨ dg = 1) {b : List UInt8} (hb : ∀ H', Hs H' B → Bs H' (.sl da b.length dc dg) b) (dhc : b.length ≤ dc) (dhm : dc ≤ 9223372036854775807) (dfit : b.length ≤ 1073741824) (hH0 : Hs H ([(T, some (.cells [.sl (some (Lb, 0)) cs.length cs.length 0, .b even] true))] ++ ([(Lb, some (.cells ((cs).map Ch.row).flatten true))] ++ (B ++ R)))) : Ev tabV spV (.fn (.func 35) [] []) [.p (some (T, 0)), .agg [.i .u16 k, .b un, .i .u32 ppid, .sl da b.length dc dg]] H (fun r H' => HearP T Lb even B R (hear cs even k ppid b) r H') := by
  by_cases hk : k < cs.length
  · by_cases hp : ppid = 50
    · by_cases hb2 : b = [2]
      · by_cases h0 : (cs.getD k ch0).st = 0
        · exact hear_b0 ⟨hk16, hcs, htB, dhg, hb, dhc, dhm, dfit⟩ hk hp hb2 h0 hH0
        · by_cases h1 : (cs.getD k ch0).st = 1
          · exact hear_b1 ⟨hk16, hcs, htB, dhg, hb, dhc, dhm, dfit⟩ hk hp hb2 h1 hH0
          · exact hear_b2 ⟨hk16, hcs, htB, dhg, hb, dhc, dhm, dfit⟩ hk hp hb2 (by omega) hH0
      · exact hear_c ⟨hk16, hcs, htB, dhg, hb, dhc, dhm, dfit⟩ hk hp hb2 hH0
    · by_cases h0 : (cs.getD k ch0).st = 0
      · exact hear_d0 ⟨hk16, hcs, htB, dhg, hb, dhc, dhm, dfit⟩ hk hp h0 hH0
      · cases hu : uO ppid b
        · exact hear_d1 ⟨hk16, hcs, htB, dhg, hb, dhc, dhm, dfit⟩ hk hp h0 hu hH0
        · by_cases h3 : (cs.getD k ch0).st = 3
          · exact hear_d2 ⟨hk16, hcs, htB, dhg, hb, dhc, dhm, dfit⟩ hk hp h3 hu hH0
          · exact hear_d3 ⟨hk16, hcs, htB, dhg, hb, dhc, dhm, dfit⟩ hk hp (by omega) hu hH0
  · exact hear_out ⟨hk16, hcs, htB, dhg, hb, dhc, dhm, dfit⟩ hk hH0
open Go.Lib
set_option linter.unusedVariables false
set_option linter.unusedSimpArgs false
def okL (cs : List Ch) : Prop := ∀ (k : Nat) (c : Ch), cs[k]? = some c → okC c
theorem okL_upd {cs : List Ch} {s : Nat} {d : Ch} (h : okL cs) (hd : okC d) : okL (cs.set s d) := fun k c hk => by
  rw [List.getElem?_set] at hk
  split at hk
  · split at hk
    · simp only [Option.some.injEq] at hk; subst hk; exact hd
    · cases hk
  · exact h k c hk
theorem okC_0 : okC ch0 := ⟨.inl rfl, fun _ => ⟨rfl, rfl⟩⟩
theorem okC_1 (b c d : Int) (l p : List UInt8) : okC ⟨1, b, c, d, l, p, false, false⟩ := ⟨.inr (.inl rfl), fun _ => ⟨rfl, rfl⟩⟩
theorem okC_2 (b c d : Int) (l p : List UInt8) : okC ⟨2, b, c, d, l, p, false, false⟩ := ⟨.inr (.inr (.inl rfl)), fun _ => ⟨rfl, rfl⟩⟩
theorem okL_at {cs : List Ch} (h : okL cs) (k : Nat) : okC (cs.getD k ch0) := by
  cases hc : cs[k]? with
  | none => rw [List.getD_eq_getElem?_getD, hc]; exact okC_0
  | some c => rw [getD_of hc]; exact h k c hc
theorem okC_to2 {c : Ch} (h : okC c) (h1 : c.st = 1) : okC (c.to 2) := ⟨.inr (.inr (.inl rfl)), fun _ => h.2 (by omega)⟩
theorem okL_hear {cs : List Ch} {even : Bool} {k : Nat} {ppid : Int} {b : List UInt8} (h : okL cs) : okL (hear cs even k ppid b).cs := by
 unfold hear
 repeat' split
 all_goals first | exact h | exact okL_upd h (okC_2 _ _ _ _ _) | exact okL_upd h (okC_to2 (okL_at h k) (by assumption))
theorem hear_len {cs : List Ch} {even : Bool} {k : Nat} {ppid : Int} {b : List UInt8} : (hear cs even k ppid b).cs.length = cs.length := by
 unfold hear
 repeat' split
 all_goals first | rfl | exact List.length_set
theorem okL_ask {cs : List Ch} (h : okL cs) (even : Bool) (kind prio limit : Int) (label proto : List UInt8) : okL (askC cs even kind prio limit label proto) := by
  unfold askC; split
  · exact h
  · split
    · exact okL_upd h (okC_1 _ _ _ _ _)
    · exact h
theorem okL_new (n : Nat) : okL (List.replicate n ch0) := fun k c h => by
  rw [List.getElem?_replicate] at h
  split at h
  · simp only [Option.some.injEq] at h; subst h; exact okC_0
  · cases h
theorem Sq.row {sz : Nat} {v : AV} {c l r : List AV} {k : IntKind} {H : AH} {R : HL} {T : Tm} {cf : CallF} (h : Sq sz v c l) (hH : Hs H (qseg v c ++ R)) {x j : XO} {i : Nat} (hx : x.ev T = v) (hi : j.ev T = .i k ((i : Nat) : Int)) (hr : takeAt l (i * sz) sz = some r) (hsz : 0 < sz) : ∃ w, (XOp.isl sz x j).run cf T H = some (w, H) ∧ ∃ b o c', w = .p (some (b, o)) ∧ H.get b = some (.cells c' true) ∧ takeAt c' o sz = some r := by
  have hlt := (takeAt_len hr).2
  cases h with
  | nil => simp at hlt; omega
  | @mk b o n cap g c l hg hl hn hc =>
    have hll := (takeAt_len hl).1
    have hin : i < n := by
      rw [hll] at hlt
      have : i * sz < n * sz := by omega
      exact Nat.lt_of_mul_lt_mul_right this
    exact ⟨_, r_isl hx hi (by omega) (by omega), b, o + ((i : Nat) : Int).toNat * sz, c, rfl, hH.get, by rw [Int.toNat_natCast]; exact rec_take hl hr⟩
/-- Messages of streams' control: their cells, what their data lie in, and what they say. -/
def Mail (B : HL) (l : List AV) (ms : List (Nat × List UInt8)) : Prop := l.length = ms.length * 4 ∧ ∀ (i k : Nat) (b : List UInt8), ms[i]? = some (k, b) → k < 65536 ∧ b.length ≤ 1073741824 ∧ ∃ da dc dg, takeAt l (i * 4) 4 = some [.i .u16 k, .b false, .i .u32 50, .sl da b.length dc dg] ∧ (dg = 0 ∨ dg = 1) ∧ b.length ≤ dc ∧ dc ≤ 9223372036854775807 ∧ ∀ H', Hs H' B → Bs H' (.sl da b.length dc dg) b
theorem Mail.nil {B : HL} : Mail B [] [] := ⟨rfl, fun i k b h => by simp at h⟩
theorem Mail.mono {A B : HL} {l : List AV} {ms : List (Nat × List UInt8)} (h : Mail B l ms) (hs : ∀ H', Hs H' A → Hs H' B) : Mail A l ms := ⟨h.1, fun i k b hi => by
 obtain ⟨h1, h2, da, dc, dg, h3, h4, h5, h6, h7⟩ := h.2 i k b hi
 exact ⟨h1, h2, da, dc, dg, h3, h4, h5, h6, fun H' hh => h7 H' (hs H' hh)⟩⟩
theorem takeAt_app1 {l m r : List AV} {o n : Nat} (h : takeAt l o n = some r) : takeAt (l ++ m) o n = some r := by
 have hl := (takeAt_len h).2
 unfold takeAt at h ⊢
 rw [if_pos hl] at h
 rw [if_pos (by rw [List.length_append]; omega), List.drop_append_of_le_length (by omega), List.take_append_of_le_length (by rw [List.length_drop]; omega)]
 exact h
theorem takeAt_app2 {l m : List AV} {n k : Nat} (hl : l.length = k) (hm : m.length = n) : takeAt (l ++ m) k n = some m := by
 subst hl; subst hm
 unfold takeAt
 rw [if_pos (by rw [List.length_append]; omega), List.drop_left, List.take_length]
theorem Mail.snoc {B : HL} {l c : List AV} {ms : List (Nat × List UInt8)} (h : Mail B l ms) {k : Nat} (hk : k < 65536) {b : List UInt8} (hb : b.length ≤ 1073741824) {da : Option (Nat × Nat)} {dc dg : Nat} (hg : dg = 0 ∨ dg = 1) (hc : b.length ≤ dc) (hm : dc ≤ 9223372036854775807) (hq : Sq 1 (.sl da b.length dc dg) c (bcells b)) : Mail (B ++ qseg (.sl da b.length dc dg) c) (l ++ [.i .u16 k, .b false, .i .u32 50, .sl da b.length dc dg]) (ms ++ [(k, b)]) := by
  refine ⟨by rw [List.length_append, List.length_append, h.1, Nat.add_mul]; rfl, fun i k' b' hi => ?_⟩
  by_cases hlt : i < ms.length
  · rw [List.getElem?_append_left hlt] at hi
    obtain ⟨h1, h2, da', dc', dg', h3, h4, h5, h6, h7⟩ := h.2 i k' b' hi
    exact ⟨h1, h2, da', dc', dg', takeAt_app1 h3, h4, h5, h6, fun H' hh => h7 H' (Hs.fst hh)⟩
  · rw [List.getElem?_append_right (by omega)] at hi
    have hi0 : i - ms.length = 0 := by
      have := (List.getElem?_eq_some_iff.1 hi).1
      simp at this; omega
    rw [hi0] at hi
    simp only [List.getElem?_cons_zero, Option.some.injEq, Prod.mk.injEq] at hi
    obtain ⟨rfl, rfl⟩ := hi
    exact ⟨hk, hb, da, dc, dg, takeAt_app2 (by rw [h.1]; congr 1; omega) rfl, hg, hc, hm, fun H' hh => hq.bs (R := []) (by rw [List.append_nil]; exact hh.sub)⟩
def passR (cs : List Ch) (even : Bool) : List (Nat × List UInt8) → Option (List Ch × List (Nat × List UInt8))
  | [] => some (cs, [])
  | (k, b) :: ms => if (hear cs even k 50 b).er = 0 ∧ (hear cs even k 50 b).ei = k then (passR (hear cs even k 50 b).cs even ms).map (fun p => (p.1, (if 0 < (hear cs even k 50 b).rep.length then [(k, (hear cs even k 50 b).rep)] else []) ++ p.2)) else none
theorem pass_cons {cs cs' : List Ch} {even : Bool} {k : Nat} {b : List UInt8} {ms rest : List (Nat × List UInt8)} (h : passR cs even ((k, b) :: ms) = some (cs', rest)) : (hear cs even k 50 b).er = 0 ∧ (hear cs even k 50 b).ei = k ∧ ∃ r2, passR (hear cs even k 50 b).cs even ms = some (cs', r2) ∧ rest = (if 0 < (hear cs even k 50 b).rep.length then [(k, (hear cs even k 50 b).rep)] else []) ++ r2 := by
  unfold passR at h
  split at h
  · rename_i hc
    refine ⟨hc.1, hc.2, ?_⟩
    cases hp : passR (hear cs even k 50 b).cs even ms with
    | none => rw [hp] at h; cases h
    | some p =>
      rw [hp] at h
      simp only [Option.map_some, Option.some.injEq, Prod.mk.injEq] at h
      obtain ⟨rfl, rfl⟩ := h
      exact ⟨p.2, rfl, rfl⟩
  · cases h
theorem hear_rep {cs : List Ch} {even : Bool} {k : Nat} {ppid : Int} {b : List UInt8} : (hear cs even k ppid b).rep.length ≤ 1 := by
 unfold hear
 repeat' split
 all_goals first | exact Nat.zero_le _ | exact Nat.le_refl _
theorem state_ev {H : AH} {T Lb : Nat} {cs : List Ch} {even : Bool} {R : HL} {k : Nat} (hk16 : k < 65536) (hcs : cs.length ≤ 64) (hH0 : Hs H ([(T, some (.cells [.sl (some (Lb, 0)) cs.length cs.length 0, .b even] true))] ++ ([(Lb, some (.cells ((cs).map Ch.row).flatten true))] ++ R))) : Ev tabV spV (.fn (.func 29) [] []) [.p (some (T, 0)), .i .u16 k] H (fun r H' => r = .i .i64 (cs.getD k ch0).st ∧ H' = H) := by
  by_cases hk : k < cs.length
  · exact state_in hk16 hcs hk hH0
  · exact state_out hk16 hcs hk hH0
theorem openg_ev {H : AH} {T Lb : Nat} {cs : List Ch} {even : Bool} {R : HL} {k : Nat} (hk16 : k < 65536) (hcs : cs.length ≤ 64) (hH0 : Hs H ([(T, some (.cells [.sl (some (Lb, 0)) cs.length cs.length 0, .b even] true))] ++ ([(Lb, some (.cells ((cs).map Ch.row).flatten true))] ++ R))) : Ev tabV spV (.fn (.func 27) [] []) [.p (some (T, 0)), .i .u16 k] H (fun r H' => r = .agg [.i .u8 (cs.getD k ch0).kind, .i .u16 (cs.getD k ch0).prio, .i .u32 (cs.getD k ch0).limit, .s (txt (cs.getD k ch0).label), .s (txt (cs.getD k ch0).proto)] ∧ Hs H' ([(T, some (.cells [.sl (some (Lb, 0)) cs.length cs.length 0, .b even] true))] ++ ([(Lb, some (.cells ((cs).map Ch.row).flatten true))] ++ R))) := by
  by_cases hk : k < cs.length
  · exact openg_in hk16 hcs hk hH0
  · exact openg_out hk16 hcs hk hH0
set_option maxRecDepth 100000 in
theorem pass_ev {H : AH} {T Lb : Nat} {cs cs' : List Ch} {even : Bool} {B R : HL} {v : AV} {c l : List AV} {ms out : List (Nat × List UInt8)} (htB : ∀ H', Hs H' B → Tb H') (hokL0 : okL cs) (hcs : cs.length ≤ 64) (hsv : Sq 4 v c l) (hmail : Mail B l ms) (hms64 : ms.length ≤ 64) (hpass : passR cs even ms = some (cs', out)) (hH0 : Hs H (qseg v c ++ ([(T, some (.cells [.sl (some (Lb, 0)) (cs).length (cs).length 0, .b even] true))] ++ ([(Lb, some (.cells ((cs).map Ch.row).flatten true))] ++ (B ++ R))))) : Ev tabV spV (.fn (.func 28) [] []) [.p (some (T, 0)), v] H (fun r H' => ∃ o co lo D, r = .tup [o, .b true] ∧ Sq 4 o co lo ∧ Mail D lo out ∧ okL cs' ∧ cs'.length ≤ 64 ∧ Hs H' (D ++ (qseg o co ++ ([(T, some (.cells [.sl (some (Lb, 0)) (cs').length (cs').length 0, .b even] true))] ++ ([(Lb, some (.cells ((cs').map Ch.row).flatten true))] ++ (B ++ R)))))) := by
 refine Ev_C (F := x28) rfl ?_
 refine sr ?_
 refine pv (.sl none 0 0 0) rfl ?_
 refine pv (.b false) rfl ?_
 refine O_nil (sr ?_)
 refine pv (.sl none 0 0 0) rfl ?_
 refine O_nil ?_
 refine C_seq ?_
 refine sr ?_
 refine pv (.i .i64 0) rfl ?_
 refine O_nil ?_
 refine C_block ?_
 have hH1 := (Hs.addnil hH0 : Hs _ ([] ++ _))
 have hH2 := (Hs.addnil hH1 : Hs _ (qseg (.sl none 0 0 0) [] ++ _))
 have hH3 := (((((hH2.top1).top5).top5).top5).top5)
 refine C_while (fun m4 T5 H6 => ∃ o : AV, ∃ co : List AV, ∃ lo : List AV, ∃ D : HL, ∃ ci : List Ch, ∃ oi : List (Nat × List UInt8), ∃ rest : List (Nat × List UInt8), ∃ i : Nat, m4 = ms.length - i ∧ i ≤ ms.length ∧ Sq 4 o co lo ∧ Mail D lo oi ∧ okL ci ∧ ci.length ≤ 64 ∧ passR ci even (ms.drop i) = some (cs', rest) ∧ out = oi ++ rest ∧ oi.length ≤ i ∧ Hs H6 ((qseg v c) ++ ([(T, some (.cells ([(.sl (some (Lb, 0)) (ci).length (ci).length 0), (.b even)]) true))] ++ ([(Lb, some (.cells (((ci).map Ch.row).flatten) true))] ++ (B ++ (D ++ ((qseg o co) ++ (R))))))) ∧ T5.get 0 = (.p (some (T, 0))) ∧ T5.get 1 = v ∧ T5.get 6 = o ∧ T5.get 7 = (.i .i64 (((i : Nat)) : Int))) (fun m4 T5 H6 hI7 => ?_) ms.length _ _ ⟨(.sl none 0 0 0), [], [], [], cs, [], out, 0, rfl, Nat.zero_le _, Sq.nil, Mail.nil, hokL0, hcs, hpass, rfl, Nat.zero_le _, hH3, rfl, rfl, rfl, rfl⟩
 obtain ⟨o, co, lo, D, ci, oi, rest, i, hm8, hp9, hp10, hp11, hp12, hp13, hp14, hp15, hp16, hH21, hT17, hT18, hT19, hT20⟩ := hI7
 refine C_seq ?_
 refine sr ?_
 refine O_p (.i .i64 (((i : Nat)) : Int)) (r_mv hT20) ?_
 refine O_p v (r_mv hT18) ?_
 refine O_p (.i .i64 (((ms.length : Nat)) : Int)) (by exact (by exact r_lenOf rfl (hsv.lenOf hmail.1 (by decide)) hsv.isSl)) ?_
 refine O_p (.b (decide ((((i : Nat)) : Int) < (((ms.length : Nat)) : Int)))) (r_lss rfl rfl) ?_
 refine O_nil ?_
 refine C_cond (x := (decide ((((i : Nat)) : Int) < (((ms.length : Nat)) : Int)))) rfl (fun hc22 => ?_) (fun hc22 => ?_)
 ·
  have hr23 := hc22
  try simp only [decide_eq_true_eq, decide_eq_false_iff_not, Bool.not_eq_true', Bool.not_eq_false', Bool.and_eq_true, Bool.or_eq_true, Bool.or_eq_false_iff, Bool.not_not, Bool.and_eq_false_iff] at hc22
  refine C_skip ?_
  refine C_seq ?_
  refine C_block ?_
  refine sr ?_
  obtain ⟨k, b, hms⟩ : ∃ k b, ms[i]? = some (k, b) := ⟨_, _, List.getElem?_eq_getElem (by omega)⟩
  obtain ⟨hk16, hbl, da, dc, dg, hrec, hdg, hdc, hdm, hmb⟩ := hmail.2 i k b hms
  have hdrop : ms.drop i = (k, b) :: ms.drop (i + 1) := by rw [List.drop_eq_getElem_cons (by omega)]; congr 1; exact Option.some.inj ((List.getElem?_eq_getElem (by omega)).symm.trans hms)
  have hps0 := hp14
  rw [hdrop] at hps0
  obtain ⟨her, hei, r2, hp2, hrest⟩ := pass_cons hps0
  refine O_p (.p (some (T, 0))) (r_mv hT17) ?_
  refine O_p v (r_mv hT18) ?_
  refine O_p (.i .i64 (((i : Nat)) : Int)) (r_mv hT20) ?_
  refine O_q (by exact Sq.row hsv hH21.top0 rfl (i := i) rfl hrec (by decide)) fun v25 hv24 => ?_
  obtain ⟨rb26, ro27, rc28, rfl, hrg29, hrt30⟩ := hv24
  refine O_p (.agg [(.i .u16 ((k : Nat) : Int)), (.b false), (.i .u32 50), (.sl da b.length dc dg)]) (r_ldA rfl hrg29 (rec_take (j := 0) (m := 4) hrt30 rfl)) ?_
  have hH31 := (((hH21.top3).top3).top3)
  refine O_call (Ev.mono (hear_ev (cs := ci) (k := k) hk16 hp13 htB false 50 hdg hmb hdc hdm hbl hH31) fun v32 H33 hq34 => ?_)
  obtain ⟨ra35, rn36, rc37, rg38, rv39, rq40, rD41, rfl, hrg42, hrnc43, hrcm44, hrall45, hrsq46, hrcap47, hH48⟩ := hq34
  obtain ⟨va51, vc52, vg53, rfl, hvg54, hvn55, hvm56⟩ := hrcap47
  have hokL49 : okL (hear ci even k 50 b).cs := okL_hear hp12
  have hle50 : (hear ci even k 50 b).cs.length ≤ 64 := by rw [hear_len]; exact hp13
  refine pv (.tup [(.agg [(.i .i64 (hear ci even k 50 b).ek), (.i .u16 (hear ci even k 50 b).ei), (.i .u8 (hear ci even k 50 b).ko), (.i .u16 (hear ci even k 50 b).po), (.i .u32 (hear ci even k 50 b).lo), (.s (txt (hear ci even k 50 b).ot)), (.s (txt (hear ci even k 50 b).oo)), (.b (hear ci even k 50 b).et), (.sl ra35 rn36 rc37 rg38)]), (.sl va51 (hear ci even k 50 b).rep.length vc52 vg53), (.i .i64 (hear ci even k 50 b).er)]) rfl ?_
  refine O_p (.agg [(.i .i64 (hear ci even k 50 b).ek), (.i .u16 (hear ci even k 50 b).ei), (.i .u8 (hear ci even k 50 b).ko), (.i .u16 (hear ci even k 50 b).po), (.i .u32 (hear ci even k 50 b).lo), (.s (txt (hear ci even k 50 b).ot)), (.s (txt (hear ci even k 50 b).oo)), (.b (hear ci even k 50 b).et), (.sl ra35 rn36 rc37 rg38)]) (r_ext rfl rfl) ?_
  refine O_p (.sl va51 (hear ci even k 50 b).rep.length vc52 vg53) (r_ext rfl rfl) ?_
  refine O_p (.i .i64 (hear ci even k 50 b).er) (r_ext rfl rfl) ?_
  refine O_alloc fun n57 H58 hN59 => ?_
  have hH60 := hH48.new hN59
  refine O_store (vs := [(.i .i64 (hear ci even k 50 b).ek), (.i .u16 (hear ci even k 50 b).ei), (.i .u8 (hear ci even k 50 b).ko), (.i .u16 (hear ci even k 50 b).po), (.i .u32 (hear ci even k 50 b).lo), (.s (txt (hear ci even k 50 b).ot)), (.s (txt (hear ci even k 50 b).oo)), (.b (hear ci even k 50 b).et), (.sl ra35 rn36 rc37 rg38)]) (c' := [(.i .i64 (hear ci even k 50 b).ek), (.i .u16 (hear ci even k 50 b).ei), (.i .u8 (hear ci even k 50 b).ko), (.i .u16 (hear ci even k 50 b).po), (.i .u32 (hear ci even k 50 b).lo), (.s (txt (hear ci even k 50 b).ot)), (.s (txt (hear ci even k 50 b).oo)), (.b (hear ci even k 50 b).et), (.sl ra35 rn36 rc37 rg38)]) rfl (by rfl) hH60.get0 rfl (List.cons_ne_nil _ _) (Nat.le_of_ble_eq_true rfl) rfl fun H61 hW62 => ?_
  have hH63 := hH60.wr0 hW62
  refine pv (.sl va51 (hear ci even k 50 b).rep.length vc52 vg53) rfl ?_
  refine pv (.i .i64 (hear ci even k 50 b).er) rfl ?_
  refine O_nil ?_
  refine C_seq ?_
  refine C_seq ?_
  refine C_draw fun b64 H65 hbase66 hA67 => ?_
  have hH68 := hH63.keep (by have := hA67.1; omega) (fun q _ => hA67.2 q) ((hH63.old).aside hA67).ok
  refine D_l (v := (.i .i64 (hear ci even k 50 b).er)) rfl rfl rfl (r_mv rfl) ?_
  refine D_l (v := (.b false)) rfl rfl rfl (by exact (by rw [r_neq rfl rfl, decide_eq_true (by first | omega | assumption)]; rfl)) ?_
  refine D_l (v := (.b false)) rfl rfl rfl (r_mv rfl) ?_
  refine D_gk rfl ?_
  refine D_l (v := (.p (some (n57, 1)))) rfl rfl rfl (r_fadd' rfl rfl) ?_
  refine D_gk rfl ?_
  refine D_l (v := v) rfl rfl rfl (r_mv hT18) ?_
  refine D_gk rfl ?_
  refine D_l (v := (.i .i64 (((i : Nat)) : Int))) rfl rfl rfl (r_mv hT20) ?_
  refine D_gk rfl ?_
  refine D_q rfl rfl rfl (by exact Sq.row hsv hH68.top6 rfl (i := i) rfl hrec (by decide)) fun v70 hv69 => ?_
  obtain ⟨rb71, ro72, rc73, rfl, hrg74, hrt75⟩ := hv69
  refine D_gk rfl ?_
  refine D_l (v := (.p (some (rb71, (ro72 + 0))))) rfl rfl rfl (r_fadd' rfl rfl) ?_
  refine D_gk rfl ?_
  refine D_r (v := (.i .u16 (hear ci even k 50 b).ei)) rfl rfl rfl (r_ld rfl hH68.get0 rfl) ?_
  refine D_gk rfl ?_
  refine D_r (v := (.i .u16 ((k : Nat) : Int))) rfl rfl rfl (r_ld rfl hrg74 (rec_get (j := 0) hrt75 rfl)) ?_
  refine D_gk rfl ?_
  refine D_l (v := (.b false)) rfl rfl rfl (by exact (by rw [r_neq rfl rfl, decide_eq_true (by first | omega | assumption)]; rfl)) ?_
  refine D_l (v := (.b false)) rfl rfl rfl (r_pick_f rfl rfl) ?_
  refine D_nil ?_
  refine C_cond (x := false) rfl (fun h => by cases h) (fun _ => ?_)
  refine C_skip ?_
  refine sr ?_
  refine pv (.sl va51 (hear ci even k 50 b).rep.length vc52 vg53) rfl ?_
  refine O_p (.i .i64 ((((hear ci even k 50 b).rep.length : Nat)) : Int)) (r_len rfl) ?_
  refine O_p (.b (decide (0 < ((((hear ci even k 50 b).rep.length : Nat)) : Int)))) (r_gtr rfl rfl) ?_
  refine O_nil ?_
  refine C_cond (x := (decide (0 < ((((hear ci even k 50 b).rep.length : Nat)) : Int)))) rfl (fun hc76 => ?_) (fun hc76 => ?_)
  ·
   have hr77 := hc76
   try simp only [decide_eq_true_eq, decide_eq_false_iff_not, Bool.not_eq_true', Bool.not_eq_false', Bool.and_eq_true, Bool.or_eq_true, Bool.or_eq_false_iff, Bool.not_not, Bool.and_eq_false_iff] at hc76
   have hrep : 0 < (hear ci even k 50 b).rep.length := by omega
   refine C_region ?_
   refine O_p o (r_mv hT19) ?_
   refine O_p v (r_mv hT18) ?_
   refine O_p (.i .i64 (((i : Nat)) : Int)) (r_mv hT20) ?_
   refine O_q (by exact Sq.row hsv hH68.top6 rfl (i := i) rfl hrec (by decide)) fun v79 hv78 => ?_
   obtain ⟨rb80, ro81, rc82, rfl, hrg83, hrt84⟩ := hv78
   refine pf (.p (some (rb80, (ro81 + 0)))) rfl rfl ?_
   refine O_p (.i .u16 ((k : Nat) : Int)) (r_ld rfl hrg83 (rec_get (j := 0) hrt84 rfl)) ?_
   refine pv (.sl va51 (hear ci even k 50 b).rep.length vc52 vg53) rfl ?_
   refine O_p (.agg [(.i .u16 ((k : Nat) : Int)), (.b false), (.i .u32 50), (.sl va51 (hear ci even k 50 b).rep.length vc52 vg53)]) (r_build rfl) ?_
   refine O_bslice (c := [(.i .u16 ((k : Nat) : Int)), (.b false), (.i .u32 50), (.sl va51 (hear ci even k 50 b).rep.length vc52 vg53)]) rfl fun n85 H86 hN87 => ?_
   have hH88 := hH68.new hN87
   refine O_qh (by exact r_appq (n := oi.length) (k := 1) (new := [(.i .u16 ((k : Nat) : Int)), (.b false), (.i .u32 50), (.sl va51 (hear ci even k 50 b).rep.length vc52 vg53)]) hH88.top9 hp10 rfl rfl rfl (src_blk hH88.get0 (by rfl)) rfl (by decide) (by decide) hp11.1 (by first | omega | (simp only [List.length_take, List.length_drop, List.length_append, List.length_cons, List.length_nil, beN_len] <;> omega))) fun o89 H90 hA92 => ?_
   obtain ⟨c91, hA92, hH93⟩ := hA92
   refine pv o89 rfl ?_
   refine O_nil ?_
   refine C_region ?_
   refine O_p (.i .i64 (((i : Nat)) : Int)) (r_mv hT20) ?_
   refine O_p (.i .i64 ((((i : Nat)) : Int) + 1)) (by exact (r_addi rfl rfl (wrap_i64 (by omega) (by omega)))) ?_
   refine pv (.i .i64 ((((i : Nat)) : Int) + 1)) rfl ?_
   refine O_nil ?_
   have hH94 := (((hH93.sub1).sub1).sub1)
   have hH95 := ((((((hH94.top4).top4).top4).top5).top5).top6)
   have hH96 := (Hs.unassoc hH95)
   have hH97 := ((((((hH96.top5).top1).top5).top5).top5).top5)
   have hrl := hear_rep (cs := ci) (even := even) (k := k) (ppid := 50) (b := b)
   exact ⟨ms.length - (i + 1), by omega, o89, c91, (lo ++ [(.i .u16 ((k : Nat) : Int)), (.b false), (.i .u32 50), (.sl va51 (hear ci even k 50 b).rep.length vc52 vg53)]), (D ++ (qseg (.sl va51 (hear ci even k 50 b).rep.length vc52 vg53) rq40)), (hear ci even k 50 b).cs, (oi ++ [(k, (hear ci even k 50 b).rep)]), r2, (i + 1), rfl, by omega, hA92, hp11.snoc hk16 (by omega) hvg54 hvn55 hvm56 hrsq46, hokL49, hle50, hp2, by rw [hp15, hrest, if_pos hrep, List.append_assoc], by rw [List.length_append]; simp only [List.length_cons, List.length_nil]; omega, hH97, hT17, hT18, rfl, rfl⟩
  ·
   have hr98 := hc76
   try simp only [decide_eq_true_eq, decide_eq_false_iff_not, Bool.not_eq_true', Bool.not_eq_false', Bool.and_eq_true, Bool.or_eq_true, Bool.or_eq_false_iff, Bool.not_not, Bool.and_eq_false_iff] at hc76
   have hrep : ¬ 0 < (hear ci even k 50 b).rep.length := by omega
   refine C_skip ?_
   refine C_region ?_
   refine O_p (.i .i64 (((i : Nat)) : Int)) (r_mv hT20) ?_
   refine O_p (.i .i64 ((((i : Nat)) : Int) + 1)) (by exact (r_addi rfl rfl (wrap_i64 (by omega) (by omega)))) ?_
   refine pv (.i .i64 ((((i : Nat)) : Int) + 1)) rfl ?_
   refine O_nil ?_
   have hH99 := (((hH68.sub0).sub0).sub0)
   have hH100 := ((((((hH99.top5).top5).top4).top4).top4).top5)
   exact ⟨ms.length - (i + 1), by omega, o, co, lo, D, (hear ci even k 50 b).cs, oi, r2, (i + 1), rfl, by omega, hp10, hp11, hokL49, hle50, hp2, by rw [hp15, hrest, if_neg hrep, List.nil_append], by omega, hH100, hT17, hT18, hT19, rfl⟩
 ·
  have hr101 := hc22
  try simp only [decide_eq_true_eq, decide_eq_false_iff_not, Bool.not_eq_true', Bool.not_eq_false', Bool.and_eq_true, Bool.or_eq_true, Bool.or_eq_false_iff, Bool.not_not, Bool.and_eq_false_iff] at hc22
  have hi : i = ms.length := by omega
  refine C_exit ?_
  refine nx_exit ?_
  refine nx_exit ?_
  refine bk_hit ?_
  refine sr ?_
  refine O_p o (r_mv hT19) ?_
  refine pv o rfl ?_
  refine pv (.b true) rfl ?_
  refine O_nil ?_
  refine C_ret ?_
  have hps0 := hp14
  rw [hi, List.drop_length] at hps0
  simp only [passR, Option.some.injEq, Prod.mk.injEq] at hps0
  obtain ⟨rfl, rfl⟩ := hps0
  have hH102 := (hH21.sub0)
  have hH103 := (((((hH102.top2).top2).top2).top4).top4)
  exact ⟨.inr rfl, _, resL_cons (r_tmp (v := o) rfl) (resL_one (r_tmp (v := .b true) rfl)), o, co, lo, D, rfl, hp10, by rw [hp15, List.append_nil]; exact hp11, hp12, hp13, hH103⟩
set_option maxRecDepth 100000 in
theorem ask2_ok {H : AH} {T Lb : Nat} {cs : List Ch} {even : Bool} {H0 : AH} {R : HL} (hok0 : H0.Ok) (htb0 : Tb H0) (kind prio limit : Int) (label proto : List UInt8) (hk : 0 ≤ kind ∧ kind < 256) (hp : 0 ≤ prio ∧ prio < 65536) (hl : 0 ≤ limit ∧ limit < 4294967296) (hll : label.length ≤ 9223372036854775807) (hpl : proto.length ≤ 9223372036854775807) (hE : encE kind label proto = 0) (hcs : cs.length ≤ 64) (hH0 : Hs H ([(T, some (.cells [.sl (some (Lb, 0)) cs.length cs.length 0, .b even] true))] ++ ([(Lb, some (.cells ((cs).map Ch.row).flatten true))] ++ (allL H0 ++ R)))) : Ev tabV spV (.fn (.func 23) [] []) [.p (some (T, 0)), .agg [(.i .u8 kind), (.i .u16 prio), (.i .u32 limit), (.s (txt label)), (.s (txt proto))]] H (fun r H' => ∃ v c, r = .tup [.i .u16 (askS cs even kind label proto), v, .i .i64 (askE cs even kind label proto)] ∧ Sq 1 v c (bcells (askO cs even kind prio limit label proto)) ∧ Capd v (askO cs even kind prio limit label proto).length ∧ Hs H' (qseg v c ++ ([(T, some (.cells [.sl (some (Lb, 0)) (askC cs even kind prio limit label proto).length (askC cs even kind prio limit label proto).length 0, .b even] true))] ++ ([(Lb, some (.cells ((askC cs even kind prio limit label proto).map Ch.row).flatten true))] ++ (allL H0 ++ R))))) := by
 refine Ev_C (F := x23) rfl ?_
 refine sr ?_
 refine O_box (z := [(.i .u8 kind), (.i .u16 prio), (.i .u32 limit), (.s (txt label)), (.s (txt proto))]) rfl fun n1 H2 hN3 => ?_
 have hH4 := hH0.new hN3
 refine pv (.i .u16 0) rfl ?_
 refine pv (.sl none 0 0 0) rfl ?_
 refine pv (.i .i64 0) rfl ?_
 refine O_nil ?_
 refine C_seq ?_
 refine sr ?_
 refine pv (.p (some (T, 0))) rfl ?_
 refine O_p (.b false) (r_nilq_s rfl) ?_
 refine O_nil ?_
 refine C_cond (x := false) rfl (fun h => by cases h) (fun _ => ?_)
 refine C_skip ?_
 refine sr ?_
 refine O_p (.agg [(.i .u8 kind), (.i .u16 prio), (.i .u32 limit), (.s (txt label)), (.s (txt proto))]) (r_ldA rfl hH4.get0 rfl) ?_
 refine O_call (Ev.mono (enc_ev hH4.ok (Tb.ro htb0 hok0 hH4.top3) kind prio limit label proto hk hp hl hll hpl) fun v5 H6 hq7 => ?_)
 rw [hE, encR_ok hE] at hq7
 obtain ⟨o8, rfl, hM9, hK10⟩ := hq7
 obtain ⟨qa, qg, rfl, hqg, _⟩ := hM9.own.bs
 have hsq11 := Sq.ofMine hH4 hM9 hK10
 have hH12 := Hs.ofMine hH4 hM9 hK10
 refine pv (.tup [(.sl qa (encB kind prio limit label proto).length (encB kind prio limit label proto).length qg), (.i .i64 0)]) rfl ?_
 refine O_p (.sl qa (encB kind prio limit label proto).length (encB kind prio limit label proto).length qg) (r_ext rfl rfl) ?_
 refine O_p (.i .i64 0) (r_ext rfl rfl) ?_
 refine pv (.sl qa (encB kind prio limit label proto).length (encB kind prio limit label proto).length qg) rfl ?_
 refine pv (.i .i64 0) rfl ?_
 refine O_nil ?_
 refine C_seq ?_
 refine sr ?_
 refine pv (.i .i64 0) rfl ?_
 refine O_p (.b false) (r_bin rfl rfl rfl) ?_
 refine O_nil ?_
 refine C_cond (x := false) rfl (fun h => by cases h) (fun _ => ?_)
 refine C_skip ?_
 refine C_seq ?_
 refine sr ?_
 refine pv (.p (some (T, 0))) rfl ?_
 refine O_p (.p (some (T, 0))) (r_nilc rfl) ?_
 refine pf (.p (some (T, 0))) rfl rfl ?_
 refine O_p (.sl (some (Lb, 0)) cs.length cs.length 0) (r_ld rfl hH12.get2 rfl) ?_
 refine O_p (.i .i64 (((cs.length : Nat)) : Int)) (r_len rfl) ?_
 refine pv (.i .i64 0) rfl ?_
 refine O_nil ?_
 refine C_block ?_
 refine C_while (fun m13 T14 H15 => ∃ i : Nat, m13 = cs.length - i ∧ i ≤ cs.length ∧ (∀ j, j < i → askB cs even j = false) ∧ Hs H15 ((qseg (.sl qa (encB kind prio limit label proto).length (encB kind prio limit label proto).length qg) (bcells (encB kind prio limit label proto))) ++ ([(n1, some (.cells ([(.i .u8 kind), (.i .u16 prio), (.i .u32 limit), (.s (txt label)), (.s (txt proto))]) true))] ++ ([(T, some (.cells ([(.sl (some (Lb, 0)) cs.length cs.length 0), (.b even)]) true))] ++ ([(Lb, some (.cells ((cs.map Ch.row).flatten) true))] ++ ((allL H0) ++ (R)))))) ∧ T14.get 0 = (.p (some (T, 0))) ∧ T14.get 3 = (.p (some (n1, 0))) ∧ T14.get 7 = (.sl qa (encB kind prio limit label proto).length (encB kind prio limit label proto).length qg) ∧ T14.get 24 = (.i .i64 (((cs.length : Nat)) : Int)) ∧ T14.get 25 = (.i .i64 (((i : Nat)) : Int))) (fun m13 T14 H15 hI16 => ?_) cs.length _ _ ⟨0, rfl, Nat.zero_le _, fun j hj => absurd hj (Nat.not_lt_zero _), hH12, rfl, rfl, rfl, rfl, rfl⟩
 obtain ⟨i, hm17, hp18, hp19, hH25, hT20, hT21, hT22, hT23, hT24⟩ := hI16
 have hbefore := hp19
 refine sr ?_
 refine O_p (.b (decide ((((i : Nat)) : Int) < (((cs.length : Nat)) : Int)))) (r_lss hT24 hT23) ?_
 refine O_nil ?_
 refine C_seq ?_
 refine C_cond (x := (decide ((((i : Nat)) : Int) < (((cs.length : Nat)) : Int)))) rfl (fun hc26 => ?_) (fun hc26 => ?_)
 ·
  have hr27 := hc26
  try simp only [decide_eq_true_eq, decide_eq_false_iff_not, Bool.not_eq_true', Bool.not_eq_false', Bool.and_eq_true, Bool.or_eq_true, Bool.or_eq_false_iff, Bool.not_not, Bool.and_eq_false_iff] at hc26
  refine C_skip ?_
  refine C_seq ?_
  refine C_block ?_
  refine sr ?_
  obtain ⟨c, hc⟩ := ex_at (cs := cs) (k := i) (by omega)
  have hgd := getD_of hc
  have hH28 := hH25.cong3 (seg_foc (n := Lb) (enc := Ch.row) hc)
  refine O_p (.i .i64 (((i : Nat)) : Int)) (r_mv hT24) ?_
  refine pv (.i .i64 (((i : Nat)) : Int)) rfl ?_
  refine O_nil (sr ?_)
  refine O_p (.p (some (T, 0))) (r_mv hT20) ?_
  refine pv (.i .i64 (((i : Nat)) : Int)) rfl ?_
  refine O_call (Ev.mono (own_ev hH28.ok (hH28.get2) i (by omega)) fun v29 H30 hq31 => ?_)
  obtain ⟨rfl, hq31⟩ := hq31
  subst H30
  refine pv (.b (ownB i even)) rfl ?_
  refine O_gx (e := (ownB i even)) (v := (.p (some (T, 0)))) (wt rfl) (fun he => (r_mv hT20)) ?_
  refine O_gx (e := (ownB i even)) (v := (.p (some (T, 0)))) (wt rfl) (fun he => (r_nilc (cond_pos he))) ?_
  refine O_gx (e := (ownB i even)) (v := (.p (some (T, 0)))) (wt rfl) (fun he => (r_fadd' (cond_pos he) rfl)) ?_
  refine O_gx (e := (ownB i even)) (v := (.sl (some (Lb, 0)) cs.length cs.length 0)) (wt rfl) (fun he => (r_ld (cond_pos he) hH28.get2 rfl)) ?_
  refine O_gx (e := (ownB i even)) (v := (.i .i64 (((i : Nat)) : Int))) (wt rfl) (fun he => (r_mv rfl)) ?_
  refine O_gx (e := (ownB i even)) (v := (.p (some (Lb, (i * 8 + 0))))) (wt rfl) (fun he => (by exact (r_islr (b := Lb) (k := i) (len := cs.length) (cap := cs.length) (g := 0) (cond_pos he) (cond_pos he) (by omega)))) ?_
  refine O_gx (e := (ownB i even)) (v := (.p (some (Lb, (i * 8 + 0))))) (wt rfl) (fun he => (r_fadd' (cond_pos he) rfl)) ?_
  refine O_gx (e := (ownB i even)) (v := (.i .i64 c.st)) (wt rfl) (fun he => (by exact (r_ld (cond_pos he) hH28.get3 ((foc_get (rows_map Ch.row_len cs) (by rw [List.length_map]; omega) rfl (by decide)).trans rfl)))) ?_
  refine O_gx (e := (ownB i even)) (v := (.b (decide (c.st = 0)))) (wt rfl) (fun he => (r_eql (cond_pos he) rfl)) ?_
  refine O_p (.b ((ownB i even) && (decide (c.st = 0)))) (r_pick_and rfl rfl rfl rfl) ?_
  refine O_nil ?_
  refine C_cond (x := ((ownB i even) && (decide (c.st = 0)))) rfl (fun hc32 => ?_) (fun hc32 => ?_)
  ·
   have hr33 := hc32
   try simp only [decide_eq_true_eq, decide_eq_false_iff_not, Bool.not_eq_true', Bool.not_eq_false', Bool.and_eq_true, Bool.or_eq_true, Bool.or_eq_false_iff, Bool.not_not, Bool.and_eq_false_iff] at hc32
   have hab : askB cs even i = true := by unfold askB; rw [hgd]; exact hr33
   have hK := askK_hit (by omega) hab hbefore
   refine C_seq ?_
   refine C_draw fun b34 H35 hbase36 hA37 => ?_
   have hH38 := hH28.keep (by have := hA37.1; omega) (fun q _ => hA37.2 q) ((hH28.old).aside hA37).ok
   refine D_l (v := (.p (some (T, 0)))) rfl rfl rfl (r_mv hT20) ?_
   refine D_l (v := (.p (some (T, 0)))) rfl rfl rfl (r_nilc rfl) ?_
   refine D_l (v := (.p (some (T, 0)))) rfl rfl rfl (r_fadd' rfl rfl) ?_
   refine D_l (v := (.i .i64 (((i : Nat)) : Int))) rfl rfl rfl (r_mv rfl) ?_
   refine D_r (v := (.sl (some (Lb, 0)) cs.length cs.length 0)) rfl rfl rfl (r_ld rfl hH38.get2 rfl) ?_
   refine D_r (v := (.agg [(.i .u8 kind), (.i .u16 prio), (.i .u32 limit), (.s (txt label)), (.s (txt proto))])) rfl rfl rfl (r_ldA hT21 hH38.get1 rfl) ?_
   refine D_l (v := (.agg [(.i .i64 1), (.i .u8 kind), (.i .u16 prio), (.i .u32 limit), (.s (txt label)), (.s (txt proto)), (.b false), (.b false)])) rfl rfl rfl (r_build rfl) ?_
   refine D_l (v := (.p (some (Lb, (i * 8 + 0))))) rfl rfl rfl (by exact (r_islr (b := Lb) (k := i) (len := cs.length) (cap := cs.length) (g := 0) rfl rfl (by omega))) ?_
   refine D_store (vs := [(.i .i64 1), (.i .u8 kind), (.i .u16 prio), (.i .u32 limit), (.s (txt label)), (.s (txt proto)), (.b false), (.b false)]) (c' := ((cs.map Ch.row).set i [(.i .i64 1), (.i .u8 kind), (.i .u16 prio), (.i .u32 limit), (.s (txt label)), (.s (txt proto)), (.b false), (.b false)]).flatten) rfl (by rfl) hH38.get3 rfl (List.cons_ne_nil _ _) (foc_len (n := 8) (rows_map Ch.row_len cs) (by rw [List.length_map]; omega) rfl (Nat.le_of_ble_eq_true rfl)) (foc_put (rows_map Ch.row_len cs) (by rw [List.length_map]; omega) rfl (Nat.le_of_ble_eq_true rfl) rfl) fun H39 hW40 => ?_
   have hH41 := hH38.wr3 hW40
   refine And.intro (And.intro (Or.inl rfl) (And.intro (Or.inl rfl) True.intro)) ?_
   refine D_nil ?_
   refine sr ?_
   refine pv (.i .i64 (((i : Nat)) : Int)) rfl ?_
   refine O_p (.i .u16 (((i : Nat)) : Int)) (by exact (r_cint' rfl (by rw [wrap_u16]; omega))) ?_
   refine O_p (.sl qa (encB kind prio limit label proto).length (encB kind prio limit label proto).length qg) (r_mv hT22) ?_
   refine pv (.i .u16 (((i : Nat)) : Int)) rfl ?_
   refine pv (.sl qa (encB kind prio limit label proto).length (encB kind prio limit label proto).length qg) rfl ?_
   refine pv (.i .i64 0) rfl ?_
   refine O_nil ?_
   refine C_ret ?_
   refine bk_ret ?_
   refine nx_ret ?_
   refine nx_ret ?_
   refine bk_ret ?_
   refine nx_ret ?_
   have h1 : askE cs even kind label proto = 0 := by unfold askE; rw [if_neg (by rw [hE]; decide), hK]
   have h2 : askS cs even kind label proto = (i : Int) := by unfold askS; rw [if_neg (by rw [hE]; decide), hK]
   have h3 : askO cs even kind prio limit label proto = encB kind prio limit label proto := by unfold askO; rw [if_neg (by rw [hE]; decide), hK]
   have h4 : askC cs even kind prio limit label proto = cs.set i ⟨1, kind, prio, limit, label, proto, false, false⟩ := by unfold askC; rw [if_neg (by rw [hE]; decide), hK]
   have hH42 := Hs.cong3 (B := [(Lb, some (.cells ((cs.set i (⟨1, kind, prio, limit, label, proto, false, false⟩)).map Ch.row).flatten true))]) hH41 (seg_shut (enc := Ch.row) (c := (⟨1, kind, prio, limit, label, proto, false, false⟩)))
   have hH43 := (hH42.sub1)
   have hH44 := ((((hH43.top3).top3).top3).top3)
   exact ⟨.inr rfl, _, resL_cons (r_tmp (v := (.i .u16 (((i : Nat)) : Int))) rfl) (resL_cons (r_tmp (v := (.sl qa (encB kind prio limit label proto).length (encB kind prio limit label proto).length qg)) rfl) (resL_one (r_tmp (v := (.i .i64 0)) rfl))), _, _, by rw [h1, h2]; rfl, by rw [h3]; exact hsq11, by rw [h3]; exact ⟨qa, _, qg, rfl, hqg, Nat.le_refl _, by rw [encB_len]; have := encE_0 hE; omega⟩, by rw [h4, List.length_set]; exact hH44⟩
  ·
   have hr45 := hc32
   try simp only [decide_eq_true_eq, decide_eq_false_iff_not, Bool.not_eq_true', Bool.not_eq_false', Bool.and_eq_true, Bool.or_eq_true, Bool.or_eq_false_iff, Bool.not_not, Bool.and_eq_false_iff] at hc32
   have hab : askB cs even i = false := by unfold askB; rw [hgd]; exact hr45
   have hmiss := hab
   refine C_skip ?_
   refine C_region ?_
   refine O_p (.i .i64 ((((i : Nat)) : Int) + 1)) (by exact (r_addi hT24 rfl (wrap_i64 (by omega) (by omega)))) ?_
   refine pv (.i .i64 ((((i : Nat)) : Int) + 1)) rfl ?_
   refine O_nil ?_
   exact ⟨cs.length - (i + 1), by omega, (i + 1), rfl, by omega, by intro j hj; rcases Nat.lt_succ_iff_lt_or_eq.1 hj with h | h; exact hbefore j h; subst h; exact hmiss, hH25, hT20, hT21, hT22, hT23, rfl⟩
 ·
  have hr46 := hc26
  try simp only [decide_eq_true_eq, decide_eq_false_iff_not, Bool.not_eq_true', Bool.not_eq_false', Bool.and_eq_true, Bool.or_eq_true, Bool.or_eq_false_iff, Bool.not_not, Bool.and_eq_false_iff] at hc26
  have hi : i = cs.length := by omega
  have hK := askK_none (fun j hj => hbefore j (by omega))
  refine C_exit ?_
  refine nx_exit ?_
  refine nx_exit ?_
  refine bk_hit ?_
  refine sr ?_
  refine pv (.i .u16 0) rfl ?_
  refine pv (.sl none 0 0 0) rfl ?_
  refine pv (.i .i64 9) rfl ?_
  refine O_nil ?_
  refine C_ret ?_
  have h1 : askE cs even kind label proto = 9 := by unfold askE; rw [if_neg (by rw [hE]; decide), hK]
  have h2 : askS cs even kind label proto = 0 := by unfold askS; rw [if_neg (by rw [hE]; decide), hK]
  have h3 : askO cs even kind prio limit label proto = [] := by unfold askO; rw [if_neg (by rw [hE]; decide), hK]
  have h4 : askC cs even kind prio limit label proto = cs := by unfold askC; rw [if_neg (by rw [hE]; decide), hK]
  have hH47 := ((hH25.sub0).sub0)
  have hH48 := (((hH47.top2).top2).top2)
  exact ⟨.inr rfl, _, resL_cons (r_tmp (v := (.i .u16 0)) rfl) (resL_cons (r_tmp (v := (.sl none 0 0 0)) rfl) (resL_one (r_tmp (v := (.i .i64 9)) rfl))), _, [], by rw [h1, h2]; rfl, by rw [h3]; exact Sq.nil, by rw [h3]; exact ⟨none, 0, 0, rfl, .inl rfl, Nat.le_refl _, by omega⟩, by rw [h4]; exact hH48⟩
set_option maxRecDepth 100000 in
theorem ask2_bad {H : AH} {T Lb : Nat} {cs : List Ch} {even : Bool} {H0 : AH} {R : HL} (hok0 : H0.Ok) (htb0 : Tb H0) (kind prio limit : Int) (label proto : List UInt8) (hk : 0 ≤ kind ∧ kind < 256) (hp : 0 ≤ prio ∧ prio < 65536) (hl : 0 ≤ limit ∧ limit < 4294967296) (hll : label.length ≤ 9223372036854775807) (hpl : proto.length ≤ 9223372036854775807) (hE : ¬ encE kind label proto = 0) (hcs : cs.length ≤ 64) (hH0 : Hs H ([(T, some (.cells [.sl (some (Lb, 0)) cs.length cs.length 0, .b even] true))] ++ ([(Lb, some (.cells ((cs).map Ch.row).flatten true))] ++ (allL H0 ++ R)))) : Ev tabV spV (.fn (.func 23) [] []) [.p (some (T, 0)), .agg [(.i .u8 kind), (.i .u16 prio), (.i .u32 limit), (.s (txt label)), (.s (txt proto))]] H (fun r H' => ∃ v c, r = .tup [.i .u16 (askS cs even kind label proto), v, .i .i64 (askE cs even kind label proto)] ∧ Sq 1 v c (bcells (askO cs even kind prio limit label proto)) ∧ Capd v (askO cs even kind prio limit label proto).length ∧ Hs H' (qseg v c ++ ([(T, some (.cells [.sl (some (Lb, 0)) (askC cs even kind prio limit label proto).length (askC cs even kind prio limit label proto).length 0, .b even] true))] ++ ([(Lb, some (.cells ((askC cs even kind prio limit label proto).map Ch.row).flatten true))] ++ (allL H0 ++ R))))) := by
 refine Ev_C (F := x23) rfl ?_
 refine sr ?_
 refine O_box (z := [(.i .u8 kind), (.i .u16 prio), (.i .u32 limit), (.s (txt label)), (.s (txt proto))]) rfl fun n1 H2 hN3 => ?_
 have hH4 := hH0.new hN3
 refine pv (.i .u16 0) rfl ?_
 refine pv (.sl none 0 0 0) rfl ?_
 refine pv (.i .i64 0) rfl ?_
 refine O_nil ?_
 refine C_seq ?_
 refine sr ?_
 refine pv (.p (some (T, 0))) rfl ?_
 refine O_p (.b false) (r_nilq_s rfl) ?_
 refine O_nil ?_
 refine C_cond (x := false) rfl (fun h => by cases h) (fun _ => ?_)
 refine C_skip ?_
 refine sr ?_
 refine O_p (.agg [(.i .u8 kind), (.i .u16 prio), (.i .u32 limit), (.s (txt label)), (.s (txt proto))]) (r_ldA rfl hH4.get0 rfl) ?_
 refine O_call (Ev.mono (enc_ev hH4.ok (Tb.ro htb0 hok0 hH4.top3) kind prio limit label proto hk hp hl hll hpl) fun v5 H6 hq7 => ?_)
 rw [encR_bad hE] at hq7
 obtain ⟨o8, rfl, hM9, hK10⟩ := hq7
 have hsq11 := Sq.ofMine hH4 hM9 hK10
 have hH12 := Hs.ofMine hH4 hM9 hK10
 refine pv (.tup [o8, (.i .i64 (encE kind label proto))]) rfl ?_
 refine O_p o8 (r_ext rfl rfl) ?_
 refine O_p (.i .i64 (encE kind label proto)) (r_ext rfl rfl) ?_
 refine pv o8 rfl ?_
 refine pv (.i .i64 (encE kind label proto)) rfl ?_
 refine O_nil ?_
 refine C_seq ?_
 refine sr ?_
 refine pv (.i .i64 (encE kind label proto)) rfl ?_
 refine O_p (.b true) (by exact (by rw [r_neq rfl rfl, decide_eq_false (by first | omega | assumption)]; rfl)) ?_
 refine O_nil ?_
 refine C_cond (x := true) rfl (fun _ => ?_) (fun h => by cases h)
 refine sr ?_
 refine pv (.i .i64 (encE kind label proto)) rfl ?_
 refine pv (.i .u16 0) rfl ?_
 refine pv (.sl none 0 0 0) rfl ?_
 refine pv (.i .i64 (encE kind label proto)) rfl ?_
 refine O_nil ?_
 refine C_ret ?_
 refine nx_ret ?_
 have h1 : askE cs even kind label proto = encE kind label proto := if_pos hE
 have h2 : askS cs even kind label proto = 0 := if_pos hE
 have h3 : askO cs even kind prio limit label proto = [] := if_pos hE
 have h4 : askC cs even kind prio limit label proto = cs := if_pos hE
 have hH13 := ((hH12.sub0).sub0)
 have hH14 := (((hH13.top2).top2).top2)
 exact ⟨.inr rfl, _, resL_cons (r_tmp (v := (.i .u16 0)) rfl) (resL_cons (r_tmp (v := (.sl none 0 0 0)) rfl) (resL_one (r_tmp (v := (.i .i64 (encE kind label proto))) rfl))), _, [], by rw [h1, h2]; rfl, by rw [h3]; exact Sq.nil, by rw [h3]; exact ⟨none, 0, 0, rfl, .inl rfl, Nat.le_refl _, by omega⟩, by rw [h4]; exact hH14⟩
theorem ask2_ev {H : AH} {T Lb : Nat} {cs : List Ch} {even : Bool} {H0 : AH} {R : HL} (hok0 : H0.Ok) (htb0 : Tb H0) (kind prio limit : Int) (label proto : List UInt8) (hk : 0 ≤ kind ∧ kind < 256) (hp : 0 ≤ prio ∧ prio < 65536) (hl : 0 ≤ limit ∧ limit < 4294967296) (hll : label.length ≤ 9223372036854775807) (hpl : proto.length ≤ 9223372036854775807) (hcs : cs.length ≤ 64) (hH0 : Hs H ([(T, some (.cells [.sl (some (Lb, 0)) cs.length cs.length 0, .b even] true))] ++ ([(Lb, some (.cells ((cs).map Ch.row).flatten true))] ++ (allL H0 ++ R)))) : Ev tabV spV (.fn (.func 23) [] []) [.p (some (T, 0)), .agg [(.i .u8 kind), (.i .u16 prio), (.i .u32 limit), (.s (txt label)), (.s (txt proto))]] H (fun r H' => ∃ v c, r = .tup [.i .u16 (askS cs even kind label proto), v, .i .i64 (askE cs even kind label proto)] ∧ Sq 1 v c (bcells (askO cs even kind prio limit label proto)) ∧ Capd v (askO cs even kind prio limit label proto).length ∧ Hs H' (qseg v c ++ ([(T, some (.cells [.sl (some (Lb, 0)) (askC cs even kind prio limit label proto).length (askC cs even kind prio limit label proto).length 0, .b even] true))] ++ ([(Lb, some (.cells ((askC cs even kind prio limit label proto).map Ch.row).flatten true))] ++ (allL H0 ++ R))))) := by
  by_cases hE : encE kind label proto = 0
  · exact ask2_ok hok0 htb0 kind prio limit label proto hk hp hl hll hpl hE hcs hH0
  · exact ask2_bad hok0 htb0 kind prio limit label proto hk hp hl hll hpl hE hcs hH0
end Go.Proofs.YtfhbdddjclodhaaDoor.E
