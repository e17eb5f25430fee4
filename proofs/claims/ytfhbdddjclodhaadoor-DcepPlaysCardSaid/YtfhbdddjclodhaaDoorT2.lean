/- Layer 18's table, walked (second part). It bears no condition. -/
import Derived.Test.YtfhbdddjclodhaaDoorT
namespace Go.Proofs.YtfhbdddjclodhaaDoor.E
abbrev zT2AA : List AV := [(.i .i64 0), (.i .u8 0), (.i .u16 0), (.i .u32 0), (.s ⟨#[]⟩), (.s ⟨#[]⟩), (.b false), (.b false)]

open Go.Lib
set_option linter.unusedVariables false
set_option linter.unusedSimpArgs false
def okC (c : Ch) : Prop := (c.st = 0 ∨ c.st = 1 ∨ c.st = 2 ∨ c.st = 3) ∧ (c.st ≠ 3 → c.mine = false ∧ c.theirs = false)
def Ch.to (c : Ch) (n : Int) : Ch := ⟨n, c.kind, c.prio, c.limit, c.label, c.proto, c.mine, c.theirs⟩
def closeE (cs : List Ch) (k : Nat) : Int := if livesI (cs.getD k ch0).st = true then 0 else 11
def closeC (cs : List Ch) (k : Nat) : List Ch := if livesI (cs.getD k ch0).st = true then cs.set k ((cs.getD k ch0).to 3) else cs
def goneC (cs : List Ch) (k : Nat) : List Ch := if (cs.getD k ch0).st = 0 then cs else cs.set k ((cs.getD k ch0).shut false true)
def freedC (cs : List Ch) (k : Nat) : List Ch := if (cs.getD k ch0).st = 3 then cs.set k ((cs.getD k ch0).shut true false) else cs
theorem getD_out {cs : List Ch} {k : Nat} (h : ¬ k < cs.length) : cs.getD k ch0 = ch0 := by
 rw [List.getD_eq_getElem?_getD, List.getElem?_eq_none (by omega)]; rfl
theorem livesI_iff {n : Int} : livesI n = true ↔ n = 1 ∨ n = 2 := by unfold livesI; simp
theorem shut_ff {c : Ch} (h : c.mine = false ∧ c.theirs = false) : c.shut false false = c.to 3 := by
 unfold Ch.shut Ch.to; rw [if_neg (by rw [h.1]; simp)]; simp
def Ch.freed (c : Ch) : Ch := if (c.mine && c.theirs) = true then ch0 else c
theorem shut_ft {c : Ch} : Ch.freed ⟨3, c.kind, c.prio, c.limit, c.label, c.proto, c.mine, true⟩ = c.shut false true := by
 unfold Ch.shut Ch.freed; simp
theorem shut_tf {c : Ch} (h : c.st = 3) : Ch.freed ⟨c.st, c.kind, c.prio, c.limit, c.label, c.proto, true, c.theirs⟩ = c.shut true false := by
 unfold Ch.shut Ch.freed; rw [h]; simp
def goneB (cs : List Ch) (k : Nat) : Bool := livesI (cs.getD k ch0).st
theorem state_in {H : AH} {T Lb : Nat} {cs : List Ch} {even : Bool} {R : HL} {k : Nat} (hk16 : k < 65536) (hcs : cs.length ≤ 64) (hk : k < cs.length)  (hH0 : Hs H ([(T, some (.cells [.sl (some (Lb, 0)) cs.length cs.length 0, .b even] true))] ++ ([(Lb, some (.cells ((cs).map Ch.row).flatten true))] ++ R))) : Ev tabV spV (.fn (.func 29) [] []) [.p (some (T, 0)), .i .u16 k] H (fun r H' => r = .i .i64 (cs.getD k ch0).st ∧ H' = H) := by
 refine Ev_C (F := x29) rfl ?_
 obtain ⟨c, hc⟩ := ex_at hk
 have hgd := getD_of hc
 have hH1 := hH0.cong1 (seg_foc (n := Lb) (enc := Ch.row) hc)
 refine sr ?_
 refine pv (.i .i64 0) rfl ?_
 refine O_nil ?_
 refine C_seq ?_
 refine sr ?_
 refine pv (.p (some (T, 0))) rfl ?_
 refine pv (.i .u16 ((k : Nat) : Int)) rfl ?_
 refine O_call (Ev.mono (at_in hH1.ok (hH1.get0) hk16 hk) fun v2 H3 hq4 => ?_)
 obtain ⟨rfl, hq4⟩ := hq4
 subst H3
 refine pv (.p (some (Lb, (k * 8 + 0)))) rfl ?_
 refine O_nil (sr ?_)
 refine pv (.p (some (Lb, (k * 8 + 0)))) rfl ?_
 refine O_p (.b true) (r_nilq_s rfl) ?_
 refine O_nil ?_
 refine C_cond (x := true) rfl (fun _ => ?_) (fun h => by cases h)
 refine sr ?_
 refine pv (.p (some (Lb, (k * 8 + 0)))) rfl ?_
 refine O_p (.p (some (Lb, (k * 8 + 0)))) (r_nilc rfl) ?_
 refine pf (.p (some (Lb, (k * 8 + 0)))) rfl rfl ?_
 refine O_p (.i .i64 c.st) (by exact (r_ld rfl hH1.get1 ((foc_get (rows_map Ch.row_len cs) (by rw [List.length_map]; omega) rfl (by decide)).trans rfl))) ?_
 refine pv (.i .i64 c.st) rfl ?_
 refine O_nil ?_
 refine C_ret ?_
 refine nx_ret ?_
 exact ⟨.inr rfl, _, resL_one (r_tmp (v := (.i .i64 c.st)) rfl), by rw [hgd]; rfl, rfl⟩
theorem state_out {H : AH} {T Lb : Nat} {cs : List Ch} {even : Bool} {R : HL} {k : Nat} (hk16 : k < 65536) (hcs : cs.length ≤ 64) (hk : ¬ k < cs.length)  (hH0 : Hs H ([(T, some (.cells [.sl (some (Lb, 0)) cs.length cs.length 0, .b even] true))] ++ ([(Lb, some (.cells ((cs).map Ch.row).flatten true))] ++ R))) : Ev tabV spV (.fn (.func 29) [] []) [.p (some (T, 0)), .i .u16 k] H (fun r H' => r = .i .i64 (cs.getD k ch0).st ∧ H' = H) := by
 refine Ev_C (F := x29) rfl ?_
 have hgd := getD_out hk
 refine sr ?_
 refine pv (.i .i64 0) rfl ?_
 refine O_nil ?_
 refine C_seq ?_
 refine sr ?_
 refine pv (.p (some (T, 0))) rfl ?_
 refine pv (.i .u16 ((k : Nat) : Int)) rfl ?_
 refine O_call (Ev.mono (at_out hH0.ok (hH0.get0) hk16 hk) fun v1 H2 hq3 => ?_)
 obtain ⟨rfl, hq3⟩ := hq3
 subst H2
 refine pv (.p none) rfl ?_
 refine O_nil (sr ?_)
 refine pv (.p none) rfl ?_
 refine O_p (.b false) (r_nilq_n rfl) ?_
 refine O_nil ?_
 refine C_cond (x := false) rfl (fun h => by cases h) (fun _ => ?_)
 refine C_skip ?_
 refine sr ?_
 refine pv (.i .i64 0) rfl ?_
 refine O_nil ?_
 refine C_ret ?_
 exact ⟨.inr rfl, _, resL_one (r_tmp (v := (.i .i64 0)) rfl), by rw [hgd]; rfl, rfl⟩
theorem openg_in {H : AH} {T Lb : Nat} {cs : List Ch} {even : Bool} {R : HL} {k : Nat} (hk16 : k < 65536) (hcs : cs.length ≤ 64) (hk : k < cs.length)  (hH0 : Hs H ([(T, some (.cells [.sl (some (Lb, 0)) cs.length cs.length 0, .b even] true))] ++ ([(Lb, some (.cells ((cs).map Ch.row).flatten true))] ++ R))) : Ev tabV spV (.fn (.func 27) [] []) [.p (some (T, 0)), .i .u16 k] H (fun r H' => r = .agg [.i .u8 (cs.getD k ch0).kind, .i .u16 (cs.getD k ch0).prio, .i .u32 (cs.getD k ch0).limit, .s (txt (cs.getD k ch0).label), .s (txt (cs.getD k ch0).proto)] ∧ Hs H' ([(T, some (.cells [.sl (some (Lb, 0)) cs.length cs.length 0, .b even] true))] ++ ([(Lb, some (.cells ((cs).map Ch.row).flatten true))] ++ R))) := by
 refine Ev_C (F := x27) rfl ?_
 obtain ⟨c, hc⟩ := ex_at hk
 have hgd := getD_of hc
 have hH1 := hH0.cong1 (seg_foc (n := Lb) (enc := Ch.row) hc)
 refine sr ?_
 refine O_alloc fun n2 H3 hN4 => ?_
 have hH5 := hH1.new hN4
 refine O_nil ?_
 refine C_seq ?_
 refine sr ?_
 refine pv (.p (some (T, 0))) rfl ?_
 refine pv (.i .u16 ((k : Nat) : Int)) rfl ?_
 refine O_call (Ev.mono (at_in hH5.ok (hH5.get1) hk16 hk) fun v6 H7 hq8 => ?_)
 obtain ⟨rfl, hq8⟩ := hq8
 subst H7
 refine pv (.p (some (Lb, (k * 8 + 0)))) rfl ?_
 refine O_nil (sr ?_)
 refine pv (.p (some (Lb, (k * 8 + 0)))) rfl ?_
 refine O_p (.b true) (r_nilq_s rfl) ?_
 refine O_nil ?_
 refine C_cond (x := true) rfl (fun _ => ?_) (fun h => by cases h)
 refine sr ?_
 refine pv (.p (some (Lb, (k * 8 + 0)))) rfl ?_
 refine O_p (.p (some (Lb, (k * 8 + 0)))) (r_nilc rfl) ?_
 refine pf (.p (some (Lb, (k * 8 + 1)))) rfl rfl ?_
 refine O_p (.agg [(.i .u8 c.kind), (.i .u16 c.prio), (.i .u32 c.limit), (.s (txt c.label)), (.s (txt c.proto))]) (by exact (r_ldA rfl hH5.get2 ((foc_take (rows_map Ch.row_len cs) (by rw [List.length_map]; omega) rfl (by decide)).trans rfl))) ?_
 refine O_store (vs := [(.i .u8 c.kind), (.i .u16 c.prio), (.i .u32 c.limit), (.s (txt c.label)), (.s (txt c.proto))]) (c' := [(.i .u8 c.kind), (.i .u16 c.prio), (.i .u32 c.limit), (.s (txt c.label)), (.s (txt c.proto))]) rfl (by rfl) hH5.get0 rfl (List.cons_ne_nil _ _) (Nat.le_of_ble_eq_true rfl) rfl fun H9 hW10 => ?_
 have hH11 := hH5.wr0 hW10
 refine O_nil ?_
 refine C_ret ?_
 refine nx_ret ?_
 have hback := foc_open (enc := Ch.row) hc
 have hH12 := (hH11.sub0)
 have hH13 := ((hH12.top1).top1)
 exact ⟨.inr rfl, _, resL_one (r_cellA rfl hH11.get0 rfl), by rw [hgd]; rfl, (Hs.cong1 hH13 (seg_foc (n := Lb) (enc := Ch.row) hc).symm)⟩
theorem openg_out {H : AH} {T Lb : Nat} {cs : List Ch} {even : Bool} {R : HL} {k : Nat} (hk16 : k < 65536) (hcs : cs.length ≤ 64) (hk : ¬ k < cs.length)  (hH0 : Hs H ([(T, some (.cells [.sl (some (Lb, 0)) cs.length cs.length 0, .b even] true))] ++ ([(Lb, some (.cells ((cs).map Ch.row).flatten true))] ++ R))) : Ev tabV spV (.fn (.func 27) [] []) [.p (some (T, 0)), .i .u16 k] H (fun r H' => r = .agg [.i .u8 (cs.getD k ch0).kind, .i .u16 (cs.getD k ch0).prio, .i .u32 (cs.getD k ch0).limit, .s (txt (cs.getD k ch0).label), .s (txt (cs.getD k ch0).proto)] ∧ Hs H' ([(T, some (.cells [.sl (some (Lb, 0)) cs.length cs.length 0, .b even] true))] ++ ([(Lb, some (.cells ((cs).map Ch.row).flatten true))] ++ R))) := by
 refine Ev_C (F := x27) rfl ?_
 have hgd := getD_out hk
 refine sr ?_
 refine O_alloc fun n1 H2 hN3 => ?_
 have hH4 := hH0.new hN3
 refine O_nil ?_
 refine C_seq ?_
 refine sr ?_
 refine pv (.p (some (T, 0))) rfl ?_
 refine pv (.i .u16 ((k : Nat) : Int)) rfl ?_
 refine O_call (Ev.mono (at_out hH4.ok (hH4.get1) hk16 hk) fun v5 H6 hq7 => ?_)
 obtain ⟨rfl, hq7⟩ := hq7
 subst H6
 refine pv (.p none) rfl ?_
 refine O_nil (sr ?_)
 refine pv (.p none) rfl ?_
 refine O_p (.b false) (r_nilq_n rfl) ?_
 refine O_nil ?_
 refine C_cond (x := false) rfl (fun h => by cases h) (fun _ => ?_)
 refine C_skip ?_
 refine sr ?_
 refine O_p (.agg [(.i .u8 0), (.i .u16 0), (.i .u32 0), (.s ⟨#[]⟩), (.s ⟨#[]⟩)]) (r_build rfl) ?_
 refine O_store (vs := [(.i .u8 0), (.i .u16 0), (.i .u32 0), (.s ⟨#[]⟩), (.s ⟨#[]⟩)]) (c' := [(.i .u8 0), (.i .u16 0), (.i .u32 0), (.s ⟨#[]⟩), (.s ⟨#[]⟩)]) rfl (by rfl) hH4.get0 rfl (List.cons_ne_nil _ _) (Nat.le_of_ble_eq_true rfl) rfl fun H8 hW9 => ?_
 have hH10 := hH4.wr0 hW9
 refine O_nil ?_
 refine C_ret ?_
 have hH11 := (hH10.sub0)
 have hH12 := ((hH11.top1).top1)
 exact ⟨.inr rfl, _, resL_one (r_cellA rfl hH10.get0 rfl), by rw [hgd]; rfl, hH12⟩
theorem of_in {H : AH} {T Lb : Nat} {cs : List Ch} {even : Bool} {R : HL} {k : Nat} (hk16 : k < 65536) (hcs : cs.length ≤ 64) (hk : k < cs.length)  (hH0 : Hs H ([(T, some (.cells [.sl (some (Lb, 0)) cs.length cs.length 0, .b even] true))] ++ ([(Lb, some (.cells ((cs).map Ch.row).flatten true))] ++ R))) : Ev tabV spV (.fn (.func 32) [] []) [.p (some (T, 0)), .i .u16 k] H (fun r H' => r = .agg (cs.getD k ch0).row ∧ Hs H' ([(T, some (.cells [.sl (some (Lb, 0)) cs.length cs.length 0, .b even] true))] ++ ([(Lb, some (.cells ((cs).map Ch.row).flatten true))] ++ R))) := by
 refine Ev_C (F := x32) rfl ?_
 obtain ⟨c, hc⟩ := ex_at hk
 have hgd := getD_of hc
 have hH1 := hH0.cong1 (seg_foc (n := Lb) (enc := Ch.row) hc)
 refine sr ?_
 refine O_alloc fun n2 H3 hN4 => ?_
 have hH5 := hH1.new hN4
 refine O_nil ?_
 refine C_seq ?_
 refine sr ?_
 refine pv (.i .u16 ((k : Nat) : Int)) rfl ?_
 refine O_p (.i .i64 (((k : Nat)) : Int)) (by exact (r_cint' rfl (wrap_i64 (by omega) (by omega)))) ?_
 refine pv (.p (some (T, 0))) rfl ?_
 refine O_p (.p (some (T, 0))) (r_nilc rfl) ?_
 refine pf (.p (some (T, 0))) rfl rfl ?_
 refine O_p (.sl (some (Lb, 0)) cs.length cs.length 0) (r_ld rfl hH5.get1 rfl) ?_
 refine O_p (.i .i64 (((cs.length : Nat)) : Int)) (r_len rfl) ?_
 refine O_p (.b false) (by exact (by rw [r_geq rfl rfl, decide_eq_false (by omega)])) ?_
 refine O_nil ?_
 refine C_cond (x := false) rfl (fun h => by cases h) (fun _ => ?_)
 refine C_skip ?_
 refine sr ?_
 refine pv (.p (some (T, 0))) rfl ?_
 refine O_p (.p (some (T, 0))) (r_nilc rfl) ?_
 refine pf (.p (some (T, 0))) rfl rfl ?_
 refine O_p (.sl (some (Lb, 0)) cs.length cs.length 0) (r_ld rfl hH5.get1 rfl) ?_
 refine pv (.i .u16 ((k : Nat) : Int)) rfl ?_
 refine O_p (.i .i64 (((k : Nat)) : Int)) (by exact (r_cint' rfl (wrap_i64 (by omega) (by omega)))) ?_
 refine O_p (.p (some (Lb, (k * 8 + 0)))) (by exact (r_islr (b := Lb) (k := k) (len := cs.length) (cap := cs.length) (g := 0) rfl rfl (by omega))) ?_
 refine O_p (.agg [(.i .i64 c.st), (.i .u8 c.kind), (.i .u16 c.prio), (.i .u32 c.limit), (.s (txt c.label)), (.s (txt c.proto)), (.b c.mine), (.b c.theirs)]) (by exact (r_ldA rfl hH5.get2 ((foc_take (rows_map Ch.row_len cs) (by rw [List.length_map]; omega) rfl (by decide)).trans rfl))) ?_
 refine O_store (vs := [(.i .i64 c.st), (.i .u8 c.kind), (.i .u16 c.prio), (.i .u32 c.limit), (.s (txt c.label)), (.s (txt c.proto)), (.b c.mine), (.b c.theirs)]) (c' := [(.i .i64 c.st), (.i .u8 c.kind), (.i .u16 c.prio), (.i .u32 c.limit), (.s (txt c.label)), (.s (txt c.proto)), (.b c.mine), (.b c.theirs)]) rfl (by rfl) hH5.get0 rfl (List.cons_ne_nil _ _) (Nat.le_of_ble_eq_true rfl) rfl fun H6 hW7 => ?_
 have hH8 := hH5.wr0 hW7
 refine O_nil ?_
 refine C_ret ?_
 have hback := foc_open (enc := Ch.row) hc
 have hH9 := (hH8.sub0)
 have hH10 := ((hH9.top1).top1)
 exact ⟨.inr rfl, _, resL_one (r_cellA rfl hH8.get0 rfl), by rw [hgd]; rfl, (Hs.cong1 hH10 (seg_foc (n := Lb) (enc := Ch.row) hc).symm)⟩
theorem of_out {H : AH} {T Lb : Nat} {cs : List Ch} {even : Bool} {R : HL} {k : Nat} (hk16 : k < 65536) (hcs : cs.length ≤ 64) (hk : ¬ k < cs.length)  (hH0 : Hs H ([(T, some (.cells [.sl (some (Lb, 0)) cs.length cs.length 0, .b even] true))] ++ ([(Lb, some (.cells ((cs).map Ch.row).flatten true))] ++ R))) : Ev tabV spV (.fn (.func 32) [] []) [.p (some (T, 0)), .i .u16 k] H (fun r H' => r = .agg (cs.getD k ch0).row ∧ Hs H' ([(T, some (.cells [.sl (some (Lb, 0)) cs.length cs.length 0, .b even] true))] ++ ([(Lb, some (.cells ((cs).map Ch.row).flatten true))] ++ R))) := by
 refine Ev_C (F := x32) rfl ?_
 have hgd := getD_out hk
 refine sr ?_
 refine O_alloc fun n1 H2 hN3 => ?_
 have hH4 := hH0.new hN3
 refine O_nil ?_
 refine C_seq ?_
 refine sr ?_
 refine pv (.i .u16 ((k : Nat) : Int)) rfl ?_
 refine O_p (.i .i64 (((k : Nat)) : Int)) (by exact (r_cint' rfl (wrap_i64 (by omega) (by omega)))) ?_
 refine pv (.p (some (T, 0))) rfl ?_
 refine O_p (.p (some (T, 0))) (r_nilc rfl) ?_
 refine pf (.p (some (T, 0))) rfl rfl ?_
 refine O_p (.sl (some (Lb, 0)) cs.length cs.length 0) (r_ld rfl hH4.get1 rfl) ?_
 refine O_p (.i .i64 (((cs.length : Nat)) : Int)) (r_len rfl) ?_
 refine O_p (.b true) (by exact (by rw [r_geq rfl rfl, decide_eq_true (by omega)])) ?_
 refine O_nil ?_
 refine C_cond (x := true) rfl (fun _ => ?_) (fun h => by cases h)
 refine sr ?_
 refine O_p (.agg zT2AA ) (r_build rfl) ?_
 refine O_store (vs := zT2AA ) (c' := zT2AA ) rfl (by rfl) hH4.get0 rfl (List.cons_ne_nil _ _) (Nat.le_of_ble_eq_true rfl) rfl fun H5 hW6 => ?_
 have hH7 := hH4.wr0 hW6
 refine O_nil ?_
 refine C_ret ?_
 refine nx_ret ?_
 have hH8 := (hH7.sub0)
 have hH9 := ((hH8.top1).top1)
 exact ⟨.inr rfl, _, resL_one (r_cellA rfl hH7.get0 rfl), by rw [hgd]; rfl, hH9⟩
theorem free_ev {H : AH} {T Lb : Nat} {cs : List Ch} {even : Bool} {R : HL} {k : Nat} (c : Ch) (hk : k < cs.length) (hH0 : Hs H ([(T, some (.cells [.sl (some (Lb, 0)) cs.length cs.length 0, .b even] true))] ++ ([(Lb, some (.cells ((cs.map Ch.row).set k (Ch.row c)).flatten true))] ++ R))) : Ev tabV spV (.fn (.func 69) [] []) [.p (some (T, 0)), .i .i64 k] H (fun r H' => r = .tup [] ∧ Hs H' ([(T, some (.cells [.sl (some (Lb, 0)) cs.length cs.length 0, .b even] true))] ++ ([(Lb, some (.cells ((cs.map Ch.row).set k (Ch.row c.freed)).flatten true))] ++ R))) := by
 refine Ev_C (F := x69) rfl ?_
 refine sr ?_
 refine pv (.p (some (T, 0))) rfl ?_
 refine O_p (.p (some (T, 0))) (r_nilc rfl) ?_
 refine pf (.p (some (T, 0))) rfl rfl ?_
 refine O_p (.sl (some (Lb, 0)) cs.length cs.length 0) (r_ld rfl hH0.get0 rfl) ?_
 refine pv (.i .i64 (((k : Nat)) : Int)) rfl ?_
 refine O_p (.p (some (Lb, (k * 8 + 0)))) (by exact (r_islr (b := Lb) (k := k) (len := cs.length) (cap := cs.length) (g := 0) rfl rfl (by omega))) ?_
 refine pf (.p (some (Lb, (k * 8 + 6)))) rfl rfl ?_
 refine O_p (.b c.mine) (by exact (r_ld rfl hH0.get1 ((foc_get (rows_map Ch.row_len cs) (by rw [List.length_map]; exact hk) rfl (by decide)).trans rfl))) ?_
 refine pv (.b c.mine) rfl ?_
 refine O_gx (e := c.mine) (v := (.p (some (T, 0)))) (wt rfl) (fun he => (r_mv rfl)) ?_
 refine O_gx (e := c.mine) (v := (.p (some (T, 0)))) (wt rfl) (fun he => (r_nilc (cond_pos he))) ?_
 refine O_gx (e := c.mine) (v := (.p (some (T, 0)))) (wt rfl) (fun he => (r_fadd' (cond_pos he) rfl)) ?_
 refine O_gx (e := c.mine) (v := (.sl (some (Lb, 0)) cs.length cs.length 0)) (wt rfl) (fun he => (r_ld (cond_pos he) hH0.get0 rfl)) ?_
 refine O_gx (e := c.mine) (v := (.i .i64 (((k : Nat)) : Int))) (wt rfl) (fun he => (r_mv rfl)) ?_
 refine O_gx (e := c.mine) (v := (.p (some (Lb, (k * 8 + 0))))) (wt rfl) (fun he => (by exact (r_islr (b := Lb) (k := k) (len := cs.length) (cap := cs.length) (g := 0) (cond_pos he) (cond_pos he) (by omega)))) ?_
 refine O_gx (e := c.mine) (v := (.p (some (Lb, (k * 8 + 7))))) (wt rfl) (fun he => (r_fadd' (cond_pos he) rfl)) ?_
 refine O_gx (e := c.mine) (v := (.b c.theirs)) (wt rfl) (fun he => (by exact (r_ld (cond_pos he) hH0.get1 ((foc_get (rows_map Ch.row_len cs) (by rw [List.length_map]; exact hk) rfl (by decide)).trans rfl)))) ?_
 refine O_p (.b (c.mine && c.theirs)) (r_pick_and rfl rfl rfl rfl) ?_
 refine O_nil ?_
 refine C_cond (x := (c.mine && c.theirs)) rfl (fun hc1 => ?_) (fun hc1 => ?_)
 ·
  refine C_region ?_
  refine pv (.p (some (T, 0))) rfl ?_
  refine O_p (.p (some (T, 0))) (r_nilc rfl) ?_
  refine pf (.p (some (T, 0))) rfl rfl ?_
  refine O_p (.sl (some (Lb, 0)) cs.length cs.length 0) (r_ld rfl hH0.get0 rfl) ?_
  refine pv (.i .i64 (((k : Nat)) : Int)) rfl ?_
  refine O_p (.agg zT2AA ) (r_build rfl) ?_
  refine O_p (.p (some (Lb, (k * 8 + 0)))) (by exact (r_islr (b := Lb) (k := k) (len := cs.length) (cap := cs.length) (g := 0) rfl rfl (by omega))) ?_
  refine O_store (vs := zT2AA ) (c' := ((cs.map Ch.row).set k zT2AA ).flatten) rfl (by rfl) hH0.get1 rfl (List.cons_ne_nil _ _) (foc_len (n := 8) (rows_map Ch.row_len cs) (by rw [List.length_map]; exact hk) rfl (Nat.le_of_ble_eq_true rfl)) (foc_put (rows_map Ch.row_len cs) (by rw [List.length_map]; exact hk) rfl (Nat.le_of_ble_eq_true rfl) rfl) fun H2 hW3 => ?_
  have hH4 := hH0.wr1 hW3
  refine O_nil ?_
  have hsh : c.freed = ch0 := if_pos hc1
  exact ⟨.inl rfl, _, rfl, rfl, by rw [hsh]; exact hH4⟩
 ·
  refine C_skip ?_
  have hsh : c.freed = c := if_neg (by rw [hc1]; decide)
  exact ⟨.inl rfl, _, rfl, rfl, by rw [hsh]; exact hH0⟩
theorem close_in {H : AH} {T Lb : Nat} {cs : List Ch} {even : Bool} {R : HL} {k : Nat} (hk16 : k < 65536) (hcs : cs.length ≤ 64) (hk : k < cs.length) (hall : ∀ (k : Nat) (c : Ch), cs[k]? = some c → okC c) (hH0 : Hs H ([(T, some (.cells [.sl (some (Lb, 0)) cs.length cs.length 0, .b even] true))] ++ ([(Lb, some (.cells ((cs).map Ch.row).flatten true))] ++ R))) : Ev tabV spV (.fn (.func 24) [] []) [.p (some (T, 0)), .i .u16 k] H (fun r H' => r = .i .i64 (closeE cs k) ∧ Hs H' ([(T, some (.cells [.sl (some (Lb, 0)) (closeC cs k).length (closeC cs k).length 0, .b even] true))] ++ ([(Lb, some (.cells ((closeC cs k).map Ch.row).flatten true))] ++ R))) := by
 refine Ev_C (F := x24) rfl ?_
 obtain ⟨c, hc⟩ := ex_at hk
 have hgd := getD_of hc
 have hokc : okC c := hall k c hc
 have hH1 := hH0.cong1 (seg_foc (n := Lb) (enc := Ch.row) hc)
 refine sr ?_
 refine pv (.i .i64 0) rfl ?_
 refine O_nil (sr ?_)
 refine pv (.p (some (T, 0))) rfl ?_
 refine pv (.i .u16 ((k : Nat) : Int)) rfl ?_
 refine O_call (Ev.mono (at_in hH1.ok (hH1.get0) hk16 hk) fun v2 H3 hq4 => ?_)
 obtain ⟨rfl, hq4⟩ := hq4
 subst H3
 refine pv (.p (some (Lb, (k * 8 + 0)))) rfl ?_
 refine O_nil ?_
 refine C_seq ?_
 refine sr ?_
 refine pv (.p (some (Lb, (k * 8 + 0)))) rfl ?_
 refine O_p (.b false) (r_nilq_s rfl) ?_
 refine pv (.b false) rfl ?_
 refine O_gs (v := (.p (some (Lb, (k * 8 + 0))))) rfl (r_mv rfl) ?_
 refine O_gcall rfl (Ev.mono (lives_ev (hH1.get1) ((foc_get (rows_map Ch.row_len cs) (by rw [List.length_map]; omega) rfl (by decide)).trans rfl)) fun v5 H6 hq7 => ?_)
 obtain ⟨rfl, hq7⟩ := hq7
 subst H6
 refine O_gs (v := (.b (!(livesI c.st)))) rfl (r_not rfl) ?_
 refine O_p (.b (!(livesI c.st))) (r_pick_f rfl rfl) ?_
 refine O_nil ?_
 refine C_cond (x := (!(livesI c.st))) rfl (fun hc8 => ?_) (fun hc8 => ?_)
 ·
  have hr9 := hc8
  try simp only [decide_eq_true_eq, decide_eq_false_iff_not, Bool.not_eq_true', Bool.not_eq_false', Bool.and_eq_true, Bool.or_eq_true, Bool.or_eq_false_iff, Bool.not_not, Bool.and_eq_false_iff] at hc8
  refine sr ?_
  refine pv (.i .i64 11) rfl ?_
  refine O_nil ?_
  refine C_ret ?_
  refine nx_ret ?_
  obtain ⟨ho1, ho2⟩ := hokc
  have hL : livesI c.st = false := by first | assumption | (rw [livesI_iff]; omega) | (rw [Bool.eq_false_iff, ne_eq, livesI_iff]; omega) | simp_all
  have hC : closeC cs k = cs := by unfold closeC; rw [hgd]; exact if_neg (by rw [hL]; decide)
  have hH10 := ((hH1.top1).top1)
  exact ⟨.inr rfl, _, resL_one (r_tmp (v := (.i .i64 11)) rfl), by unfold closeE; rw [hgd, hL]; rfl, by rw [hC]; exact Hs.cong1 hH10 (seg_foc (n := Lb) (enc := Ch.row) hc).symm⟩
 ·
  have hr11 := hc8
  try simp only [decide_eq_true_eq, decide_eq_false_iff_not, Bool.not_eq_true', Bool.not_eq_false', Bool.and_eq_true, Bool.or_eq_true, Bool.or_eq_false_iff, Bool.not_not, Bool.and_eq_false_iff] at hc8
  refine C_skip ?_
  refine sr ?_
  refine pv (.p (some (Lb, (k * 8 + 0)))) rfl ?_
  have hH12 := (hH1.top1)
  refine O_call (Ev.mono (shut_ev c hk false false hH12) fun v13 H14 hq15 => ?_)
  obtain ⟨rfl, hH16⟩ := hq15
  refine O_nil (sr ?_)
  refine pv (.i .i64 0) rfl ?_
  refine O_nil ?_
  refine C_ret ?_
  obtain ⟨ho1, ho2⟩ := hokc
  have hL : livesI c.st = true := by first | assumption | (rw [livesI_iff]; omega) | (rw [Bool.eq_false_iff, ne_eq, livesI_iff]; omega) | simp_all
  have hl3 := livesI_iff.1 hL
  have hC : closeC cs k = cs.set k (c.to 3) := by unfold closeC; rw [hgd]; exact if_pos hL
  have hrow : Ch.row (c.shut false false) = Ch.row (c.to 3) := by rw [shut_ff (ho2 (by omega))]
  have hH17 := (hH16.top1)
  have hF : Hs H14 ([(T, some (.cells [.sl (some (Lb, 0)) cs.length cs.length 0, .b even] true))] ++ ([(Lb, some (.cells ((cs.map Ch.row).set k (Ch.row (c.shut false false))).flatten true))] ++ R)) := hH17
  rw [hrow] at hF
  exact ⟨.inr rfl, _, resL_one (r_tmp (v := (.i .i64 0)) rfl), by unfold closeE; rw [hgd, hL]; rfl, by rw [hC, List.length_set]; exact Hs.cong1 hF seg_shut⟩
theorem close_out {H : AH} {T Lb : Nat} {cs : List Ch} {even : Bool} {R : HL} {k : Nat} (hk16 : k < 65536) (hcs : cs.length ≤ 64) (hk : ¬ k < cs.length)  (hH0 : Hs H ([(T, some (.cells [.sl (some (Lb, 0)) cs.length cs.length 0, .b even] true))] ++ ([(Lb, some (.cells ((cs).map Ch.row).flatten true))] ++ R))) : Ev tabV spV (.fn (.func 24) [] []) [.p (some (T, 0)), .i .u16 k] H (fun r H' => r = .i .i64 (closeE cs k) ∧ Hs H' ([(T, some (.cells [.sl (some (Lb, 0)) (closeC cs k).length (closeC cs k).length 0, .b even] true))] ++ ([(Lb, some (.cells ((closeC cs k).map Ch.row).flatten true))] ++ R))) := by
 refine Ev_C (F := x24) rfl ?_
 have hgd := getD_out hk
 refine sr ?_
 refine pv (.i .i64 0) rfl ?_
 refine O_nil (sr ?_)
 refine pv (.p (some (T, 0))) rfl ?_
 refine pv (.i .u16 ((k : Nat) : Int)) rfl ?_
 refine O_call (Ev.mono (at_out hH0.ok (hH0.get0) hk16 hk) fun v1 H2 hq3 => ?_)
 obtain ⟨rfl, hq3⟩ := hq3
 subst H2
 refine pv (.p none) rfl ?_
 refine O_nil ?_
 refine C_seq ?_
 refine sr ?_
 refine pv (.p none) rfl ?_
 refine O_p (.b true) (r_nilq_n rfl) ?_
 refine pv (.b true) rfl ?_
 refine O_gf rfl ?_
 refine O_gf rfl ?_
 refine O_gf rfl ?_
 refine O_p (.b true) (r_pick_t rfl rfl) ?_
 refine O_nil ?_
 refine C_cond (x := true) rfl (fun _ => ?_) (fun h => by cases h)
 refine sr ?_
 refine pv (.i .i64 11) rfl ?_
 refine O_nil ?_
 refine C_ret ?_
 refine nx_ret ?_
 have hC : closeC cs k = cs := by unfold closeC; rw [hgd]; rfl
 exact ⟨.inr rfl, _, resL_one (r_tmp (v := (.i .i64 11)) rfl), by unfold closeE; rw [hgd]; rfl, by rw [hC]; exact hH0⟩
theorem gone_in {H : AH} {T Lb : Nat} {cs : List Ch} {even : Bool} {R : HL} {k : Nat} (hk16 : k < 65536) (hcs : cs.length ≤ 64) (hk : k < cs.length) (hall : ∀ (k : Nat) (c : Ch), cs[k]? = some c → okC c) (hH0 : Hs H ([(T, some (.cells [.sl (some (Lb, 0)) cs.length cs.length 0, .b even] true))] ++ ([(Lb, some (.cells ((cs).map Ch.row).flatten true))] ++ R))) : Ev tabV spV (.fn (.func 26) [] []) [.p (some (T, 0)), .i .u16 k] H (fun r H' => r = .b (goneB cs k) ∧ Hs H' ([(T, some (.cells [.sl (some (Lb, 0)) (goneC cs k).length (goneC cs k).length 0, .b even] true))] ++ ([(Lb, some (.cells ((goneC cs k).map Ch.row).flatten true))] ++ R))) := by
 refine Ev_C (F := x26) rfl ?_
 obtain ⟨c, hc⟩ := ex_at hk
 have hgd := getD_of hc
 have hokc : okC c := hall k c hc
 have hH1 := hH0.cong1 (seg_foc (n := Lb) (enc := Ch.row) hc)
 refine sr ?_
 refine pv (.b false) rfl ?_
 refine O_nil (sr ?_)
 refine pv (.p (some (T, 0))) rfl ?_
 refine pv (.i .u16 ((k : Nat) : Int)) rfl ?_
 refine O_call (Ev.mono (at_in hH1.ok (hH1.get0) hk16 hk) fun v2 H3 hq4 => ?_)
 obtain ⟨rfl, hq4⟩ := hq4
 subst H3
 refine pv (.p (some (Lb, (k * 8 + 0)))) rfl ?_
 refine O_nil ?_
 refine C_seq ?_
 refine sr ?_
 refine pv (.p (some (Lb, (k * 8 + 0)))) rfl ?_
 refine O_p (.b false) (r_nilq_s rfl) ?_
 refine pv (.b false) rfl ?_
 refine O_gs (v := (.p (some (Lb, (k * 8 + 0))))) rfl (r_mv rfl) ?_
 refine O_gs (v := (.p (some (Lb, (k * 8 + 0))))) rfl (r_nilc rfl) ?_
 refine O_gs (v := (.p (some (Lb, (k * 8 + 0))))) rfl (r_fadd' rfl rfl) ?_
 refine O_gs (v := (.i .i64 c.st)) rfl (by exact (r_ld rfl hH1.get1 ((foc_get (rows_map Ch.row_len cs) (by rw [List.length_map]; omega) rfl (by decide)).trans rfl))) ?_
 refine O_gs (v := (.b (decide (c.st = 0)))) rfl (r_eql rfl rfl) ?_
 refine O_p (.b (decide (c.st = 0))) (r_pick_f rfl rfl) ?_
 refine O_nil ?_
 refine C_cond (x := (decide (c.st = 0))) rfl (fun hc5 => ?_) (fun hc5 => ?_)
 ·
  have hr6 := hc5
  try simp only [decide_eq_true_eq, decide_eq_false_iff_not, Bool.not_eq_true', Bool.not_eq_false', Bool.and_eq_true, Bool.or_eq_true, Bool.or_eq_false_iff, Bool.not_not, Bool.and_eq_false_iff] at hc5
  refine sr ?_
  refine pv (.b false) rfl ?_
  refine O_nil ?_
  refine C_ret ?_
  refine nx_ret ?_
  obtain ⟨ho1, ho2⟩ := hokc
  have hC : goneC cs k = cs := by unfold goneC; rw [hgd]; exact if_pos (by omega)
  have hH7 := ((hH1.top1).top1)
  exact ⟨.inr rfl, _, resL_one (r_tmp (v := (.b false)) rfl), by unfold goneB; rw [hgd, show c.st = 0 by omega]; rfl, by rw [hC]; exact Hs.cong1 hH7 (seg_foc (n := Lb) (enc := Ch.row) hc).symm⟩
 ·
  have hr8 := hc5
  try simp only [decide_eq_true_eq, decide_eq_false_iff_not, Bool.not_eq_true', Bool.not_eq_false', Bool.and_eq_true, Bool.or_eq_true, Bool.or_eq_false_iff, Bool.not_not, Bool.and_eq_false_iff] at hc5
  refine C_skip ?_
  refine sr ?_
  refine pv (.p (some (Lb, (k * 8 + 0)))) rfl ?_
  refine O_call (Ev.mono (lives_ev (hH1.get1) ((foc_get (rows_map Ch.row_len cs) (by rw [List.length_map]; omega) rfl (by decide)).trans rfl)) fun v9 H10 hq11 => ?_)
  obtain ⟨rfl, hq11⟩ := hq11
  subst H10
  refine pv (.b (livesI c.st)) rfl ?_
  refine O_nil (sr ?_)
  refine pv (.p (some (Lb, (k * 8 + 0)))) rfl ?_
  have hH12 := (hH1.top1)
  refine O_call (Ev.mono (shut_ev c hk false true hH12) fun v13 H14 hq15 => ?_)
  obtain ⟨rfl, hH16⟩ := hq15
  refine O_nil (sr ?_)
  refine pv (.b (livesI c.st)) rfl ?_
  refine pv (.b (livesI c.st)) rfl ?_
  refine O_nil ?_
  refine C_ret ?_
  obtain ⟨ho1, ho2⟩ := hokc
  have hC : goneC cs k = cs.set k (c.shut false true) := by unfold goneC; rw [hgd]; exact if_neg (by omega)
  have hrow : Ch.row (c.shut false true) = Ch.row (c.shut false true) := rfl
  have hH17 := (hH16.top1)
  have hF : Hs H14 ([(T, some (.cells [.sl (some (Lb, 0)) cs.length cs.length 0, .b even] true))] ++ ([(Lb, some (.cells ((cs.map Ch.row).set k (Ch.row (c.shut false true))).flatten true))] ++ R)) := hH17
  rw [hrow] at hF
  exact ⟨.inr rfl, _, resL_one (r_tmp (v := (.b (livesI c.st))) rfl), by unfold goneB; rw [hgd]; rfl, by rw [hC, List.length_set]; exact Hs.cong1 hF seg_shut⟩
theorem gone_out {H : AH} {T Lb : Nat} {cs : List Ch} {even : Bool} {R : HL} {k : Nat} (hk16 : k < 65536) (hcs : cs.length ≤ 64) (hk : ¬ k < cs.length)  (hH0 : Hs H ([(T, some (.cells [.sl (some (Lb, 0)) cs.length cs.length 0, .b even] true))] ++ ([(Lb, some (.cells ((cs).map Ch.row).flatten true))] ++ R))) : Ev tabV spV (.fn (.func 26) [] []) [.p (some (T, 0)), .i .u16 k] H (fun r H' => r = .b (goneB cs k) ∧ Hs H' ([(T, some (.cells [.sl (some (Lb, 0)) (goneC cs k).length (goneC cs k).length 0, .b even] true))] ++ ([(Lb, some (.cells ((goneC cs k).map Ch.row).flatten true))] ++ R))) := by
 refine Ev_C (F := x26) rfl ?_
 have hgd := getD_out hk
 refine sr ?_
 refine pv (.b false) rfl ?_
 refine O_nil (sr ?_)
 refine pv (.p (some (T, 0))) rfl ?_
 refine pv (.i .u16 ((k : Nat) : Int)) rfl ?_
 refine O_call (Ev.mono (at_out hH0.ok (hH0.get0) hk16 hk) fun v1 H2 hq3 => ?_)
 obtain ⟨rfl, hq3⟩ := hq3
 subst H2
 refine pv (.p none) rfl ?_
 refine O_nil ?_
 refine C_seq ?_
 refine sr ?_
 refine pv (.p none) rfl ?_
 refine O_p (.b true) (r_nilq_n rfl) ?_
 refine pv (.b true) rfl ?_
 refine O_gf rfl ?_
 refine O_gf rfl ?_
 refine O_gf rfl ?_
 refine O_gf rfl ?_
 refine O_gf rfl ?_
 refine O_p (.b true) (r_pick_t rfl rfl) ?_
 refine O_nil ?_
 refine C_cond (x := true) rfl (fun _ => ?_) (fun h => by cases h)
 refine sr ?_
 refine pv (.b false) rfl ?_
 refine O_nil ?_
 refine C_ret ?_
 refine nx_ret ?_
 have hC : goneC cs k = cs := by unfold goneC; rw [hgd]; rfl
 exact ⟨.inr rfl, _, resL_one (r_tmp (v := (.b false)) rfl), by unfold goneB; rw [hgd]; rfl, by rw [hC]; exact hH0⟩
theorem freed_in {H : AH} {T Lb : Nat} {cs : List Ch} {even : Bool} {R : HL} {k : Nat} (hk16 : k < 65536) (hcs : cs.length ≤ 64) (hk : k < cs.length) (hall : ∀ (k : Nat) (c : Ch), cs[k]? = some c → okC c) (hH0 : Hs H ([(T, some (.cells [.sl (some (Lb, 0)) cs.length cs.length 0, .b even] true))] ++ ([(Lb, some (.cells ((cs).map Ch.row).flatten true))] ++ R))) : Ev tabV spV (.fn (.func 25) [] []) [.p (some (T, 0)), .i .u16 k] H (fun r H' => r = .tup [] ∧ Hs H' ([(T, some (.cells [.sl (some (Lb, 0)) (freedC cs k).length (freedC cs k).length 0, .b even] true))] ++ ([(Lb, some (.cells ((freedC cs k).map Ch.row).flatten true))] ++ R))) := by
 refine Ev_C (F := x25) rfl ?_
 obtain ⟨c, hc⟩ := ex_at hk
 have hgd := getD_of hc
 have hokc : okC c := hall k c hc
 have hH1 := hH0.cong1 (seg_foc (n := Lb) (enc := Ch.row) hc)
 refine sr ?_
 refine pv (.p (some (T, 0))) rfl ?_
 refine pv (.i .u16 ((k : Nat) : Int)) rfl ?_
 refine O_call (Ev.mono (at_in hH1.ok (hH1.get0) hk16 hk) fun v2 H3 hq4 => ?_)
 obtain ⟨rfl, hq4⟩ := hq4
 subst H3
 refine pv (.p (some (Lb, (k * 8 + 0)))) rfl ?_
 refine O_nil (sr ?_)
 refine pv (.p (some (Lb, (k * 8 + 0)))) rfl ?_
 refine O_p (.b true) (r_nilq_s rfl) ?_
 refine pv (.b true) rfl ?_
 refine O_gs (v := (.p (some (Lb, (k * 8 + 0))))) rfl (r_mv rfl) ?_
 refine O_gs (v := (.p (some (Lb, (k * 8 + 0))))) rfl (r_nilc rfl) ?_
 refine O_gs (v := (.p (some (Lb, (k * 8 + 0))))) rfl (r_fadd' rfl rfl) ?_
 refine O_gs (v := (.i .i64 c.st)) rfl (by exact (r_ld rfl hH1.get1 ((foc_get (rows_map Ch.row_len cs) (by rw [List.length_map]; omega) rfl (by decide)).trans rfl))) ?_
 refine O_gs (v := (.b (decide (c.st = 3)))) rfl (r_eql rfl rfl) ?_
 refine O_p (.b (decide (c.st = 3))) (r_pick_t rfl rfl) ?_
 refine O_nil ?_
 refine C_cond (x := (decide (c.st = 3))) rfl (fun hc5 => ?_) (fun hc5 => ?_)
 ·
  have hr6 := hc5
  try simp only [decide_eq_true_eq, decide_eq_false_iff_not, Bool.not_eq_true', Bool.not_eq_false', Bool.and_eq_true, Bool.or_eq_true, Bool.or_eq_false_iff, Bool.not_not, Bool.and_eq_false_iff] at hc5
  refine C_region ?_
  refine pv (.p (some (Lb, (k * 8 + 0)))) rfl ?_
  have hH7 := (hH1.top1)
  refine O_call (Ev.mono (shut_ev c hk true false hH7) fun v8 H9 hq10 => ?_)
  obtain ⟨rfl, hH11⟩ := hq10
  refine O_nil ?_
  obtain ⟨ho1, ho2⟩ := hokc
  have hC : freedC cs k = cs.set k (c.shut true false) := by unfold freedC; rw [hgd]; exact if_pos (by omega)
  have hrow : Ch.row (c.shut true false) = Ch.row (c.shut true false) := rfl
  have hH12 := (hH11.top1)
  have hF : Hs H9 ([(T, some (.cells [.sl (some (Lb, 0)) cs.length cs.length 0, .b even] true))] ++ ([(Lb, some (.cells ((cs.map Ch.row).set k (Ch.row (c.shut true false))).flatten true))] ++ R)) := hH12
  rw [hrow] at hF
  exact ⟨.inl rfl, _, rfl, rfl, by rw [hC, List.length_set]; exact Hs.cong1 hF seg_shut⟩
 ·
  have hr13 := hc5
  try simp only [decide_eq_true_eq, decide_eq_false_iff_not, Bool.not_eq_true', Bool.not_eq_false', Bool.and_eq_true, Bool.or_eq_true, Bool.or_eq_false_iff, Bool.not_not, Bool.and_eq_false_iff] at hc5
  refine C_skip ?_
  obtain ⟨ho1, ho2⟩ := hokc
  have hC : freedC cs k = cs := by unfold freedC; rw [hgd]; exact if_neg (by omega)
  have hH14 := ((hH1.top1).top1)
  exact ⟨.inl rfl, _, rfl, rfl, by rw [hC]; exact Hs.cong1 hH14 (seg_foc (n := Lb) (enc := Ch.row) hc).symm⟩
theorem freed_out {H : AH} {T Lb : Nat} {cs : List Ch} {even : Bool} {R : HL} {k : Nat} (hk16 : k < 65536) (hcs : cs.length ≤ 64) (hk : ¬ k < cs.length)  (hH0 : Hs H ([(T, some (.cells [.sl (some (Lb, 0)) cs.length cs.length 0, .b even] true))] ++ ([(Lb, some (.cells ((cs).map Ch.row).flatten true))] ++ R))) : Ev tabV spV (.fn (.func 25) [] []) [.p (some (T, 0)), .i .u16 k] H (fun r H' => r = .tup [] ∧ Hs H' ([(T, some (.cells [.sl (some (Lb, 0)) (freedC cs k).length (freedC cs k).length 0, .b even] true))] ++ ([(Lb, some (.cells ((freedC cs k).map Ch.row).flatten true))] ++ R))) := by
 refine Ev_C (F := x25) rfl ?_
 have hgd := getD_out hk
 refine sr ?_
 refine pv (.p (some (T, 0))) rfl ?_
 refine pv (.i .u16 ((k : Nat) : Int)) rfl ?_
 refine O_call (Ev.mono (at_out hH0.ok (hH0.get0) hk16 hk) fun v1 H2 hq3 => ?_)
 obtain ⟨rfl, hq3⟩ := hq3
 subst H2
 refine pv (.p none) rfl ?_
 refine O_nil (sr ?_)
 refine pv (.p none) rfl ?_
 refine O_p (.b false) (r_nilq_n rfl) ?_
 refine pv (.b false) rfl ?_
 refine O_gf rfl ?_
 refine O_gf rfl ?_
 refine O_gf rfl ?_
 refine O_gf rfl ?_
 refine O_gf rfl ?_
 refine O_p (.b false) (r_pick_f rfl rfl) ?_
 refine O_nil ?_
 refine C_cond (x := false) rfl (fun h => by cases h) (fun _ => ?_)
 refine C_skip ?_
 have hC : freedC cs k = cs := by unfold freedC; rw [hgd]; rfl
 exact ⟨.inl rfl, _, rfl, rfl, by rw [hC]; exact hH0⟩
theorem rclose_in {H : AH} {T Lb : Nat} {cs : List Ch} {even : Bool} {R : HL} {k : Nat} (hk16 : k < 65536) (hcs : cs.length ≤ 64) (hk : k < cs.length) (hall : ∀ (k : Nat) (c : Ch), cs[k]? = some c → okC c) (hH0 : Hs H ([(T, some (.cells [.sl (some (Lb, 0)) cs.length cs.length 0, .b even] true))] ++ ([(Lb, some (.cells ((cs).map Ch.row).flatten true))] ++ R))) : Ev tabV spV (.fn (.func 55) [] []) [.p (some (T, 0)), .i .u16 k] H (fun r H' => r = .i .i64 (closeE cs k) ∧ Hs H' ([(T, some (.cells [.sl (some (Lb, 0)) (closeC cs k).length (closeC cs k).length 0, .b even] true))] ++ ([(Lb, some (.cells ((closeC cs k).map Ch.row).flatten true))] ++ R))) := by
 refine Ev_C (F := x55) rfl ?_
 obtain ⟨c, hc⟩ := ex_at hk
 have hgd := getD_of hc
 have hokc : okC c := hall k c hc
 have hH1 := hH0.cong1 (seg_foc (n := Lb) (enc := Ch.row) hc)
 refine sr ?_
 refine pv (.i .i64 0) rfl ?_
 refine O_nil (sr ?_)
 refine pv (.i .u16 ((k : Nat) : Int)) rfl ?_
 refine O_p (.i .i64 (((k : Nat)) : Int)) (by exact (r_cint' rfl (wrap_i64 (by omega) (by omega)))) ?_
 refine pv (.i .i64 (((k : Nat)) : Int)) rfl ?_
 refine O_nil ?_
 refine C_seq ?_
 refine sr ?_
 refine pv (.i .i64 (((k : Nat)) : Int)) rfl ?_
 refine pv (.p (some (T, 0))) rfl ?_
 refine O_p (.p (some (T, 0))) (r_nilc rfl) ?_
 refine pf (.p (some (T, 0))) rfl rfl ?_
 refine O_p (.sl (some (Lb, 0)) cs.length cs.length 0) (r_ld rfl hH1.get0 rfl) ?_
 refine O_p (.i .i64 (((cs.length : Nat)) : Int)) (r_len rfl) ?_
 refine O_p (.b false) (by exact (by rw [r_geq rfl rfl, decide_eq_false (by omega)])) ?_
 refine pv (.b false) rfl ?_
 refine O_gs (v := (.p (some (T, 0)))) rfl (r_mv rfl) ?_
 refine O_gs (v := (.p (some (T, 0)))) rfl (r_nilc rfl) ?_
 refine O_gs (v := (.p (some (T, 0)))) rfl (r_fadd' rfl rfl) ?_
 refine O_gs (v := (.sl (some (Lb, 0)) cs.length cs.length 0)) rfl (r_ld rfl hH1.get0 rfl) ?_
 refine O_gs (v := (.i .i64 (((k : Nat)) : Int))) rfl (r_mv rfl) ?_
 refine O_gs (v := (.p (some (Lb, (k * 8 + 0))))) rfl (by exact (r_islr (b := Lb) (k := k) (len := cs.length) (cap := cs.length) (g := 0) rfl rfl (by omega))) ?_
 refine O_gs (v := (.p (some (Lb, (k * 8 + 0))))) rfl (r_fadd' rfl rfl) ?_
 refine O_gs (v := (.i .i64 c.st)) rfl (by exact (r_ld rfl hH1.get1 ((foc_get (rows_map Ch.row_len cs) (by rw [List.length_map]; omega) rfl (by decide)).trans rfl))) ?_
 refine O_gs (v := (.b (!decide (c.st = 1)))) rfl (r_neq rfl rfl) ?_
 refine O_gs (v := (.b (!decide (c.st = 1)))) rfl (r_mv rfl) ?_
 refine O_gx (e := (!decide (c.st = 1))) (v := (.p (some (T, 0)))) (wt rfl) (fun he => (r_mv rfl)) ?_
 refine O_gx (e := (!decide (c.st = 1))) (v := (.p (some (T, 0)))) (wt rfl) (fun he => (r_nilc (cond_pos he))) ?_
 refine O_gx (e := (!decide (c.st = 1))) (v := (.p (some (T, 0)))) (wt rfl) (fun he => (r_fadd' (cond_pos he) rfl)) ?_
 refine O_gx (e := (!decide (c.st = 1))) (v := (.sl (some (Lb, 0)) cs.length cs.length 0)) (wt rfl) (fun he => (r_ld (cond_pos he) hH1.get0 rfl)) ?_
 refine O_gx (e := (!decide (c.st = 1))) (v := (.i .i64 (((k : Nat)) : Int))) (wt rfl) (fun he => (r_mv rfl)) ?_
 refine O_gx (e := (!decide (c.st = 1))) (v := (.p (some (Lb, (k * 8 + 0))))) (wt rfl) (fun he => (by exact (r_islr (b := Lb) (k := k) (len := cs.length) (cap := cs.length) (g := 0) (cond_pos he) (cond_pos he) (by omega)))) ?_
 refine O_gx (e := (!decide (c.st = 1))) (v := (.p (some (Lb, (k * 8 + 0))))) (wt rfl) (fun he => (r_fadd' (cond_pos he) rfl)) ?_
 refine O_gx (e := (!decide (c.st = 1))) (v := (.i .i64 c.st)) (wt rfl) (fun he => (by exact (r_ld (cond_pos he) hH1.get1 ((foc_get (rows_map Ch.row_len cs) (by rw [List.length_map]; omega) rfl (by decide)).trans rfl)))) ?_
 refine O_gx (e := (!decide (c.st = 1))) (v := (.b (!decide (c.st = 2)))) (wt rfl) (fun he => (r_neq (cond_pos he) rfl)) ?_
 refine O_gs (v := (.b ((!decide (c.st = 1)) && (!decide (c.st = 2))))) rfl (r_pick_and rfl rfl rfl rfl) ?_
 refine O_p (.b ((!decide (c.st = 1)) && (!decide (c.st = 2)))) (r_pick_f rfl rfl) ?_
 refine O_nil ?_
 refine C_cond (x := ((!decide (c.st = 1)) && (!decide (c.st = 2)))) rfl (fun hc2 => ?_) (fun hc2 => ?_)
 ·
  have hr3 := hc2
  try simp only [decide_eq_true_eq, decide_eq_false_iff_not, Bool.not_eq_true', Bool.not_eq_false', Bool.and_eq_true, Bool.or_eq_true, Bool.or_eq_false_iff, Bool.not_not, Bool.and_eq_false_iff] at hc2
  refine sr ?_
  refine pv (.i .i64 11) rfl ?_
  refine O_nil ?_
  refine C_ret ?_
  refine nx_ret ?_
  obtain ⟨ho1, ho2⟩ := hokc
  have hL : livesI c.st = false := by first | assumption | (rw [livesI_iff]; omega) | (rw [Bool.eq_false_iff, ne_eq, livesI_iff]; omega) | simp_all
  have hC : closeC cs k = cs := by unfold closeC; rw [hgd]; exact if_neg (by rw [hL]; decide)
  have hH4 := ((hH1.top1).top1)
  exact ⟨.inr rfl, _, resL_one (r_tmp (v := (.i .i64 11)) rfl), by unfold closeE; rw [hgd, hL]; rfl, by rw [hC]; exact Hs.cong1 hH4 (seg_foc (n := Lb) (enc := Ch.row) hc).symm⟩
 ·
  have hr5 := hc2
  try simp only [decide_eq_true_eq, decide_eq_false_iff_not, Bool.not_eq_true', Bool.not_eq_false', Bool.and_eq_true, Bool.or_eq_true, Bool.or_eq_false_iff, Bool.not_not, Bool.and_eq_false_iff] at hc2
  refine C_skip ?_
  refine sr ?_
  refine pv (.p (some (T, 0))) rfl ?_
  refine O_p (.p (some (T, 0))) (r_nilc rfl) ?_
  refine pf (.p (some (T, 0))) rfl rfl ?_
  refine O_p (.sl (some (Lb, 0)) cs.length cs.length 0) (r_ld rfl hH1.get0 rfl) ?_
  refine pv (.i .i64 (((k : Nat)) : Int)) rfl ?_
  refine O_p (.p (some (Lb, (k * 8 + 0)))) (by exact (r_islr (b := Lb) (k := k) (len := cs.length) (cap := cs.length) (g := 0) rfl rfl (by omega))) ?_
  refine pf (.p (some (Lb, (k * 8 + 0)))) rfl rfl ?_
  refine O_store (vs := [(.i .i64 3)]) (c' := ((cs.map Ch.row).set k [(.i .i64 3), (.i .u8 c.kind), (.i .u16 c.prio), (.i .u32 c.limit), (.s (txt c.label)), (.s (txt c.proto)), (.b c.mine), (.b c.theirs)]).flatten) rfl (by rfl) hH1.get1 rfl (List.cons_ne_nil _ _) (foc_len (n := 1) (rows_map Ch.row_len cs) (by rw [List.length_map]; omega) rfl (Nat.le_of_ble_eq_true rfl)) (foc_put (rows_map Ch.row_len cs) (by rw [List.length_map]; omega) rfl (Nat.le_of_ble_eq_true rfl) rfl) fun H6 hW7 => ?_
  have hH8 := hH1.wr1 hW7
  refine O_nil (sr ?_)
  refine pv (.i .i64 0) rfl ?_
  refine O_nil ?_
  refine C_ret ?_
  obtain ⟨ho1, ho2⟩ := hokc
  have hL : livesI c.st = true := by first | assumption | (rw [livesI_iff]; omega) | (rw [Bool.eq_false_iff, ne_eq, livesI_iff]; omega) | simp_all
  have hl3 := livesI_iff.1 hL
  have hC : closeC cs k = cs.set k (c.to 3) := by unfold closeC; rw [hgd]; exact if_pos hL
  have hrow : [(.i .i64 3), (.i .u8 c.kind), (.i .u16 c.prio), (.i .u32 c.limit), (.s (txt c.label)), (.s (txt c.proto)), (.b c.mine), (.b c.theirs)] = Ch.row (c.to 3) := rfl
  have hH9 := ((hH8.top1).top1)
  have hF : Hs H6 ([(T, some (.cells [.sl (some (Lb, 0)) cs.length cs.length 0, .b even] true))] ++ ([(Lb, some (.cells ((cs.map Ch.row).set k ([(.i .i64 3), (.i .u8 c.kind), (.i .u16 c.prio), (.i .u32 c.limit), (.s (txt c.label)), (.s (txt c.proto)), (.b c.mine), (.b c.theirs)])).flatten true))] ++ R)) := hH9
  rw [hrow] at hF
  exact ⟨.inr rfl, _, resL_one (r_tmp (v := (.i .i64 0)) rfl), by unfold closeE; rw [hgd, hL]; rfl, by rw [hC, List.length_set]; exact Hs.cong1 hF seg_shut⟩
theorem rclose_out {H : AH} {T Lb : Nat} {cs : List Ch} {even : Bool} {R : HL} {k : Nat} (hk16 : k < 65536) (hcs : cs.length ≤ 64) (hk : ¬ k < cs.length)  (hH0 : Hs H ([(T, some (.cells [.sl (some (Lb, 0)) cs.length cs.length 0, .b even] true))] ++ ([(Lb, some (.cells ((cs).map Ch.row).flatten true))] ++ R))) : Ev tabV spV (.fn (.func 55) [] []) [.p (some (T, 0)), .i .u16 k] H (fun r H' => r = .i .i64 (closeE cs k) ∧ Hs H' ([(T, some (.cells [.sl (some (Lb, 0)) (closeC cs k).length (closeC cs k).length 0, .b even] true))] ++ ([(Lb, some (.cells ((closeC cs k).map Ch.row).flatten true))] ++ R))) := by
 refine Ev_C (F := x55) rfl ?_
 have hgd := getD_out hk
 refine sr ?_
 refine pv (.i .i64 0) rfl ?_
 refine O_nil (sr ?_)
 refine pv (.i .u16 ((k : Nat) : Int)) rfl ?_
 refine O_p (.i .i64 (((k : Nat)) : Int)) (by exact (r_cint' rfl (wrap_i64 (by omega) (by omega)))) ?_
 refine pv (.i .i64 (((k : Nat)) : Int)) rfl ?_
 refine O_nil ?_
 refine C_seq ?_
 refine sr ?_
 refine pv (.i .i64 (((k : Nat)) : Int)) rfl ?_
 refine pv (.p (some (T, 0))) rfl ?_
 refine O_p (.p (some (T, 0))) (r_nilc rfl) ?_
 refine pf (.p (some (T, 0))) rfl rfl ?_
 refine O_p (.sl (some (Lb, 0)) cs.length cs.length 0) (r_ld rfl hH0.get0 rfl) ?_
 refine O_p (.i .i64 (((cs.length : Nat)) : Int)) (r_len rfl) ?_
 refine O_p (.b true) (by exact (by rw [r_geq rfl rfl, decide_eq_true (by omega)])) ?_
 refine pv (.b true) rfl ?_
 refine O_gf rfl ?_
 refine O_gf rfl ?_
 refine O_gf rfl ?_
 refine O_gf rfl ?_
 refine O_gf rfl ?_
 refine O_gf rfl ?_
 refine O_gf rfl ?_
 refine O_gf rfl ?_
 refine O_gf rfl ?_
 refine O_gf rfl ?_
 refine O_gu rfl ?_
 refine O_gu rfl ?_
 refine O_gu rfl ?_
 refine O_gu rfl ?_
 refine O_gu rfl ?_
 refine O_gu rfl ?_
 refine O_gu rfl ?_
 refine O_gu rfl ?_
 refine O_gu rfl ?_
 refine O_gf rfl ?_
 refine O_p (.b true) (r_pick_t rfl rfl) ?_
 refine O_nil ?_
 refine C_cond (x := true) rfl (fun _ => ?_) (fun h => by cases h)
 refine sr ?_
 refine pv (.i .i64 11) rfl ?_
 refine O_nil ?_
 refine C_ret ?_
 refine nx_ret ?_
 have hC : closeC cs k = cs := by unfold closeC; rw [hgd]; rfl
 exact ⟨.inr rfl, _, resL_one (r_tmp (v := (.i .i64 11)) rfl), by unfold closeE; rw [hgd]; rfl, by rw [hC]; exact hH0⟩
theorem rgone_in {H : AH} {T Lb : Nat} {cs : List Ch} {even : Bool} {R : HL} {k : Nat} (hk16 : k < 65536) (hcs : cs.length ≤ 64) (hk : k < cs.length) (hall : ∀ (k : Nat) (c : Ch), cs[k]? = some c → okC c) (hH0 : Hs H ([(T, some (.cells [.sl (some (Lb, 0)) cs.length cs.length 0, .b even] true))] ++ ([(Lb, some (.cells ((cs).map Ch.row).flatten true))] ++ R))) : Ev tabV spV (.fn (.func 56) [] []) [.p (some (T, 0)), .i .u16 k] H (fun r H' => r = .b (goneB cs k) ∧ Hs H' ([(T, some (.cells [.sl (some (Lb, 0)) (goneC cs k).length (goneC cs k).length 0, .b even] true))] ++ ([(Lb, some (.cells ((goneC cs k).map Ch.row).flatten true))] ++ R))) := by
 refine Ev_C (F := x56) rfl ?_
 obtain ⟨c, hc⟩ := ex_at hk
 have hgd := getD_of hc
 have hokc : okC c := hall k c hc
 have hH1 := hH0.cong1 (seg_foc (n := Lb) (enc := Ch.row) hc)
 refine sr ?_
 refine pv (.b false) rfl ?_
 refine O_nil (sr ?_)
 refine pv (.i .u16 ((k : Nat) : Int)) rfl ?_
 refine O_p (.i .i64 (((k : Nat)) : Int)) (by exact (r_cint' rfl (wrap_i64 (by omega) (by omega)))) ?_
 refine pv (.i .i64 (((k : Nat)) : Int)) rfl ?_
 refine O_nil ?_
 refine C_seq ?_
 refine sr ?_
 refine pv (.i .i64 (((k : Nat)) : Int)) rfl ?_
 refine pv (.p (some (T, 0))) rfl ?_
 refine O_p (.p (some (T, 0))) (r_nilc rfl) ?_
 refine pf (.p (some (T, 0))) rfl rfl ?_
 refine O_p (.sl (some (Lb, 0)) cs.length cs.length 0) (r_ld rfl hH1.get0 rfl) ?_
 refine O_p (.i .i64 (((cs.length : Nat)) : Int)) (r_len rfl) ?_
 refine O_p (.b false) (by exact (by rw [r_geq rfl rfl, decide_eq_false (by omega)])) ?_
 refine pv (.b false) rfl ?_
 refine O_gs (v := (.p (some (T, 0)))) rfl (r_mv rfl) ?_
 refine O_gs (v := (.p (some (T, 0)))) rfl (r_nilc rfl) ?_
 refine O_gs (v := (.p (some (T, 0)))) rfl (r_fadd' rfl rfl) ?_
 refine O_gs (v := (.sl (some (Lb, 0)) cs.length cs.length 0)) rfl (r_ld rfl hH1.get0 rfl) ?_
 refine O_gs (v := (.i .i64 (((k : Nat)) : Int))) rfl (r_mv rfl) ?_
 refine O_gs (v := (.p (some (Lb, (k * 8 + 0))))) rfl (by exact (r_islr (b := Lb) (k := k) (len := cs.length) (cap := cs.length) (g := 0) rfl rfl (by omega))) ?_
 refine O_gs (v := (.p (some (Lb, (k * 8 + 0))))) rfl (r_fadd' rfl rfl) ?_
 refine O_gs (v := (.i .i64 c.st)) rfl (by exact (r_ld rfl hH1.get1 ((foc_get (rows_map Ch.row_len cs) (by rw [List.length_map]; omega) rfl (by decide)).trans rfl))) ?_
 refine O_gs (v := (.b (decide (c.st = 0)))) rfl (r_eql rfl rfl) ?_
 refine O_p (.b (decide (c.st = 0))) (r_pick_f rfl rfl) ?_
 refine O_nil ?_
 refine C_cond (x := (decide (c.st = 0))) rfl (fun hc2 => ?_) (fun hc2 => ?_)
 ·
  have hr3 := hc2
  try simp only [decide_eq_true_eq, decide_eq_false_iff_not, Bool.not_eq_true', Bool.not_eq_false', Bool.and_eq_true, Bool.or_eq_true, Bool.or_eq_false_iff, Bool.not_not, Bool.and_eq_false_iff] at hc2
  refine sr ?_
  refine pv (.b false) rfl ?_
  refine O_nil ?_
  refine C_ret ?_
  refine nx_ret ?_
  obtain ⟨ho1, ho2⟩ := hokc
  have hC : goneC cs k = cs := by unfold goneC; rw [hgd]; exact if_pos (by omega)
  have hH4 := ((hH1.top1).top1)
  exact ⟨.inr rfl, _, resL_one (r_tmp (v := (.b false)) rfl), by unfold goneB; rw [hgd, show c.st = 0 by omega]; rfl, by rw [hC]; exact Hs.cong1 hH4 (seg_foc (n := Lb) (enc := Ch.row) hc).symm⟩
 ·
  have hr5 := hc2
  try simp only [decide_eq_true_eq, decide_eq_false_iff_not, Bool.not_eq_true', Bool.not_eq_false', Bool.and_eq_true, Bool.or_eq_true, Bool.or_eq_false_iff, Bool.not_not, Bool.and_eq_false_iff] at hc2
  refine C_skip ?_
  refine sr ?_
  refine pv (.p (some (T, 0))) rfl ?_
  refine O_p (.p (some (T, 0))) (r_nilc rfl) ?_
  refine pf (.p (some (T, 0))) rfl rfl ?_
  refine O_p (.sl (some (Lb, 0)) cs.length cs.length 0) (r_ld rfl hH1.get0 rfl) ?_
  refine pv (.i .i64 (((k : Nat)) : Int)) rfl ?_
  refine O_p (.p (some (Lb, (k * 8 + 0)))) (by exact (r_islr (b := Lb) (k := k) (len := cs.length) (cap := cs.length) (g := 0) rfl rfl (by omega))) ?_
  refine pf (.p (some (Lb, (k * 8 + 0)))) rfl rfl ?_
  refine O_p (.i .i64 c.st) (by exact (r_ld rfl hH1.get1 ((foc_get (rows_map Ch.row_len cs) (by rw [List.length_map]; omega) rfl (by decide)).trans rfl))) ?_
  refine O_p (.b (!decide (c.st = 3))) (r_neq rfl rfl) ?_
  refine pv (.b (!decide (c.st = 3))) rfl ?_
  refine O_nil (sr ?_)
  refine pv (.p (some (T, 0))) rfl ?_
  refine O_p (.p (some (T, 0))) (r_nilc rfl) ?_
  refine pf (.p (some (T, 0))) rfl rfl ?_
  refine O_p (.sl (some (Lb, 0)) cs.length cs.length 0) (r_ld rfl hH1.get0 rfl) ?_
  refine pv (.i .i64 (((k : Nat)) : Int)) rfl ?_
  refine O_p (.p (some (Lb, (k * 8 + 0)))) (by exact (r_islr (b := Lb) (k := k) (len := cs.length) (cap := cs.length) (g := 0) rfl rfl (by omega))) ?_
  refine pf (.p (some (Lb, (k * 8 + 0)))) rfl rfl ?_
  refine O_store (vs := [(.i .i64 3)]) (c' := ((cs.map Ch.row).set k [(.i .i64 3), (.i .u8 c.kind), (.i .u16 c.prio), (.i .u32 c.limit), (.s (txt c.label)), (.s (txt c.proto)), (.b c.mine), (.b c.theirs)]).flatten) rfl (by rfl) hH1.get1 rfl (List.cons_ne_nil _ _) (foc_len (n := 1) (rows_map Ch.row_len cs) (by rw [List.length_map]; omega) rfl (Nat.le_of_ble_eq_true rfl)) (foc_put (rows_map Ch.row_len cs) (by rw [List.length_map]; omega) rfl (Nat.le_of_ble_eq_true rfl) rfl) fun H6 hW7 => ?_
  have hH8 := hH1.wr1 hW7
  refine O_nil (sr ?_)
  refine pv (.p (some (T, 0))) rfl ?_
  refine O_p (.p (some (T, 0))) (r_nilc rfl) ?_
  refine pf (.p (some (T, 0))) rfl rfl ?_
  refine O_p (.sl (some (Lb, 0)) cs.length cs.length 0) (r_ld rfl hH8.get0 rfl) ?_
  refine pv (.i .i64 (((k : Nat)) : Int)) rfl ?_
  refine O_p (.p (some (Lb, (k * 8 + 0)))) (by exact (r_islr (b := Lb) (k := k) (len := cs.length) (cap := cs.length) (g := 0) rfl rfl (by omega))) ?_
  refine pf (.p (some (Lb, (k * 8 + 7)))) rfl rfl ?_
  refine O_store (vs := [(.b true)]) (c' := ((cs.map Ch.row).set k [(.i .i64 3), (.i .u8 c.kind), (.i .u16 c.prio), (.i .u32 c.limit), (.s (txt c.label)), (.s (txt c.proto)), (.b c.mine), (.b true)]).flatten) rfl (by rfl) hH8.get1 rfl (List.cons_ne_nil _ _) (foc_len (n := 1) (rows_map Ch.row_len cs) (by rw [List.length_map]; omega) rfl (Nat.le_of_ble_eq_true rfl)) (foc_put (rows_map Ch.row_len cs) (by rw [List.length_map]; omega) rfl (Nat.le_of_ble_eq_true rfl) rfl) fun H9 hW10 => ?_
  have hH11 := hH8.wr1 hW10
  refine O_nil (sr ?_)
  refine pv (.p (some (T, 0))) rfl ?_
  refine pv (.i .i64 (((k : Nat)) : Int)) rfl ?_
  have hH12 := ((hH11.top1).top1)
  refine O_call (Ev.mono (free_ev ⟨3, c.kind, c.prio, c.limit, c.label, c.proto, c.mine, true⟩ hk hH12) fun v13 H14 hq15 => ?_)
  obtain ⟨rfl, hH16⟩ := hq15
  refine O_nil (sr ?_)
  refine pv (.b (!decide (c.st = 3))) rfl ?_
  refine pv (.b (!decide (c.st = 3))) rfl ?_
  refine O_nil ?_
  refine C_ret ?_
  obtain ⟨ho1, ho2⟩ := hokc
  have hC : goneC cs k = cs.set k (c.shut false true) := by unfold goneC; rw [hgd]; exact if_neg (by omega)
  have hrow : Ch.row (Ch.freed ⟨3, c.kind, c.prio, c.limit, c.label, c.proto, c.mine, true⟩) = Ch.row (c.shut false true) := congrArg Ch.row shut_ft
  have hH17 := ((hH16.top1).top1)
  have hF : Hs H14 ([(T, some (.cells [.sl (some (Lb, 0)) cs.length cs.length 0, .b even] true))] ++ ([(Lb, some (.cells ((cs.map Ch.row).set k (Ch.row (Ch.freed ⟨3, c.kind, c.prio, c.limit, c.label, c.proto, c.mine, true⟩))).flatten true))] ++ R)) := hH17
  rw [hrow] at hF
  have hb : (!decide (c.st = 3)) = livesI c.st := by unfold livesI; rcases ho1 with h | h | h | h <;> simp [h] <;> omega
  exact ⟨.inr rfl, _, resL_one (r_tmp (v := (.b (!decide (c.st = 3)))) rfl), by unfold goneB; rw [hgd, ← hb]; rfl, by rw [hC, List.length_set]; exact Hs.cong1 hF seg_shut⟩
theorem rgone_out {H : AH} {T Lb : Nat} {cs : List Ch} {even : Bool} {R : HL} {k : Nat} (hk16 : k < 65536) (hcs : cs.length ≤ 64) (hk : ¬ k < cs.length)  (hH0 : Hs H ([(T, some (.cells [.sl (some (Lb, 0)) cs.length cs.length 0, .b even] true))] ++ ([(Lb, some (.cells ((cs).map Ch.row).flatten true))] ++ R))) : Ev tabV spV (.fn (.func 56) [] []) [.p (some (T, 0)), .i .u16 k] H (fun r H' => r = .b (goneB cs k) ∧ Hs H' ([(T, some (.cells [.sl (some (Lb, 0)) (goneC cs k).length (goneC cs k).length 0, .b even] true))] ++ ([(Lb, some (.cells ((goneC cs k).map Ch.row).flatten true))] ++ R))) := by
 refine Ev_C (F := x56) rfl ?_
 have hgd := getD_out hk
 refine sr ?_
 refine pv (.b false) rfl ?_
 refine O_nil (sr ?_)
 refine pv (.i .u16 ((k : Nat) : Int)) rfl ?_
 refine O_p (.i .i64 (((k : Nat)) : Int)) (by exact (r_cint' rfl (wrap_i64 (by omega) (by omega)))) ?_
 refine pv (.i .i64 (((k : Nat)) : Int)) rfl ?_
 refine O_nil ?_
 refine C_seq ?_
 refine sr ?_
 refine pv (.i .i64 (((k : Nat)) : Int)) rfl ?_
 refine pv (.p (some (T, 0))) rfl ?_
 refine O_p (.p (some (T, 0))) (r_nilc rfl) ?_
 refine pf (.p (some (T, 0))) rfl rfl ?_
 refine O_p (.sl (some (Lb, 0)) cs.length cs.length 0) (r_ld rfl hH0.get0 rfl) ?_
 refine O_p (.i .i64 (((cs.length : Nat)) : Int)) (r_len rfl) ?_
 refine O_p (.b true) (by exact (by rw [r_geq rfl rfl, decide_eq_true (by omega)])) ?_
 refine pv (.b true) rfl ?_
 refine O_gf rfl ?_
 refine O_gf rfl ?_
 refine O_gf rfl ?_
 refine O_gf rfl ?_
 refine O_gf rfl ?_
 refine O_gf rfl ?_
 refine O_gf rfl ?_
 refine O_gf rfl ?_
 refine O_gf rfl ?_
 refine O_p (.b true) (r_pick_t rfl rfl) ?_
 refine O_nil ?_
 refine C_cond (x := true) rfl (fun _ => ?_) (fun h => by cases h)
 refine sr ?_
 refine pv (.b false) rfl ?_
 refine O_nil ?_
 refine C_ret ?_
 refine nx_ret ?_
 have hC : goneC cs k = cs := by unfold goneC; rw [hgd]; rfl
 exact ⟨.inr rfl, _, resL_one (r_tmp (v := (.b false)) rfl), by unfold goneB; rw [hgd]; rfl, by rw [hC]; exact hH0⟩
theorem rfreed_in {H : AH} {T Lb : Nat} {cs : List Ch} {even : Bool} {R : HL} {k : Nat} (hk16 : k < 65536) (hcs : cs.length ≤ 64) (hk : k < cs.length) (hall : ∀ (k : Nat) (c : Ch), cs[k]? = some c → okC c) (hH0 : Hs H ([(T, some (.cells [.sl (some (Lb, 0)) cs.length cs.length 0, .b even] true))] ++ ([(Lb, some (.cells ((cs).map Ch.row).flatten true))] ++ R))) : Ev tabV spV (.fn (.func 57) [] []) [.p (some (T, 0)), .i .u16 k] H (fun r H' => r = .tup [] ∧ Hs H' ([(T, some (.cells [.sl (some (Lb, 0)) (freedC cs k).length (freedC cs k).length 0, .b even] true))] ++ ([(Lb, some (.cells ((freedC cs k).map Ch.row).flatten true))] ++ R))) := by
 refine Ev_C (F := x57) rfl ?_
 obtain ⟨c, hc⟩ := ex_at hk
 have hgd := getD_of hc
 have hokc : okC c := hall k c hc
 have hH1 := hH0.cong1 (seg_foc (n := Lb) (enc := Ch.row) hc)
 refine sr ?_
 refine pv (.i .u16 ((k : Nat) : Int)) rfl ?_
 refine O_p (.i .i64 (((k : Nat)) : Int)) (by exact (r_cint' rfl (wrap_i64 (by omega) (by omega)))) ?_
 refine pv (.i .i64 (((k : Nat)) : Int)) rfl ?_
 refine O_nil (sr ?_)
 refine pv (.i .i64 (((k : Nat)) : Int)) rfl ?_
 refine pv (.p (some (T, 0))) rfl ?_
 refine O_p (.p (some (T, 0))) (r_nilc rfl) ?_
 refine pf (.p (some (T, 0))) rfl rfl ?_
 refine O_p (.sl (some (Lb, 0)) cs.length cs.length 0) (r_ld rfl hH1.get0 rfl) ?_
 refine O_p (.i .i64 (((cs.length : Nat)) : Int)) (r_len rfl) ?_
 refine O_p (.b true) (by exact (by rw [r_lss rfl rfl, decide_eq_true (by omega)])) ?_
 refine pv (.b true) rfl ?_
 refine O_gs (v := (.p (some (T, 0)))) rfl (r_mv rfl) ?_
 refine O_gs (v := (.p (some (T, 0)))) rfl (r_nilc rfl) ?_
 refine O_gs (v := (.p (some (T, 0)))) rfl (r_fadd' rfl rfl) ?_
 refine O_gs (v := (.sl (some (Lb, 0)) cs.length cs.length 0)) rfl (r_ld rfl hH1.get0 rfl) ?_
 refine O_gs (v := (.i .i64 (((k : Nat)) : Int))) rfl (r_mv rfl) ?_
 refine O_gs (v := (.p (some (Lb, (k * 8 + 0))))) rfl (by exact (r_islr (b := Lb) (k := k) (len := cs.length) (cap := cs.length) (g := 0) rfl rfl (by omega))) ?_
 refine O_gs (v := (.p (some (Lb, (k * 8 + 0))))) rfl (r_fadd' rfl rfl) ?_
 refine O_gs (v := (.i .i64 c.st)) rfl (by exact (r_ld rfl hH1.get1 ((foc_get (rows_map Ch.row_len cs) (by rw [List.length_map]; omega) rfl (by decide)).trans rfl))) ?_
 refine O_gs (v := (.b (decide (c.st = 3)))) rfl (r_eql rfl rfl) ?_
 refine O_p (.b (decide (c.st = 3))) (r_pick_t rfl rfl) ?_
 refine O_nil ?_
 refine C_cond (x := (decide (c.st = 3))) rfl (fun hc2 => ?_) (fun hc2 => ?_)
 ·
  have hr3 := hc2
  try simp only [decide_eq_true_eq, decide_eq_false_iff_not, Bool.not_eq_true', Bool.not_eq_false', Bool.and_eq_true, Bool.or_eq_true, Bool.or_eq_false_iff, Bool.not_not, Bool.and_eq_false_iff] at hc2
  refine sr ?_
  refine pv (.p (some (T, 0))) rfl ?_
  refine O_p (.p (some (T, 0))) (r_nilc rfl) ?_
  refine pf (.p (some (T, 0))) rfl rfl ?_
  refine O_p (.sl (some (Lb, 0)) cs.length cs.length 0) (r_ld rfl hH1.get0 rfl) ?_
  refine pv (.i .i64 (((k : Nat)) : Int)) rfl ?_
  refine O_p (.p (some (Lb, (k * 8 + 0)))) (by exact (r_islr (b := Lb) (k := k) (len := cs.length) (cap := cs.length) (g := 0) rfl rfl (by omega))) ?_
  refine pf (.p (some (Lb, (k * 8 + 6)))) rfl rfl ?_
  refine O_store (vs := [(.b true)]) (c' := ((cs.map Ch.row).set k [(.i .i64 c.st), (.i .u8 c.kind), (.i .u16 c.prio), (.i .u32 c.limit), (.s (txt c.label)), (.s (txt c.proto)), (.b true), (.b c.theirs)]).flatten) rfl (by rfl) hH1.get1 rfl (List.cons_ne_nil _ _) (foc_len (n := 1) (rows_map Ch.row_len cs) (by rw [List.length_map]; omega) rfl (Nat.le_of_ble_eq_true rfl)) (foc_put (rows_map Ch.row_len cs) (by rw [List.length_map]; omega) rfl (Nat.le_of_ble_eq_true rfl) rfl) fun H4 hW5 => ?_
  have hH6 := hH1.wr1 hW5
  refine O_nil ?_
  refine C_region ?_
  refine pv (.p (some (T, 0))) rfl ?_
  refine pv (.i .i64 (((k : Nat)) : Int)) rfl ?_
  have hH7 := ((hH6.top1).top1)
  refine O_call (Ev.mono (free_ev ⟨c.st, c.kind, c.prio, c.limit, c.label, c.proto, true, c.theirs⟩ hk hH7) fun v8 H9 hq10 => ?_)
  obtain ⟨rfl, hH11⟩ := hq10
  refine O_nil ?_
  obtain ⟨ho1, ho2⟩ := hokc
  have hC : freedC cs k = cs.set k (c.shut true false) := by unfold freedC; rw [hgd]; exact if_pos (by omega)
  have hrow : Ch.row (Ch.freed ⟨c.st, c.kind, c.prio, c.limit, c.label, c.proto, true, c.theirs⟩) = Ch.row (c.shut true false) := congrArg Ch.row (shut_tf (by omega))
  have hH12 := ((hH11.top1).top1)
  have hF : Hs H9 ([(T, some (.cells [.sl (some (Lb, 0)) cs.length cs.length 0, .b even] true))] ++ ([(Lb, some (.cells ((cs.map Ch.row).set k (Ch.row (Ch.freed ⟨c.st, c.kind, c.prio, c.limit, c.label, c.proto, true, c.theirs⟩))).flatten true))] ++ R)) := hH12
  rw [hrow] at hF
  exact ⟨.inl rfl, _, rfl, rfl, by rw [hC, List.length_set]; exact Hs.cong1 hF seg_shut⟩
 ·
  have hr13 := hc2
  try simp only [decide_eq_true_eq, decide_eq_false_iff_not, Bool.not_eq_true', Bool.not_eq_false', Bool.and_eq_true, Bool.or_eq_true, Bool.or_eq_false_iff, Bool.not_not, Bool.and_eq_false_iff] at hc2
  refine C_skip ?_
  obtain ⟨ho1, ho2⟩ := hokc
  have hC : freedC cs k = cs := by unfold freedC; rw [hgd]; exact if_neg (by omega)
  have hH14 := ((hH1.top1).top1)
  exact ⟨.inl rfl, _, rfl, rfl, by rw [hC]; exact Hs.cong1 hH14 (seg_foc (n := Lb) (enc := Ch.row) hc).symm⟩
theorem rfreed_out {H : AH} {T Lb : Nat} {cs : List Ch} {even : Bool} {R : HL} {k : Nat} (hk16 : k < 65536) (hcs : cs.length ≤ 64) (hk : ¬ k < cs.length)  (hH0 : Hs H ([(T, some (.cells [.sl (some (Lb, 0)) cs.length cs.length 0, .b even] true))] ++ ([(Lb, some (.cells ((cs).map Ch.row).flatten true))] ++ R))) : Ev tabV spV (.fn (.func 57) [] []) [.p (some (T, 0)), .i .u16 k] H (fun r H' => r = .tup [] ∧ Hs H' ([(T, some (.cells [.sl (some (Lb, 0)) (freedC cs k).length (freedC cs k).length 0, .b even] true))] ++ ([(Lb, some (.cells ((freedC cs k).map Ch.row).flatten true))] ++ R))) := by
 refine Ev_C (F := x57) rfl ?_
 have hgd := getD_out hk
 refine sr ?_
 refine pv (.i .u16 ((k : Nat) : Int)) rfl ?_
 refine O_p (.i .i64 (((k : Nat)) : Int)) (by exact (r_cint' rfl (wrap_i64 (by omega) (by omega)))) ?_
 refine pv (.i .i64 (((k : Nat)) : Int)) rfl ?_
 refine O_nil (sr ?_)
 refine pv (.i .i64 (((k : Nat)) : Int)) rfl ?_
 refine pv (.p (some (T, 0))) rfl ?_
 refine O_p (.p (some (T, 0))) (r_nilc rfl) ?_
 refine pf (.p (some (T, 0))) rfl rfl ?_
 refine O_p (.sl (some (Lb, 0)) cs.length cs.length 0) (r_ld rfl hH0.get0 rfl) ?_
 refine O_p (.i .i64 (((cs.length : Nat)) : Int)) (r_len rfl) ?_
 refine O_p (.b false) (by exact (by rw [r_lss rfl rfl, decide_eq_false (by omega)])) ?_
 refine pv (.b false) rfl ?_
 refine O_gf rfl ?_
 refine O_gf rfl ?_
 refine O_gf rfl ?_
 refine O_gf rfl ?_
 refine O_gf rfl ?_
 refine O_gf rfl ?_
 refine O_gf rfl ?_
 refine O_gf rfl ?_
 refine O_gf rfl ?_
 refine O_p (.b false) (r_pick_f rfl rfl) ?_
 refine O_nil ?_
 refine C_cond (x := false) rfl (fun h => by cases h) (fun _ => ?_)
 refine C_skip ?_
 have hC : freedC cs k = cs := by unfold freedC; rw [hgd]; rfl
 exact ⟨.inl rfl, _, rfl, rfl, by rw [hC]; exact hH0⟩
end Go.Proofs.YtfhbdddjclodhaaDoor.E
