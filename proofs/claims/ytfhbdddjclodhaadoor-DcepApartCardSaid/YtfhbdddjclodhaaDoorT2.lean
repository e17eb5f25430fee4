/- Layer 18's table, walked (second part). It bears no condition. -/
import Derived.Test.YtfhbdddjclodhaaDoorT
namespace Go.Proofs.YtfhbdddjclodhaaDoor.E
open Go.Lib
set_option linter.unusedVariables false
set_option linter.unusedSimpArgs false
def okC (c : Ch) : Prop := (c.st = 0 ∨ c.st = 1 ∨ c.st = 2 ∨ c.st = 3) ∧ (c.st ≠ 3 → c.mine = false ∧ c.theirs = false)
def Ch.to (c : Ch) (n : Int) : Ch := ⟨n, c.kind, c.prio, c.limit, c.label, c.proto, c.mine, c.theirs⟩
theorem getD_out {cs : List Ch} {k : Nat} (h : ¬ k < cs.length) : cs.getD k ch0 = ch0 := by
 rw [List.getD_eq_getElem?_getD, List.getElem?_eq_none (by omega)]; rfl
theorem state_in {H : AH} {T Lb : Nat} {cs : List Ch} {even : Bool} {R : HL} {k : Nat} (hk16 : k < 65536) (hcs : cs.length ≤ 64) (hk : k < cs.length)  (hH0 : Hs H ([(T, some (.cells [.sl (some (Lb, 0)) cs.length cs.length 0, .b even] true))] ++ ([(Lb, some (.cells ((cs).map Ch.row).flatten true))] ++ R))) : Ev tabV spV (.fn (.func 29) [] []) [.p (some (T, 0)), .i .u16 k] H (fun r H' => r = .i .i64 (cs.getD k ch0).st ∧ H' = H) := by
 refine Ev_C (F := x29) rfl ?_
 obtain ⟨c, hc⟩ := ex_at hk
 have hgd := getD_of hc
 have hH1 := hH0.cong1 (seg_foc (n := Lb) (enc := Ch.row) hc)
 refine sr ?_
 refine pv (.i .i64 0) rfl ?_
 refine O_nil ?_
 refine C_seq ?_
 refine sr ?_
 refine pv (.p (some (T, 0))) rfl ?_
 refine pv (.i .u16 ((k : Nat) : Int)) rfl ?_
 refine O_call (Ev.mono (at_in hH1.ok (hH1.get0) hk16 hk) fun v2 H3 hq4 => ?_)
 obtain ⟨rfl, hq4⟩ := hq4
 subst H3
 refine pv (.p (some (Lb, (k * 8 + 0)))) rfl ?_
 refine O_nil (sr ?_)
 refine pv (.p (some (Lb, (k * 8 + 0)))) rfl ?_
 refine O_p (.b true) (r_nilq_s rfl) ?_
 refine O_nil ?_
 refine C_cond (x := true) rfl (fun _ => ?_) (fun h => by cases h)
 refine sr ?_
 refine pv (.p (some (Lb, (k * 8 + 0)))) rfl ?_
 refine O_p (.p (some (Lb, (k * 8 + 0)))) (r_nilc rfl) ?_
 refine pf (.p (some (Lb, (k * 8 + 0)))) rfl rfl ?_
 refine O_p (.i .i64 c.st) (by exact (r_ld rfl hH1.get1 ((foc_get (rows_map Ch.row_len cs) (by rw [List.length_map]; omega) rfl (by decide)).trans rfl))) ?_
 refine pv (.i .i64 c.st) rfl ?_
 refine O_nil ?_
 refine C_ret ?_
 refine nx_ret ?_
 exact ⟨.inr rfl, _, resL_one (r_tmp (v := (.i .i64 c.st)) rfl), by rw [hgd]; rfl, rfl⟩
theorem state_out {H : AH} {T Lb : Nat} {cs : List Ch} {even : Bool} {R : HL} {k : Nat} (hk16 : k < 65536) (hcs : cs.length ≤ 64) (hk : ¬ k < cs.length)  (hH0 : Hs H ([(T, some (.cells [.sl (some (Lb, 0)) cs.length cs.length 0, .b even] true))] ++ ([(Lb, some (.cells ((cs).map Ch.row).flatten true))] ++ R))) : Ev tabV spV (.fn (.func 29) [] []) [.p (some (T, 0)), .i .u16 k] H (fun r H' => r = .i .i64 (cs.getD k ch0).st ∧ H' = H) := by
 refine Ev_C (F := x29) rfl ?_
 have hgd := getD_out hk
 refine sr ?_
 refine pv (.i .i64 0) rfl ?_
 refine O_nil ?_
 refine C_seq ?_
 refine sr ?_
 refine pv (.p (some (T, 0))) rfl ?_
 refine pv (.i .u16 ((k : Nat) : Int)) rfl ?_
 refine O_call (Ev.mono (at_out hH0.ok (hH0.get0) hk16 hk) fun v1 H2 hq3 => ?_)
 obtain ⟨rfl, hq3⟩ := hq3
 subst H2
 refine pv (.p none) rfl ?_
 refine O_nil (sr ?_)
 refine pv (.p none) rfl ?_
 refine O_p (.b false) (r_nilq_n rfl) ?_
 refine O_nil ?_
 refine C_cond (x := false) rfl (fun h => by cases h) (fun _ => ?_)
 refine C_skip ?_
 refine sr ?_
 refine pv (.i .i64 0) rfl ?_
 refine O_nil ?_
 refine C_ret ?_
 exact ⟨.inr rfl, _, resL_one (r_tmp (v := (.i .i64 0)) rfl), by rw [hgd]; rfl, rfl⟩
theorem openg_in {H : AH} {T Lb : Nat} {cs : List Ch} {even : Bool} {R : HL} {k : Nat} (hk16 : k < 65536) (hcs : cs.length ≤ 64) (hk : k < cs.length)  (hH0 : Hs H ([(T, some (.cells [.sl (some (Lb, 0)) cs.length cs.length 0, .b even] true))] ++ ([(Lb, some (.cells ((cs).map Ch.row).flatten true))] ++ R))) : Ev tabV spV (.fn (.func 27) [] []) [.p (some (T, 0)), .i .u16 k] H (fun r H' => r = .agg [.i .u8 (cs.getD k ch0).kind, .i .u16 (cs.getD k ch0).prio, .i .u32 (cs.getD k ch0).limit, .s (txt (cs.getD k ch0).label), .s (txt (cs.getD k ch0).proto)] ∧ Hs H' ([(T, some (.cells [.sl (some (Lb, 0)) cs.length cs.length 0, .b even] true))] ++ ([(Lb, some (.cells ((cs).map Ch.row).flatten true))] ++ R))) := by
 refine Ev_C (F := x27) rfl ?_
 obtain ⟨c, hc⟩ := ex_at hk
 have hgd := getD_of hc
 have hH1 := hH0.cong1 (seg_foc (n := Lb) (enc := Ch.row) hc)
 refine sr ?_
 refine O_alloc fun n2 H3 hN4 => ?_
 have hH5 := hH1.new hN4
 refine O_nil ?_
 refine C_seq ?_
 refine sr ?_
 refine pv (.p (some (T, 0))) rfl ?_
 refine pv (.i .u16 ((k : Nat) : Int)) rfl ?_
 refine O_call (Ev.mono (at_in hH5.ok (hH5.get1) hk16 hk) fun v6 H7 hq8 => ?_)
 obtain ⟨rfl, hq8⟩ := hq8
 subst H7
 refine pv (.p (some (Lb, (k * 8 + 0)))) rfl ?_
 refine O_nil (sr ?_)
 refine pv (.p (some (Lb, (k * 8 + 0)))) rfl ?_
 refine O_p (.b true) (r_nilq_s rfl) ?_
 refine O_nil ?_
 refine C_cond (x := true) rfl (fun _ => ?_) (fun h => by cases h)
 refine sr ?_
 refine pv (.p (some (Lb, (k * 8 + 0)))) rfl ?_
 refine O_p (.p (some (Lb, (k * 8 + 0)))) (r_nilc rfl) ?_
 refine pf (.p (some (Lb, (k * 8 + 1)))) rfl rfl ?_
 refine O_p (.agg [(.i .u8 c.kind), (.i .u16 c.prio), (.i .u32 c.limit), (.s (txt c.label)), (.s (txt c.proto))]) (by exact (r_ldA rfl hH5.get2 ((foc_take (rows_map Ch.row_len cs) (by rw [List.length_map]; omega) rfl (by decide)).trans rfl))) ?_
 refine O_store (vs := [(.i .u8 c.kind), (.i .u16 c.prio), (.i .u32 c.limit), (.s (txt c.label)), (.s (txt c.proto))]) (c' := [(.i .u8 c.kind), (.i .u16 c.prio), (.i .u32 c.limit), (.s (txt c.label)), (.s (txt c.proto))]) rfl (by rfl) hH5.get0 rfl (List.cons_ne_nil _ _) (Nat.le_of_ble_eq_true rfl) rfl fun H9 hW10 => ?_
 have hH11 := hH5.wr0 hW10
 refine O_nil ?_
 refine C_ret ?_
 refine nx_ret ?_
 have hback := foc_open (enc := Ch.row) hc
 have hH12 := (hH11.sub0)
 have hH13 := ((hH12.top1).top1)
 exact ⟨.inr rfl, _, resL_one (r_cellA rfl hH11.get0 rfl), by rw [hgd]; rfl, (Hs.cong1 hH13 (seg_foc (n := Lb) (enc := Ch.row) hc).symm)⟩
theorem openg_out {H : AH} {T Lb : Nat} {cs : List Ch} {even : Bool} {R : HL} {k : Nat} (hk16 : k < 65536) (hcs : cs.length ≤ 64) (hk : ¬ k < cs.length)  (hH0 : Hs H ([(T, some (.cells [.sl (some (Lb, 0)) cs.length cs.length 0, .b even] true))] ++ ([(Lb, some (.cells ((cs).map Ch.row).flatten true))] ++ R))) : Ev tabV spV (.fn (.func 27) [] []) [.p (some (T, 0)), .i .u16 k] H (fun r H' => r = .agg [.i .u8 (cs.getD k ch0).kind, .i .u16 (cs.getD k ch0).prio, .i .u32 (cs.getD k ch0).limit, .s (txt (cs.getD k ch0).label), .s (txt (cs.getD k ch0).proto)] ∧ Hs H' ([(T, some (.cells [.sl (some (Lb, 0)) cs.length cs.length 0, .b even] true))] ++ ([(Lb, some (.cells ((cs).map Ch.row).flatten true))] ++ R))) := by
 refine Ev_C (F := x27) rfl ?_
 have hgd := getD_out hk
 refine sr ?_
 refine O_alloc fun n1 H2 hN3 => ?_
 have hH4 := hH0.new hN3
 refine O_nil ?_
 refine C_seq ?_
 refine sr ?_
 refine pv (.p (some (T, 0))) rfl ?_
 refine pv (.i .u16 ((k : Nat) : Int)) rfl ?_
 refine O_call (Ev.mono (at_out hH4.ok (hH4.get1) hk16 hk) fun v5 H6 hq7 => ?_)
 obtain ⟨rfl, hq7⟩ := hq7
 subst H6
 refine pv (.p none) rfl ?_
 refine O_nil (sr ?_)
 refine pv (.p none) rfl ?_
 refine O_p (.b false) (r_nilq_n rfl) ?_
 refine O_nil ?_
 refine C_cond (x := false) rfl (fun h => by cases h) (fun _ => ?_)
 refine C_skip ?_
 refine sr ?_
 refine O_p (.agg [(.i .u8 0), (.i .u16 0), (.i .u32 0), (.s ⟨#[]⟩), (.s ⟨#[]⟩)]) (r_build rfl) ?_
 refine O_store (vs := [(.i .u8 0), (.i .u16 0), (.i .u32 0), (.s ⟨#[]⟩), (.s ⟨#[]⟩)]) (c' := [(.i .u8 0), (.i .u16 0), (.i .u32 0), (.s ⟨#[]⟩), (.s ⟨#[]⟩)]) rfl (by rfl) hH4.get0 rfl (List.cons_ne_nil _ _) (Nat.le_of_ble_eq_true rfl) rfl fun H8 hW9 => ?_
 have hH10 := hH4.wr0 hW9
 refine O_nil ?_
 refine C_ret ?_
 have hH11 := (hH10.sub0)
 have hH12 := ((hH11.top1).top1)
 exact ⟨.inr rfl, _, resL_one (r_cellA rfl hH10.get0 rfl), by rw [hgd]; rfl, hH12⟩
end Go.Proofs.YtfhbdddjclodhaaDoor.E
