/- Topics: a relay made, and asked. It bears no condition. -/
import Derived.Test.YtnkpmidfefilbaaH1
namespace Go.Proofs.Ytnkpmidfefilbaa.E
set_option linter.unusedVariables false
set_option linter.unusedSimpArgs false
theorem at_ev {H : AH} {R : HL} {F Lb cm np k room : Nat} (hk : k < np) (hH0 : Hs H ([(F, some (.cells [.sl (some (Lb, 0)) np np 0, .i .i64 ((room : Nat) : Int), .m (some cm)] true))] ++ R)) : Ev tabA spA (.fn (.func 29) [] []) [.p (some (F, 0)), .i .i64 k] H (fun r H' => r = .p (some (Lb, k * 4 + 0)) ∧ Hs H' ([(F, some (.cells [.sl (some (Lb, 0)) np np 0, .i .i64 ((room : Nat) : Int), .m (some cm)] true))] ++ R)) := by
  refine Ev_C (F := x29) rfl ?_
  refine C_seq ?_
  refine C_region ?_
  refine O_p (.p none) (r_mv rfl) ?_
  refine O_nil ?_
  refine C_seq ?_
  refine C_seq ?_
  refine C_region ?_
  refine O_p (.p (some (F, 0))) (r_mv rfl) ?_
  refine O_p (.b false) (r_nilq_s rfl) ?_
  refine O_p (.b false) (r_mv rfl) ?_
  refine O_gk rfl ?_
  refine O_p (.i .i64 ((k : Nat) : Int)) (r_mv rfl) ?_
  refine O_gk rfl ?_
  refine O_p (.b false) (by exact (by rw [r_lss rfl rfl, decide_eq_false (by first | omega | assumption)])) ?_
  refine O_p (.b false) (r_pick_f rfl rfl) ?_
  refine O_p (.b false) (r_mv rfl) ?_
  refine O_gk rfl ?_
  refine O_p (.i .i64 ((k : Nat) : Int)) (r_mv rfl) ?_
  refine O_gk rfl ?_
  refine O_p (.p (some (F, 0))) (r_mv rfl) ?_
  refine O_gk rfl ?_
  refine O_p (.p (some (F, 0))) (r_nilc rfl) ?_
  refine O_gk rfl ?_
  refine O_p (.p (some (F, 0))) (r_fadd' rfl rfl) ?_
  refine O_gk rfl ?_
  refine O_p (.sl (some (Lb, 0)) np np 0) (r_ld rfl hH0.get0 rfl) ?_
  refine O_gk rfl ?_
  refine O_p (.i .i64 (((np : Nat)) : Int)) (r_len rfl) ?_
  refine O_gk rfl ?_
  refine O_p (.b false) (by exact (by rw [r_geq rfl rfl, decide_eq_false (by first | omega | assumption)])) ?_
  refine O_p (.b false) (r_pick_f rfl rfl) ?_
  refine O_nil ?_
  refine C_cond (x := false) rfl (fun h => by cases h) (fun _ => ?_)
  refine C_skip ?_
  refine C_seq ?_
  refine C_region ?_
  refine O_p (.p (some (F, 0))) (r_mv rfl) ?_
  refine O_p (.p (some (F, 0))) (r_nilc rfl) ?_
  refine O_p (.p (some (F, 0))) (r_fadd' rfl rfl) ?_
  refine O_p (.sl (some (Lb, 0)) np np 0) (r_ld rfl hH0.get0 rfl) ?_
  refine O_p (.i .i64 ((k : Nat) : Int)) (r_mv rfl) ?_
  refine O_p (.p (some (Lb, (k * 4 + 0)))) (by exact (r_islr (b := Lb) (k := k) rfl rfl (by omega))) ?_
  refine O_p (.p (some (Lb, (k * 4 + 0)))) (r_mv rfl) ?_
  refine O_nil ?_
  refine C_ret ?_
  exact ⟨.inr rfl, _, resL_one (r_tmp (v := (.p (some (Lb, (k * 4 + 0))))) rfl), rfl, hH0⟩
set_option maxHeartbeats 1000000 in
theorem waiting_ev {H : AH} {R : HL} {F Lb cm np i room : Nat} {rws : List (List AV)} {on : Bool} {mo : Option Nat} {v : AV} {lost : Int} {c : List AV} {rows : List (List AV)} (hk : i < np) (hrw : ∀ x ∈ rws, x.length = 4) (hi : i < rws.length) (hsq : Sq 5 v c rows.flatten) (hl5 : ∀ x ∈ rows, x.length = 5) (hH0 : Hs H ([(F, some (.cells ([(.sl (some (Lb, 0)) np np 0), (.i .i64 ((room : Nat) : Int)), (.m (some cm))]) true))] ++ ([(Lb, some (.cells (((rws).set i (prow on mo v lost)).flatten) true))] ++ (R)))) : Ev tabA spA (.fn (.func 18) [] []) [.p (some (F, 0)), .i .i64 i] H (fun r H' => r = .i .i64 ((rows.length : Nat) : Int) ∧ Hs H' ([(F, some (.cells ([(.sl (some (Lb, 0)) np np 0), (.i .i64 ((room : Nat) : Int)), (.m (some cm))]) true))] ++ ([(Lb, some (.cells (((rws).set i (prow on mo v lost)).flatten) true))] ++ (R)))) := by
  refine Ev_C (F := x18) rfl ?_
  refine C_seq ?_
  refine C_region ?_
  refine O_p (.i .i64 0) (r_mv rfl) ?_
  refine O_nil ?_
  refine C_seq ?_
  refine C_seq ?_
  refine C_region ?_
  refine O_p (.p (some (F, 0))) (r_mv rfl) ?_
  refine O_p (.i .i64 ((i : Nat) : Int)) (r_mv rfl) ?_
  refine O_call (Ev.mono (at_ev (k := i) hk hH0) fun v1 H2 hq3 => ?_)
  obtain ⟨rfl, hH4⟩ := hq3
  refine O_p (.p (some (Lb, (i * 4 + 0)))) (r_mv rfl) ?_
  refine O_nil ?_
  refine C_seq ?_
  refine C_region ?_
  refine O_p (.p (some (Lb, (i * 4 + 0)))) (r_mv rfl) ?_
  refine O_p (.b true) (r_nilq_s rfl) ?_
  refine O_nil ?_
  refine C_cond (x := true) rfl (fun _ => ?_) (fun h => by cases h)
  refine C_seq ?_
  refine C_region ?_
  refine O_p (.p (some (Lb, (i * 4 + 0)))) (r_mv rfl) ?_
  refine O_p (.p (some (Lb, (i * 4 + 0)))) (r_nilc rfl) ?_
  refine O_p (.p (some (Lb, (i * 4 + 2)))) (r_fadd' rfl rfl) ?_
  refine O_p v (by exact (r_ld rfl hH4.get1 ((foc_get hrw hi rfl (by decide)).trans rfl))) ?_
  refine O_p (.i .i64 (((rows.length : Nat)) : Int)) (by exact (by exact r_lenOf rfl (hsq.lenOf (flat_len hl5) (by decide)) hsq.isSl)) ?_
  refine O_p (.i .i64 (((rows.length : Nat)) : Int)) (r_mv rfl) ?_
  refine O_nil ?_
  refine C_ret ?_
  refine nx_ret ?_
  have hH5 := ((hH4.top1).top1)
  exact ⟨.inr rfl, _, resL_one (r_tmp (v := (.i .i64 (((rows.length : Nat)) : Int))) rfl), rfl, hH5⟩
set_option maxHeartbeats 1000000 in
theorem lost_ev {H : AH} {R : HL} {F Lb cm np i room : Nat} {rws : List (List AV)} {on : Bool} {mo : Option Nat} {v : AV} {lost : Int} (hk : i < np) (hrw : ∀ x ∈ rws, x.length = 4) (hi : i < rws.length)  (hH0 : Hs H ([(F, some (.cells ([(.sl (some (Lb, 0)) np np 0), (.i .i64 ((room : Nat) : Int)), (.m (some cm))]) true))] ++ ([(Lb, some (.cells (((rws).set i (prow on mo v lost)).flatten) true))] ++ (R)))) : Ev tabA spA (.fn (.func 19) [] []) [.p (some (F, 0)), .i .i64 i] H (fun r H' => r = .i .i64 lost ∧ Hs H' ([(F, some (.cells ([(.sl (some (Lb, 0)) np np 0), (.i .i64 ((room : Nat) : Int)), (.m (some cm))]) true))] ++ ([(Lb, some (.cells (((rws).set i (prow on mo v lost)).flatten) true))] ++ (R)))) := by
  refine Ev_C (F := x19) rfl ?_
  refine C_seq ?_
  refine C_region ?_
  refine O_p (.i .i64 0) (r_mv rfl) ?_
  refine O_nil ?_
  refine C_seq ?_
  refine C_seq ?_
  refine C_region ?_
  refine O_p (.p (some (F, 0))) (r_mv rfl) ?_
  refine O_p (.i .i64 ((i : Nat) : Int)) (r_mv rfl) ?_
  refine O_call (Ev.mono (at_ev (k := i) hk hH0) fun v1 H2 hq3 => ?_)
  obtain ⟨rfl, hH4⟩ := hq3
  refine O_p (.p (some (Lb, (i * 4 + 0)))) (r_mv rfl) ?_
  refine O_nil ?_
  refine C_seq ?_
  refine C_region ?_
  refine O_p (.p (some (Lb, (i * 4 + 0)))) (r_mv rfl) ?_
  refine O_p (.b true) (r_nilq_s rfl) ?_
  refine O_nil ?_
  refine C_cond (x := true) rfl (fun _ => ?_) (fun h => by cases h)
  refine C_seq ?_
  refine C_region ?_
  refine O_p (.p (some (Lb, (i * 4 + 0)))) (r_mv rfl) ?_
  refine O_p (.p (some (Lb, (i * 4 + 0)))) (r_nilc rfl) ?_
  refine O_p (.p (some (Lb, (i * 4 + 3)))) (r_fadd' rfl rfl) ?_
  refine O_p (.i .i64 lost) (by exact (r_ld rfl hH4.get1 ((foc_get hrw hi rfl (by decide)).trans rfl))) ?_
  refine O_p (.i .i64 lost) (r_mv rfl) ?_
  refine O_nil ?_
  refine C_ret ?_
  refine nx_ret ?_
  have hH5 := ((hH4.top1).top1)
  exact ⟨.inr rfl, _, resL_one (r_tmp (v := (.i .i64 lost)) rfl), rfl, hH5⟩
set_option maxHeartbeats 1000000 in
theorem failed_some {H : AH} {R : HL} {F Lb cm np i room : Nat} {rws : List (List AV)} {mr : Nat} {mb : Blk} {m : ML} {tp : List UInt8} {mode : Int} {fl : Bool} {v : AV} {lost : Int} (hk : i < np) (hrw : ∀ x ∈ rws, x.length = 4) (hi : i < rws.length) (hmb : Mb m mb) (hget : mget m tp = some (sub mode fl)) (hH0 : Hs H ([(F, some (.cells ([(.sl (some (Lb, 0)) np np 0), (.i .i64 ((room : Nat) : Int)), (.m (some cm))]) true))] ++ ([(Lb, some (.cells (((rws).set i (prow true (some mr) v lost)).flatten) true))] ++ ([(mr, some mb)] ++ (R))))) : Ev tabA spA (.fn (.func 15) [] []) [.p (some (F, 0)), .i .i64 i, .s (txt tp)] H (fun r H' => r = .b fl ∧ Hs H' ([(F, some (.cells ([(.sl (some (Lb, 0)) np np 0), (.i .i64 ((room : Nat) : Int)), (.m (some cm))]) true))] ++ ([(Lb, some (.cells (((rws).set i (prow true (some mr) v lost)).flatten) true))] ++ ([(mr, some mb)] ++ (R))))) := by
  refine Ev_C (F := x15) rfl ?_
  refine C_seq ?_
  refine C_region ?_
  refine O_p (.b false) (r_mv rfl) ?_
  refine O_nil ?_
  refine C_seq ?_
  refine C_region ?_
  refine O_p (.p (some (F, 0))) (r_mv rfl) ?_
  refine O_p (.i .i64 ((i : Nat) : Int)) (r_mv rfl) ?_
  refine O_call (Ev.mono (at_ev (k := i) hk hH0) fun v1 H2 hq3 => ?_)
  obtain ⟨rfl, hH4⟩ := hq3
  refine O_p (.p (some (Lb, (i * 4 + 0)))) (r_mv rfl) ?_
  refine O_nil ?_
  refine C_seq ?_
  refine C_region ?_
  refine O_p (.p (some (Lb, (i * 4 + 0)))) (r_mv rfl) ?_
  refine O_p (.b true) (r_nilq_s rfl) ?_
  refine O_p (.b true) (r_mv rfl) ?_
  refine O_gk rfl ?_
  refine O_p (.p (some (Lb, (i * 4 + 0)))) (r_mv rfl) ?_
  refine O_gk rfl ?_
  refine O_p (.p (some (Lb, (i * 4 + 0)))) (r_nilc rfl) ?_
  refine O_gk rfl ?_
  refine O_p (.p (some (Lb, (i * 4 + 1)))) (r_fadd' rfl rfl) ?_
  refine O_gk rfl ?_
  refine O_p (.m (some mr)) (by exact (r_ld rfl hH4.get1 ((foc_get hrw hi rfl (by decide)).trans rfl))) ?_
  refine O_gk rfl ?_
  refine O_p (.s (txt tp)) (r_mv rfl) ?_
  refine O_gk rfl ?_
  refine O_p (.agg [(.i .i64 mode), (.b fl)]) (by exact ((r_mget (m := m) (k := tp) hH4.get2 hmb rfl rfl false).trans (by first | (rw [hget]; rfl) | rw [hget]))) ?_
  refine O_gk rfl ?_
  refine O_p (.b fl) (r_fld rfl rfl) ?_
  refine O_p (.b fl) (r_pick_t rfl rfl) ?_
  refine O_p (.b fl) (r_mv rfl) ?_
  refine O_nil ?_
  refine C_ret ?_
  have hH5 := (((hH4.top2).top2).top2)
  exact ⟨.inr rfl, _, resL_one (r_tmp (v := (.b fl)) rfl), rfl, hH5⟩
set_option maxHeartbeats 1000000 in
theorem failed_none {H : AH} {R : HL} {F Lb cm np i room : Nat} {rws : List (List AV)} {mr : Nat} {mb : Blk} {m : ML} {tp : List UInt8} {mode : Int} {fl : Bool} {v : AV} {lost : Int} (hk : i < np) (hrw : ∀ x ∈ rws, x.length = 4) (hi : i < rws.length) (hmb : Mb m mb) (hget : mget m tp = none) (hH0 : Hs H ([(F, some (.cells ([(.sl (some (Lb, 0)) np np 0), (.i .i64 ((room : Nat) : Int)), (.m (some cm))]) true))] ++ ([(Lb, some (.cells (((rws).set i (prow true (some mr) v lost)).flatten) true))] ++ ([(mr, some mb)] ++ (R))))) : Ev tabA spA (.fn (.func 15) [] []) [.p (some (F, 0)), .i .i64 i, .s (txt tp)] H (fun r H' => r = .b false ∧ Hs H' ([(F, some (.cells ([(.sl (some (Lb, 0)) np np 0), (.i .i64 ((room : Nat) : Int)), (.m (some cm))]) true))] ++ ([(Lb, some (.cells (((rws).set i (prow true (some mr) v lost)).flatten) true))] ++ ([(mr, some mb)] ++ (R))))) := by
  refine Ev_C (F := x15) rfl ?_
  refine C_seq ?_
  refine C_region ?_
  refine O_p (.b false) (r_mv rfl) ?_
  refine O_nil ?_
  refine C_seq ?_
  refine C_region ?_
  refine O_p (.p (some (F, 0))) (r_mv rfl) ?_
  refine O_p (.i .i64 ((i : Nat) : Int)) (r_mv rfl) ?_
  refine O_call (Ev.mono (at_ev (k := i) hk hH0) fun v1 H2 hq3 => ?_)
  obtain ⟨rfl, hH4⟩ := hq3
  refine O_p (.p (some (Lb, (i * 4 + 0)))) (r_mv rfl) ?_
  refine O_nil ?_
  refine C_seq ?_
  refine C_region ?_
  refine O_p (.p (some (Lb, (i * 4 + 0)))) (r_mv rfl) ?_
  refine O_p (.b true) (r_nilq_s rfl) ?_
  refine O_p (.b true) (r_mv rfl) ?_
  refine O_gk rfl ?_
  refine O_p (.p (some (Lb, (i * 4 + 0)))) (r_mv rfl) ?_
  refine O_gk rfl ?_
  refine O_p (.p (some (Lb, (i * 4 + 0)))) (r_nilc rfl) ?_
  refine O_gk rfl ?_
  refine O_p (.p (some (Lb, (i * 4 + 1)))) (r_fadd' rfl rfl) ?_
  refine O_gk rfl ?_
  refine O_p (.m (some mr)) (by exact (r_ld rfl hH4.get1 ((foc_get hrw hi rfl (by decide)).trans rfl))) ?_
  refine O_gk rfl ?_
  refine O_p (.s (txt tp)) (r_mv rfl) ?_
  refine O_gk rfl ?_
  refine O_p (.agg [(.i .i64 0), (.b false)]) (by exact ((r_mget (m := m) (k := tp) hH4.get2 hmb rfl rfl false).trans (by first | (rw [hget]; rfl) | rw [hget]))) ?_
  refine O_gk rfl ?_
  refine O_p (.b false) (r_fld rfl rfl) ?_
  refine O_p (.b false) (r_pick_t rfl rfl) ?_
  refine O_p (.b false) (r_mv rfl) ?_
  refine O_nil ?_
  refine C_ret ?_
  have hH5 := (((hH4.top2).top2).top2)
  exact ⟨.inr rfl, _, resL_one (r_tmp (v := (.b false)) rfl), rfl, hH5⟩
theorem count_some {H : AH} {R : HL} {F Lb cm np room : Nat} {cb : Blk} {m : ML} {tp : List UInt8} {n : Int} (hcb : Mb m cb) (hget : mget m tp = some (.i .i64 n)) (hH0 : Hs H ([(F, some (.cells ([(.sl (some (Lb, 0)) np np 0), (.i .i64 ((room : Nat) : Int)), (.m (some cm))]) true))] ++ ([(cm, some cb)] ++ (R)))) : Ev tabA spA (.fn (.func 17) [] []) [.p (some (F, 0)), .s (txt tp)] H (fun r H' => r = .i .i64 n ∧ Hs H' ([(F, some (.cells ([(.sl (some (Lb, 0)) np np 0), (.i .i64 ((room : Nat) : Int)), (.m (some cm))]) true))] ++ ([(cm, some cb)] ++ (R)))) := by
  refine Ev_C (F := x17) rfl ?_
  refine C_seq ?_
  refine C_region ?_
  refine O_p (.i .i64 0) (r_mv rfl) ?_
  refine O_nil ?_
  refine C_seq ?_
  refine C_seq ?_
  refine C_region ?_
  refine O_p (.p (some (F, 0))) (r_mv rfl) ?_
  refine O_p (.b false) (r_nilq_s rfl) ?_
  refine O_nil ?_
  refine C_cond (x := false) rfl (fun h => by cases h) (fun _ => ?_)
  refine C_skip ?_
  refine C_seq ?_
  refine C_region ?_
  refine O_p (.p (some (F, 0))) (r_mv rfl) ?_
  refine O_p (.p (some (F, 0))) (r_nilc rfl) ?_
  refine O_p (.p (some (F, 2))) (r_fadd' rfl rfl) ?_
  refine O_p (.m (some cm)) (r_ld rfl hH0.get0 rfl) ?_
  refine O_p (.s (txt tp)) (r_mv rfl) ?_
  refine O_p (.i .i64 n) (by exact ((r_mget (m := m) (k := tp) hH0.get1 hcb rfl rfl false).trans (by first | (rw [hget]; rfl) | rw [hget]))) ?_
  refine O_p (.i .i64 n) (r_mv rfl) ?_
  refine O_nil ?_
  refine C_ret ?_
  exact ⟨.inr rfl, _, resL_one (r_tmp (v := (.i .i64 n)) rfl), rfl, hH0⟩
theorem count_none {H : AH} {R : HL} {F Lb cm np room : Nat} {cb : Blk} {m : ML} {tp : List UInt8} {n : Int} (hcb : Mb m cb) (hget : mget m tp = none) (hH0 : Hs H ([(F, some (.cells ([(.sl (some (Lb, 0)) np np 0), (.i .i64 ((room : Nat) : Int)), (.m (some cm))]) true))] ++ ([(cm, some cb)] ++ (R)))) : Ev tabA spA (.fn (.func 17) [] []) [.p (some (F, 0)), .s (txt tp)] H (fun r H' => r = .i .i64 0 ∧ Hs H' ([(F, some (.cells ([(.sl (some (Lb, 0)) np np 0), (.i .i64 ((room : Nat) : Int)), (.m (some cm))]) true))] ++ ([(cm, some cb)] ++ (R)))) := by
  refine Ev_C (F := x17) rfl ?_
  refine C_seq ?_
  refine C_region ?_
  refine O_p (.i .i64 0) (r_mv rfl) ?_
  refine O_nil ?_
  refine C_seq ?_
  refine C_seq ?_
  refine C_region ?_
  refine O_p (.p (some (F, 0))) (r_mv rfl) ?_
  refine O_p (.b false) (r_nilq_s rfl) ?_
  refine O_nil ?_
  refine C_cond (x := false) rfl (fun h => by cases h) (fun _ => ?_)
  refine C_skip ?_
  refine C_seq ?_
  refine C_region ?_
  refine O_p (.p (some (F, 0))) (r_mv rfl) ?_
  refine O_p (.p (some (F, 0))) (r_nilc rfl) ?_
  refine O_p (.p (some (F, 2))) (r_fadd' rfl rfl) ?_
  refine O_p (.m (some cm)) (r_ld rfl hH0.get0 rfl) ?_
  refine O_p (.s (txt tp)) (r_mv rfl) ?_
  refine O_p (.i .i64 0) (by exact ((r_mget (m := m) (k := tp) hH0.get1 hcb rfl rfl false).trans (by first | (rw [hget]; rfl) | rw [hget]))) ?_
  refine O_p (.i .i64 0) (r_mv rfl) ?_
  refine O_nil ?_
  refine C_ret ?_
  exact ⟨.inr rfl, _, resL_one (r_tmp (v := (.i .i64 0)) rfl), rfl, hH0⟩
set_option maxHeartbeats 1000000 in
theorem join_ev {H : AH} {R : HL} {F Lb cm np i room : Nat} {rws : List (List AV)} (hk : i < np) (hrw : ∀ x ∈ rws, x.length = 4) (hi : i < rws.length)  (hH0 : Hs H ([(F, some (.cells ([(.sl (some (Lb, 0)) np np 0), (.i .i64 ((room : Nat) : Int)), (.m (some cm))]) true))] ++ ([(Lb, some (.cells (((rws).set i (prow false none (.sl none 0 0 0) 0)).flatten) true))] ++ (R)))) : Ev tabA spA (.fn (.func 12) [] []) [.p (some (F, 0)), .i .i64 i] H (fun r H' => ∃ mr, r = .i .i64 0 ∧ Hs H' ([(F, some (.cells [.sl (some (Lb, 0)) np np 0, .i .i64 ((room : Nat) : Int), .m (some cm)] true))] ++ ([(Lb, some (.cells (rws.set i (prow true (some mr) (.sl none 0 0 0) 0)).flatten true))] ++ ([(mr, some (.map [] 0))] ++ R)))) := by
  refine Ev_C (F := x12) rfl ?_
  refine C_seq ?_
  refine C_region ?_
  refine O_p (.i .i64 0) (r_mv rfl) ?_
  refine O_nil ?_
  refine C_seq ?_
  refine C_region ?_
  refine O_p (.p (some (F, 0))) (r_mv rfl) ?_
  refine O_p (.i .i64 ((i : Nat) : Int)) (r_mv rfl) ?_
  refine O_call (Ev.mono (at_ev (k := i) hk hH0) fun v1 H2 hq3 => ?_)
  obtain ⟨rfl, hH4⟩ := hq3
  refine O_p (.p (some (Lb, (i * 4 + 0)))) (r_mv rfl) ?_
  refine O_nil ?_
  refine C_seq ?_
  refine C_block ?_
  refine C_seq ?_
  refine C_region ?_
  refine O_p (.p (some (Lb, (i * 4 + 0)))) (r_mv rfl) ?_
  refine O_p (.b false) (r_nilq_s rfl) ?_
  refine O_p (.b false) (r_mv rfl) ?_
  refine O_nil ?_
  refine C_cond (x := false) rfl (fun h => by cases h) (fun _ => ?_)
  refine C_seq ?_
  refine C_region ?_
  refine O_p (.p (some (Lb, (i * 4 + 0)))) (r_mv rfl) ?_
  refine O_p (.p (some (Lb, (i * 4 + 0)))) (r_nilc rfl) ?_
  refine O_p (.p (some (Lb, (i * 4 + 0)))) (r_fadd' rfl rfl) ?_
  refine O_p (.b false) (by exact (r_ld rfl hH4.get1 ((foc_get hrw hi rfl (by decide)).trans rfl))) ?_
  refine O_p (.b false) (r_mv rfl) ?_
  refine O_nil ?_
  refine C_cond (x := false) rfl (fun h => by cases h) (fun _ => ?_)
  refine C_skip ?_
  refine C_seq ?_
  refine C_region ?_
  refine O_p (.p (some (Lb, (i * 4 + 0)))) (r_mv rfl) ?_
  refine O_mkmap fun n5 H6 hN7 => ?_
  have hH8 := hH4.new hN7
  refine O_p (.agg [(.b true), (.m (some n5)), (.sl none 0 0 0), (.i .i64 0)]) (r_build rfl) ?_
  refine O_p (.p (some (Lb, (i * 4 + 0)))) (r_nilc rfl) ?_
  refine O_store (vs := [(.b true), (.m (some n5)), (.sl none 0 0 0), (.i .i64 0)]) (c' := ((rws).set i (prow true (some n5) (.sl none 0 0 0) 0)).flatten) rfl (by rfl) hH8.get2 rfl (List.cons_ne_nil _ _) (foc_len (n := 4) hrw hi rfl (Nat.le_of_ble_eq_true rfl)) (foc_put hrw hi rfl (Nat.le_of_ble_eq_true rfl) rfl) fun H9 hW10 => ?_
  have hH11 := hH8.wr2 hW10
  refine O_nil ?_
  refine C_seq ?_
  refine C_region ?_
  refine O_p (.i .i64 0) (r_mv rfl) ?_
  refine O_nil ?_
  refine C_ret ?_
  have hH12 := ((hH11.top2).top2)
  exact ⟨.inr rfl, _, resL_one (r_tmp (v := .i .i64 0) rfl), n5, rfl, hH12⟩
theorem clamp_in {H : AH} {R : HL} {n most : Int} (h1 : 1 ≤ n ∧ n ≤ most) (hH0 : Hs H R) : Ev tabA spA (.fn (.func 28) [] []) [.i .i64 n, .i .i64 most] H (fun r H' => r = .i .i64 n ∧ Hs H' R) := by
  refine Ev_C (F := x28) rfl ?_
  refine C_seq ?_
  refine C_region ?_
  refine O_p (.i .i64 0) (r_mv rfl) ?_
  refine O_nil ?_
  refine C_seq ?_
  refine C_seq ?_
  refine C_region ?_
  refine O_p (.i .i64 n) (r_mv rfl) ?_
  refine O_p (.b (decide (n < 1))) (r_lss rfl rfl) ?_
  refine O_p (.b (decide (n < 1))) (r_mv rfl) ?_
  refine O_gx (e := (!(decide (n < 1)))) (v := (.i .i64 n)) (wf rfl) (fun he => (r_mv rfl)) ?_
  refine O_gx (e := (!(decide (n < 1)))) (v := (.i .i64 most)) (wf rfl) (fun he => (r_mv rfl)) ?_
  refine O_gx (e := (!(decide (n < 1)))) (v := (.b (decide (most < n)))) (wf rfl) (fun he => (r_gtr (cond_pos he) (cond_pos he))) ?_
  refine O_p (.b ((decide (n < 1)) || (decide (most < n)))) (r_pick_or rfl rfl rfl rfl) ?_
  refine O_nil ?_
  refine C_cond (x := ((decide (n < 1)) || (decide (most < n)))) rfl (fun hc1 => ?_) (fun hc1 => ?_)
  ·
    try simp only [decide_eq_true_eq, decide_eq_false_iff_not, Bool.not_eq_true', Bool.not_eq_false', Bool.and_eq_true, Bool.or_eq_true, Bool.or_eq_false_iff, Bool.not_not, Bool.and_eq_false_iff] at hc1
    exfalso; omega
  ·
    try simp only [decide_eq_true_eq, decide_eq_false_iff_not, Bool.not_eq_true', Bool.not_eq_false', Bool.and_eq_true, Bool.or_eq_true, Bool.or_eq_false_iff, Bool.not_not, Bool.and_eq_false_iff] at hc1
    refine C_skip ?_
    refine C_seq ?_
    refine C_region ?_
    refine O_p (.i .i64 n) (r_mv rfl) ?_
    refine O_p (.i .i64 n) (r_mv rfl) ?_
    refine O_nil ?_
    refine C_ret ?_
    exact ⟨.inr rfl, _, resL_one (r_tmp (v := (.i .i64 n)) rfl), rfl, hH0⟩
theorem clamp_out {H : AH} {R : HL} {n most : Int} (h1 : ¬ (1 ≤ n ∧ n ≤ most)) (hH0 : Hs H R) : Ev tabA spA (.fn (.func 28) [] []) [.i .i64 n, .i .i64 most] H (fun r H' => r = .i .i64 most ∧ Hs H' R) := by
  refine Ev_C (F := x28) rfl ?_
  refine C_seq ?_
  refine C_region ?_
  refine O_p (.i .i64 0) (r_mv rfl) ?_
  refine O_nil ?_
  refine C_seq ?_
  refine C_seq ?_
  refine C_region ?_
  refine O_p (.i .i64 n) (r_mv rfl) ?_
  refine O_p (.b (decide (n < 1))) (r_lss rfl rfl) ?_
  refine O_p (.b (decide (n < 1))) (r_mv rfl) ?_
  refine O_gx (e := (!(decide (n < 1)))) (v := (.i .i64 n)) (wf rfl) (fun he => (r_mv rfl)) ?_
  refine O_gx (e := (!(decide (n < 1)))) (v := (.i .i64 most)) (wf rfl) (fun he => (r_mv rfl)) ?_
  refine O_gx (e := (!(decide (n < 1)))) (v := (.b (decide (most < n)))) (wf rfl) (fun he => (r_gtr (cond_pos he) (cond_pos he))) ?_
  refine O_p (.b ((decide (n < 1)) || (decide (most < n)))) (r_pick_or rfl rfl rfl rfl) ?_
  refine O_nil ?_
  refine C_cond (x := ((decide (n < 1)) || (decide (most < n)))) rfl (fun hc1 => ?_) (fun hc1 => ?_)
  ·
    try simp only [decide_eq_true_eq, decide_eq_false_iff_not, Bool.not_eq_true', Bool.not_eq_false', Bool.and_eq_true, Bool.or_eq_true, Bool.or_eq_false_iff, Bool.not_not, Bool.and_eq_false_iff] at hc1
    refine C_seq ?_
    refine C_region ?_
    refine O_p (.i .i64 most) (r_mv rfl) ?_
    refine O_p (.i .i64 most) (r_mv rfl) ?_
    refine O_nil ?_
    refine C_ret ?_
    refine nx_ret ?_
    exact ⟨.inr rfl, _, resL_one (r_tmp (v := (.i .i64 most)) rfl), rfl, hH0⟩
  ·
    try simp only [decide_eq_true_eq, decide_eq_false_iff_not, Bool.not_eq_true', Bool.not_eq_false', Bool.and_eq_true, Bool.or_eq_true, Bool.or_eq_false_iff, Bool.not_not, Bool.and_eq_false_iff] at hc1
    exfalso; omega
def clampR (n : Int) : Nat := if 1 ≤ n ∧ n ≤ 64 then n.toNat else 64
theorem clampR_le (n : Int) : 1 ≤ clampR n ∧ clampR n ≤ 64 := by unfold clampR; split <;> omega
theorem clamp_room {H : AH} {R : HL} {n : Int} (hH0 : Hs H R) : Ev tabA spA (.fn (.func 28) [] []) [.i .i64 n, .i .i64 64] H (fun r H' => r = .i .i64 ((clampR n : Nat) : Int) ∧ Hs H' R) := by
  by_cases h : 1 ≤ n ∧ n ≤ 64
  · have e : ((clampR n : Nat) : Int) = n := by unfold clampR; rw [if_pos h]; omega
    rw [e]; exact clamp_in h hH0
  · have e : ((clampR n : Nat) : Int) = 64 := by unfold clampR; rw [if_neg h]; rfl
    rw [e]; exact clamp_out h hH0
abbrev zrow : List AV := prow false none (.sl none 0 0 0) 0

set_option maxHeartbeats 1000000 in
theorem pull_ev {H : AH} {R : HL} {F Lb cm np i room : Nat} {rws : List (List AV)} {on : Bool} {mo : Option Nat} {v : AV} {lost : Int} {c : List AV} {rows : List (List AV)} {tp : List UInt8} {frm num : Int} {tx : Bool} {dv : AV} (hk : i < np) (hrw : ∀ x ∈ rws, x.length = 4) (hi : i < rws.length) (hsq : Sq 5 v c ([(.s (txt tp)), (.i .i64 frm), (.i .i64 num), (.b tx), dv] :: rows).flatten) (hr5 : ∀ x ∈ [(.s (txt tp)), (.i .i64 frm), (.i .i64 num), (.b tx), dv] :: rows, x.length = 5) (hH0 : Hs H ([(F, some (.cells [.sl (some (Lb, 0)) np np 0, .i .i64 ((room : Nat) : Int), .m (some cm)] true))] ++ ([(Lb, some (.cells (rws.set i (prow on mo v lost)).flatten true))] ++ (qseg v c ++ R)))) : Ev tabA spA (.fn (.func 16) [] []) [.p (some (F, 0)), .i .i64 i] H (fun r H' => ∃ v' c', r = .tup [.agg [(.s (txt tp)), (.i .i64 frm), (.i .i64 num), (.b tx), dv], .b true] ∧ Sq 5 v' c' rows.flatten ∧ Hs H' ([(F, some (.cells [.sl (some (Lb, 0)) np np 0, .i .i64 ((room : Nat) : Int), .m (some cm)] true))] ++ ([(Lb, some (.cells (rws.set i (prow on mo v' lost)).flatten true))] ++ (qseg v' c' ++ R)))) := by
  refine Ev_C (F := x16) rfl ?_
  refine C_seq ?_
  refine C_region ?_
  refine O_alloc fun n1 H2 hN3 => ?_
  have hH4 := hH0.new hN3
  refine O_p (.b false) (r_mv rfl) ?_
  refine O_nil ?_
  refine C_seq ?_
  refine C_region ?_
  refine O_p (.p (some (F, 0))) (r_mv rfl) ?_
  refine O_p (.i .i64 ((i : Nat) : Int)) (r_mv rfl) ?_
  have hH5 := (hH4.top1)
  refine O_call (Ev.mono (at_ev (k := i) hk hH5) fun v6 H7 hq8 => ?_)
  obtain ⟨rfl, hH9⟩ := hq8
  refine O_p (.p (some (Lb, (i * 4 + 0)))) (r_mv rfl) ?_
  refine O_nil ?_
  refine C_seq ?_
  refine C_seq ?_
  refine C_region ?_
  refine O_p (.p (some (Lb, (i * 4 + 0)))) (r_mv rfl) ?_
  refine O_p (.b false) (r_nilq_s rfl) ?_
  refine O_p (.b false) (r_mv rfl) ?_
  refine O_gk rfl ?_
  refine O_p (.p (some (Lb, (i * 4 + 0)))) (r_mv rfl) ?_
  refine O_gk rfl ?_
  refine O_p (.p (some (Lb, (i * 4 + 0)))) (r_nilc rfl) ?_
  refine O_gk rfl ?_
  refine O_p (.p (some (Lb, (i * 4 + 2)))) (r_fadd' rfl rfl) ?_
  refine O_gk rfl ?_
  refine O_p v (by exact (r_ld rfl hH9.get2 ((foc_get hrw hi rfl (by decide)).trans rfl))) ?_
  refine O_gk rfl ?_
  refine O_p (.i .i64 (((([(.s (txt tp)), (.i .i64 frm), (.i .i64 num), (.b tx), dv] :: rows).length : Nat)) : Int)) (by exact (by exact r_lenOf rfl (hsq.lenOf (flat_len hr5) (by decide)) hsq.isSl)) ?_
  refine O_gk rfl ?_
  refine O_p (.b false) (by exact (by rw [r_eql rfl rfl, decide_eq_false (by show ¬ (((rows.length + 1 : Nat) : Int) = 0); omega)])) ?_
  refine O_p (.b false) (r_pick_f rfl rfl) ?_
  refine O_nil ?_
  refine C_cond (x := false) rfl (fun h => by cases h) (fun _ => ?_)
  refine C_skip ?_
  refine C_seq ?_
  refine C_region ?_
  refine O_p (.p (some (Lb, (i * 4 + 0)))) (r_mv rfl) ?_
  refine O_p (.p (some (Lb, (i * 4 + 0)))) (r_nilc rfl) ?_
  refine O_p (.p (some (Lb, (i * 4 + 2)))) (r_fadd' rfl rfl) ?_
  refine O_p v (by exact (r_ld rfl hH9.get2 ((foc_get hrw hi rfl (by decide)).trans rfl))) ?_
  refine O_q (by exact Sq.cell hsq hr5 hH9.top3 rfl (i := 0) rfl (r := [(.s (txt tp)), (.i .i64 frm), (.i .i64 num), (.b tx), dv]) rfl (by decide)) fun v11 hv10 => ?_
  obtain ⟨rb12, ro13, rfl, hrg14, hrt15, hrb16, hput17, hqs18⟩ := hv10
  refine O_p (.agg [(.s (txt tp)), (.i .i64 frm), (.i .i64 num), (.b tx), dv]) (r_ldRA (q := 0) rfl ⟨_, _, hrg14, hrt15⟩ rfl) ?_
  refine O_alloc fun n19 H20 hN21 => ?_
  have hH22 := hH9.new hN21
  refine O_store (vs := [(.s (txt tp)), (.i .i64 frm), (.i .i64 num), (.b tx), dv]) (c' := [(.s (txt tp)), (.i .i64 frm), (.i .i64 num), (.b tx), dv]) rfl (by rfl) hH22.get0 rfl (List.cons_ne_nil _ _) (Nat.le_of_ble_eq_true rfl) rfl fun H23 hW24 => ?_
  have hH25 := hH22.wr0 hW24
  refine O_nil ?_
  refine C_seq ?_
  refine C_region ?_
  refine O_p (.p (some (Lb, (i * 4 + 0)))) (r_mv rfl) ?_
  refine O_p (.p (some (Lb, (i * 4 + 0)))) (r_mv rfl) ?_
  refine O_p (.p (some (Lb, (i * 4 + 0)))) (r_nilc rfl) ?_
  refine O_p (.p (some (Lb, (i * 4 + 2)))) (r_fadd' rfl rfl) ?_
  refine O_p v (by exact (r_ld rfl hH25.get3 ((foc_get hrw hi rfl (by decide)).trans rfl))) ?_
  have hH26 := (hH25.top4)
  refine O_call (Ev.mono (delete_ev hsq hr5 hH26) fun v27 H28 hq29 => ?_)
  obtain ⟨c30, hSq31, hH32⟩ := hq29
  obtain ⟨qa33, ql34, qc35, qg36, rfl⟩ := hSq31.isSl
  refine O_p (.p (some (Lb, (i * 4 + 0)))) (r_nilc rfl) ?_
  refine O_p (.p (some (Lb, (i * 4 + 2)))) (r_fadd' rfl rfl) ?_
  refine O_store (vs := [(.sl qa33 ql34 qc35 qg36)]) (c' := ((rws).set i (prow on mo (.sl qa33 ql34 qc35 qg36) lost)).flatten) rfl (by rfl) hH32.get4 rfl (List.cons_ne_nil _ _) (foc_len (n := 1) hrw hi rfl (Nat.le_of_ble_eq_true rfl)) (foc_put hrw hi rfl (Nat.le_of_ble_eq_true rfl) rfl) fun H37 hW38 => ?_
  have hH39 := hH32.wr4 hW38
  refine O_nil ?_
  refine C_seq ?_
  refine C_region ?_
  refine O_p (.agg [(.s (txt tp)), (.i .i64 frm), (.i .i64 num), (.b tx), dv]) (r_ldA rfl hH39.get1 rfl) ?_
  refine O_store (vs := [(.s (txt tp)), (.i .i64 frm), (.i .i64 num), (.b tx), dv]) (c' := [(.s (txt tp)), (.i .i64 frm), (.i .i64 num), (.b tx), dv]) rfl (by rfl) hH39.get3 rfl (List.cons_ne_nil _ _) (Nat.le_of_ble_eq_true rfl) rfl fun H40 hW41 => ?_
  have hH42 := hH39.wr3 hW41
  refine O_p (.b true) (r_mv rfl) ?_
  refine O_nil ?_
  refine C_ret ?_
  have hcell := hH42.get3
  have hH43 := ((hH42.sub1).sub2)
  have hH44 := ((hH43.top2).top2)
  exact ⟨.inr rfl, _, resL_cons (r_cellA (l := [(.s (txt tp)), (.i .i64 frm), (.i .i64 num), (.b tx), dv]) rfl hcell rfl) (resL_one (r_tmp (v := .b true) rfl)), (.sl qa33 ql34 qc35 qg36), c30, rfl, hSq31, hH44⟩
set_option maxHeartbeats 1000000 in
theorem pull0_ev {H : AH} {R : HL} {F Lb cm np i room : Nat} {rws : List (List AV)} {on : Bool} {mo : Option Nat} {v : AV} {lost : Int} {c : List AV} (hk : i < np) (hrw : ∀ x ∈ rws, x.length = 4) (hi : i < rws.length) (hsq : Sq 5 v c ([] : List (List AV)).flatten) (hH0 : Hs H ([(F, some (.cells [.sl (some (Lb, 0)) np np 0, .i .i64 ((room : Nat) : Int), .m (some cm)] true))] ++ ([(Lb, some (.cells (rws.set i (prow on mo v lost)).flatten true))] ++ (qseg v c ++ R)))) : Ev tabA spA (.fn (.func 16) [] []) [.p (some (F, 0)), .i .i64 i] H (fun r H' => r = .tup [.agg [.s (txt []), .i .i64 0, .i .i64 0, .b false, .sl none 0 0 0], .b false] ∧ Hs H' ([(F, some (.cells [.sl (some (Lb, 0)) np np 0, .i .i64 ((room : Nat) : Int), .m (some cm)] true))] ++ ([(Lb, some (.cells (rws.set i (prow on mo v lost)).flatten true))] ++ (qseg v c ++ R)))) := by
  refine Ev_C (F := x16) rfl ?_
  refine C_seq ?_
  refine C_region ?_
  refine O_alloc fun n1 H2 hN3 => ?_
  have hH4 := hH0.new hN3
  refine O_p (.b false) (r_mv rfl) ?_
  refine O_nil ?_
  refine C_seq ?_
  refine C_region ?_
  refine O_p (.p (some (F, 0))) (r_mv rfl) ?_
  refine O_p (.i .i64 ((i : Nat) : Int)) (r_mv rfl) ?_
  have hH5 := (hH4.top1)
  refine O_call (Ev.mono (at_ev (k := i) hk hH5) fun v6 H7 hq8 => ?_)
  obtain ⟨rfl, hH9⟩ := hq8
  refine O_p (.p (some (Lb, (i * 4 + 0)))) (r_mv rfl) ?_
  refine O_nil ?_
  refine C_seq ?_
  refine C_seq ?_
  refine C_region ?_
  refine O_p (.p (some (Lb, (i * 4 + 0)))) (r_mv rfl) ?_
  refine O_p (.b false) (r_nilq_s rfl) ?_
  refine O_p (.b false) (r_mv rfl) ?_
  refine O_gk rfl ?_
  refine O_p (.p (some (Lb, (i * 4 + 0)))) (r_mv rfl) ?_
  refine O_gk rfl ?_
  refine O_p (.p (some (Lb, (i * 4 + 0)))) (r_nilc rfl) ?_
  refine O_gk rfl ?_
  refine O_p (.p (some (Lb, (i * 4 + 2)))) (r_fadd' rfl rfl) ?_
  refine O_gk rfl ?_
  refine O_p v (by exact (r_ld rfl hH9.get2 ((foc_get hrw hi rfl (by decide)).trans rfl))) ?_
  refine O_gk rfl ?_
  refine O_p (.i .i64 (((([] : List (List AV)).length : Nat)) : Int)) (by exact (by exact r_lenOf rfl (hsq.lenOf rfl (by decide)) hsq.isSl)) ?_
  refine O_gk rfl ?_
  refine O_p (.b true) (by exact (by rw [r_eql rfl rfl, decide_eq_true (by simp)])) ?_
  refine O_p (.b true) (r_pick_f rfl rfl) ?_
  refine O_nil ?_
  refine C_cond (x := true) rfl (fun _ => ?_) (fun h => by cases h)
  refine C_seq ?_
  refine C_region ?_
  refine O_p (.agg [(.s ⟨#[]⟩), (.i .i64 0), (.i .i64 0), (.b false), (.sl none 0 0 0)]) (r_build rfl) ?_
  refine O_store (vs := [(.s ⟨#[]⟩), (.i .i64 0), (.i .i64 0), (.b false), (.sl none 0 0 0)]) (c' := [(.s ⟨#[]⟩), (.i .i64 0), (.i .i64 0), (.b false), (.sl none 0 0 0)]) rfl (by rfl) hH9.get1 rfl (List.cons_ne_nil _ _) (Nat.le_of_ble_eq_true rfl) rfl fun H10 hW11 => ?_
  have hH12 := hH9.wr1 hW11
  refine O_p (.b false) (r_mv rfl) ?_
  refine O_nil ?_
  refine C_ret ?_
  refine nx_ret ?_
  have hcell := hH12.get1
  have hH13 := (hH12.sub1)
  have hH14 := (((hH13.top2).top2).top2)
  exact ⟨.inr rfl, _, resL_cons (r_cellA (l := [(.s ⟨#[]⟩), (.i .i64 0), (.i .i64 0), (.b false), (.sl none 0 0 0)]) rfl hcell rfl) (resL_one (r_tmp (v := .b false) rfl)), rfl, hH14⟩
end Go.Proofs.Ytnkpmidfefilbaa.E
