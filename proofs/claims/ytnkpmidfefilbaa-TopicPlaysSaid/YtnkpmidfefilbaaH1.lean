/- Topics: an item handed on. It bears no condition. -/
import Derived.Test.YtnkpmidfefilbaaG
namespace Go.Proofs.Ytnkpmidfefilbaa.E
set_option linter.unusedVariables false
set_option linter.unusedSimpArgs false
set_option maxHeartbeats 1000000 in
theorem full_ord {H : AH} {R : HL} {Lb i mr : Nat} {rws rows : List (List AV)} {v : AV} {c : List AV} {mb : Blk} {m : ML} {lost : Int} {tp : List UInt8} {frm num : Int} {tx : Bool} {dv : AV} (hrw : ∀ x ∈ rws, x.length = 4) (hi : i < rws.length) (hsq : Sq 5 v c rows.flatten) (hl5 : ∀ x ∈ rows, x.length = 5) (hmb : Mb m mb) (hlost : 0 ≤ lost ∧ lost < 4611686018427387904) (hfitw : rows.length ≤ 1000000) (hH0 : Hs H ([(Lb, some (.cells (rws.set i (prow true (some mr) v lost)).flatten true))] ++ ([(mr, some mb)] ++ (qseg v c ++ R)))) : Ev tabA spA (.fn (.func 44) [] []) [.p (some (Lb, i * 4 + 0)), .agg [(.s (txt tp)), (.i .i64 frm), (.i .i64 num), (.b tx), dv], .agg [.i .i64 0, .b false]] H (fun r H' => r = .b false ∧ ∃ mb', Mb (mset m tp (sub 0 true)) mb' ∧ Hs H' ([(Lb, some (.cells (rws.set i (prow true (some mr) v lost)).flatten true))] ++ ([(mr, some mb')] ++ (qseg v c ++ R)))) := by
  refine Ev_C (F := x44) rfl ?_
  refine C_seq ?_
  refine C_region ?_
  refine O_box (z := [(.s (txt tp)), (.i .i64 frm), (.i .i64 num), (.b tx), dv]) rfl fun n1 H2 hN3 => ?_
  have hH4 := hH0.new hN3
  refine O_box (z := [(.i .i64 0), (.b false)]) rfl fun n5 H6 hN7 => ?_
  have hH8 := hH4.new hN7
  refine O_p (.b false) (r_mv rfl) ?_
  refine O_nil ?_
  refine C_seq ?_
  refine C_seq ?_
  refine C_region ?_
  refine O_p (.p (some (n5, 0))) (r_fadd' rfl rfl) ?_
  refine O_p (.i .i64 0) (r_ld rfl hH8.get0 rfl) ?_
  refine O_p (.b true) (r_bin rfl rfl rfl) ?_
  refine O_nil ?_
  refine C_cond (x := true) rfl (fun _ => ?_) (fun h => by cases h)
  refine C_seq ?_
  refine C_region ?_
  refine O_p (.p (some (n5, 1))) (r_fadd' rfl rfl) ?_
  refine O_store (vs := [(.b true)]) (c' := [(.i .i64 0), (.b true)]) rfl (by rfl) hH8.get0 rfl (List.cons_ne_nil _ _) (Nat.le_of_ble_eq_true rfl) rfl fun H9 hW10 => ?_
  have hH11 := hH8.wr0 hW10
  refine O_nil ?_
  refine C_seq ?_
  refine C_draw fun b12 H13 hbase14 hA15 => ?_
  have hH16 := hH11.keep (by have := hA15.1; omega) (fun q _ => hA15.2 q) ((hH11.old).aside hA15).ok
  refine D_l (v := (.p (some (Lb, (i * 4 + 0))))) rfl rfl rfl (r_mv rfl) ?_
  refine D_l (v := (.p (some (Lb, (i * 4 + 0))))) rfl rfl rfl (r_nilc rfl) ?_
  refine D_l (v := (.p (some (Lb, (i * 4 + 1))))) rfl rfl rfl (r_fadd' rfl rfl) ?_
  refine D_l (v := (.p (some (n1, 0)))) rfl rfl rfl (r_fadd' rfl rfl) ?_
  refine D_r (v := (.m (some mr))) rfl rfl rfl (by exact (r_ld rfl hH16.get2 ((foc_get hrw hi rfl (by decide)).trans rfl))) ?_
  refine D_r (v := (.s (txt tp))) rfl rfl rfl (r_ld rfl hH16.get1 rfl) ?_
  refine D_r (v := (.agg [(.i .i64 0), (.b true)])) rfl rfl rfl (r_ldA rfl hH16.get0 rfl) ?_
  refine D_nh rfl rfl (by exact r_mput (k := tp) (v := (.agg [(.i .i64 0), (.b true)])) hH16.top3 hmb rfl rfl rfl) fun H17 hA18 => ?_
  obtain ⟨bm19, hMb20, hH21⟩ := hA18
  refine And.intro (And.intro (Or.inl rfl) (And.intro (Or.inl rfl) (And.intro (Or.inl rfl) True.intro))) ?_
  refine D_nil ?_
  refine C_seq ?_
  refine C_region ?_
  refine O_p (.b false) (r_mv rfl) ?_
  refine O_nil ?_
  refine C_ret ?_
  refine nx_ret ?_
  have hH22 := ((hH21.sub1).sub1)
  have hH23 := (((hH22.top2).top1).top2)
  exact ⟨.inr rfl, _, resL_one (r_tmp (v := .b false) rfl), rfl, bm19, hMb20, hH23⟩
set_option maxHeartbeats 1000000 in
theorem hand_no {H : AH} {R : HL} {Lb i mr : Nat} {rws rows : List (List AV)} {v : AV} {c : List AV} {mb : Blk} {m : ML} {lost : Int} {room : Nat} {mode : Int} {tp : List UInt8} {frm num : Int} {tx : Bool} {dv : AV} (hrw : ∀ x ∈ rws, x.length = 4) (hi : i < rws.length) (hsq : Sq 5 v c rows.flatten) (hl5 : ∀ x ∈ rows, x.length = 5) (hmb : Mb m mb) (hlost : 0 ≤ lost ∧ lost < 4611686018427387904) (hfitw : rows.length ≤ 1000000) (hget : mget m tp = none)  (hH0 : Hs H ([(Lb, some (.cells (rws.set i (prow true (some mr) v lost)).flatten true))] ++ ([(mr, some mb)] ++ (qseg v c ++ R)))) : Ev tabA spA (.fn (.func 31) [] []) [.p (some (Lb, i * 4 + 0)), .agg [(.s (txt tp)), (.i .i64 frm), (.i .i64 num), (.b tx), dv], .i .i64 room] H (fun r H' => r = .b false ∧ Hs H' ([(Lb, some (.cells (rws.set i (prow true (some mr) v lost)).flatten true))] ++ ([(mr, some mb)] ++ (qseg v c ++ R)))) := by
  refine Ev_C (F := x31) rfl ?_
  refine C_seq ?_
  refine C_region ?_
  refine O_box (z := [(.s (txt tp)), (.i .i64 frm), (.i .i64 num), (.b tx), dv]) rfl fun n1 H2 hN3 => ?_
  have hH4 := hH0.new hN3
  refine O_p (.b false) (r_mv rfl) ?_
  refine O_nil ?_
  refine C_seq ?_
  refine C_draw fun b5 H6 hbase7 hA8 => ?_
  have hH9 : Hs H6 (asideL b5 [10] ++ _) := hH4.aside hA8 [10] hbase7 rfl (by decide)
  have hH10 : Hs H6 ([(b5 + 10, none)] ++ _) := hH9
  refine D_l (v := (.p (some (Lb, (i * 4 + 0))))) rfl rfl rfl (r_mv rfl) ?_
  refine D_l (v := (.p (some (Lb, (i * 4 + 0))))) rfl rfl rfl (r_nilc rfl) ?_
  refine D_l (v := (.p (some (Lb, (i * 4 + 1))))) rfl rfl rfl (r_fadd' rfl rfl) ?_
  refine D_l (v := (.p (some (n1, 0)))) rfl rfl rfl (r_fadd' rfl rfl) ?_
  refine D_r (v := (.m (some mr))) rfl rfl rfl (by exact (r_ld rfl hH10.get2 ((foc_get hrw hi rfl (by decide)).trans rfl))) ?_
  refine D_r (v := (.s (txt tp))) rfl rfl rfl (r_ld rfl hH10.get1 rfl) ?_
  refine D_r (v := (.tup [(.agg [(.i .i64 0), (.b false)]), (.b false)])) rfl rfl rfl (by exact ((r_mget (m := m) (k := tp) hH10.get3 hmb rfl rfl true).trans (by first | (rw [hget]; rfl) | rw [hget]))) ?_
  refine D_l (v := (.tup [(.agg [(.i .i64 0), (.b false)]), (.b false)])) rfl rfl rfl (r_mv rfl) ?_
  refine D_l (v := (.agg [(.i .i64 0), (.b false)])) rfl rfl rfl (r_ext rfl rfl) ?_
  refine D_l (v := (.b false)) rfl rfl rfl (r_ext rfl rfl) ?_
  refine D_m (f := fun n => ((.p (some (n, 0))), .cells [(.i .i64 0), (.b false)] true)) rfl rfl fun H12 hW13 => ?_
  have hH15 := hH10.wr0 hW13
  generalize hn14 : b5 + 10 = n11 at hW13 hH15 ⊢
  refine And.intro (And.intro (Or.inr (look_run rfl rfl ((r_mget (m := m) (k := tp) hH15.get3 hmb rfl rfl true).trans (by first | (rw [hget]; rfl) | rw [hget])))) (And.intro (Or.inr (look_run rfl rfl (r_ld rfl hH15.get1 rfl))) (And.intro (Or.inr (look_run rfl rfl (r_ld rfl hH15.get2 ((foc_get hrw hi rfl (by decide)).trans rfl)))) True.intro))) ?_
  refine D_store (vs := [(.i .i64 0), (.b false)]) (c' := [(.i .i64 0), (.b false)]) rfl (by rfl) hH15.get0 rfl (List.cons_ne_nil _ _) (Nat.le_of_ble_eq_true rfl) rfl fun H16 hW17 => ?_
  have hH18 := hH15.wr0 hW17
  refine And.intro (And.intro (Or.inl rfl) (And.intro (Or.inl rfl) (And.intro (Or.inl rfl) True.intro))) ?_
  refine D_l (v := (.b false)) rfl rfl rfl (r_mv rfl) ?_
  refine D_nil ?_
  refine C_seq ?_
  refine C_block ?_
  refine C_seq ?_
  refine C_region ?_
  refine O_p (.p (some (Lb, (i * 4 + 0)))) (r_mv rfl) ?_
  refine O_p (.p (some (Lb, (i * 4 + 0)))) (r_nilc rfl) ?_
  refine O_p (.p (some (Lb, (i * 4 + 0)))) (r_fadd' rfl rfl) ?_
  refine O_p (.b true) (by exact (r_ld rfl hH18.get2 ((foc_get hrw hi rfl (by decide)).trans rfl))) ?_
  refine O_p (.b false) (r_un rfl rfl) ?_
  refine O_p (.b false) (r_mv rfl) ?_
  refine O_gk rfl ?_
  refine O_p (.b false) (r_mv rfl) ?_
  refine O_gk rfl ?_
  refine O_p (.b true) (r_un rfl rfl) ?_
  refine O_p (.b true) (r_pick_f rfl rfl) ?_
  refine O_p (.b true) (r_mv rfl) ?_
  refine O_gf rfl ?_
  refine O_gf rfl ?_
  refine O_p (.b true) (r_pick_t rfl rfl) ?_
  refine O_p (.b true) (r_mv rfl) ?_
  refine O_nil ?_
  refine C_cond (x := true) rfl (fun _ => ?_) (fun h => by cases h)
  refine C_seq ?_
  refine C_region ?_
  refine O_p (.b false) (r_mv rfl) ?_
  refine O_nil ?_
  refine C_ret ?_
  refine bk_ret ?_
  refine nx_ret ?_
  have hH19 := ((hH18.sub0).sub0)
  have hH20 := (((hH19.top2).top2).top2)
  exact ⟨.inr rfl, _, resL_one (r_tmp (v := .b false) rfl), rfl, hH20⟩
set_option maxHeartbeats 1000000 in
theorem hand_failed {H : AH} {R : HL} {Lb i mr : Nat} {rws rows : List (List AV)} {v : AV} {c : List AV} {mb : Blk} {m : ML} {lost : Int} {room : Nat} {mode : Int} {tp : List UInt8} {frm num : Int} {tx : Bool} {dv : AV} (hrw : ∀ x ∈ rws, x.length = 4) (hi : i < rws.length) (hsq : Sq 5 v c rows.flatten) (hl5 : ∀ x ∈ rows, x.length = 5) (hmb : Mb m mb) (hlost : 0 ≤ lost ∧ lost < 4611686018427387904) (hfitw : rows.length ≤ 1000000) (hget : mget m tp = some (sub mode true))  (hH0 : Hs H ([(Lb, some (.cells (rws.set i (prow true (some mr) v lost)).flatten true))] ++ ([(mr, some mb)] ++ (qseg v c ++ R)))) : Ev tabA spA (.fn (.func 31) [] []) [.p (some (Lb, i * 4 + 0)), .agg [(.s (txt tp)), (.i .i64 frm), (.i .i64 num), (.b tx), dv], .i .i64 room] H (fun r H' => r = .b false ∧ Hs H' ([(Lb, some (.cells (rws.set i (prow true (some mr) v lost)).flatten true))] ++ ([(mr, some mb)] ++ (qseg v c ++ R)))) := by
  refine Ev_C (F := x31) rfl ?_
  refine C_seq ?_
  refine C_region ?_
  refine O_box (z := [(.s (txt tp)), (.i .i64 frm), (.i .i64 num), (.b tx), dv]) rfl fun n1 H2 hN3 => ?_
  have hH4 := hH0.new hN3
  refine O_p (.b false) (r_mv rfl) ?_
  refine O_nil ?_
  refine C_seq ?_
  refine C_draw fun b5 H6 hbase7 hA8 => ?_
  have hH9 : Hs H6 (asideL b5 [10] ++ _) := hH4.aside hA8 [10] hbase7 rfl (by decide)
  have hH10 : Hs H6 ([(b5 + 10, none)] ++ _) := hH9
  refine D_l (v := (.p (some (Lb, (i * 4 + 0))))) rfl rfl rfl (r_mv rfl) ?_
  refine D_l (v := (.p (some (Lb, (i * 4 + 0))))) rfl rfl rfl (r_nilc rfl) ?_
  refine D_l (v := (.p (some (Lb, (i * 4 + 1))))) rfl rfl rfl (r_fadd' rfl rfl) ?_
  refine D_l (v := (.p (some (n1, 0)))) rfl rfl rfl (r_fadd' rfl rfl) ?_
  refine D_r (v := (.m (some mr))) rfl rfl rfl (by exact (r_ld rfl hH10.get2 ((foc_get hrw hi rfl (by decide)).trans rfl))) ?_
  refine D_r (v := (.s (txt tp))) rfl rfl rfl (r_ld rfl hH10.get1 rfl) ?_
  refine D_r (v := (.tup [(.agg [(.i .i64 mode), (.b true)]), (.b true)])) rfl rfl rfl (by exact ((r_mget (m := m) (k := tp) hH10.get3 hmb rfl rfl true).trans (by first | (rw [hget]; rfl) | rw [hget]))) ?_
  refine D_l (v := (.tup [(.agg [(.i .i64 mode), (.b true)]), (.b true)])) rfl rfl rfl (r_mv rfl) ?_
  refine D_l (v := (.agg [(.i .i64 mode), (.b true)])) rfl rfl rfl (r_ext rfl rfl) ?_
  refine D_l (v := (.b true)) rfl rfl rfl (r_ext rfl rfl) ?_
  refine D_m (f := fun n => ((.p (some (n, 0))), .cells [(.i .i64 0), (.b false)] true)) rfl rfl fun H12 hW13 => ?_
  have hH15 := hH10.wr0 hW13
  generalize hn14 : b5 + 10 = n11 at hW13 hH15 ⊢
  refine And.intro (And.intro (Or.inr (look_run rfl rfl ((r_mget (m := m) (k := tp) hH15.get3 hmb rfl rfl true).trans (by first | (rw [hget]; rfl) | rw [hget])))) (And.intro (Or.inr (look_run rfl rfl (r_ld rfl hH15.get1 rfl))) (And.intro (Or.inr (look_run rfl rfl (r_ld rfl hH15.get2 ((foc_get hrw hi rfl (by decide)).trans rfl)))) True.intro))) ?_
  refine D_store (vs := [(.i .i64 mode), (.b true)]) (c' := [(.i .i64 mode), (.b true)]) rfl (by rfl) hH15.get0 rfl (List.cons_ne_nil _ _) (Nat.le_of_ble_eq_true rfl) rfl fun H16 hW17 => ?_
  have hH18 := hH15.wr0 hW17
  refine And.intro (And.intro (Or.inl rfl) (And.intro (Or.inl rfl) (And.intro (Or.inl rfl) True.intro))) ?_
  refine D_l (v := (.b true)) rfl rfl rfl (r_mv rfl) ?_
  refine D_nil ?_
  refine C_seq ?_
  refine C_block ?_
  refine C_seq ?_
  refine C_region ?_
  refine O_p (.p (some (Lb, (i * 4 + 0)))) (r_mv rfl) ?_
  refine O_p (.p (some (Lb, (i * 4 + 0)))) (r_nilc rfl) ?_
  refine O_p (.p (some (Lb, (i * 4 + 0)))) (r_fadd' rfl rfl) ?_
  refine O_p (.b true) (by exact (r_ld rfl hH18.get2 ((foc_get hrw hi rfl (by decide)).trans rfl))) ?_
  refine O_p (.b false) (r_un rfl rfl) ?_
  refine O_p (.b false) (r_mv rfl) ?_
  refine O_gk rfl ?_
  refine O_p (.b true) (r_mv rfl) ?_
  refine O_gk rfl ?_
  refine O_p (.b false) (r_un rfl rfl) ?_
  refine O_p (.b false) (r_pick_f rfl rfl) ?_
  refine O_p (.b false) (r_mv rfl) ?_
  refine O_gk rfl ?_
  refine O_p (.p (some (n11, 1))) (r_fadd' rfl rfl) ?_
  refine O_gk rfl ?_
  refine O_p (.b true) (r_ld rfl hH18.get0 rfl) ?_
  refine O_p (.b true) (r_pick_f rfl rfl) ?_
  refine O_p (.b true) (r_mv rfl) ?_
  refine O_nil ?_
  refine C_cond (x := true) rfl (fun _ => ?_) (fun h => by cases h)
  refine C_seq ?_
  refine C_region ?_
  refine O_p (.b false) (r_mv rfl) ?_
  refine O_nil ?_
  refine C_ret ?_
  refine bk_ret ?_
  refine nx_ret ?_
  have hH19 := ((hH18.sub0).sub0)
  have hH20 := (((hH19.top2).top2).top2)
  exact ⟨.inr rfl, _, resL_one (r_tmp (v := .b false) rfl), rfl, hH20⟩
set_option maxHeartbeats 1000000 in
theorem hand_room {H : AH} {R : HL} {Lb i mr : Nat} {rws rows : List (List AV)} {v : AV} {c : List AV} {mb : Blk} {m : ML} {lost : Int} {room : Nat} {mode : Int} {tp : List UInt8} {frm num : Int} {tx : Bool} {dv : AV} (hrw : ∀ x ∈ rws, x.length = 4) (hi : i < rws.length) (hsq : Sq 5 v c rows.flatten) (hl5 : ∀ x ∈ rows, x.length = 5) (hmb : Mb m mb) (hlost : 0 ≤ lost ∧ lost < 4611686018427387904) (hfitw : rows.length ≤ 1000000) (hget : mget m tp = some (sub mode false)) (hroom : rows.length < room) (hH0 : Hs H ([(Lb, some (.cells (rws.set i (prow true (some mr) v lost)).flatten true))] ++ ([(mr, some mb)] ++ (qseg v c ++ R)))) : Ev tabA spA (.fn (.func 31) [] []) [.p (some (Lb, i * 4 + 0)), .agg [(.s (txt tp)), (.i .i64 frm), (.i .i64 num), (.b tx), dv], .i .i64 room] H (fun r H' => r = .b true ∧ ∃ v' c', Sq 5 v' c' (rows ++ [[(.s (txt tp)), (.i .i64 frm), (.i .i64 num), (.b tx), dv]]).flatten ∧ Hs H' ([(Lb, some (.cells (rws.set i (prow true (some mr) v' lost)).flatten true))] ++ ([(mr, some mb)] ++ (qseg v' c' ++ R)))) := by
  refine Ev_C (F := x31) rfl ?_
  refine C_seq ?_
  refine C_region ?_
  refine O_box (z := [(.s (txt tp)), (.i .i64 frm), (.i .i64 num), (.b tx), dv]) rfl fun n1 H2 hN3 => ?_
  have hH4 := hH0.new hN3
  refine O_p (.b false) (r_mv rfl) ?_
  refine O_nil ?_
  refine C_seq ?_
  refine C_draw fun b5 H6 hbase7 hA8 => ?_
  have hH9 : Hs H6 (asideL b5 [10] ++ _) := hH4.aside hA8 [10] hbase7 rfl (by decide)
  have hH10 : Hs H6 ([(b5 + 10, none)] ++ _) := hH9
  refine D_l (v := (.p (some (Lb, (i * 4 + 0))))) rfl rfl rfl (r_mv rfl) ?_
  refine D_l (v := (.p (some (Lb, (i * 4 + 0))))) rfl rfl rfl (r_nilc rfl) ?_
  refine D_l (v := (.p (some (Lb, (i * 4 + 1))))) rfl rfl rfl (r_fadd' rfl rfl) ?_
  refine D_l (v := (.p (some (n1, 0)))) rfl rfl rfl (r_fadd' rfl rfl) ?_
  refine D_r (v := (.m (some mr))) rfl rfl rfl (by exact (r_ld rfl hH10.get2 ((foc_get hrw hi rfl (by decide)).trans rfl))) ?_
  refine D_r (v := (.s (txt tp))) rfl rfl rfl (r_ld rfl hH10.get1 rfl) ?_
  refine D_r (v := (.tup [(.agg [(.i .i64 mode), (.b false)]), (.b true)])) rfl rfl rfl (by exact ((r_mget (m := m) (k := tp) hH10.get3 hmb rfl rfl true).trans (by first | (rw [hget]; rfl) | rw [hget]))) ?_
  refine D_l (v := (.tup [(.agg [(.i .i64 mode), (.b false)]), (.b true)])) rfl rfl rfl (r_mv rfl) ?_
  refine D_l (v := (.agg [(.i .i64 mode), (.b false)])) rfl rfl rfl (r_ext rfl rfl) ?_
  refine D_l (v := (.b true)) rfl rfl rfl (r_ext rfl rfl) ?_
  refine D_m (f := fun n => ((.p (some (n, 0))), .cells [(.i .i64 0), (.b false)] true)) rfl rfl fun H12 hW13 => ?_
  have hH15 := hH10.wr0 hW13
  generalize hn14 : b5 + 10 = n11 at hW13 hH15 ⊢
  refine And.intro (And.intro (Or.inr (look_run rfl rfl ((r_mget (m := m) (k := tp) hH15.get3 hmb rfl rfl true).trans (by first | (rw [hget]; rfl) | rw [hget])))) (And.intro (Or.inr (look_run rfl rfl (r_ld rfl hH15.get1 rfl))) (And.intro (Or.inr (look_run rfl rfl (r_ld rfl hH15.get2 ((foc_get hrw hi rfl (by decide)).trans rfl)))) True.intro))) ?_
  refine D_store (vs := [(.i .i64 mode), (.b false)]) (c' := [(.i .i64 mode), (.b false)]) rfl (by rfl) hH15.get0 rfl (List.cons_ne_nil _ _) (Nat.le_of_ble_eq_true rfl) rfl fun H16 hW17 => ?_
  have hH18 := hH15.wr0 hW17
  refine And.intro (And.intro (Or.inl rfl) (And.intro (Or.inl rfl) (And.intro (Or.inl rfl) True.intro))) ?_
  refine D_l (v := (.b true)) rfl rfl rfl (r_mv rfl) ?_
  refine D_nil ?_
  refine C_seq ?_
  refine C_block ?_
  refine C_seq ?_
  refine C_region ?_
  refine O_p (.p (some (Lb, (i * 4 + 0)))) (r_mv rfl) ?_
  refine O_p (.p (some (Lb, (i * 4 + 0)))) (r_nilc rfl) ?_
  refine O_p (.p (some (Lb, (i * 4 + 0)))) (r_fadd' rfl rfl) ?_
  refine O_p (.b true) (by exact (r_ld rfl hH18.get2 ((foc_get hrw hi rfl (by decide)).trans rfl))) ?_
  refine O_p (.b false) (r_un rfl rfl) ?_
  refine O_p (.b false) (r_mv rfl) ?_
  refine O_gk rfl ?_
  refine O_p (.b true) (r_mv rfl) ?_
  refine O_gk rfl ?_
  refine O_p (.b false) (r_un rfl rfl) ?_
  refine O_p (.b false) (r_pick_f rfl rfl) ?_
  refine O_p (.b false) (r_mv rfl) ?_
  refine O_gk rfl ?_
  refine O_p (.p (some (n11, 1))) (r_fadd' rfl rfl) ?_
  refine O_gk rfl ?_
  refine O_p (.b false) (r_ld rfl hH18.get0 rfl) ?_
  refine O_p (.b false) (r_pick_f rfl rfl) ?_
  refine O_p (.b false) (r_mv rfl) ?_
  refine O_nil ?_
  refine C_cond (x := false) rfl (fun h => by cases h) (fun _ => ?_)
  refine C_seq ?_
  refine C_region ?_
  refine O_p (.p (some (Lb, (i * 4 + 0)))) (r_mv rfl) ?_
  refine O_p (.p (some (Lb, (i * 4 + 0)))) (r_nilc rfl) ?_
  refine O_p (.p (some (Lb, (i * 4 + 2)))) (r_fadd' rfl rfl) ?_
  refine O_p v (by exact (r_ld rfl hH18.get2 ((foc_get hrw hi rfl (by decide)).trans rfl))) ?_
  refine O_p (.i .i64 (((rows.length : Nat)) : Int)) (by exact (by exact r_lenOf rfl (hsq.lenOf (flat_len hl5) (by decide)) hsq.isSl)) ?_
  refine O_p (.i .i64 ((room : Nat) : Int)) (r_mv rfl) ?_
  refine O_p (.b false) (by exact (by rw [r_geq rfl rfl, decide_eq_false (by first | omega | (simp only [List.length_cons]; omega))])) ?_
  refine O_p (.b false) (r_mv rfl) ?_
  refine O_nil ?_
  refine C_cond (x := false) rfl (fun h => by cases h) (fun _ => ?_)
  refine C_skip ?_
  refine C_seq ?_
  refine C_draw fun b19 H20 hbase21 hA22 => ?_
  have hH23 : Hs H20 (asideL b19 [6] ++ _) := hH18.aside hA22 [6] hbase21 rfl (by decide)
  have hH24 : Hs H20 ([(b19 + 6, none)] ++ _) := hH23
  refine D_l (v := (.p (some (Lb, (i * 4 + 0))))) rfl rfl rfl (r_mv rfl) ?_
  refine D_l (v := (.p (some (Lb, (i * 4 + 0))))) rfl rfl rfl (r_mv rfl) ?_
  refine D_l (v := (.p (some (Lb, (i * 4 + 0))))) rfl rfl rfl (r_nilc rfl) ?_
  refine D_l (v := (.p (some (Lb, (i * 4 + 2))))) rfl rfl rfl (r_fadd' rfl rfl) ?_
  refine D_r (v := v) rfl rfl rfl (by exact (r_ld rfl hH24.get3 ((foc_get hrw hi rfl (by decide)).trans rfl))) ?_
  refine D_r (v := (.agg [(.s (txt tp)), (.i .i64 frm), (.i .i64 num), (.b tx), dv])) rfl rfl rfl (r_ldA rfl hH24.get2 rfl) ?_
  refine D_m (f := fun n => ((.sl (some (n, 0)) 1 1 0), .cells [(.s (txt tp)), (.i .i64 frm), (.i .i64 num), (.b tx), dv] true)) rfl rfl fun H26 hW27 => ?_
  have hH29 := hH24.wr0 hW27
  generalize hn28 : b19 + 6 = n25 at hW27 hH29 ⊢
  refine And.intro (And.intro (Or.inl rfl) (And.intro (Or.inr (look_run rfl rfl (r_ld rfl hH29.get3 ((foc_get hrw hi rfl (by decide)).trans rfl)))) True.intro)) ?_
  refine D_qh rfl rfl (by exact r_appq (n := rows.length) (k := 1) (new := [(.s (txt tp)), (.i .i64 frm), (.i .i64 num), (.b tx), dv]) hH29.top5 hsq rfl rfl rfl (src_blk hH29.get0 (by rfl)) rfl (by decide) (by decide) (flat_len hl5) (by first | omega | (simp only [List.length_take, List.length_drop, List.length_append, List.length_cons, List.length_nil, beN_len] <;> omega))) fun o30 H31 hA33 => ?_
  obtain ⟨c32, hA33, hH34⟩ := hA33
  refine And.intro (And.intro (Or.inl rfl) True.intro) ?_
  obtain ⟨qa35, ql36, qc37, qg38, rfl⟩ := hA33.isSl
  refine D_l (v := (.p (some (Lb, (i * 4 + 0))))) rfl rfl rfl (r_nilc rfl) ?_
  refine D_l (v := (.p (some (Lb, (i * 4 + 2))))) rfl rfl rfl (r_fadd' rfl rfl) ?_
  refine D_store (vs := [(.sl qa35 ql36 qc37 qg38)]) (c' := ((rws).set i (prow true (some mr) (.sl qa35 ql36 qc37 qg38) lost)).flatten) rfl (by rfl) hH34.get4 rfl (List.cons_ne_nil _ _) (foc_len (n := 1) hrw hi rfl (Nat.le_of_ble_eq_true rfl)) (foc_put hrw hi rfl (Nat.le_of_ble_eq_true rfl) rfl) fun H39 hW40 => ?_
  have hH41 := hH34.wr4 hW40
  refine And.intro True.intro ?_
  refine D_nil ?_
  refine C_seq ?_
  refine C_region ?_
  refine O_p (.b true) (r_mv rfl) ?_
  refine O_nil ?_
  refine C_ret ?_
  have hH42 := (((hH41.sub1).sub1).sub1)
  have hH43 := ((hH42.top2).top2)
  exact ⟨.inr rfl, _, resL_one (r_tmp (v := .b true) rfl), rfl, (.sl qa35 ql36 qc37 qg38), c32, by have h := hA33; rw [flat_snoc] at h; exact h, hH43⟩
set_option maxHeartbeats 1000000 in
theorem hand_ord {H : AH} {R : HL} {Lb i mr : Nat} {rws rows : List (List AV)} {v : AV} {c : List AV} {mb : Blk} {m : ML} {lost : Int} {room : Nat} {mode : Int} {tp : List UInt8} {frm num : Int} {tx : Bool} {dv : AV} (hrw : ∀ x ∈ rws, x.length = 4) (hi : i < rws.length) (hsq : Sq 5 v c rows.flatten) (hl5 : ∀ x ∈ rows, x.length = 5) (hmb : Mb m mb) (hlost : 0 ≤ lost ∧ lost < 4611686018427387904) (hfitw : rows.length ≤ 1000000) (hget : mget m tp = some (sub 0 false)) (hroom : room ≤ rows.length) (hH0 : Hs H ([(Lb, some (.cells (rws.set i (prow true (some mr) v lost)).flatten true))] ++ ([(mr, some mb)] ++ (qseg v c ++ R)))) : Ev tabA spA (.fn (.func 31) [] []) [.p (some (Lb, i * 4 + 0)), .agg [(.s (txt tp)), (.i .i64 frm), (.i .i64 num), (.b tx), dv], .i .i64 room] H (fun r H' => r = .b false ∧ ∃ mb', Mb (mset m tp (sub 0 true)) mb' ∧ Hs H' ([(Lb, some (.cells (rws.set i (prow true (some mr) v lost)).flatten true))] ++ ([(mr, some mb')] ++ (qseg v c ++ R)))) := by
  refine Ev_C (F := x31) rfl ?_
  refine C_seq ?_
  refine C_region ?_
  refine O_box (z := [(.s (txt tp)), (.i .i64 frm), (.i .i64 num), (.b tx), dv]) rfl fun n1 H2 hN3 => ?_
  have hH4 := hH0.new hN3
  refine O_p (.b false) (r_mv rfl) ?_
  refine O_nil ?_
  refine C_seq ?_
  refine C_draw fun b5 H6 hbase7 hA8 => ?_
  have hH9 : Hs H6 (asideL b5 [10] ++ _) := hH4.aside hA8 [10] hbase7 rfl (by decide)
  have hH10 : Hs H6 ([(b5 + 10, none)] ++ _) := hH9
  refine D_l (v := (.p (some (Lb, (i * 4 + 0))))) rfl rfl rfl (r_mv rfl) ?_
  refine D_l (v := (.p (some (Lb, (i * 4 + 0))))) rfl rfl rfl (r_nilc rfl) ?_
  refine D_l (v := (.p (some (Lb, (i * 4 + 1))))) rfl rfl rfl (r_fadd' rfl rfl) ?_
  refine D_l (v := (.p (some (n1, 0)))) rfl rfl rfl (r_fadd' rfl rfl) ?_
  refine D_r (v := (.m (some mr))) rfl rfl rfl (by exact (r_ld rfl hH10.get2 ((foc_get hrw hi rfl (by decide)).trans rfl))) ?_
  refine D_r (v := (.s (txt tp))) rfl rfl rfl (r_ld rfl hH10.get1 rfl) ?_
  refine D_r (v := (.tup [(.agg [(.i .i64 0), (.b false)]), (.b true)])) rfl rfl rfl (by exact ((r_mget (m := m) (k := tp) hH10.get3 hmb rfl rfl true).trans (by first | (rw [hget]; rfl) | rw [hget]))) ?_
  refine D_l (v := (.tup [(.agg [(.i .i64 0), (.b false)]), (.b true)])) rfl rfl rfl (r_mv rfl) ?_
  refine D_l (v := (.agg [(.i .i64 0), (.b false)])) rfl rfl rfl (r_ext rfl rfl) ?_
  refine D_l (v := (.b true)) rfl rfl rfl (r_ext rfl rfl) ?_
  refine D_m (f := fun n => ((.p (some (n, 0))), .cells [(.i .i64 0), (.b false)] true)) rfl rfl fun H12 hW13 => ?_
  have hH15 := hH10.wr0 hW13
  generalize hn14 : b5 + 10 = n11 at hW13 hH15 ⊢
  refine And.intro (And.intro (Or.inr (look_run rfl rfl ((r_mget (m := m) (k := tp) hH15.get3 hmb rfl rfl true).trans (by first | (rw [hget]; rfl) | rw [hget])))) (And.intro (Or.inr (look_run rfl rfl (r_ld rfl hH15.get1 rfl))) (And.intro (Or.inr (look_run rfl rfl (r_ld rfl hH15.get2 ((foc_get hrw hi rfl (by decide)).trans rfl)))) True.intro))) ?_
  refine D_store (vs := [(.i .i64 0), (.b false)]) (c' := [(.i .i64 0), (.b false)]) rfl (by rfl) hH15.get0 rfl (List.cons_ne_nil _ _) (Nat.le_of_ble_eq_true rfl) rfl fun H16 hW17 => ?_
  have hH18 := hH15.wr0 hW17
  refine And.intro (And.intro (Or.inl rfl) (And.intro (Or.inl rfl) (And.intro (Or.inl rfl) True.intro))) ?_
  refine D_l (v := (.b true)) rfl rfl rfl (r_mv rfl) ?_
  refine D_nil ?_
  refine C_seq ?_
  refine C_block ?_
  refine C_seq ?_
  refine C_region ?_
  refine O_p (.p (some (Lb, (i * 4 + 0)))) (r_mv rfl) ?_
  refine O_p (.p (some (Lb, (i * 4 + 0)))) (r_nilc rfl) ?_
  refine O_p (.p (some (Lb, (i * 4 + 0)))) (r_fadd' rfl rfl) ?_
  refine O_p (.b true) (by exact (r_ld rfl hH18.get2 ((foc_get hrw hi rfl (by decide)).trans rfl))) ?_
  refine O_p (.b false) (r_un rfl rfl) ?_
  refine O_p (.b false) (r_mv rfl) ?_
  refine O_gk rfl ?_
  refine O_p (.b true) (r_mv rfl) ?_
  refine O_gk rfl ?_
  refine O_p (.b false) (r_un rfl rfl) ?_
  refine O_p (.b false) (r_pick_f rfl rfl) ?_
  refine O_p (.b false) (r_mv rfl) ?_
  refine O_gk rfl ?_
  refine O_p (.p (some (n11, 1))) (r_fadd' rfl rfl) ?_
  refine O_gk rfl ?_
  refine O_p (.b false) (r_ld rfl hH18.get0 rfl) ?_
  refine O_p (.b false) (r_pick_f rfl rfl) ?_
  refine O_p (.b false) (r_mv rfl) ?_
  refine O_nil ?_
  refine C_cond (x := false) rfl (fun h => by cases h) (fun _ => ?_)
  refine C_seq ?_
  refine C_region ?_
  refine O_p (.p (some (Lb, (i * 4 + 0)))) (r_mv rfl) ?_
  refine O_p (.p (some (Lb, (i * 4 + 0)))) (r_nilc rfl) ?_
  refine O_p (.p (some (Lb, (i * 4 + 2)))) (r_fadd' rfl rfl) ?_
  refine O_p v (by exact (r_ld rfl hH18.get2 ((foc_get hrw hi rfl (by decide)).trans rfl))) ?_
  refine O_p (.i .i64 (((rows.length : Nat)) : Int)) (by exact (by exact r_lenOf rfl (hsq.lenOf (flat_len hl5) (by decide)) hsq.isSl)) ?_
  refine O_p (.i .i64 ((room : Nat) : Int)) (r_mv rfl) ?_
  refine O_p (.b true) (by exact (by rw [r_geq rfl rfl, decide_eq_true (by first | omega | (simp only [List.length_cons]; omega))])) ?_
  refine O_p (.b true) (r_mv rfl) ?_
  refine O_nil ?_
  refine C_cond (x := true) rfl (fun _ => ?_) (fun h => by cases h)
  refine C_seq ?_
  refine C_region ?_
  refine O_p (.p (some (Lb, (i * 4 + 0)))) (r_mv rfl) ?_
  refine O_p (.agg [(.s (txt tp)), (.i .i64 frm), (.i .i64 num), (.b tx), dv]) (r_ldA rfl hH18.get1 rfl) ?_
  refine O_p (.agg [(.i .i64 0), (.b false)]) (r_ldA rfl hH18.get0 rfl) ?_
  have hH19 := (((hH18.top4).top4).top4)
  have hH20 := (((hH19.top2).top2).top2)
  refine O_call (Ev.mono (full_ord hrw hi hsq hl5 hmb hlost hfitw hH20) fun v21 H22 hq23 => ?_)
  obtain ⟨rfl, mb2, hmb2, hH24⟩ := hq23
  refine O_p (.b false) (r_mv rfl) ?_
  refine O_nil ?_
  refine C_ret ?_
  refine bk_ret ?_
  refine nx_ret ?_
  have hH25 := ((hH24.sub3).sub3)
  have hH26 := (((hH25.top2).top2).top2)
  exact ⟨.inr rfl, _, resL_one (r_tmp (v := .b false) rfl), rfl, mb2, hmb2, hH26⟩
theorem hand_off {H : AH} {R : HL} {Lb i room : Nat} {rws : List (List AV)} {tp : List UInt8} {frm num : Int} {tx : Bool} {dv : AV} (hrw : ∀ x ∈ rws, x.length = 4) (hi : i < rws.length) (hH0 : Hs H ([(Lb, some (.cells (rws.set i (prow false none (.sl none 0 0 0) 0)).flatten true))] ++ R)) : Ev tabA spA (.fn (.func 31) [] []) [.p (some (Lb, i * 4 + 0)), .agg [(.s (txt tp)), (.i .i64 frm), (.i .i64 num), (.b tx), dv], .i .i64 room] H (fun r H' => r = .b false ∧ Hs H' ([(Lb, some (.cells (rws.set i (prow false none (.sl none 0 0 0) 0)).flatten true))] ++ R)) := by
  refine Ev_C (F := x31) rfl ?_
  refine C_seq ?_
  refine C_region ?_
  refine O_box (z := [(.s (txt tp)), (.i .i64 frm), (.i .i64 num), (.b tx), dv]) rfl fun n1 H2 hN3 => ?_
  have hH4 := hH0.new hN3
  refine O_p (.b false) (r_mv rfl) ?_
  refine O_nil ?_
  refine C_seq ?_
  refine C_draw fun b5 H6 hbase7 hA8 => ?_
  have hH9 : Hs H6 (asideL b5 [10] ++ _) := hH4.aside hA8 [10] hbase7 rfl (by decide)
  have hH10 : Hs H6 ([(b5 + 10, none)] ++ _) := hH9
  refine D_l (v := (.p (some (Lb, (i * 4 + 0))))) rfl rfl rfl (r_mv rfl) ?_
  refine D_l (v := (.p (some (Lb, (i * 4 + 0))))) rfl rfl rfl (r_nilc rfl) ?_
  refine D_l (v := (.p (some (Lb, (i * 4 + 1))))) rfl rfl rfl (r_fadd' rfl rfl) ?_
  refine D_l (v := (.p (some (n1, 0)))) rfl rfl rfl (r_fadd' rfl rfl) ?_
  refine D_r (v := (.m none)) rfl rfl rfl (by exact (r_ld rfl hH10.get2 ((foc_get hrw hi rfl (by decide)).trans rfl))) ?_
  refine D_r (v := (.s (txt tp))) rfl rfl rfl (r_ld rfl hH10.get1 rfl) ?_
  refine D_r (v := (.tup [(.agg [(.i .i64 0), (.b false)]), (.b false)])) rfl rfl rfl (r_mget0 (k := tp) rfl rfl true) ?_
  refine D_l (v := (.tup [(.agg [(.i .i64 0), (.b false)]), (.b false)])) rfl rfl rfl (r_mv rfl) ?_
  refine D_l (v := (.agg [(.i .i64 0), (.b false)])) rfl rfl rfl (r_ext rfl rfl) ?_
  refine D_l (v := (.b false)) rfl rfl rfl (r_ext rfl rfl) ?_
  refine D_m (f := fun n => ((.p (some (n, 0))), .cells [(.i .i64 0), (.b false)] true)) rfl rfl fun H12 hW13 => ?_
  have hH15 := hH10.wr0 hW13
  generalize hn14 : b5 + 10 = n11 at hW13 hH15 ⊢
  refine And.intro (And.intro (Or.inr (look_run rfl rfl (r_mget0 (k := tp) rfl rfl true))) (And.intro (Or.inr (look_run rfl rfl (r_ld rfl hH15.get1 rfl))) (And.intro (Or.inr (look_run rfl rfl (r_ld rfl hH15.get2 ((foc_get hrw hi rfl (by decide)).trans rfl)))) True.intro))) ?_
  refine D_store (vs := [(.i .i64 0), (.b false)]) (c' := [(.i .i64 0), (.b false)]) rfl (by rfl) hH15.get0 rfl (List.cons_ne_nil _ _) (Nat.le_of_ble_eq_true rfl) rfl fun H16 hW17 => ?_
  have hH18 := hH15.wr0 hW17
  refine And.intro (And.intro (Or.inl rfl) (And.intro (Or.inl rfl) (And.intro (Or.inl rfl) True.intro))) ?_
  refine D_l (v := (.b false)) rfl rfl rfl (r_mv rfl) ?_
  refine D_nil ?_
  refine C_seq ?_
  refine C_block ?_
  refine C_seq ?_
  refine C_region ?_
  refine O_p (.p (some (Lb, (i * 4 + 0)))) (r_mv rfl) ?_
  refine O_p (.p (some (Lb, (i * 4 + 0)))) (r_nilc rfl) ?_
  refine O_p (.p (some (Lb, (i * 4 + 0)))) (r_fadd' rfl rfl) ?_
  refine O_p (.b false) (by exact (r_ld rfl hH18.get2 ((foc_get hrw hi rfl (by decide)).trans rfl))) ?_
  refine O_p (.b true) (r_un rfl rfl) ?_
  refine O_p (.b true) (r_mv rfl) ?_
  refine O_gf rfl ?_
  refine O_gf rfl ?_
  refine O_p (.b true) (r_pick_t rfl rfl) ?_
  refine O_p (.b true) (r_mv rfl) ?_
  refine O_gf rfl ?_
  refine O_gf rfl ?_
  refine O_p (.b true) (r_pick_t rfl rfl) ?_
  refine O_p (.b true) (r_mv rfl) ?_
  refine O_nil ?_
  refine C_cond (x := true) rfl (fun _ => ?_) (fun h => by cases h)
  refine C_seq ?_
  refine C_region ?_
  refine O_p (.b false) (r_mv rfl) ?_
  refine O_nil ?_
  refine C_ret ?_
  refine bk_ret ?_
  refine nx_ret ?_
  have hH19 := ((hH18.sub0).sub0)
  exact ⟨.inr rfl, _, resL_one (r_tmp (v := .b false) rfl), rfl, hH19⟩
end Go.Proofs.Ytnkpmidfefilbaa.E
