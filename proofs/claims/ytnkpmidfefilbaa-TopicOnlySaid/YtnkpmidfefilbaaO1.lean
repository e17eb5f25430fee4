/- Topics: five parties, what is dropped and left. It bears no condition. -/
import Derived.Test.YtnkpmidfefilbaaL
namespace Go.Proofs.Ytnkpmidfefilbaa.E
set_option linter.unusedVariables false
set_option linter.unusedSimpArgs false
theorem new5_ev {H : AH} {R : HL} {room : Int} (hH0 : Hs H R) : Ev tabA spA (.fn (.func 11) [] []) [.i .i64 5, .i .i64 room] H (fun r H' => ∃ F Lb cm, r = .p (some (F, 0)) ∧ Hs H' ([(F, some (.cells [.sl (some (Lb, 0)) 5 5 0, .i .i64 ((clampR room : Nat) : Int), .m (some cm)] true))] ++ ([(Lb, some (.cells (List.replicate 5 zrow).flatten true))] ++ ([(cm, some (.map [] 0))] ++ R)))) := by
  refine Ev_C (F := x11) rfl ?_
  refine C_seq ?_
  refine C_region ?_
  refine O_p (.p none) (r_mv rfl) ?_
  refine O_nil ?_
  refine C_seq ?_
  refine C_draw fun b1 H2 hbase3 hA4 => ?_
  have hH5 : Hs H2 (asideL b1 [2, 5, 7] ++ _) := hH0.aside hA4 [2, 5, 7] hbase3 rfl (by decide)
  have hH6 : Hs H2 ([(b1 + 2, none)] ++ ([(b1 + 5, none)] ++ ([(b1 + 7, none)] ++ _))) := hH5
  refine D_l (v := (.i .i64 5)) rfl rfl rfl (r_mv rfl) ?_
  refine D_l (v := (.i .i64 room)) rfl rfl rfl (r_mv rfl) ?_
  refine D_call (Ev.mono (clamp_in (n := 5) (most := 16) (by omega) hH6) fun v7 H8 hq9 => ?_)
  obtain ⟨rfl, hH10⟩ := hq9
  refine And.intro True.intro ?_
  refine D_call (Ev.mono (clamp_room (n := room) hH10) fun v11 H12 hq13 => ?_)
  obtain ⟨rfl, hH14⟩ := hq13
  refine And.intro True.intro ?_
  refine D_m (f := fun n => (.sl (some (n, 0)) 5 5 0, .cells (List.replicate 5 zrow).flatten true)) rfl rfl fun H16 hW17 => ?_
  have hH19 := hH14.wr0 hW17
  generalize hn18 : b1 + 2 = n15 at hW17 hH19 ⊢
  refine And.intro True.intro ?_
  refine D_m (f := fun n => ((.m (some n)), .map [] 0)) rfl rfl fun H21 hW22 => ?_
  have hH24 := hH19.wr1 hW22
  generalize hn23 : b1 + 5 = n20 at hW22 hH24 ⊢
  refine And.intro True.intro ?_
  refine D_l (v := (.agg [(.sl (some (n15, 0)) 5 5 0), (.i .i64 ((clampR room : Nat) : Int)), (.m (some n20))])) rfl rfl rfl (r_build rfl) ?_
  refine D_m (f := fun n => ((.p (some (n, 0))), .cells [(.sl (some (n15, 0)) 5 5 0), (.i .i64 ((clampR room : Nat) : Int)), (.m (some n20))] true)) rfl rfl fun H26 hW27 => ?_
  have hH29 := hH24.wr2 hW27
  generalize hn28 : b1 + 7 = n25 at hW27 hH29 ⊢
  refine And.intro True.intro ?_
  refine D_l (v := (.p (some (n25, 0)))) rfl rfl rfl (r_mv rfl) ?_
  refine D_nil ?_
  refine C_ret ?_
  have hH30 := (((hH29.top1).top1).top2)
  exact ⟨.inr rfl, _, resL_one (r_tmp (v := (.p (some (n25, 0)))) rfl), n25, n15, n20, rfl, hH30⟩
theorem idxnil_ev {H : AH} {R : HL} {fn : AV} (hH0 : Hs H R) : Ev tabA spA (.fn (.func 45) [] []) [.sl none 0 0 0, fn] H (fun r H' => r = .i .i64 (-1) ∧ Hs H' R) := by
  refine Ev_C (F := x45) rfl ?_
  refine C_seq ?_
  refine C_region ?_
  refine O_p (.i .i64 0) (r_mv rfl) ?_
  refine O_nil ?_
  refine C_seq ?_
  refine C_seq ?_
  refine C_region ?_
  refine O_p (.sl none 0 0 0) (r_mv rfl) ?_
  refine O_p (.i .i64 0) (r_len rfl) ?_
  refine O_p (.i .i64 0) (r_mv rfl) ?_
  refine O_nil ?_
  refine C_block ?_
  refine C_loop ?_
  refine C_seq ?_
  refine C_region ?_
  refine O_p (.b false) (r_bin rfl rfl rfl) ?_
  refine O_nil ?_
  refine C_seq ?_
  refine C_cond (x := false) rfl (fun h => by cases h) (fun _ => ?_)
  refine C_exit ?_
  refine nx_exit ?_
  refine nx_exit ?_
  refine bk_hit ?_
  refine C_seq ?_
  refine C_region ?_
  refine O_p (.i .i64 (-1)) (r_mv rfl) ?_
  refine O_nil ?_
  refine C_ret ?_
  exact ⟨.inr rfl, _, resL_one (r_tmp (v := .i .i64 (-1)) rfl), rfl, hH0⟩
theorem delfnil_ev {H : AH} {R : HL} {fn : AV} (hH0 : Hs H R) : Ev tabA spA (.fn (.func 33) [] []) [.sl none 0 0 0, fn] H (fun r H' => r = .sl none 0 0 0 ∧ Hs H' R) := by
  refine Ev_C (F := x33) rfl ?_
  refine C_seq ?_
  refine C_region ?_
  refine O_p (.sl none 0 0 0) (r_mv rfl) ?_
  refine O_nil ?_
  refine C_seq ?_
  refine C_region ?_
  refine O_p (.sl none 0 0 0) (r_mv rfl) ?_
  refine O_p fn (r_mv rfl) ?_
  refine O_call (Ev.mono (idxnil_ev hH0) fun v1 H2 hq3 => ?_)
  obtain ⟨rfl, hH4⟩ := hq3
  refine O_p (.i .i64 (-1)) (r_mv rfl) ?_
  refine O_nil ?_
  refine C_seq ?_
  refine C_seq ?_
  refine C_region ?_
  refine O_p (.i .i64 (-1)) (r_mv rfl) ?_
  refine O_p (.b true) (r_eqq rfl rfl) ?_
  refine O_nil ?_
  refine C_cond (x := true) rfl (fun _ => ?_) (fun h => by cases h)
  refine C_seq ?_
  refine C_region ?_
  refine O_p (.sl none 0 0 0) (r_mv rfl) ?_
  refine O_p (.sl none 0 0 0) (r_mv rfl) ?_
  refine O_nil ?_
  refine C_ret ?_
  refine nx_ret ?_
  exact ⟨.inr rfl, _, resL_one (r_tmp (v := .sl none 0 0 0) rfl), rfl, hH4⟩
set_option maxHeartbeats 1000000 in
theorem drop_ev {H : AH} {R : HL} {F Lb cm np i room : Nat} {rws : List (List AV)} {mr : Nat} {mb : Blk} {m : ML} {tp : List UInt8} {mode : Int} {fl : Bool} {lost : Int} (hk : i < np) (hrw : ∀ x ∈ rws, x.length = 4) (hi : i < rws.length) (hmb : Mb m mb) (hget : mget m tp = some (sub mode fl)) (hH0 : Hs H ([(F, some (.cells ([(.sl (some (Lb, 0)) np np 0), (.i .i64 ((room : Nat) : Int)), (.m (some cm))]) true))] ++ ([(Lb, some (.cells (((rws).set i (prow true (some mr) (.sl none 0 0 0) lost)).flatten) true))] ++ ([(mr, some mb)] ++ (R))))) : Ev tabA spA (.fn (.func 20) [] []) [.p (some (F, 0)), .i .i64 i, .s (txt tp)] H (fun r H' => ∃ mb', Mb (mdel m tp) mb' ∧ r = .i .i64 0 ∧ Hs H' ([(F, some (.cells [.sl (some (Lb, 0)) np np 0, .i .i64 ((room : Nat) : Int), .m (some cm)] true))] ++ ([(Lb, some (.cells (rws.set i (prow true (some mr) (.sl none 0 0 0) lost)).flatten true))] ++ ([(mr, some mb')] ++ R)))) := by
  refine Ev_C (F := x20) rfl ?_
  refine C_seq ?_
  refine C_region ?_
  refine O_box (z := [(.s (txt tp))]) rfl fun n1 H2 hN3 => ?_
  have hH4 := hH0.new hN3
  refine O_p (.i .i64 0) (r_mv rfl) ?_
  refine O_nil ?_
  refine C_seq ?_
  refine C_region ?_
  refine O_p (.p (some (F, 0))) (r_mv rfl) ?_
  refine O_p (.i .i64 ((i : Nat) : Int)) (r_mv rfl) ?_
  have hH5 := (hH4.top1)
  refine O_call (Ev.mono (at_ev (k := i) hk hH5) fun v6 H7 hq8 => ?_)
  obtain ⟨rfl, hH9⟩ := hq8
  refine O_p (.p (some (Lb, (i * 4 + 0)))) (r_mv rfl) ?_
  refine O_nil ?_
  refine C_seq ?_
  refine C_block ?_
  refine C_seq ?_
  refine C_region ?_
  refine O_p (.p (some (Lb, (i * 4 + 0)))) (r_mv rfl) ?_
  refine O_p (.b false) (r_nilq_s rfl) ?_
  refine O_p (.b false) (r_mv rfl) ?_
  refine O_nil ?_
  refine C_cond (x := false) rfl (fun h => by cases h) (fun _ => ?_)
  refine C_seq ?_
  refine C_region ?_
  refine O_p (.p (some (Lb, (i * 4 + 0)))) (r_mv rfl) ?_
  refine O_p (.p (some (Lb, (i * 4 + 0)))) (r_nilc rfl) ?_
  refine O_p (.p (some (Lb, (i * 4 + 0)))) (r_fadd' rfl rfl) ?_
  refine O_p (.b true) (by exact (r_ld rfl hH9.get2 ((foc_get hrw hi rfl (by decide)).trans rfl))) ?_
  refine O_p (.b false) (r_un rfl rfl) ?_
  refine O_p (.b false) (r_mv rfl) ?_
  refine O_nil ?_
  refine C_cond (x := false) rfl (fun h => by cases h) (fun _ => ?_)
  refine C_skip ?_
  refine C_seq ?_
  refine C_seq ?_
  refine C_draw fun b10 H11 hbase12 hA13 => ?_
  have hH14 : Hs H11 (asideL b10 [9] ++ _) := hH9.aside hA13 [9] hbase12 rfl (by decide)
  have hH15 : Hs H11 ([(b10 + 9, none)] ++ _) := hH14
  refine D_l (v := (.p (some (Lb, (i * 4 + 0))))) rfl rfl rfl (r_mv rfl) ?_
  refine D_l (v := (.p (some (Lb, (i * 4 + 0))))) rfl rfl rfl (r_nilc rfl) ?_
  refine D_l (v := (.p (some (Lb, (i * 4 + 1))))) rfl rfl rfl (r_fadd' rfl rfl) ?_
  refine D_r (v := (.m (some mr))) rfl rfl rfl (by exact (r_ld rfl hH15.get3 ((foc_get hrw hi rfl (by decide)).trans rfl))) ?_
  refine D_r (v := (.s (txt tp))) rfl rfl rfl (r_ld rfl hH15.get2 rfl) ?_
  refine D_r (v := (.tup [(.agg [(.i .i64 mode), (.b fl)]), (.b true)])) rfl rfl rfl (by exact ((r_mget (m := m) (k := tp) hH15.get4 hmb rfl rfl true).trans (by first | (rw [hget]; rfl) | rw [hget]))) ?_
  refine D_l (v := (.tup [(.agg [(.i .i64 mode), (.b fl)]), (.b true)])) rfl rfl rfl (r_mv rfl) ?_
  refine D_l (v := (.agg [(.i .i64 mode), (.b fl)])) rfl rfl rfl (r_ext rfl rfl) ?_
  refine D_l (v := (.b true)) rfl rfl rfl (r_ext rfl rfl) ?_
  refine D_m (f := fun n => ((.p (some (n, 0))), .cells [(.i .i64 0), (.b false)] true)) rfl rfl fun H17 hW18 => ?_
  have hH20 := hH15.wr0 hW18
  generalize hn19 : b10 + 9 = n16 at hW18 hH20 ⊢
  refine And.intro (And.intro (Or.inr (look_run rfl rfl ((r_mget (m := m) (k := tp) hH20.get4 hmb rfl rfl true).trans (by first | (rw [hget]; rfl) | rw [hget])))) (And.intro (Or.inr (look_run rfl rfl (r_ld rfl hH20.get2 rfl))) (And.intro (Or.inr (look_run rfl rfl (r_ld rfl hH20.get3 ((foc_get hrw hi rfl (by decide)).trans rfl)))) True.intro))) ?_
  refine D_store (vs := [(.i .i64 mode), (.b fl)]) (c' := [(.i .i64 mode), (.b fl)]) rfl (by rfl) hH20.get0 rfl (List.cons_ne_nil _ _) (Nat.le_of_ble_eq_true rfl) rfl fun H21 hW22 => ?_
  have hH23 := hH20.wr0 hW22
  refine And.intro (And.intro (Or.inl rfl) (And.intro (Or.inl rfl) (And.intro (Or.inl rfl) True.intro))) ?_
  refine D_l (v := (.b true)) rfl rfl rfl (r_mv rfl) ?_
  refine D_nil ?_
  refine C_seq ?_
  refine C_region ?_
  refine O_p (.b true) (r_mv rfl) ?_
  refine O_p (.b false) (r_un rfl rfl) ?_
  refine O_nil ?_
  refine C_cond (x := false) rfl (fun h => by cases h) (fun _ => ?_)
  refine C_skip ?_
  refine C_seq ?_
  refine C_draw fun b24 H25 hbase26 hA27 => ?_
  have hH28 := hH23.keep (by have := hA27.1; omega) (fun q _ => hA27.2 q) ((hH23.old).aside hA27).ok
  refine D_l (v := (.p (some (Lb, (i * 4 + 0))))) rfl rfl rfl (r_mv rfl) ?_
  refine D_l (v := (.p (some (Lb, (i * 4 + 0))))) rfl rfl rfl (r_nilc rfl) ?_
  refine D_l (v := (.p (some (Lb, (i * 4 + 1))))) rfl rfl rfl (r_fadd' rfl rfl) ?_
  refine D_r (v := (.m (some mr))) rfl rfl rfl (by exact (r_ld rfl hH28.get3 ((foc_get hrw hi rfl (by decide)).trans rfl))) ?_
  refine D_r (v := (.s (txt tp))) rfl rfl rfl (r_ld rfl hH28.get2 rfl) ?_
  refine D_nh rfl rfl (by exact r_mdel (k := tp) hH28.top4 hmb rfl rfl) fun H29 hA30 => ?_
  obtain ⟨bm31, hMb32, hH33⟩ := hA30
  refine And.intro (And.intro (Or.inl rfl) (And.intro (Or.inl rfl) True.intro)) ?_
  refine D_nil ?_
  refine C_seq ?_
  refine C_region ?_
  refine O_p (.p (some (Lb, (i * 4 + 0)))) (r_mv rfl) ?_
  refine O_p (.p (some (Lb, (i * 4 + 0)))) (r_mv rfl) ?_
  refine O_p (.p (some (Lb, (i * 4 + 0)))) (r_nilc rfl) ?_
  refine O_p (.p (some (Lb, (i * 4 + 2)))) (r_fadd' rfl rfl) ?_
  refine O_p (.sl none 0 0 0) (by exact (r_ld rfl hH33.get4 ((foc_get hrw hi rfl (by decide)).trans rfl))) ?_
  refine O_p (.fn (.func 34) [] [(.p (some (n1, 0)))]) rfl ?_
  refine O_call (Ev.mono (delfnil_ev hH33) fun v34 H35 hq36 => ?_)
  obtain ⟨rfl, hH37⟩ := hq36
  refine O_p (.p (some (Lb, (i * 4 + 0)))) (r_nilc rfl) ?_
  refine O_p (.p (some (Lb, (i * 4 + 2)))) (r_fadd' rfl rfl) ?_
  refine O_store (vs := [(.sl none 0 0 0)]) (c' := ((rws).set i (prow true (some mr) (.sl none 0 0 0) lost)).flatten) rfl (by rfl) hH37.get4 rfl (List.cons_ne_nil _ _) (foc_len (n := 1) hrw hi rfl (Nat.le_of_ble_eq_true rfl)) (foc_put hrw hi rfl (Nat.le_of_ble_eq_true rfl) rfl) fun H38 hW39 => ?_
  have hH40 := hH37.wr4 hW39
  refine O_nil ?_
  refine C_seq ?_
  refine C_region ?_
  refine O_p (.i .i64 0) (r_mv rfl) ?_
  refine O_nil ?_
  refine C_ret ?_
  have hH41 := ((hH40.sub1).sub2)
  have hH42 := ((hH41.top2).top2)
  exact ⟨.inr rfl, _, resL_one (r_tmp (v := .i .i64 0) rfl), bm31, hMb32, rfl, hH42⟩
set_option maxHeartbeats 1000000 in
theorem leave_ev {H : AH} {R : HL} {F Lb cm np i room : Nat} {rws : List (List AV)} {mr : Nat} {v : AV} {lost : Int} (hk : i < np) (hrw : ∀ x ∈ rws, x.length = 4) (hi : i < rws.length)  (hH0 : Hs H ([(F, some (.cells ([(.sl (some (Lb, 0)) np np 0), (.i .i64 ((room : Nat) : Int)), (.m (some cm))]) true))] ++ ([(Lb, some (.cells (((rws).set i (prow true (some mr) v lost)).flatten) true))] ++ (R)))) : Ev tabA spA (.fn (.func 21) [] []) [.p (some (F, 0)), .i .i64 i] H (fun r H' => r = .i .i64 0 ∧ Hs H' ([(F, some (.cells ([(.sl (some (Lb, 0)) np np 0), (.i .i64 ((room : Nat) : Int)), (.m (some cm))]) true))] ++ ([(Lb, some (.cells (((rws).set i (prow false none (.sl none 0 0 0) 0)).flatten) true))] ++ (R)))) := by
  refine Ev_C (F := x21) rfl ?_
  refine C_seq ?_
  refine C_region ?_
  refine O_p (.i .i64 0) (r_mv rfl) ?_
  refine O_nil ?_
  refine C_seq ?_
  refine C_region ?_
  refine O_p (.p (some (F, 0))) (r_mv rfl) ?_
  refine O_p (.i .i64 ((i : Nat) : Int)) (r_mv rfl) ?_
  refine O_call (Ev.mono (at_ev (k := i) hk hH0) fun v1 H2 hq3 => ?_)
  obtain ⟨rfl, hH4⟩ := hq3
  refine O_p (.p (some (Lb, (i * 4 + 0)))) (r_mv rfl) ?_
  refine O_nil ?_
  refine C_seq ?_
  refine C_block ?_
  refine C_seq ?_
  refine C_region ?_
  refine O_p (.p (some (Lb, (i * 4 + 0)))) (r_mv rfl) ?_
  refine O_p (.b false) (r_nilq_s rfl) ?_
  refine O_p (.b false) (r_mv rfl) ?_
  refine O_nil ?_
  refine C_cond (x := false) rfl (fun h => by cases h) (fun _ => ?_)
  refine C_seq ?_
  refine C_region ?_
  refine O_p (.p (some (Lb, (i * 4 + 0)))) (r_mv rfl) ?_
  refine O_p (.p (some (Lb, (i * 4 + 0)))) (r_nilc rfl) ?_
  refine O_p (.p (some (Lb, (i * 4 + 0)))) (r_fadd' rfl rfl) ?_
  refine O_p (.b true) (by exact (r_ld rfl hH4.get1 ((foc_get hrw hi rfl (by decide)).trans rfl))) ?_
  refine O_p (.b false) (r_un rfl rfl) ?_
  refine O_p (.b false) (r_mv rfl) ?_
  refine O_nil ?_
  refine C_cond (x := false) rfl (fun h => by cases h) (fun _ => ?_)
  refine C_skip ?_
  refine C_seq ?_
  refine C_region ?_
  refine O_p (.p (some (Lb, (i * 4 + 0)))) (r_mv rfl) ?_
  refine O_p (.agg [(.b false), (.m none), (.sl none 0 0 0), (.i .i64 0)]) (r_build rfl) ?_
  refine O_p (.p (some (Lb, (i * 4 + 0)))) (r_nilc rfl) ?_
  refine O_store (vs := [(.b false), (.m none), (.sl none 0 0 0), (.i .i64 0)]) (c' := ((rws).set i (prow false none (.sl none 0 0 0) 0)).flatten) rfl (by rfl) hH4.get1 rfl (List.cons_ne_nil _ _) (foc_len (n := 4) hrw hi rfl (Nat.le_of_ble_eq_true rfl)) (foc_put hrw hi rfl (Nat.le_of_ble_eq_true rfl) rfl) fun H5 hW6 => ?_
  have hH7 := hH4.wr1 hW6
  refine O_nil ?_
  refine C_seq ?_
  refine C_region ?_
  refine O_p (.i .i64 0) (r_mv rfl) ?_
  refine O_nil ?_
  refine C_ret ?_
  have hH8 := ((hH7.top1).top1)
  exact ⟨.inr rfl, _, resL_one (r_tmp (v := (.i .i64 0)) rfl), rfl, hH8⟩
set_option maxRecDepth 100000 in
set_option maxHeartbeats 2000000 in
theorem publish5_ev {H : AH} {R B : HL} {F Lb cm m0 m1 m2 m4 : Nat} {cb mb1 mb2 mb4 : Blk} {cmL ml1 ml2 ml4 : ML} {v0 : AV} {l0 : Int} {tp dd : List UInt8} {tx : Bool} {da : Option (Nat × Nat)} {dc dg : Nat} (hcb : Mb cmL cb) (hcg : mget cmL tp = none) (htp : 0 < tp.length ∧ tp.length ≤ 256) (hdl : dd.length ≤ 16384) (hdg : dg = 0 ∨ dg = 1) (hdc : dd.length ≤ dc) (hdm : dc ≤ 9223372036854775807) (hdb : ∀ H', Hs H' B → Bs H' (.sl da dd.length dc dg) dd) (hmb1 : Mb ml1 mb1) (hmb2 : Mb ml2 mb2) (hmb4 : Mb ml4 mb4) (hg1 : mget ml1 tp = none) (hg2 : mget ml2 tp = none) (hg4 : mget ml4 tp = some (sub 2 false)) (hH0 : Hs H ([(F, some (.cells ([(.sl (some (Lb, 0)) 5 5 0), (.i .i64 ((9 : Nat) : Int)), (.m (some cm))]) true))] ++ ([(Lb, some (.cells (([(prow true (some m0) v0 l0), (prow true (some m1) (.sl none 0 0 0) 0), (prow true (some m2) (.sl none 0 0 0) 0), zrow, (prow true (some m4) (.sl none 0 0 0) 0)] : List (List AV)).flatten) true))] ++ ([(cm, some cb)] ++ ([(m1, some mb1)] ++ ([(m2, some mb2)] ++ ([(m4, some mb4)] ++ (B ++ (R))))))))) : Ev tabA spA (.fn (.func 13) [] []) [.p (some (F, 0)), .i .i64 0, .s (txt tp), .b tx, .sl da dd.length dc dg] H (fun r H' => ∃ D' v2 c2 r4, r = .tup [.i .i64 1, .i .i64 0] ∧ Sq 5 v2 c2 ([r4] : List (List AV)).flatten ∧ ItRow D' r4 (⟨tp, 0, 0, tx, dd⟩ : It) ∧ Hs H' ([(F, some (.cells ([(.sl (some (Lb, 0)) 5 5 0), (.i .i64 ((9 : Nat) : Int)), (.m (some cm))]) true))] ++ ([(Lb, some (.cells (([(prow true (some m0) v0 l0), (prow true (some m1) (.sl none 0 0 0) 0), (prow true (some m2) (.sl none 0 0 0) 0), zrow, (prow true (some m4) v2 0)] : List (List AV)).flatten) true))] ++ ([(m1, some mb1)] ++ ([(m2, some mb2)] ++ ([(m4, some mb4)] ++ ((qseg v2 c2) ++ (D' ++ (B ++ (R)))))))))) := by
  refine Ev_C (F := x13) rfl ?_
  refine C_seq ?_
  refine C_region ?_
  refine O_p (.i .i64 0) (r_mv rfl) ?_
  refine O_p (.i .i64 0) (r_mv rfl) ?_
  refine O_nil ?_
  refine C_seq ?_
  refine C_region ?_
  refine O_p (.p (some (F, 0))) (r_mv rfl) ?_
  refine O_p (.i .i64 0) (r_mv rfl) ?_
  refine O_call (Ev.mono (at_ev (k := 0) (np := 5) (by decide) hH0) fun v1 H2 hq3 => ?_)
  obtain ⟨rfl, hH4⟩ := hq3
  refine O_p (.p (some (Lb, (0 * 4 + 0)))) (r_mv rfl) ?_
  refine O_nil ?_
  refine C_seq ?_
  refine C_block ?_
  refine C_seq ?_
  refine C_region ?_
  refine O_p (.p (some (Lb, (0 * 4 + 0)))) (r_mv rfl) ?_
  refine O_p (.b false) (r_nilq_s rfl) ?_
  refine O_p (.b false) (r_mv rfl) ?_
  refine O_gk rfl ?_
  refine O_p (.s (txt tp)) (r_mv rfl) ?_
  refine O_gk rfl ?_
  refine O_p (.b false) (by exact (by rw [r_eqt (b := ([] : List UInt8)) rfl rfl, decide_eq_false (by intro h; rw [h] at htp; exact absurd htp.1 (by decide))])) ?_
  refine O_p (.b false) (r_pick_f rfl rfl) ?_
  refine O_p (.b false) (r_mv rfl) ?_
  refine O_nil ?_
  refine C_cond (x := false) rfl (fun h => by cases h) (fun _ => ?_)
  refine C_seq ?_
  refine C_region ?_
  refine O_p (.s (txt tp)) (r_mv rfl) ?_
  refine O_p (.i .i64 ((((tp).length : Nat)) : Int)) (r_lent (l := tp) rfl) ?_
  refine O_p (.b false) (by exact (by rw [r_gtr rfl rfl, decide_eq_false (by first | omega | assumption)])) ?_
  refine O_p (.b false) (r_mv rfl) ?_
  refine O_gk rfl ?_
  refine O_p (.sl da dd.length dc dg) (r_mv rfl) ?_
  refine O_gk rfl ?_
  refine O_p (.i .i64 (((dd.length : Nat)) : Int)) (r_len rfl) ?_
  refine O_gk rfl ?_
  refine O_p (.b false) (by exact (by rw [r_gtr rfl rfl, decide_eq_false (by first | omega | assumption)])) ?_
  refine O_p (.b false) (r_pick_f rfl rfl) ?_
  refine O_p (.b false) (r_mv rfl) ?_
  refine O_nil ?_
  refine C_cond (x := false) rfl (fun h => by cases h) (fun _ => ?_)
  refine C_seq ?_
  refine C_region ?_
  have hall5 : ∀ x ∈ ([(prow true (some m0) v0 l0), (prow true (some m1) (.sl none 0 0 0) 0), (prow true (some m2) (.sl none 0 0 0) 0), zrow, (prow true (some m4) (.sl none 0 0 0) 0)] : List (List AV)), x.length = 4 := fun x hx => by simp only [List.mem_cons, List.not_mem_nil, or_false] at hx; rcases hx with rfl | rfl | rfl | rfl | rfl <;> rfl
  have hH6 : Hs H2 ([(F, some (.cells ([(.sl (some (Lb, 0)) 5 5 0), (.i .i64 ((9 : Nat) : Int)), (.m (some cm))]) true))] ++ ([(Lb, some (.cells (((([(prow true (some m0) v0 l0), (prow true (some m1) (.sl none 0 0 0) 0), (prow true (some m2) (.sl none 0 0 0) 0), zrow, (prow true (some m4) (.sl none 0 0 0) 0)] : List (List AV))).set 0 (prow true (some m0) v0 l0)).flatten) true))] ++ ([(cm, some cb)] ++ ([(m1, some mb1)] ++ ([(m2, some mb2)] ++ ([(m4, some mb4)] ++ (B ++ (R)))))))) := hH4
  have hH7 := (Hs.addnil hH6 : Hs _ (([] : HL) ++ _))
  refine O_p (.p (some (Lb, (0 * 4 + 0)))) (r_mv rfl) ?_
  refine O_p (.p (some (Lb, (0 * 4 + 0)))) (r_nilc rfl) ?_
  refine O_p (.p (some (Lb, (0 * 4 + 0)))) (r_fadd' rfl rfl) ?_
  refine O_p (.b true) (by exact (r_ld rfl hH7.get2 ((foc_get hall5 (Nat.le_of_ble_eq_true rfl) rfl (by decide)).trans rfl))) ?_
  refine O_p (.b false) (r_un rfl rfl) ?_
  refine O_p (.b false) (r_mv rfl) ?_
  refine O_nil ?_
  refine C_cond (x := false) rfl (fun h => by cases h) (fun _ => ?_)
  refine C_skip ?_
  refine C_seq ?_
  refine C_region ?_
  refine O_p (.s (txt tp)) (r_mv rfl) ?_
  refine O_p (.i .i64 0) (r_mv rfl) ?_
  refine O_p (.p (some (F, 0))) (r_mv rfl) ?_
  refine O_p (.p (some (F, 0))) (r_nilc rfl) ?_
  refine O_p (.p (some (F, 2))) (r_fadd' rfl rfl) ?_
  refine O_p (.m (some cm)) (r_ld rfl hH7.get1 rfl) ?_
  refine O_p (.s (txt tp)) (r_mv rfl) ?_
  refine O_p (.i .i64 0) (by exact ((r_mget (m := cmL) (k := tp) hH7.get3 hcb rfl rfl false).trans (by first | (rw [hcg]; rfl) | rw [hcg]))) ?_
  refine O_p (.b tx) (r_mv rfl) ?_
  refine O_p (.agg [(.s (txt tp)), (.i .i64 0), (.i .i64 0), (.b tx), (.sl none 0 0 0)]) (r_build rfl) ?_
  refine O_alloc fun n8 H9 hN10 => ?_
  have hH11 := hH7.new hN10
  refine O_store (vs := [(.s (txt tp)), (.i .i64 0), (.i .i64 0), (.b tx), (.sl none 0 0 0)]) (c' := [(.s (txt tp)), (.i .i64 0), (.i .i64 0), (.b tx), (.sl none 0 0 0)]) rfl (by rfl) hH11.get0 rfl (List.cons_ne_nil _ _) (Nat.le_of_ble_eq_true rfl) rfl fun H12 hW13 => ?_
  have hH14 := hH11.wr0 hW13
  refine O_nil ?_
  refine C_seq ?_
  refine C_region ?_
  refine O_p (.p (some (F, 0))) (r_mv rfl) ?_
  refine O_p (.p (some (F, 0))) (r_nilc rfl) ?_
  refine O_p (.p (some (F, 2))) (r_fadd' rfl rfl) ?_
  refine O_p (.m (some cm)) (r_ld rfl hH14.get2 rfl) ?_
  refine O_p (.s (txt tp)) (r_mv rfl) ?_
  refine O_p (.i .i64 0) (by exact ((r_mget (m := cmL) (k := tp) hH14.get4 hcb rfl rfl false).trans (by first | (rw [hcg]; rfl) | rw [hcg]))) ?_
  refine O_p (.i .i64 1) (r_bin rfl rfl rfl) ?_
  refine O_nh (by exact r_mput (k := tp) (v := (.i .i64 1)) hH14.top4 hcb rfl rfl rfl) fun H15 hA16 => ?_
  obtain ⟨bm17, hMb18, hH19⟩ := hA16
  refine O_nil ?_
  refine C_seq ?_
  refine C_region ?_
  refine O_p (.i .i64 0) (r_mv rfl) ?_
  refine O_nil ?_
  refine C_seq ?_
  refine C_seq ?_
  refine C_region ?_
  refine O_p (.p (some (F, 0))) (r_mv rfl) ?_
  refine O_p (.p (some (F, 0))) (r_nilc rfl) ?_
  refine O_p (.p (some (F, 0))) (r_fadd' rfl rfl) ?_
  refine O_p (.sl (some (Lb, 0)) 5 5 0) (r_ld rfl hH19.get3 rfl) ?_
  refine O_p (.i .i64 5) (r_len rfl) ?_
  refine O_p (.i .i64 0) (r_mv rfl) ?_
  refine O_nil ?_
  refine C_block ?_
  refine C_loop ?_
  refine C_seq ?_
  refine C_region ?_
  refine O_p (.b true) (r_bin rfl rfl rfl) ?_
  refine O_nil ?_
  refine C_seq ?_
  refine C_cond (x := true) rfl (fun _ => ?_) (fun h => by cases h)
  refine C_skip ?_
  refine C_seq ?_
  refine C_block ?_
  refine C_seq ?_
  refine C_region ?_
  refine O_p (.i .i64 0) (r_mv rfl) ?_
  refine O_p (.i .i64 0) (r_mv rfl) ?_
  refine O_nil ?_
  refine C_seq ?_
  refine C_region ?_
  refine O_p (.sl da dd.length dc dg) (r_mv rfl) ?_
  refine O_call (Ev.mono (clone_ev (tab := tabA) (sp := spA) rfl hH19.ok hdg (hdb _ hH19.top8.fst) (by first | omega | (simp only [List.length_take, List.length_drop, List.length_append, List.length_cons, List.length_nil, beN_len] <;> omega)) (by first | omega | (simp only [List.length_take, List.length_drop, List.length_append, List.length_cons, List.length_nil, beN_len] <;> omega)) (by first | omega | (simp only [List.length_take, List.length_drop, List.length_append, List.length_cons, List.length_nil, beN_len] <;> omega))) fun v20 H21 hq22 => ?_)
  obtain ⟨hM23, hK24⟩ := hq22
  obtain ⟨qa25, qg26, rfl, hqg27, _⟩ := hM23.own.bs
  have hH29 := Hs.ofMine hH19 hM23 hK24
  have hSq28 := Sq.ofMine hH19 hM23 hK24
  have hH30 := (hH29.top3)
  have hH31 := Hs.unassoc hH30
  refine O_p (.p (some (n8, 4))) (r_fadd' rfl rfl) ?_
  refine O_store (vs := [(.sl qa25 (dd).length (dd).length qg26)]) (c' := [(.s (txt tp)), (.i .i64 0), (.i .i64 0), (.b tx), (.sl qa25 (dd).length (dd).length qg26)]) rfl (by rfl) hH31.get2 rfl (List.cons_ne_nil _ _) (Nat.le_of_ble_eq_true rfl) rfl fun H32 hW33 => ?_
  have hH34 := hH31.wr2 hW33
  refine O_nil ?_
  refine C_seq ?_
  refine C_draw fun b35 H36 hbase37 hA38 => ?_
  have hH39 := hH34.keep (by have := hA38.1; omega) (fun q _ => hA38.2 q) ((hH34.old).aside hA38).ok
  refine D_l (v := (.i .i64 0)) rfl rfl rfl (r_mv rfl) ?_
  refine D_l (v := (.i .i64 0)) rfl rfl rfl (r_mv rfl) ?_
  refine D_l (v := (.b false)) rfl rfl rfl (r_bin rfl rfl rfl) ?_
  refine D_l (v := (.b false)) rfl rfl rfl (r_mv rfl) ?_
  refine D_gf rfl ?_
  refine D_gf rfl ?_
  refine D_gf rfl ?_
  refine D_gf rfl ?_
  refine D_gf rfl ?_
  refine D_gf rfl ?_
  refine D_gf rfl ?_
  refine D_gf rfl ?_
  refine D_gf rfl ?_
  refine D_gf rfl ?_
  refine D_gf rfl ?_
  refine D_gf rfl ?_
  refine D_l (v := (.b false)) rfl rfl rfl (r_pick_f rfl rfl) ?_
  refine D_nil ?_
  refine C_cond (x := false) rfl (fun h => by cases h) (fun _ => ?_)
  refine C_skip ?_
  refine C_region ?_
  refine O_p (.i .i64 1) (r_bin rfl rfl rfl) ?_
  refine O_p (.i .i64 1) (r_mv rfl) ?_
  refine O_nil ?_
  refine C_loop ?_
  refine C_seq ?_
  refine C_region ?_
  refine O_p (.b true) (r_bin rfl rfl rfl) ?_
  refine O_nil ?_
  refine C_seq ?_
  refine C_cond (x := true) rfl (fun _ => ?_) (fun h => by cases h)
  refine C_skip ?_
  refine C_seq ?_
  refine C_block ?_
  refine C_seq ?_
  refine C_region ?_
  refine O_p (.i .i64 1) (r_mv rfl) ?_
  refine O_p (.i .i64 1) (r_mv rfl) ?_
  refine O_nil ?_
  refine C_seq ?_
  refine C_region ?_
  refine O_p (.sl da dd.length dc dg) (r_mv rfl) ?_
  refine O_call (Ev.mono (clone_ev (tab := tabA) (sp := spA) rfl hH39.ok hdg (hdb _ hH39.top8.fst) (by first | omega | (simp only [List.length_take, List.length_drop, List.length_append, List.length_cons, List.length_nil, beN_len] <;> omega)) (by first | omega | (simp only [List.length_take, List.length_drop, List.length_append, List.length_cons, List.length_nil, beN_len] <;> omega)) (by first | omega | (simp only [List.length_take, List.length_drop, List.length_append, List.length_cons, List.length_nil, beN_len] <;> omega))) fun v40 H41 hq42 => ?_)
  obtain ⟨hM43, hK44⟩ := hq42
  obtain ⟨qa45, qg46, rfl, hqg47, _⟩ := hM43.own.bs
  have hH49 := Hs.ofMine hH39 hM43 hK44
  have hSq48 := Sq.ofMine hH39 hM43 hK44
  have hH50 := (hH49.top1)
  have hH51 := Hs.unassoc hH50
  refine O_p (.p (some (n8, 4))) (r_fadd' rfl rfl) ?_
  refine O_store (vs := [(.sl qa45 (dd).length (dd).length qg46)]) (c' := [(.s (txt tp)), (.i .i64 0), (.i .i64 0), (.b tx), (.sl qa45 (dd).length (dd).length qg46)]) rfl (by rfl) hH51.get2 rfl (List.cons_ne_nil _ _) (Nat.le_of_ble_eq_true rfl) rfl fun H52 hW53 => ?_
  have hH54 := hH51.wr2 hW53
  refine O_nil ?_
  refine C_seq ?_
  refine C_draw fun b55 H56 hbase57 hA58 => ?_
  have hH59 := hH54.keep (by have := hA58.1; omega) (fun q _ => hA58.2 q) ((hH54.old).aside hA58).ok
  refine D_l (v := (.i .i64 1)) rfl rfl rfl (r_mv rfl) ?_
  refine D_l (v := (.i .i64 0)) rfl rfl rfl (r_mv rfl) ?_
  refine D_l (v := (.b true)) rfl rfl rfl (r_bin rfl rfl rfl) ?_
  refine D_l (v := (.b true)) rfl rfl rfl (r_mv rfl) ?_
  refine D_gk rfl ?_
  refine D_l (v := (.p (some (F, 0)))) rfl rfl rfl (r_mv rfl) ?_
  refine D_gk rfl ?_
  refine D_l (v := (.p (some (F, 0)))) rfl rfl rfl (r_nilc rfl) ?_
  refine D_gk rfl ?_
  refine D_l (v := (.p (some (F, 0)))) rfl rfl rfl (r_fadd' rfl rfl) ?_
  refine D_gk rfl ?_
  refine D_l (v := (.i .i64 1)) rfl rfl rfl (r_mv rfl) ?_
  refine D_gk rfl ?_
  refine D_l (v := (.p (some (F, 0)))) rfl rfl rfl (r_mv rfl) ?_
  refine D_gk rfl ?_
  refine D_l (v := (.p (some (F, 0)))) rfl rfl rfl (r_nilc rfl) ?_
  refine D_gk rfl ?_
  refine D_l (v := (.p (some (F, 1)))) rfl rfl rfl (r_fadd' rfl rfl) ?_
  refine D_gk rfl ?_
  refine D_r (v := (.sl (some (Lb, 0)) 5 5 0)) rfl rfl rfl (r_ld rfl hH59.get3 rfl) ?_
  refine D_gk rfl ?_
  refine D_l (v := (.p (some (Lb, (1 * 4 + 0))))) rfl rfl rfl (by exact (r_islr (b := Lb) (k := 1) (len := 5) (cap := 5) (g := 0) rfl rfl (by decide))) ?_
  refine D_gk rfl ?_
  refine D_r (v := (.agg [(.s (txt tp)), (.i .i64 0), (.i .i64 0), (.b tx), (.sl qa45 (dd).length (dd).length qg46)])) rfl rfl rfl (r_ldA rfl hH59.get2 rfl) ?_
  refine D_gk rfl ?_
  refine D_r (v := (.i .i64 ((9 : Nat) : Int))) rfl rfl rfl (r_ld rfl hH59.get3 rfl) ?_
  refine D_gk rfl ?_
  have hall60 : ∀ x ∈ ([(prow true (some m0) v0 l0), (prow true (some m1) (.sl none 0 0 0) 0), (prow true (some m2) (.sl none 0 0 0) 0), zrow, (prow true (some m4) (.sl none 0 0 0) 0)] : List (List AV)), x.length = 4 := fun x hx => by simp only [List.mem_cons, List.not_mem_nil, or_false] at hx; rcases hx with rfl | rfl | rfl | rfl | rfl <;> rfl
  have hH61 := (Hs.addnil hH59 : Hs _ (qseg (.sl none 0 0 0) [] ++ _))
  have hH62 := ((hH61.top6).top6)
  have hH63 : Hs H56 ([(Lb, some (.cells ((([(prow true (some m0) v0 l0), (prow true (some m1) (.sl none 0 0 0) 0), (prow true (some m2) (.sl none 0 0 0) 0), zrow, (prow true (some m4) (.sl none 0 0 0) 0)] : List (List AV)).set 1 (prow true (some m1) (.sl none 0 0 0) 0)).flatten) true))] ++ ([(m1, some mb1)] ++ ((qseg (.sl none 0 0 0) ([])) ++ (((([] : HL) ++ (qseg (.sl qa25 (dd).length (dd).length qg26) (bcells dd))) ++ (qseg (.sl qa45 (dd).length (dd).length qg46) (bcells dd))) ++ ([(cm, some bm17)] ++ ([(n8, some (.cells ([(.s (txt tp)), (.i .i64 0), (.i .i64 0), (.b tx), (.sl qa45 (dd).length (dd).length qg46)]) true))] ++ ([(F, some (.cells ([(.sl (some (Lb, 0)) 5 5 0), (.i .i64 ((9 : Nat) : Int)), (.m (some cm))]) true))] ++ ([(m2, some mb2)] ++ ([(m4, some mb4)] ++ (B ++ (R))))))))))) := hH62
  have hH64 := (((hH63.top2).top2).top2)
  refine D_call (Ev.mono (hand_no (mode := 0) (i := 1) (rws := ([(prow true (some m0) v0 l0), (prow true (some m1) (.sl none 0 0 0) 0), (prow true (some m2) (.sl none 0 0 0) 0), zrow, (prow true (some m4) (.sl none 0 0 0) 0)] : List (List AV))) hall60 (Nat.le_of_ble_eq_true rfl) (rows := []) Sq.nil (fun x hx => absurd hx (List.not_mem_nil)) hmb1 ⟨Int.le_refl 0, by decide⟩ (Nat.zero_le _) hg1 hH64) fun v65 H66 hq67 => ?_)
  obtain ⟨rfl, hH68⟩ := hq67
  refine And.intro (And.intro (Or.inl rfl) (And.intro (Or.inl rfl) (And.intro (Or.inl rfl) True.intro))) ?_
  refine D_l (v := (.b false)) rfl rfl rfl (r_pick_t rfl rfl) ?_
  refine D_nil ?_
  refine C_cond (x := false) rfl (fun h => by cases h) (fun _ => ?_)
  refine C_skip ?_
  refine C_region ?_
  refine O_p (.i .i64 2) (r_bin rfl rfl rfl) ?_
  refine O_p (.i .i64 2) (r_mv rfl) ?_
  refine O_nil ?_
  refine C_loop ?_
  refine C_seq ?_
  refine C_region ?_
  refine O_p (.b true) (r_bin rfl rfl rfl) ?_
  refine O_nil ?_
  refine C_seq ?_
  refine C_cond (x := true) rfl (fun _ => ?_) (fun h => by cases h)
  refine C_skip ?_
  refine C_seq ?_
  refine C_block ?_
  refine C_seq ?_
  refine C_region ?_
  refine O_p (.i .i64 2) (r_mv rfl) ?_
  refine O_p (.i .i64 2) (r_mv rfl) ?_
  refine O_nil ?_
  refine C_seq ?_
  refine C_region ?_
  refine O_p (.sl da dd.length dc dg) (r_mv rfl) ?_
  refine O_call (Ev.mono (clone_ev (tab := tabA) (sp := spA) rfl hH68.ok hdg (hdb _ hH68.top9.fst) (by first | omega | (simp only [List.length_take, List.length_drop, List.length_append, List.length_cons, List.length_nil, beN_len] <;> omega)) (by first | omega | (simp only [List.length_take, List.length_drop, List.length_append, List.length_cons, List.length_nil, beN_len] <;> omega)) (by first | omega | (simp only [List.length_take, List.length_drop, List.length_append, List.length_cons, List.length_nil, beN_len] <;> omega))) fun v69 H70 hq71 => ?_)
  obtain ⟨hM72, hK73⟩ := hq71
  obtain ⟨qa74, qg75, rfl, hqg76, _⟩ := hM72.own.bs
  have hH78 := Hs.ofMine hH68 hM72 hK73
  have hSq77 := Sq.ofMine hH68 hM72 hK73
  have hH79 := (hH78.top4)
  have hH80 := Hs.unassoc hH79
  refine O_p (.p (some (n8, 4))) (r_fadd' rfl rfl) ?_
  refine O_store (vs := [(.sl qa74 (dd).length (dd).length qg75)]) (c' := [(.s (txt tp)), (.i .i64 0), (.i .i64 0), (.b tx), (.sl qa74 (dd).length (dd).length qg75)]) rfl (by rfl) hH80.get5 rfl (List.cons_ne_nil _ _) (Nat.le_of_ble_eq_true rfl) rfl fun H81 hW82 => ?_
  have hH83 := hH80.wr5 hW82
  refine O_nil ?_
  refine C_seq ?_
  refine C_draw fun b84 H85 hbase86 hA87 => ?_
  have hH88 := hH83.keep (by have := hA87.1; omega) (fun q _ => hA87.2 q) ((hH83.old).aside hA87).ok
  refine D_l (v := (.i .i64 2)) rfl rfl rfl (r_mv rfl) ?_
  refine D_l (v := (.i .i64 0)) rfl rfl rfl (r_mv rfl) ?_
  refine D_l (v := (.b true)) rfl rfl rfl (r_bin rfl rfl rfl) ?_
  refine D_l (v := (.b true)) rfl rfl rfl (r_mv rfl) ?_
  refine D_gk rfl ?_
  refine D_l (v := (.p (some (F, 0)))) rfl rfl rfl (r_mv rfl) ?_
  refine D_gk rfl ?_
  refine D_l (v := (.p (some (F, 0)))) rfl rfl rfl (r_nilc rfl) ?_
  refine D_gk rfl ?_
  refine D_l (v := (.p (some (F, 0)))) rfl rfl rfl (r_fadd' rfl rfl) ?_
  refine D_gk rfl ?_
  refine D_l (v := (.i .i64 2)) rfl rfl rfl (r_mv rfl) ?_
  refine D_gk rfl ?_
  refine D_l (v := (.p (some (F, 0)))) rfl rfl rfl (r_mv rfl) ?_
  refine D_gk rfl ?_
  refine D_l (v := (.p (some (F, 0)))) rfl rfl rfl (r_nilc rfl) ?_
  refine D_gk rfl ?_
  refine D_l (v := (.p (some (F, 1)))) rfl rfl rfl (r_fadd' rfl rfl) ?_
  refine D_gk rfl ?_
  refine D_r (v := (.sl (some (Lb, 0)) 5 5 0)) rfl rfl rfl (r_ld rfl hH88.get6 rfl) ?_
  refine D_gk rfl ?_
  refine D_l (v := (.p (some (Lb, (2 * 4 + 0))))) rfl rfl rfl (by exact (r_islr (b := Lb) (k := 2) (len := 5) (cap := 5) (g := 0) rfl rfl (by decide))) ?_
  refine D_gk rfl ?_
  refine D_r (v := (.agg [(.s (txt tp)), (.i .i64 0), (.i .i64 0), (.b tx), (.sl qa74 (dd).length (dd).length qg75)])) rfl rfl rfl (r_ldA rfl hH88.get5 rfl) ?_
  refine D_gk rfl ?_
  refine D_r (v := (.i .i64 ((9 : Nat) : Int))) rfl rfl rfl (r_ld rfl hH88.get6 rfl) ?_
  refine D_gk rfl ?_
  have hall89 : ∀ x ∈ ([(prow true (some m0) v0 l0), (prow true (some m1) (.sl none 0 0 0) 0), (prow true (some m2) (.sl none 0 0 0) 0), zrow, (prow true (some m4) (.sl none 0 0 0) 0)] : List (List AV)), x.length = 4 := fun x hx => by simp only [List.mem_cons, List.not_mem_nil, or_false] at hx; rcases hx with rfl | rfl | rfl | rfl | rfl <;> rfl
  have hH90 := (((hH88.top3).top7).top3)
  have hH91 : Hs H85 ([(Lb, some (.cells ((([(prow true (some m0) v0 l0), (prow true (some m1) (.sl none 0 0 0) 0), (prow true (some m2) (.sl none 0 0 0) 0), zrow, (prow true (some m4) (.sl none 0 0 0) 0)] : List (List AV)).set 2 (prow true (some m2) (.sl none 0 0 0) 0)).flatten) true))] ++ ([(m2, some mb2)] ++ ((qseg (.sl none 0 0 0) ([])) ++ ((((([] : HL) ++ (qseg (.sl qa25 (dd).length (dd).length qg26) (bcells dd))) ++ (qseg (.sl qa45 (dd).length (dd).length qg46) (bcells dd))) ++ (qseg (.sl qa74 (dd).length (dd).length qg75) (bcells dd))) ++ ([(m1, some mb1)] ++ ([(cm, some bm17)] ++ ([(n8, some (.cells ([(.s (txt tp)), (.i .i64 0), (.i .i64 0), (.b tx), (.sl qa74 (dd).length (dd).length qg75)]) true))] ++ ([(F, some (.cells ([(.sl (some (Lb, 0)) 5 5 0), (.i .i64 ((9 : Nat) : Int)), (.m (some cm))]) true))] ++ ([(m4, some mb4)] ++ (B ++ (R))))))))))) := hH90
  have hH92 := (((hH91.top2).top2).top2)
  refine D_call (Ev.mono (hand_no (mode := 0) (i := 2) (rws := ([(prow true (some m0) v0 l0), (prow true (some m1) (.sl none 0 0 0) 0), (prow true (some m2) (.sl none 0 0 0) 0), zrow, (prow true (some m4) (.sl none 0 0 0) 0)] : List (List AV))) hall89 (Nat.le_of_ble_eq_true rfl) (rows := []) Sq.nil (fun x hx => absurd hx (List.not_mem_nil)) hmb2 ⟨Int.le_refl 0, by decide⟩ (Nat.zero_le _) hg2 hH92) fun v93 H94 hq95 => ?_)
  obtain ⟨rfl, hH96⟩ := hq95
  refine And.intro (And.intro (Or.inl rfl) (And.intro (Or.inl rfl) (And.intro (Or.inl rfl) True.intro))) ?_
  refine D_l (v := (.b false)) rfl rfl rfl (r_pick_t rfl rfl) ?_
  refine D_nil ?_
  refine C_cond (x := false) rfl (fun h => by cases h) (fun _ => ?_)
  refine C_skip ?_
  refine C_region ?_
  refine O_p (.i .i64 3) (r_bin rfl rfl rfl) ?_
  refine O_p (.i .i64 3) (r_mv rfl) ?_
  refine O_nil ?_
  refine C_loop ?_
  refine C_seq ?_
  refine C_region ?_
  refine O_p (.b true) (r_bin rfl rfl rfl) ?_
  refine O_nil ?_
  refine C_seq ?_
  refine C_cond (x := true) rfl (fun _ => ?_) (fun h => by cases h)
  refine C_skip ?_
  refine C_seq ?_
  refine C_block ?_
  refine C_seq ?_
  refine C_region ?_
  refine O_p (.i .i64 3) (r_mv rfl) ?_
  refine O_p (.i .i64 3) (r_mv rfl) ?_
  refine O_nil ?_
  refine C_seq ?_
  refine C_region ?_
  refine O_p (.sl da dd.length dc dg) (r_mv rfl) ?_
  refine O_call (Ev.mono (clone_ev (tab := tabA) (sp := spA) rfl hH96.ok hdg (hdb _ hH96.top9.fst) (by first | omega | (simp only [List.length_take, List.length_drop, List.length_append, List.length_cons, List.length_nil, beN_len] <;> omega)) (by first | omega | (simp only [List.length_take, List.length_drop, List.length_append, List.length_cons, List.length_nil, beN_len] <;> omega)) (by first | omega | (simp only [List.length_take, List.length_drop, List.length_append, List.length_cons, List.length_nil, beN_len] <;> omega))) fun v97 H98 hq99 => ?_)
  obtain ⟨hM100, hK101⟩ := hq99
  obtain ⟨qa102, qg103, rfl, hqg104, _⟩ := hM100.own.bs
  have hH106 := Hs.ofMine hH96 hM100 hK101
  have hSq105 := Sq.ofMine hH96 hM100 hK101
  have hH107 := (hH106.top4)
  have hH108 := Hs.unassoc hH107
  refine O_p (.p (some (n8, 4))) (r_fadd' rfl rfl) ?_
  refine O_store (vs := [(.sl qa102 (dd).length (dd).length qg103)]) (c' := [(.s (txt tp)), (.i .i64 0), (.i .i64 0), (.b tx), (.sl qa102 (dd).length (dd).length qg103)]) rfl (by rfl) hH108.get6 rfl (List.cons_ne_nil _ _) (Nat.le_of_ble_eq_true rfl) rfl fun H109 hW110 => ?_
  have hH111 := hH108.wr6 hW110
  refine O_nil ?_
  refine C_seq ?_
  refine C_draw fun b112 H113 hbase114 hA115 => ?_
  have hH116 := hH111.keep (by have := hA115.1; omega) (fun q _ => hA115.2 q) ((hH111.old).aside hA115).ok
  refine D_l (v := (.i .i64 3)) rfl rfl rfl (r_mv rfl) ?_
  refine D_l (v := (.i .i64 0)) rfl rfl rfl (r_mv rfl) ?_
  refine D_l (v := (.b true)) rfl rfl rfl (r_bin rfl rfl rfl) ?_
  refine D_l (v := (.b true)) rfl rfl rfl (r_mv rfl) ?_
  refine D_gk rfl ?_
  refine D_l (v := (.p (some (F, 0)))) rfl rfl rfl (r_mv rfl) ?_
  refine D_gk rfl ?_
  refine D_l (v := (.p (some (F, 0)))) rfl rfl rfl (r_nilc rfl) ?_
  refine D_gk rfl ?_
  refine D_l (v := (.p (some (F, 0)))) rfl rfl rfl (r_fadd' rfl rfl) ?_
  refine D_gk rfl ?_
  refine D_l (v := (.i .i64 3)) rfl rfl rfl (r_mv rfl) ?_
  refine D_gk rfl ?_
  refine D_l (v := (.p (some (F, 0)))) rfl rfl rfl (r_mv rfl) ?_
  refine D_gk rfl ?_
  refine D_l (v := (.p (some (F, 0)))) rfl rfl rfl (r_nilc rfl) ?_
  refine D_gk rfl ?_
  refine D_l (v := (.p (some (F, 1)))) rfl rfl rfl (r_fadd' rfl rfl) ?_
  refine D_gk rfl ?_
  refine D_r (v := (.sl (some (Lb, 0)) 5 5 0)) rfl rfl rfl (r_ld rfl hH116.get7 rfl) ?_
  refine D_gk rfl ?_
  refine D_l (v := (.p (some (Lb, (3 * 4 + 0))))) rfl rfl rfl (by exact (r_islr (b := Lb) (k := 3) (len := 5) (cap := 5) (g := 0) rfl rfl (by decide))) ?_
  refine D_gk rfl ?_
  refine D_r (v := (.agg [(.s (txt tp)), (.i .i64 0), (.i .i64 0), (.b tx), (.sl qa102 (dd).length (dd).length qg103)])) rfl rfl rfl (r_ldA rfl hH116.get6 rfl) ?_
  refine D_gk rfl ?_
  refine D_r (v := (.i .i64 ((9 : Nat) : Int))) rfl rfl rfl (r_ld rfl hH116.get7 rfl) ?_
  refine D_gk rfl ?_
  have hall117 : ∀ x ∈ ([(prow true (some m0) v0 l0), (prow true (some m1) (.sl none 0 0 0) 0), (prow true (some m2) (.sl none 0 0 0) 0), zrow, (prow true (some m4) (.sl none 0 0 0) 0)] : List (List AV)), x.length = 4 := fun x hx => by simp only [List.mem_cons, List.not_mem_nil, or_false] at hx; rcases hx with rfl | rfl | rfl | rfl | rfl <;> rfl
  have hH118 := (hH116.top1)
  have hH119 : Hs H113 ([(Lb, some (.cells ((([(prow true (some m0) v0 l0), (prow true (some m1) (.sl none 0 0 0) 0), (prow true (some m2) (.sl none 0 0 0) 0), zrow, (prow true (some m4) (.sl none 0 0 0) 0)] : List (List AV)).set 3 (prow false none (.sl none 0 0 0) 0)).flatten) true))] ++ (((((([] : HL) ++ (qseg (.sl qa25 (dd).length (dd).length qg26) (bcells dd))) ++ (qseg (.sl qa45 (dd).length (dd).length qg46) (bcells dd))) ++ (qseg (.sl qa74 (dd).length (dd).length qg75) (bcells dd))) ++ (qseg (.sl qa102 (dd).length (dd).length qg103) (bcells dd))) ++ ([(m2, some mb2)] ++ ((qseg (.sl none 0 0 0) ([])) ++ ([(m1, some mb1)] ++ ([(cm, some bm17)] ++ ([(n8, some (.cells ([(.s (txt tp)), (.i .i64 0), (.i .i64 0), (.b tx), (.sl qa102 (dd).length (dd).length qg103)]) true))] ++ ([(F, some (.cells ([(.sl (some (Lb, 0)) 5 5 0), (.i .i64 ((9 : Nat) : Int)), (.m (some cm))]) true))] ++ ([(m4, some mb4)] ++ (B ++ (R))))))))))) := hH118
  refine D_call (Ev.mono (hand_off (i := 3) (rws := ([(prow true (some m0) v0 l0), (prow true (some m1) (.sl none 0 0 0) 0), (prow true (some m2) (.sl none 0 0 0) 0), zrow, (prow true (some m4) (.sl none 0 0 0) 0)] : List (List AV))) hall117 (Nat.le_of_ble_eq_true rfl) hH119) fun v120 H121 hq122 => ?_)
  obtain ⟨rfl, hH123⟩ := hq122
  refine And.intro (And.intro (Or.inl rfl) (And.intro (Or.inl rfl) (And.intro (Or.inl rfl) True.intro))) ?_
  refine D_l (v := (.b false)) rfl rfl rfl (r_pick_t rfl rfl) ?_
  refine D_nil ?_
  refine C_cond (x := false) rfl (fun h => by cases h) (fun _ => ?_)
  refine C_skip ?_
  refine C_region ?_
  refine O_p (.i .i64 4) (r_bin rfl rfl rfl) ?_
  refine O_p (.i .i64 4) (r_mv rfl) ?_
  refine O_nil ?_
  refine C_loop ?_
  refine C_seq ?_
  refine C_region ?_
  refine O_p (.b true) (r_bin rfl rfl rfl) ?_
  refine O_nil ?_
  refine C_seq ?_
  refine C_cond (x := true) rfl (fun _ => ?_) (fun h => by cases h)
  refine C_skip ?_
  refine C_seq ?_
  refine C_block ?_
  refine C_seq ?_
  refine C_region ?_
  refine O_p (.i .i64 4) (r_mv rfl) ?_
  refine O_p (.i .i64 4) (r_mv rfl) ?_
  refine O_nil ?_
  refine C_seq ?_
  refine C_region ?_
  refine O_p (.sl da dd.length dc dg) (r_mv rfl) ?_
  refine O_call (Ev.mono (clone_ev (tab := tabA) (sp := spA) rfl hH123.ok hdg (hdb _ hH123.top9.fst) (by first | omega | (simp only [List.length_take, List.length_drop, List.length_append, List.length_cons, List.length_nil, beN_len] <;> omega)) (by first | omega | (simp only [List.length_take, List.length_drop, List.length_append, List.length_cons, List.length_nil, beN_len] <;> omega)) (by first | omega | (simp only [List.length_take, List.length_drop, List.length_append, List.length_cons, List.length_nil, beN_len] <;> omega))) fun v124 H125 hq126 => ?_)
  obtain ⟨hM127, hK128⟩ := hq126
  obtain ⟨qa129, qg130, rfl, hqg131, _⟩ := hM127.own.bs
  have hH133 := Hs.ofMine hH123 hM127 hK128
  have hSq132 := Sq.ofMine hH123 hM127 hK128
  have hH134 := (hH133.top2)
  have hH135 := Hs.unassoc hH134
  refine O_p (.p (some (n8, 4))) (r_fadd' rfl rfl) ?_
  refine O_store (vs := [(.sl qa129 (dd).length (dd).length qg130)]) (c' := [(.s (txt tp)), (.i .i64 0), (.i .i64 0), (.b tx), (.sl qa129 (dd).length (dd).length qg130)]) rfl (by rfl) hH135.get6 rfl (List.cons_ne_nil _ _) (Nat.le_of_ble_eq_true rfl) rfl fun H136 hW137 => ?_
  have hH138 := hH135.wr6 hW137
  refine O_nil ?_
  refine C_seq ?_
  refine C_draw fun b139 H140 hbase141 hA142 => ?_
  have hH143 := hH138.keep (by have := hA142.1; omega) (fun q _ => hA142.2 q) ((hH138.old).aside hA142).ok
  refine D_l (v := (.i .i64 4)) rfl rfl rfl (r_mv rfl) ?_
  refine D_l (v := (.i .i64 0)) rfl rfl rfl (r_mv rfl) ?_
  refine D_l (v := (.b true)) rfl rfl rfl (r_bin rfl rfl rfl) ?_
  refine D_l (v := (.b true)) rfl rfl rfl (r_mv rfl) ?_
  refine D_gk rfl ?_
  refine D_l (v := (.p (some (F, 0)))) rfl rfl rfl (r_mv rfl) ?_
  refine D_gk rfl ?_
  refine D_l (v := (.p (some (F, 0)))) rfl rfl rfl (r_nilc rfl) ?_
  refine D_gk rfl ?_
  refine D_l (v := (.p (some (F, 0)))) rfl rfl rfl (r_fadd' rfl rfl) ?_
  refine D_gk rfl ?_
  refine D_l (v := (.i .i64 4)) rfl rfl rfl (r_mv rfl) ?_
  refine D_gk rfl ?_
  refine D_l (v := (.p (some (F, 0)))) rfl rfl rfl (r_mv rfl) ?_
  refine D_gk rfl ?_
  refine D_l (v := (.p (some (F, 0)))) rfl rfl rfl (r_nilc rfl) ?_
  refine D_gk rfl ?_
  refine D_l (v := (.p (some (F, 1)))) rfl rfl rfl (r_fadd' rfl rfl) ?_
  refine D_gk rfl ?_
  refine D_r (v := (.sl (some (Lb, 0)) 5 5 0)) rfl rfl rfl (r_ld rfl hH143.get7 rfl) ?_
  refine D_gk rfl ?_
  refine D_l (v := (.p (some (Lb, (4 * 4 + 0))))) rfl rfl rfl (by exact (r_islr (b := Lb) (k := 4) (len := 5) (cap := 5) (g := 0) rfl rfl (by decide))) ?_
  refine D_gk rfl ?_
  refine D_r (v := (.agg [(.s (txt tp)), (.i .i64 0), (.i .i64 0), (.b tx), (.sl qa129 (dd).length (dd).length qg130)])) rfl rfl rfl (r_ldA rfl hH143.get6 rfl) ?_
  refine D_gk rfl ?_
  refine D_r (v := (.i .i64 ((9 : Nat) : Int))) rfl rfl rfl (r_ld rfl hH143.get7 rfl) ?_
  refine D_gk rfl ?_
  have hall144 : ∀ x ∈ ([(prow true (some m0) v0 l0), (prow true (some m1) (.sl none 0 0 0) 0), (prow true (some m2) (.sl none 0 0 0) 0), zrow, (prow true (some m4) (.sl none 0 0 0) 0)] : List (List AV)), x.length = 4 := fun x hx => by simp only [List.mem_cons, List.not_mem_nil, or_false] at hx; rcases hx with rfl | rfl | rfl | rfl | rfl <;> rfl
  have hH145 := (((hH143.top3).top8).top3)
  have hH146 : Hs H140 ([(Lb, some (.cells ((([(prow true (some m0) v0 l0), (prow true (some m1) (.sl none 0 0 0) 0), (prow true (some m2) (.sl none 0 0 0) 0), zrow, (prow true (some m4) (.sl none 0 0 0) 0)] : List (List AV)).set 4 (prow true (some m4) (.sl none 0 0 0) 0)).flatten) true))] ++ ([(m4, some mb4)] ++ ((qseg (.sl none 0 0 0) ([])) ++ ((((((([] : HL) ++ (qseg (.sl qa25 (dd).length (dd).length qg26) (bcells dd))) ++ (qseg (.sl qa45 (dd).length (dd).length qg46) (bcells dd))) ++ (qseg (.sl qa74 (dd).length (dd).length qg75) (bcells dd))) ++ (qseg (.sl qa102 (dd).length (dd).length qg103) (bcells dd))) ++ (qseg (.sl qa129 (dd).length (dd).length qg130) (bcells dd))) ++ ([(m2, some mb2)] ++ ([(m1, some mb1)] ++ ([(cm, some bm17)] ++ ([(n8, some (.cells ([(.s (txt tp)), (.i .i64 0), (.i .i64 0), (.b tx), (.sl qa129 (dd).length (dd).length qg130)]) true))] ++ ([(F, some (.cells ([(.sl (some (Lb, 0)) 5 5 0), (.i .i64 ((9 : Nat) : Int)), (.m (some cm))]) true))] ++ (B ++ (R))))))))))) := hH145
  have hH147 := (((hH146.top2).top2).top2)
  refine D_call (Ev.mono (hand_room (mode := 2) (i := 4) (rws := ([(prow true (some m0) v0 l0), (prow true (some m1) (.sl none 0 0 0) 0), (prow true (some m2) (.sl none 0 0 0) 0), zrow, (prow true (some m4) (.sl none 0 0 0) 0)] : List (List AV))) hall144 (Nat.le_of_ble_eq_true rfl) (rows := []) Sq.nil (fun x hx => absurd hx (List.not_mem_nil)) hmb4 ⟨Int.le_refl 0, by decide⟩ (Nat.zero_le _) hg4 (by show 0 < 9; decide) hH147) fun v148 H149 hq150 => ?_)
  obtain ⟨rfl, v2, c2, hs2, hh2⟩ := hq150
  refine And.intro (And.intro (Or.inl rfl) (And.intro (Or.inl rfl) (And.intro (Or.inl rfl) True.intro))) ?_
  refine D_l (v := (.b true)) rfl rfl rfl (r_pick_t rfl rfl) ?_
  refine D_nil ?_
  refine C_cond (x := true) rfl (fun _ => ?_) (fun h => by cases h)
  refine C_region ?_
  refine O_p (.i .i64 0) (r_mv rfl) ?_
  refine O_p (.i .i64 1) (r_bin rfl rfl rfl) ?_
  refine O_p (.i .i64 1) (r_mv rfl) ?_
  refine O_nil ?_
  refine C_region ?_
  refine O_p (.i .i64 5) (r_bin rfl rfl rfl) ?_
  refine O_p (.i .i64 5) (r_mv rfl) ?_
  refine O_nil ?_
  refine C_loop ?_
  refine C_seq ?_
  refine C_region ?_
  refine O_p (.b false) (r_bin rfl rfl rfl) ?_
  refine O_nil ?_
  refine C_seq ?_
  refine C_cond (x := false) rfl (fun h => by cases h) (fun _ => ?_)
  refine C_exit ?_
  refine nx_exit ?_
  refine nx_exit ?_
  refine bk_hit ?_
  refine C_seq ?_
  refine C_region ?_
  refine O_p (.i .i64 1) (r_mv rfl) ?_
  refine O_p (.i .i64 1) (r_mv rfl) ?_
  refine O_p (.i .i64 0) (r_mv rfl) ?_
  refine O_nil ?_
  refine C_ret ?_
  have hH151 := ((hh2.sub6).sub6)
  have hH152 := ((((((((hH151.top7).top4).top4).top4).top5).top6).top6).top7)
  have hH153 : Hs H149 ([(F, some (.cells ([(.sl (some (Lb, 0)) 5 5 0), (.i .i64 ((9 : Nat) : Int)), (.m (some cm))]) true))] ++ ([(Lb, some (.cells (([(prow true (some m0) v0 l0), (prow true (some m1) (.sl none 0 0 0) 0), (prow true (some m2) (.sl none 0 0 0) 0), zrow, (prow true (some m4) v2 0)] : List (List AV)).flatten) true))] ++ ([(m1, some mb1)] ++ ([(m2, some mb2)] ++ ([(m4, some mb4)] ++ ((qseg v2 c2) ++ ((((((([] : HL) ++ (qseg (.sl qa25 (dd).length (dd).length qg26) (bcells dd))) ++ (qseg (.sl qa45 (dd).length (dd).length qg46) (bcells dd))) ++ (qseg (.sl qa74 (dd).length (dd).length qg75) (bcells dd))) ++ (qseg (.sl qa102 (dd).length (dd).length qg103) (bcells dd))) ++ (qseg (.sl qa129 (dd).length (dd).length qg130) (bcells dd))) ++ (B ++ (R))))))))) := hH152
  exact ⟨.inr rfl, _, resL_cons (r_tmp (v := .i .i64 1) rfl) (resL_one (r_tmp (v := .i .i64 0) rfl)), (((((([] : HL) ++ (qseg (.sl qa25 (dd).length (dd).length qg26) (bcells dd))) ++ (qseg (.sl qa45 (dd).length (dd).length qg46) (bcells dd))) ++ (qseg (.sl qa74 (dd).length (dd).length qg75) (bcells dd))) ++ (qseg (.sl qa102 (dd).length (dd).length qg103) (bcells dd))) ++ (qseg (.sl qa129 (dd).length (dd).length qg130) (bcells dd))), v2, c2, _, rfl, hs2, ⟨_, _, _, rfl, hqg131, Nat.le_refl _, by omega, fun _ hh => Sq.bs (R := []) hSq132 (by rw [List.append_nil]; exact hh.sub)⟩, hH153⟩
end Go.Proofs.Ytnkpmidfefilbaa.E
