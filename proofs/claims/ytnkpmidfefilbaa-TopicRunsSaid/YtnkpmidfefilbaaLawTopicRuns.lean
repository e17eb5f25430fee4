/- TopicRuns, for every input, without conditions. -/
import Derived.Test.YtnkpmidfefilbaaL
import Derived.Test.YtnkpmidfefilbaaRows
import Derived.ProofKit
import Derived.OpenShut
namespace Go.Proofs.Ytnkpmidfefilbaa.E
open Go.RowKit (Below)
set_option linter.unusedVariables false
set_option linter.unusedSimpArgs false
def rg : Nat → Nat → List Nat
  | _, 0 => []
  | n, c + 1 => n :: rg (n + 1) c
theorem rg_len : ∀ n c, (rg n c).length = c
  | _, 0 => rfl
  | n, c + 1 => by unfold rg; rw [List.length_cons, rg_len]
theorem rg_snoc : ∀ n c, rg n c ++ [n + c] = rg n (c + 1)
  | n, 0 => rfl
  | n, c + 1 => by
    show n :: (rg (n + 1) c ++ [n + (c + 1)]) = n :: rg (n + 1) (c + 1)
    rw [← rg_snoc (n + 1) c, show n + 1 + c = n + (c + 1) by omega]
theorem handR_failed {room : Nat} {w : List It} {x : It} : handT (some (0, true)) room w 0 x = (some (0, true), w, 0, false) := rfl
theorem handR_room {room nx c : Nat} {i : Nat} (h : c < room) (hi : nx + c = i) : handT (some (0, false)) room ((rg nx c).map itT) 0 (itT i) = (some (0, false), (rg nx (c + 1)).map itT, 0, true) := by
  unfold handT; simp only
  rw [if_pos (by rw [List.length_map, rg_len]; exact h), ← rg_snoc, List.map_append, hi]; rfl
theorem handR_full {room nx c : Nat} {x : It} (h : ¬ c < room) : handT (some (0, false)) room ((rg nx c).map itT) 0 x = (some (0, true), (rg nx c).map itT, 0, false) := by
  unfold handT; simp only
  rw [if_neg (by rw [List.length_map, rg_len]; exact h)]; rfl
theorem rg_tp {n c : Nat} : ∀ y ∈ (rg n c).map itT, y.tp = [116] := fun y hy => by obtain ⟨z, _, rfl⟩ := List.mem_map.1 hy; rfl
set_option maxHeartbeats 2000000 in
theorem publish_first {H : AH} {R D B : HL} {F Lb cm m0 m1 room : Nat} {cb mb : Blk} {cmL m : ML} {v0 v : AV} {l0 lost : Int} {c : List AV} {rows : List (List AV)} {tp dd : List UInt8} {tx : Bool} {da : Option (Nat × Nat)} {dc dg : Nat} (hcb : Mb cmL cb) (hcg : mget cmL tp = none) (htp : 0 < tp.length ∧ tp.length ≤ 256) (hdl : dd.length ≤ 16384) (hdg : dg = 0 ∨ dg = 1) (hdc : dd.length ≤ dc) (hdm : dc ≤ 9223372036854775807) (hdb : ∀ H', Hs H' B → Bs H' (.sl da dd.length dc dg) dd) (hsq : Sq 5 v c rows.flatten) (hl5 : ∀ x ∈ rows, x.length = 5) (hmb : Mb m mb) (hg : mget m tp = none) (hlost : 0 ≤ lost ∧ lost < 4611686018427387904) (hww : rows.length ≤ 1000000) (hH0 : Hs H ([(F, some (.cells ([(.sl (some (Lb, 0)) 3 3 0), (.i .i64 ((room : Nat) : Int)), (.m (some cm))]) true))] ++ ([(Lb, some (.cells (([(prow true (some m0) v0 l0), (prow true (some m1) v lost), zrow] : List (List AV)).flatten) true))] ++ ([(cm, some cb)] ++ ([(m1, some mb)] ++ ((qseg v c) ++ (D ++ (B ++ (R))))))))) : Ev tabA spA (.fn (.func 13) [] []) [.p (some (F, 0)), .i .i64 0, .s (txt tp), .b tx, .sl da dd.length dc dg] H (fun r H' => ∃ cb2, r = .tup [.i .i64 0, .i .i64 0] ∧ Mb (mset cmL tp (.i .i64 1)) cb2 ∧ Hs H' ([(F, some (.cells ([(.sl (some (Lb, 0)) 3 3 0), (.i .i64 ((room : Nat) : Int)), (.m (some cm))]) true))] ++ ([(Lb, some (.cells (([(prow true (some m0) v0 l0), (prow true (some m1) v lost), zrow] : List (List AV)).flatten) true))] ++ ([(cm, some cb2)] ++ ([(m1, some mb)] ++ ((qseg v c) ++ (R))))))) := by
  refine Ev_C (F := x13) rfl ?_
  refine C_seq ?_
  refine C_region ?_
  refine O_p (.i .i64 0) (r_mv rfl) ?_
  refine O_p (.i .i64 0) (r_mv rfl) ?_
  refine O_nil ?_
  refine C_seq ?_
  refine C_region ?_
  refine O_p (.p (some (F, 0))) (r_mv rfl) ?_
  refine O_p (.i .i64 0) (r_mv rfl) ?_
  refine O_call (Ev.mono (at_ev (k := 0) (np := 3) (by decide) hH0) fun v1 H2 hq3 => ?_)
  obtain ⟨rfl, hH4⟩ := hq3
  refine O_p (.p (some (Lb, (0 * 4 + 0)))) (r_mv rfl) ?_
  refine O_nil ?_
  refine C_seq ?_
  refine C_block ?_
  refine C_seq ?_
  refine C_region ?_
  refine O_p (.p (some (Lb, (0 * 4 + 0)))) (r_mv rfl) ?_
  refine O_p (.b false) (r_nilq_s rfl) ?_
  refine O_p (.b false) (r_mv rfl) ?_
  refine O_gk rfl ?_
  refine O_p (.s (txt tp)) (r_mv rfl) ?_
  refine O_gk rfl ?_
  refine O_p (.b false) (by exact (by rw [r_eqt (b := ([] : List UInt8)) rfl rfl, decide_eq_false (by intro h; rw [h] at htp; exact absurd htp.1 (by decide))])) ?_
  refine O_p (.b false) (r_pick_f rfl rfl) ?_
  refine O_p (.b false) (r_mv rfl) ?_
  refine O_nil ?_
  refine C_cond (x := false) rfl (fun h => by cases h) (fun _ => ?_)
  refine C_seq ?_
  refine C_region ?_
  refine O_p (.s (txt tp)) (r_mv rfl) ?_
  refine O_p (.i .i64 ((((tp).length : Nat)) : Int)) (r_lent (l := tp) rfl) ?_
  refine O_p (.b false) (by exact (by rw [r_gtr rfl rfl, decide_eq_false (by first | omega | assumption)])) ?_
  refine O_p (.b false) (r_mv rfl) ?_
  refine O_gk rfl ?_
  refine O_p (.sl da dd.length dc dg) (r_mv rfl) ?_
  refine O_gk rfl ?_
  refine O_p (.i .i64 (((dd.length : Nat)) : Int)) (r_len rfl) ?_
  refine O_gk rfl ?_
  refine O_p (.b false) (by exact (by rw [r_gtr rfl rfl, decide_eq_false (by first | omega | assumption)])) ?_
  refine O_p (.b false) (r_pick_f rfl rfl) ?_
  refine O_p (.b false) (r_mv rfl) ?_
  refine O_nil ?_
  refine C_cond (x := false) rfl (fun h => by cases h) (fun _ => ?_)
  refine C_seq ?_
  refine C_region ?_
  have hall5 : ∀ x ∈ ([(prow true (some m0) v0 l0), (prow true (some m1) v lost), zrow] : List (List AV)), x.length = 4 := fun x hx => by simp only [List.mem_cons, List.not_mem_nil, or_false] at hx; rcases hx with rfl | rfl | rfl <;> rfl
  have hH6 : Hs H2 ([(F, some (.cells ([(.sl (some (Lb, 0)) 3 3 0), (.i .i64 ((room : Nat) : Int)), (.m (some cm))]) true))] ++ ([(Lb, some (.cells (((([(prow true (some m0) v0 l0), (prow true (some m1) v lost), zrow] : List (List AV))).set 0 (prow true (some m0) v0 l0)).flatten) true))] ++ ([(cm, some cb)] ++ ([(m1, some mb)] ++ ((qseg v c) ++ (D ++ (B ++ (R)))))))) := hH4
  refine O_p (.p (some (Lb, (0 * 4 + 0)))) (r_mv rfl) ?_
  refine O_p (.p (some (Lb, (0 * 4 + 0)))) (r_nilc rfl) ?_
  refine O_p (.p (some (Lb, (0 * 4 + 0)))) (r_fadd' rfl rfl) ?_
  refine O_p (.b true) (by exact (r_ld rfl hH6.get1 ((foc_get hall5 (Nat.le_of_ble_eq_true rfl) rfl (by decide)).trans rfl))) ?_
  refine O_p (.b false) (r_un rfl rfl) ?_
  refine O_p (.b false) (r_mv rfl) ?_
  refine O_nil ?_
  refine C_cond (x := false) rfl (fun h => by cases h) (fun _ => ?_)
  refine C_skip ?_
  refine C_seq ?_
  refine C_region ?_
  refine O_p (.s (txt tp)) (r_mv rfl) ?_
  refine O_p (.i .i64 0) (r_mv rfl) ?_
  refine O_p (.p (some (F, 0))) (r_mv rfl) ?_
  refine O_p (.p (some (F, 0))) (r_nilc rfl) ?_
  refine O_p (.p (some (F, 2))) (r_fadd' rfl rfl) ?_
  refine O_p (.m (some cm)) (r_ld rfl hH6.get0 rfl) ?_
  refine O_p (.s (txt tp)) (r_mv rfl) ?_
  refine O_p (.i .i64 0) (by exact ((r_mget (m := cmL) (k := tp) hH6.get2 hcb rfl rfl false).trans (by first | (rw [hcg]; rfl) | rw [hcg]))) ?_
  refine O_p (.b tx) (r_mv rfl) ?_
  refine O_p (.agg [(.s (txt tp)), (.i .i64 0), (.i .i64 0), (.b tx), (.sl none 0 0 0)]) (r_build rfl) ?_
  refine O_alloc fun n7 H8 hN9 => ?_
  have hH10 := hH6.new hN9
  refine O_store (vs := [(.s (txt tp)), (.i .i64 0), (.i .i64 0), (.b tx), (.sl none 0 0 0)]) (c' := [(.s (txt tp)), (.i .i64 0), (.i .i64 0), (.b tx), (.sl none 0 0 0)]) rfl (by rfl) hH10.get0 rfl (List.cons_ne_nil _ _) (Nat.le_of_ble_eq_true rfl) rfl fun H11 hW12 => ?_
  have hH13 := hH10.wr0 hW12
  refine O_nil ?_
  refine C_seq ?_
  refine C_region ?_
  refine O_p (.p (some (F, 0))) (r_mv rfl) ?_
  refine O_p (.p (some (F, 0))) (r_nilc rfl) ?_
  refine O_p (.p (some (F, 2))) (r_fadd' rfl rfl) ?_
  refine O_p (.m (some cm)) (r_ld rfl hH13.get1 rfl) ?_
  refine O_p (.s (txt tp)) (r_mv rfl) ?_
  refine O_p (.i .i64 0) (by exact ((r_mget (m := cmL) (k := tp) hH13.get3 hcb rfl rfl false).trans (by first | (rw [hcg]; rfl) | rw [hcg]))) ?_
  refine O_p (.i .i64 1) (r_bin rfl rfl rfl) ?_
  refine O_nh (by exact r_mput (k := tp) (v := (.i .i64 1)) hH13.top3 hcb rfl rfl rfl) fun H14 hA15 => ?_
  obtain ⟨bm16, hMb17, hH18⟩ := hA15
  refine O_nil ?_
  refine C_seq ?_
  refine C_region ?_
  refine O_p (.i .i64 0) (r_mv rfl) ?_
  refine O_nil ?_
  refine C_seq ?_
  refine C_seq ?_
  refine C_region ?_
  refine O_p (.p (some (F, 0))) (r_mv rfl) ?_
  refine O_p (.p (some (F, 0))) (r_nilc rfl) ?_
  refine O_p (.p (some (F, 0))) (r_fadd' rfl rfl) ?_
  refine O_p (.sl (some (Lb, 0)) 3 3 0) (r_ld rfl hH18.get2 rfl) ?_
  refine O_p (.i .i64 3) (r_len rfl) ?_
  refine O_p (.i .i64 0) (r_mv rfl) ?_
  refine O_nil ?_
  refine C_block ?_
  refine C_loop ?_
  refine C_seq ?_
  refine C_region ?_
  refine O_p (.b true) (r_bin rfl rfl rfl) ?_
  refine O_nil ?_
  refine C_seq ?_
  refine C_cond (x := true) rfl (fun _ => ?_) (fun h => by cases h)
  refine C_skip ?_
  refine C_seq ?_
  refine C_block ?_
  refine C_seq ?_
  refine C_region ?_
  refine O_p (.i .i64 0) (r_mv rfl) ?_
  refine O_p (.i .i64 0) (r_mv rfl) ?_
  refine O_nil ?_
  refine C_seq ?_
  refine C_region ?_
  refine O_p (.sl da dd.length dc dg) (r_mv rfl) ?_
  refine O_call (Ev.mono (clone_ev (tab := tabA) (sp := spA) rfl hH18.ok hdg (hdb _ hH18.top7.fst) (by first | omega | (simp only [List.length_take, List.length_drop, List.length_append, List.length_cons, List.length_nil, beN_len] <;> omega)) (by first | omega | (simp only [List.length_take, List.length_drop, List.length_append, List.length_cons, List.length_nil, beN_len] <;> omega)) (by first | omega | (simp only [List.length_take, List.length_drop, List.length_append, List.length_cons, List.length_nil, beN_len] <;> omega))) fun v19 H20 hq21 => ?_)
  obtain ⟨hM22, hK23⟩ := hq21
  obtain ⟨qa24, qg25, rfl, hqg26, _⟩ := hM22.own.bs
  have hH28 := Hs.ofMine hH18 hM22 hK23
  have hSq27 := Sq.ofMine hH18 hM22 hK23
  have hH29 := (hH28.top7)
  have hH30 := Hs.unassoc hH29
  refine O_p (.p (some (n7, 4))) (r_fadd' rfl rfl) ?_
  refine O_store (vs := [(.sl qa24 (dd).length (dd).length qg25)]) (c' := [(.s (txt tp)), (.i .i64 0), (.i .i64 0), (.b tx), (.sl qa24 (dd).length (dd).length qg25)]) rfl (by rfl) hH30.get2 rfl (List.cons_ne_nil _ _) (Nat.le_of_ble_eq_true rfl) rfl fun H31 hW32 => ?_
  have hH33 := hH30.wr2 hW32
  refine O_nil ?_
  refine C_seq ?_
  refine C_draw fun b34 H35 hbase36 hA37 => ?_
  have hH38 := hH33.keep (by have := hA37.1; omega) (fun q _ => hA37.2 q) ((hH33.old).aside hA37).ok
  refine D_l (v := (.i .i64 0)) rfl rfl rfl (r_mv rfl) ?_
  refine D_l (v := (.i .i64 0)) rfl rfl rfl (r_mv rfl) ?_
  refine D_l (v := (.b false)) rfl rfl rfl (r_bin rfl rfl rfl) ?_
  refine D_l (v := (.b false)) rfl rfl rfl (r_mv rfl) ?_
  refine D_gf rfl ?_
  refine D_gf rfl ?_
  refine D_gf rfl ?_
  refine D_gf rfl ?_
  refine D_gf rfl ?_
  refine D_gf rfl ?_
  refine D_gf rfl ?_
  refine D_gf rfl ?_
  refine D_gf rfl ?_
  refine D_gf rfl ?_
  refine D_gf rfl ?_
  refine D_gf rfl ?_
  refine D_l (v := (.b false)) rfl rfl rfl (r_pick_f rfl rfl) ?_
  refine D_nil ?_
  refine C_cond (x := false) rfl (fun h => by cases h) (fun _ => ?_)
  refine C_skip ?_
  refine C_region ?_
  refine O_p (.i .i64 1) (r_bin rfl rfl rfl) ?_
  refine O_p (.i .i64 1) (r_mv rfl) ?_
  refine O_nil ?_
  refine C_loop ?_
  refine C_seq ?_
  refine C_region ?_
  refine O_p (.b true) (r_bin rfl rfl rfl) ?_
  refine O_nil ?_
  refine C_seq ?_
  refine C_cond (x := true) rfl (fun _ => ?_) (fun h => by cases h)
  refine C_skip ?_
  refine C_seq ?_
  refine C_block ?_
  refine C_seq ?_
  refine C_region ?_
  refine O_p (.i .i64 1) (r_mv rfl) ?_
  refine O_p (.i .i64 1) (r_mv rfl) ?_
  refine O_nil ?_
  refine C_seq ?_
  refine C_region ?_
  refine O_p (.sl da dd.length dc dg) (r_mv rfl) ?_
  refine O_call (Ev.mono (clone_ev (tab := tabA) (sp := spA) rfl hH38.ok hdg (hdb _ hH38.top7.fst) (by first | omega | (simp only [List.length_take, List.length_drop, List.length_append, List.length_cons, List.length_nil, beN_len] <;> omega)) (by first | omega | (simp only [List.length_take, List.length_drop, List.length_append, List.length_cons, List.length_nil, beN_len] <;> omega)) (by first | omega | (simp only [List.length_take, List.length_drop, List.length_append, List.length_cons, List.length_nil, beN_len] <;> omega))) fun v39 H40 hq41 => ?_)
  obtain ⟨hM42, hK43⟩ := hq41
  obtain ⟨qa44, qg45, rfl, hqg46, _⟩ := hM42.own.bs
  have hH48 := Hs.ofMine hH38 hM42 hK43
  have hSq47 := Sq.ofMine hH38 hM42 hK43
  have hH49 := (hH48.top1)
  have hH50 := Hs.unassoc hH49
  refine O_p (.p (some (n7, 4))) (r_fadd' rfl rfl) ?_
  refine O_store (vs := [(.sl qa44 (dd).length (dd).length qg45)]) (c' := [(.s (txt tp)), (.i .i64 0), (.i .i64 0), (.b tx), (.sl qa44 (dd).length (dd).length qg45)]) rfl (by rfl) hH50.get2 rfl (List.cons_ne_nil _ _) (Nat.le_of_ble_eq_true rfl) rfl fun H51 hW52 => ?_
  have hH53 := hH50.wr2 hW52
  refine O_nil ?_
  refine C_seq ?_
  refine C_draw fun b54 H55 hbase56 hA57 => ?_
  have hH58 := hH53.keep (by have := hA57.1; omega) (fun q _ => hA57.2 q) ((hH53.old).aside hA57).ok
  refine D_l (v := (.i .i64 1)) rfl rfl rfl (r_mv rfl) ?_
  refine D_l (v := (.i .i64 0)) rfl rfl rfl (r_mv rfl) ?_
  refine D_l (v := (.b true)) rfl rfl rfl (r_bin rfl rfl rfl) ?_
  refine D_l (v := (.b true)) rfl rfl rfl (r_mv rfl) ?_
  refine D_gk rfl ?_
  refine D_l (v := (.p (some (F, 0)))) rfl rfl rfl (r_mv rfl) ?_
  refine D_gk rfl ?_
  refine D_l (v := (.p (some (F, 0)))) rfl rfl rfl (r_nilc rfl) ?_
  refine D_gk rfl ?_
  refine D_l (v := (.p (some (F, 0)))) rfl rfl rfl (r_fadd' rfl rfl) ?_
  refine D_gk rfl ?_
  refine D_l (v := (.i .i64 1)) rfl rfl rfl (r_mv rfl) ?_
  refine D_gk rfl ?_
  refine D_l (v := (.p (some (F, 0)))) rfl rfl rfl (r_mv rfl) ?_
  refine D_gk rfl ?_
  refine D_l (v := (.p (some (F, 0)))) rfl rfl rfl (r_nilc rfl) ?_
  refine D_gk rfl ?_
  refine D_l (v := (.p (some (F, 1)))) rfl rfl rfl (r_fadd' rfl rfl) ?_
  refine D_gk rfl ?_
  refine D_r (v := (.sl (some (Lb, 0)) 3 3 0)) rfl rfl rfl (r_ld rfl hH58.get3 rfl) ?_
  refine D_gk rfl ?_
  refine D_l (v := (.p (some (Lb, (1 * 4 + 0))))) rfl rfl rfl (by exact (r_islr (b := Lb) (k := 1) (len := 3) (cap := 3) (g := 0) rfl rfl (by decide))) ?_
  refine D_gk rfl ?_
  refine D_r (v := (.agg [(.s (txt tp)), (.i .i64 0), (.i .i64 0), (.b tx), (.sl qa44 (dd).length (dd).length qg45)])) rfl rfl rfl (r_ldA rfl hH58.get2 rfl) ?_
  refine D_gk rfl ?_
  refine D_r (v := (.i .i64 ((room : Nat) : Int))) rfl rfl rfl (r_ld rfl hH58.get3 rfl) ?_
  refine D_gk rfl ?_
  have hall59 : ∀ x ∈ ([(prow true (some m0) v0 l0), (prow true (some m1) v lost), zrow] : List (List AV)), x.length = 4 := fun x hx => by simp only [List.mem_cons, List.not_mem_nil, or_false] at hx; rcases hx with rfl | rfl | rfl <;> rfl
  have hH60 := (((hH58.top6).top6).top6)
  have hH61 : Hs H55 ([(Lb, some (.cells ((([(prow true (some m0) v0 l0), (prow true (some m1) v lost), zrow] : List (List AV)).set 1 (prow true (some m1) v lost)).flatten) true))] ++ ([(m1, some mb)] ++ ((qseg v c) ++ (((D ++ (qseg (.sl qa24 (dd).length (dd).length qg25) (bcells dd))) ++ (qseg (.sl qa44 (dd).length (dd).length qg45) (bcells dd))) ++ ([(cm, some bm16)] ++ ([(n7, some (.cells ([(.s (txt tp)), (.i .i64 0), (.i .i64 0), (.b tx), (.sl qa44 (dd).length (dd).length qg45)]) true))] ++ ([(F, some (.cells ([(.sl (some (Lb, 0)) 3 3 0), (.i .i64 ((room : Nat) : Int)), (.m (some cm))]) true))] ++ (B ++ (R))))))))) := hH60
  have hH62 := (((hH61.top2).top2).top2)
  refine D_call (Ev.mono (hand_no (mode := 0) (i := 1) (rws := ([(prow true (some m0) v0 l0), (prow true (some m1) v lost), zrow] : List (List AV))) hall59 (Nat.le_of_ble_eq_true rfl) hsq hl5 hmb hlost hww hg hH62) fun v63 H64 hq65 => ?_)
  obtain ⟨rfl, hH66⟩ := hq65
  refine And.intro (And.intro (Or.inl rfl) (And.intro (Or.inl rfl) (And.intro (Or.inl rfl) True.intro))) ?_
  refine D_l (v := (.b false)) rfl rfl rfl (r_pick_t rfl rfl) ?_
  refine D_nil ?_
  refine C_cond (x := false) rfl (fun h => by cases h) (fun _ => ?_)
  refine C_skip ?_
  refine C_region ?_
  refine O_p (.i .i64 2) (r_bin rfl rfl rfl) ?_
  refine O_p (.i .i64 2) (r_mv rfl) ?_
  refine O_nil ?_
  refine C_loop ?_
  refine C_seq ?_
  refine C_region ?_
  refine O_p (.b true) (r_bin rfl rfl rfl) ?_
  refine O_nil ?_
  refine C_seq ?_
  refine C_cond (x := true) rfl (fun _ => ?_) (fun h => by cases h)
  refine C_skip ?_
  refine C_seq ?_
  refine C_block ?_
  refine C_seq ?_
  refine C_region ?_
  refine O_p (.i .i64 2) (r_mv rfl) ?_
  refine O_p (.i .i64 2) (r_mv rfl) ?_
  refine O_nil ?_
  refine C_seq ?_
  refine C_region ?_
  refine O_p (.sl da dd.length dc dg) (r_mv rfl) ?_
  refine O_call (Ev.mono (clone_ev (tab := tabA) (sp := spA) rfl hH66.ok hdg (hdb _ hH66.top7.fst) (by first | omega | (simp only [List.length_take, List.length_drop, List.length_append, List.length_cons, List.length_nil, beN_len] <;> omega)) (by first | omega | (simp only [List.length_take, List.length_drop, List.length_append, List.length_cons, List.length_nil, beN_len] <;> omega)) (by first | omega | (simp only [List.length_take, List.length_drop, List.length_append, List.length_cons, List.length_nil, beN_len] <;> omega))) fun v67 H68 hq69 => ?_)
  obtain ⟨hM70, hK71⟩ := hq69
  obtain ⟨qa72, qg73, rfl, hqg74, _⟩ := hM70.own.bs
  have hH76 := Hs.ofMine hH66 hM70 hK71
  have hSq75 := Sq.ofMine hH66 hM70 hK71
  have hH77 := (hH76.top4)
  have hH78 := Hs.unassoc hH77
  refine O_p (.p (some (n7, 4))) (r_fadd' rfl rfl) ?_
  refine O_store (vs := [(.sl qa72 (dd).length (dd).length qg73)]) (c' := [(.s (txt tp)), (.i .i64 0), (.i .i64 0), (.b tx), (.sl qa72 (dd).length (dd).length qg73)]) rfl (by rfl) hH78.get5 rfl (List.cons_ne_nil _ _) (Nat.le_of_ble_eq_true rfl) rfl fun H79 hW80 => ?_
  have hH81 := hH78.wr5 hW80
  refine O_nil ?_
  refine C_seq ?_
  refine C_draw fun b82 H83 hbase84 hA85 => ?_
  have hH86 := hH81.keep (by have := hA85.1; omega) (fun q _ => hA85.2 q) ((hH81.old).aside hA85).ok
  refine D_l (v := (.i .i64 2)) rfl rfl rfl (r_mv rfl) ?_
  refine D_l (v := (.i .i64 0)) rfl rfl rfl (r_mv rfl) ?_
  refine D_l (v := (.b true)) rfl rfl rfl (r_bin rfl rfl rfl) ?_
  refine D_l (v := (.b true)) rfl rfl rfl (r_mv rfl) ?_
  refine D_gk rfl ?_
  refine D_l (v := (.p (some (F, 0)))) rfl rfl rfl (r_mv rfl) ?_
  refine D_gk rfl ?_
  refine D_l (v := (.p (some (F, 0)))) rfl rfl rfl (r_nilc rfl) ?_
  refine D_gk rfl ?_
  refine D_l (v := (.p (some (F, 0)))) rfl rfl rfl (r_fadd' rfl rfl) ?_
  refine D_gk rfl ?_
  refine D_l (v := (.i .i64 2)) rfl rfl rfl (r_mv rfl) ?_
  refine D_gk rfl ?_
  refine D_l (v := (.p (some (F, 0)))) rfl rfl rfl (r_mv rfl) ?_
  refine D_gk rfl ?_
  refine D_l (v := (.p (some (F, 0)))) rfl rfl rfl (r_nilc rfl) ?_
  refine D_gk rfl ?_
  refine D_l (v := (.p (some (F, 1)))) rfl rfl rfl (r_fadd' rfl rfl) ?_
  refine D_gk rfl ?_
  refine D_r (v := (.sl (some (Lb, 0)) 3 3 0)) rfl rfl rfl (r_ld rfl hH86.get6 rfl) ?_
  refine D_gk rfl ?_
  refine D_l (v := (.p (some (Lb, (2 * 4 + 0))))) rfl rfl rfl (by exact (r_islr (b := Lb) (k := 2) (len := 3) (cap := 3) (g := 0) rfl rfl (by decide))) ?_
  refine D_gk rfl ?_
  refine D_r (v := (.agg [(.s (txt tp)), (.i .i64 0), (.i .i64 0), (.b tx), (.sl qa72 (dd).length (dd).length qg73)])) rfl rfl rfl (r_ldA rfl hH86.get5 rfl) ?_
  refine D_gk rfl ?_
  refine D_r (v := (.i .i64 ((room : Nat) : Int))) rfl rfl rfl (r_ld rfl hH86.get6 rfl) ?_
  refine D_gk rfl ?_
  have hall87 : ∀ x ∈ ([(prow true (some m0) v0 l0), (prow true (some m1) v lost), zrow] : List (List AV)), x.length = 4 := fun x hx => by simp only [List.mem_cons, List.not_mem_nil, or_false] at hx; rcases hx with rfl | rfl | rfl <;> rfl
  have hH88 := (hH86.top1)
  have hH89 : Hs H83 ([(Lb, some (.cells ((([(prow true (some m0) v0 l0), (prow true (some m1) v lost), zrow] : List (List AV)).set 2 (prow false none (.sl none 0 0 0) 0)).flatten) true))] ++ ((((D ++ (qseg (.sl qa24 (dd).length (dd).length qg25) (bcells dd))) ++ (qseg (.sl qa44 (dd).length (dd).length qg45) (bcells dd))) ++ (qseg (.sl qa72 (dd).length (dd).length qg73) (bcells dd))) ++ ([(m1, some mb)] ++ ((qseg v c) ++ ([(cm, some bm16)] ++ ([(n7, some (.cells ([(.s (txt tp)), (.i .i64 0), (.i .i64 0), (.b tx), (.sl qa72 (dd).length (dd).length qg73)]) true))] ++ ([(F, some (.cells ([(.sl (some (Lb, 0)) 3 3 0), (.i .i64 ((room : Nat) : Int)), (.m (some cm))]) true))] ++ (B ++ (R))))))))) := hH88
  refine D_call (Ev.mono (hand_off (i := 2) (rws := ([(prow true (some m0) v0 l0), (prow true (some m1) v lost), zrow] : List (List AV))) hall87 (Nat.le_of_ble_eq_true rfl) hH89) fun v90 H91 hq92 => ?_)
  obtain ⟨rfl, hH93⟩ := hq92
  refine And.intro (And.intro (Or.inl rfl) (And.intro (Or.inl rfl) (And.intro (Or.inl rfl) True.intro))) ?_
  refine D_l (v := (.b false)) rfl rfl rfl (r_pick_t rfl rfl) ?_
  refine D_nil ?_
  refine C_cond (x := false) rfl (fun h => by cases h) (fun _ => ?_)
  refine C_skip ?_
  refine C_region ?_
  refine O_p (.i .i64 3) (r_bin rfl rfl rfl) ?_
  refine O_p (.i .i64 3) (r_mv rfl) ?_
  refine O_nil ?_
  refine C_loop ?_
  refine C_seq ?_
  refine C_region ?_
  refine O_p (.b false) (r_bin rfl rfl rfl) ?_
  refine O_nil ?_
  refine C_seq ?_
  refine C_cond (x := false) rfl (fun h => by cases h) (fun _ => ?_)
  refine C_exit ?_
  refine nx_exit ?_
  refine nx_exit ?_
  refine bk_hit ?_
  refine C_seq ?_
  refine C_region ?_
  refine O_p (.i .i64 0) (r_mv rfl) ?_
  refine O_p (.i .i64 0) (r_mv rfl) ?_
  refine O_p (.i .i64 0) (r_mv rfl) ?_
  refine O_nil ?_
  refine C_ret ?_
  have hH94 := (((hH93.sub1).sub4).sub5)
  have hH95 := (((((hH94.top2).top2).top3).top3).top4)
  exact ⟨.inr rfl, _, resL_cons (r_tmp (v := .i .i64 0) rfl) (resL_one (r_tmp (v := .i .i64 0) rfl)), bm16, rfl, hMb17, hH95⟩
set_option maxRecDepth 100000 in
set_option maxHeartbeats 4000000 in
theorem run3 (H0 : AH) (hok0 : H0.Ok) (room n0 : Int) (pv : AV) (pl : List Int) (hpv : ∀ H', Hs H' (allL H0) → Rw 1 H' pv (pl.map fun x => [AV.i .i64 x])) : Ev tabA spA (.fn (.func 3) [] []) [.i .i64 room, pv, .i .i64 n0] H0 (fun v _ => v = .b true) := by
  have hH0 := allL_hs hok0
  refine Ev_C (F := x3) rfl ?_
  refine C_seq ?_
  refine C_region ?_
  refine O_p (.b false) (r_mv rfl) ?_
  refine O_nil ?_
  refine C_seq ?_
  refine C_region ?_
  refine O_call (Ev_sp (v := (.b true)) rfl rfl ?_)
  refine O_p (.b true) (r_mv rfl) ?_
  refine O_nil ?_
  refine C_seq ?_
  refine C_region ?_
  refine O_p (.i .i64 n0) (r_mv rfl) ?_
  obtain ⟨q1, hq1, hlq1⟩ := and_nat n0 127 (by decide)
  refine O_p (.i .i64 (((q1 : Nat)) : Int)) (by exact (by rw [← hq1]; exact r_bin rfl rfl rfl)) ?_
  refine O_p (.i .i64 (((q1 : Nat)) : Int)) (r_mv rfl) ?_
  refine O_nil ?_
  refine C_seq ?_
  refine C_seq ?_
  refine C_region ?_
  refine O_p pv (r_mv rfl) ?_
  refine O_p (.i .i64 (((pl.length : Nat)) : Int)) (r_lenOf (v := pv) (n := pl.length) rfl ((hpv _ hH0.top0.fst).lenOf (List.length_map ..)) (hpv _ hH0.top0.fst).isSl) ?_
  refine O_p (.b (decide (200 < (((pl.length : Nat)) : Int)))) (r_gtr rfl rfl) ?_
  refine O_nil ?_
  refine C_cond (x := (decide (200 < (((pl.length : Nat)) : Int)))) rfl (fun hc2 => ?_) (fun hc2 => ?_)
  ·
    try simp only [decide_eq_true_eq, decide_eq_false_iff_not, Bool.not_eq_true', Bool.not_eq_false', Bool.and_eq_true, Bool.or_eq_true, Bool.or_eq_false_iff, Bool.not_not, Bool.and_eq_false_iff] at hc2
    refine C_seq ?_
    refine C_region ?_
    refine O_p (.b true) (r_mv rfl) ?_
    refine O_p (.b true) (r_mv rfl) ?_
    refine O_nil ?_
    refine C_ret ?_
    refine nx_ret ?_
    exact ⟨.inr rfl, _, resL_one (r_tmp (v := .b true) rfl), rfl⟩
  ·
    try simp only [decide_eq_true_eq, decide_eq_false_iff_not, Bool.not_eq_true', Bool.not_eq_false', Bool.and_eq_true, Bool.or_eq_true, Bool.or_eq_false_iff, Bool.not_not, Bool.and_eq_false_iff] at hc2
    refine C_skip ?_
    refine C_seq ?_
    refine C_region ?_
    refine O_p (.i .i64 room) (r_mv rfl) ?_
    refine O_call (Ev.mono (new3_ev (room := room) hH0) fun v3 H4 hq5 => ?_)
    obtain ⟨F6, Lb7, cm8, rfl, hH9⟩ := hq5
    refine O_p (.p (some (F6, 0))) (r_mv rfl) ?_
    refine O_nil ?_
    refine C_seq ?_
    refine C_seq ?_
    refine C_region ?_
    refine O_p (.p (some (F6, 0))) (r_mv rfl) ?_
    have hall10 : ∀ x ∈ ([zrow, zrow, zrow] : List (List AV)), x.length = 4 := fun x hx => by simp only [List.mem_cons, List.not_mem_nil, or_false] at hx; rcases hx with rfl | rfl | rfl <;> rfl
    have hH11 := ((hH9.top1).top1)
    have hH12 : Hs H4 ([(F6, some (.cells ([(.sl (some (Lb7, 0)) 3 3 0), (.i .i64 (((clampR room) : Nat) : Int)), (.m (some cm8))]) true))] ++ ([(Lb7, some (.cells ((([zrow, zrow, zrow] : List (List AV)).set 0 zrow).flatten) true))] ++ ([(cm8, some (.map [] 0))] ++ ((allL H0) ++ ([]))))) := hH11
    have hH13 := ((hH12.top1).top1)
    refine O_call (Ev.mono (join_ev (np := 3) (i := 0) (rws := ([zrow, zrow, zrow] : List (List AV))) (by decide) hall10 (Nat.le_of_ble_eq_true rfl) hH13) fun v14 H15 hq16 => ?_)
    obtain ⟨mr17, rfl, hH18⟩ := hq16
    refine O_p (.b false) (by exact (by rw [r_neq rfl rfl, decide_eq_true (by decide)]; rfl)) ?_
    refine O_p (.b false) (r_mv rfl) ?_
    refine O_gk rfl ?_
    refine O_p (.p (some (F6, 0))) (r_mv rfl) ?_
    refine O_gk rfl ?_
    have hall19 : ∀ x ∈ ([(prow true (some mr17) (.sl none 0 0 0) 0), zrow, zrow] : List (List AV)), x.length = 4 := fun x hx => by simp only [List.mem_cons, List.not_mem_nil, or_false] at hx; rcases hx with rfl | rfl | rfl <;> rfl
    have hH20 := ((hH18.top1).top1)
    have hH21 : Hs H15 ([(F6, some (.cells ([(.sl (some (Lb7, 0)) 3 3 0), (.i .i64 (((clampR room) : Nat) : Int)), (.m (some cm8))]) true))] ++ ([(Lb7, some (.cells ((([(prow true (some mr17) (.sl none 0 0 0) 0), zrow, zrow] : List (List AV)).set 1 zrow).flatten) true))] ++ ([(mr17, some (.map [] 0))] ++ ([(cm8, some (.map [] 0))] ++ ((allL H0) ++ ([])))))) := hH20
    have hH22 := ((hH21.top1).top1)
    refine O_call (Ev.mono (join_ev (np := 3) (i := 1) (rws := ([(prow true (some mr17) (.sl none 0 0 0) 0), zrow, zrow] : List (List AV))) (by decide) hall19 (Nat.le_of_ble_eq_true rfl) hH22) fun v23 H24 hq25 => ?_)
    obtain ⟨mr26, rfl, hH27⟩ := hq25
    refine O_gk rfl ?_
    refine O_p (.b false) (by exact (by rw [r_neq rfl rfl, decide_eq_true (by decide)]; rfl)) ?_
    refine O_p (.b false) (r_pick_f rfl rfl) ?_
    refine O_nil ?_
    refine C_cond (x := false) rfl (fun h => by cases h) (fun _ => ?_)
    refine C_skip ?_
    refine C_seq ?_
    refine C_region ?_
    refine O_p (.p (some (F6, 0))) (r_mv rfl) ?_
    refine O_bslice (c := [(.i .u8 0)]) rfl fun n28 H29 hN30 => ?_
    have hH31 := hH27.new hN30
    have hH32 := (Hs.addnil hH31 : Hs _ (qseg (.sl none 0 0 0) [] ++ _))
    have hH33 := (Hs.addnil hH32 : Hs _ (([] : HL) ++ _))
    have hH34 := (((((((hH33.top2).top1).top2).top5).top7).top6).top6)
    have hH35 := (((((((hH34.top6).top6).top6).top6).top6).top6).top6)
    refine O_call (Ev.mono (publish_first (room := clampR room) (tp := [116]) (dd := bd 0) (tx := false) (da := some (n28, 0)) (dc := 1) (dg := 0) (D := []) (B := [(n28, some (.cells [.i .u8 0] true))]) (m := []) (rows := []) Mb.nil rfl (by decide) (by show 1 ≤ 16384; decide) (.inl rfl) (Nat.le_refl 1) (by decide) (fun H' hh => octs1 (i := 0) (Hs.get (R := []) (by rw [List.append_nil]; exact hh))) Sq.nil (fun x hx => absurd hx (List.not_mem_nil)) Mb.nil rfl ⟨Int.le_refl 0, by decide⟩ (Nat.zero_le _) hH35) fun v36 H37 hq38 => ?_)
    obtain ⟨cb39, rfl, hcb40, hH41⟩ := hq38
    refine O_nil ?_
    refine C_seq ?_
    refine C_seq ?_
    refine C_region ?_
    refine O_p (.p (some (F6, 0))) (r_mv rfl) ?_
    have hall42 : ∀ x ∈ ([(prow true (some mr17) (.sl none 0 0 0) 0), (prow true (some mr26) (.sl none 0 0 0) 0), zrow] : List (List AV)), x.length = 4 := fun x hx => by simp only [List.mem_cons, List.not_mem_nil, or_false] at hx; rcases hx with rfl | rfl | rfl <;> rfl
    have hH43 := (((hH41.top3).top2).top2)
    have hH44 : Hs H37 ([(F6, some (.cells ([(.sl (some (Lb7, 0)) 3 3 0), (.i .i64 (((clampR room) : Nat) : Int)), (.m (some cm8))]) true))] ++ ([(Lb7, some (.cells ((([(prow true (some mr17) (.sl none 0 0 0) 0), (prow true (some mr26) (.sl none 0 0 0) 0), zrow] : List (List AV)).set 1 (prow true (some mr26) (.sl none 0 0 0) 0)).flatten) true))] ++ ([(mr26, some (.map [] 0))] ++ ([(cm8, some cb39)] ++ ((qseg (.sl none 0 0 0) ([])) ++ ([(mr17, some (.map [] 0))] ++ ((allL H0) ++ ([])))))))) := hH43
    have hH45 := (((hH44.top2).top2).top2)
    refine O_call (Ev.mono (sub_ev (np := 3) (i := 1) (rws := ([(prow true (some mr17) (.sl none 0 0 0) 0), (prow true (some mr26) (.sl none 0 0 0) 0), zrow] : List (List AV))) (m := []) (tp := [116]) (mode := 0) (by decide) hall42 (Nat.le_of_ble_eq_true rfl) Mb.nil rfl (by decide) (by decide) (by decide) hH45) fun v46 H47 hq48 => ?_)
    obtain ⟨mb49, hMb50, rfl, hH51⟩ := hq48
    refine O_p (.b false) (by exact (by rw [r_neq rfl rfl, decide_eq_true (by decide)]; rfl)) ?_
    refine O_nil ?_
    refine C_cond (x := false) rfl (fun h => by cases h) (fun _ => ?_)
    refine C_skip ?_
    refine C_seq ?_
    refine C_region ?_
    refine O_p (.i .i64 1) (r_mv rfl) ?_
    refine O_nil ?_
    refine C_seq ?_
    refine C_region ?_
    refine O_p (.i .i64 (-1)) (r_mv rfl) ?_
    refine O_nil ?_
    refine C_seq ?_
    refine C_seq ?_
    refine C_region ?_
    refine O_p (.i .i64 1) (r_mv rfl) ?_
    refine O_nil ?_
    refine C_block ?_
    have hH52 := ((hH51.sub4).sub4)
    have hH53 := (((((hH52.top4).top3).top4).top4).top4)
    refine C_while (fun m54 T55 H56 => ∃ cb : Blk, ∃ cl : ML, ∃ mb : Blk, ∃ m : ML, ∃ v : AV, ∃ c : List AV, ∃ rows : List (List AV), ∃ D : HL, ∃ nx : Nat, ∃ cnt : Nat, ∃ f : Bool, ∃ en : Int, ∃ E : Nat, ∃ i : Nat, m54 = q1 + 1 - i ∧ i ≤ q1 + 1 ∧ 1 ≤ i ∧ Mb cl cb ∧ mget cl [116] = cntO i ∧ Mb m mb ∧ mget m [116] = subO (some (0, f)) ∧ Sq 5 v c rows.flatten ∧ ItsR D rows ((rg nx cnt).map itT) ∧ nx + cnt = E ∧ (f = false → E = i ∧ en = -1) ∧ (f = true → en = ((E : Nat) : Int) ∧ E < i) ∧ E ≤ i ∧ Hs H56 ([(F6, some (.cells ([(.sl (some (Lb7, 0)) 3 3 0), (.i .i64 (((clampR room) : Nat) : Int)), (.m (some cm8))]) true))] ++ ([(Lb7, some (.cells (([(prow true (some mr17) (.sl none 0 0 0) 0), (prow true (some mr26) v 0), zrow] : List (List AV)).flatten) true))] ++ ([(cm8, some cb)] ++ ([(mr26, some mb)] ++ ((qseg v c) ++ (D ++ ((allL H0) ++ ([])))))))) ∧ T55.get 0 = (.i .i64 room) ∧ T55.get 1 = pv ∧ T55.get 2 = (.i .i64 n0) ∧ T55.get 6 = (.b false) ∧ T55.get 7 = (.b true) ∧ T55.get 8 = (.i .i64 (((q1 : Nat)) : Int)) ∧ T55.get 9 = (.p (some (F6, 0))) ∧ T55.get 10 = (.i .i64 (((nx : Nat)) : Int)) ∧ T55.get 11 = (.i .i64 en) ∧ T55.get 12 = (.i .i64 (((i : Nat)) : Int))) (fun m54 T55 H56 hI57 => ?_) (q1 + 1 - 1) _ _ ⟨cb39, (mset [] [116] (.i .i64 1)), mb49, (mset (mdel [] [116]) [116] (sub 0 false)), (.sl none 0 0 0), [], [], [], 1, 0, false, (-1), 1, 1, rfl, by omega, Nat.le_refl _, hcb40, rfl, hMb50, by rw [mget_set, if_pos rfl]; rfl, Sq.nil, ItsR.nil, rfl, fun _ => ⟨rfl, rfl⟩, (fun h => by cases h), Nat.le_refl _, hH53, rfl, rfl, rfl, rfl, rfl, rfl, rfl, rfl, rfl, rfl⟩
    obtain ⟨cb, cl, mb, m, v, c, rows, D, nx, cnt, f, en, E, i, hm58, hp59, hp60, hp61, hp62, hp63, hp64, hp65, hp66, hp67, hp68, hp69, hp70, hH81, hT71, hT72, hT73, hT74, hT75, hT76, hT77, hT78, hT79, hT80⟩ := hI57
    refine C_seq ?_
    refine C_seq ?_
    refine C_region ?_
    refine O_p (.i .i64 (((i : Nat)) : Int)) (r_mv hT80) ?_
    refine O_p (.i .i64 (((q1 : Nat)) : Int)) (r_mv hT76) ?_
    refine O_p (.b (decide ((((i : Nat)) : Int) ≤ (((q1 : Nat)) : Int)))) (r_leq rfl rfl) ?_
    refine O_nil ?_
    refine C_cond (x := (decide ((((i : Nat)) : Int) ≤ (((q1 : Nat)) : Int)))) rfl (fun hc82 => ?_) (fun hc82 => ?_)
    ·
      try simp only [decide_eq_true_eq, decide_eq_false_iff_not, Bool.not_eq_true', Bool.not_eq_false', Bool.and_eq_true, Bool.or_eq_true, Bool.or_eq_false_iff, Bool.not_not, Bool.and_eq_false_iff] at hc82
      refine C_skip ?_
      refine C_seq ?_
      refine C_block ?_
      refine C_seq ?_
      by_cases hf : f = true
      ·
        have hcE := hp67
        subst hf
        obtain ⟨hen, hEi⟩ := hp69 rfl
        have hW := handR_failed (room := clampR room) (w := (rg nx cnt).map itT) (x := itT i)
        refine C_region ?_
        refine O_p (.p (some (F6, 0))) (r_mv hT77) ?_
        refine O_p (.i .i64 (((i : Nat)) : Int)) (r_mv hT80) ?_
        refine O_p (.i .u8 ((UInt8.ofNat (i % 256)).toNat : Int)) (by exact (by rw [u8_lo]; exact r_cint rfl)) ?_
        refine O_bslice (c := [(.i .u8 ((UInt8.ofNat (i % 256)).toNat : Int))]) rfl fun n83 H84 hN85 => ?_
        have hH86 := hH81.new hN85
        have hH87 := ((((((hH86.top6).top6).top6).top6).top6).top6)
        have hH88 := (((((((hH87.top6).top6).top6).top6).top6).top6).top6)
        refine O_call (Ev.mono (publish_ev (room := clampR room) (n := i) (tp := [116]) (dd := bd i) (tx := false) (da := some (n83, 0)) (dc := 1) (dg := 0) (B := [(n83, some (.cells [.i .u8 ((UInt8.ofNat (i % 256)).toNat : Int)] true))]) (w := (rg nx cnt).map itT) (g := some (0, true)) (lost := 0) hp61 hp62 (by omega) (by decide) (by show 1 ≤ 16384; decide) (.inl rfl) (Nat.le_refl 1) (by decide) (fun H' hh => octs1 (Hs.get (R := []) (by rw [List.append_nil]; exact hh))) hp65 hp66 hp63 hp64 (fun mode f h => by cases h; decide) rg_tp (clampR_le room).1 ⟨Int.le_refl 0, by decide⟩ (by rw [List.length_map, rg_len]; omega) hH88) fun v89 H90 hq91 => ?_)
        rw [hW] at hq91
        obtain ⟨D92, cb93, mb94, ml95, cl96, v97, c98, rows99, rfl, hm100, hcb101, hcg102, hMb103, hmg104, hsq105, hir106, hH107⟩ := hq91
        refine O_p (.tup [(.i .i64 0), (.i .i64 0)]) (r_mv rfl) ?_
        refine O_p (.i .i64 0) (r_ext rfl rfl) ?_
        refine O_p (.i .i64 0) (r_ext rfl rfl) ?_
        refine O_p (.i .i64 0) (r_mv rfl) ?_
        refine O_p (.i .i64 0) (r_mv rfl) ?_
        refine O_nil ?_
        refine C_seq ?_
        refine C_seq ?_
        refine C_region ?_
        refine O_p (.i .i64 0) (r_mv rfl) ?_
        refine O_p (.b false) (r_bin rfl rfl rfl) ?_
        refine O_p (.b false) (r_mv rfl) ?_
        refine O_gk rfl ?_
        refine O_p (.i .i64 0) (r_mv rfl) ?_
        refine O_gk rfl ?_
        refine O_p (.b false) (r_bin rfl rfl rfl) ?_
        refine O_gk rfl ?_
        refine O_p (.b false) (r_mv rfl) ?_
        refine O_gf rfl ?_
        refine O_gf rfl ?_
        refine O_gk rfl ?_
        refine O_p (.b false) (r_pick_f rfl rfl) ?_
        refine O_p (.b false) (r_pick_f rfl rfl) ?_
        refine O_p (.b false) (r_mv rfl) ?_
        refine O_gk rfl ?_
        refine O_p (.i .i64 0) (r_mv rfl) ?_
        refine O_gk rfl ?_
        refine O_p (.b true) (r_bin rfl rfl rfl) ?_
        refine O_gk rfl ?_
        refine O_p (.b true) (r_mv rfl) ?_
        refine O_gk rfl ?_
        refine O_p (.p (some (F6, 0))) (r_mv hT77) ?_
        refine O_gk rfl ?_
        have hall108 : ∀ x ∈ ([(prow true (some mr17) (.sl none 0 0 0) 0), (prow true (some mr26) v97 0), zrow] : List (List AV)), x.length = 4 := fun x hx => by simp only [List.mem_cons, List.not_mem_nil, or_false] at hx; rcases hx with rfl | rfl | rfl <;> rfl
        have hH109 := (((hH107.top3).top2).top2)
        have hH110 : Hs H90 ([(F6, some (.cells ([(.sl (some (Lb7, 0)) 3 3 0), (.i .i64 (((clampR room) : Nat) : Int)), (.m (some cm8))]) true))] ++ ([(Lb7, some (.cells ((([(prow true (some mr17) (.sl none 0 0 0) 0), (prow true (some mr26) v97 0), zrow] : List (List AV)).set 1 (prow true (some mr26) v97 0)).flatten) true))] ++ ([(mr26, some mb94)] ++ ([(cm8, some cb93)] ++ ((qseg v97 c98) ++ (D92 ++ ([(n83, some (.cells ([(.i .u8 ((UInt8.ofNat (i % 256)).toNat : Int))]) true))] ++ ((allL H0) ++ ([]))))))))) := hH109
        have hH111 := (((hH110.top2).top2).top2)
        refine O_call (Ev.mono (failed_some (np := 3) (i := 1) (rws := ([(prow true (some mr17) (.sl none 0 0 0) 0), (prow true (some mr26) v97 0), zrow] : List (List AV))) (tp := [116]) (fl := true) (by decide) hall108 (Nat.le_of_ble_eq_true rfl) hMb103 hmg104 hH111) fun v112 H113 hq114 => ?_)
        obtain ⟨rfl, hH115⟩ := hq114
        refine O_gk rfl ?_
        refine O_p (.b false) (r_un rfl rfl) ?_
        refine O_gk rfl ?_
        refine O_p (.b false) (r_pick_t rfl rfl) ?_
        refine O_p (.b false) (r_pick_f rfl rfl) ?_
        refine O_nil ?_
        refine C_cond (x := false) rfl (fun h => by cases h) (fun _ => ?_)
        refine C_skip ?_
        refine C_seq ?_
        refine C_seq ?_
        refine C_region ?_
        refine O_p (.i .i64 0) (r_mv rfl) ?_
        refine O_p (.b true) (r_bin rfl rfl rfl) ?_
        refine O_p (.b true) (r_mv rfl) ?_
        refine O_gk rfl ?_
        refine O_p (.i .i64 en) (r_mv hT79) ?_
        refine O_gk rfl ?_
        refine O_p (.b false) (by exact (by rw [r_lss rfl rfl, decide_eq_false (by omega)])) ?_
        refine O_p (.b false) (r_pick_t rfl rfl) ?_
        refine O_nil ?_
        refine C_cond (x := false) rfl (fun h => by cases h) (fun _ => ?_)
        refine C_skip ?_
        refine C_seq ?_
        refine C_seq ?_
        refine C_region ?_
        refine O_p (.i .i64 0) (r_mv rfl) ?_
        refine O_p (.b false) (r_bin rfl rfl rfl) ?_
        refine O_p (.b false) (r_mv rfl) ?_
        refine O_gf rfl ?_
        refine O_gf rfl ?_
        refine O_p (.b false) (r_pick_f rfl rfl) ?_
        refine O_nil ?_
        refine C_cond (x := false) rfl (fun h => by cases h) (fun _ => ?_)
        refine C_skip ?_
        refine C_seq ?_
        refine C_region ?_
        refine O_p (.i .i64 0) (r_mv rfl) ?_
        refine O_nil ?_
        refine C_seq ?_
        refine C_seq ?_
        refine C_region ?_
        refine O_p (.i .i64 (((i : Nat)) : Int)) (r_mv hT80) ?_
        refine O_p pv (r_mv hT72) ?_
        refine O_p (.i .i64 (((pl.length : Nat)) : Int)) (r_lenOf (v := pv) (n := pl.length) rfl ((hpv _ hH115.top7.fst).lenOf (List.length_map ..)) (hpv _ hH115.top7.fst).isSl) ?_
        refine O_p (.b (decide ((((i : Nat)) : Int) ≤ (((pl.length : Nat)) : Int)))) (r_leq rfl rfl) ?_
        refine O_nil ?_
        refine C_cond (x := (decide ((((i : Nat)) : Int) ≤ (((pl.length : Nat)) : Int)))) rfl (fun hc116 => ?_) (fun hc116 => ?_)
        ·
          try simp only [decide_eq_true_eq, decide_eq_false_iff_not, Bool.not_eq_true', Bool.not_eq_false', Bool.and_eq_true, Bool.or_eq_true, Bool.or_eq_false_iff, Bool.not_not, Bool.and_eq_false_iff] at hc116
          refine C_region ?_
          refine O_p pv (r_mv hT72) ?_
          refine O_p (.i .i64 (((i : Nat)) : Int)) (r_mv hT80) ?_
          refine O_p (.i .i64 ((((i - 1) : Nat)) : Int)) (by exact (r_subn (a := i) (b := 1) rfl rfl (by omega) (by omega))) ?_
          refine O_q (by exact Rw.row (hpv _ hH115.top7.fst) rfl (i := (i - 1)) rfl (r := [(.i .i64 (pl.getD (i - 1) 0))]) (seq_row (by omega))) fun v118 hv117 => ?_
          obtain ⟨rb119, ro120, rfl, hr121⟩ := hv117
          refine O_p (.i .i64 (pl.getD (i - 1) 0)) (r_ldR (q := 0) rfl (hr121 _ (hpv _ hH115.top7.fst)) rfl) ?_
          obtain ⟨q122, hq122, hlq122⟩ := and_nat (pl.getD (i - 1) 0) 3 (by decide)
          refine O_p (.i .i64 (((q122 : Nat)) : Int)) (by exact (by rw [← hq122]; exact r_bin rfl rfl rfl)) ?_
          refine O_p (.i .i64 (((q122 : Nat)) : Int)) (r_mv rfl) ?_
          refine O_nil ?_
          refine C_seq ?_
          refine C_region ?_
          refine O_p (.i .i64 0) (r_mv rfl) ?_
          refine O_nil ?_
          refine C_block ?_
          have hH123 := (hH115.sub6)
          have hH124 := (((((((hH123.top6).top6).top6).top5).top6).top6).top6)
          have hEE : nx + cnt = E := by omega
          refine C_while (fun m125 T126 H127 => ∃ n2 : Nat, ∃ w : AV, ∃ wc : List AV, ∃ wr : List (List AV), ∃ c2 : Nat, ∃ j : Nat, m125 = c2 ∧ Sq 5 w wc wr.flatten ∧ ItsR D92 wr ((rg n2 c2).map itT) ∧ n2 + c2 = E ∧ j + c2 ≤ 300 ∧ Hs H127 ([(F6, some (.cells ([(.sl (some (Lb7, 0)) 3 3 0), (.i .i64 (((clampR room) : Nat) : Int)), (.m (some cm8))]) true))] ++ ([(Lb7, some (.cells (([(prow true (some mr17) (.sl none 0 0 0) 0), (prow true (some mr26) w 0), zrow] : List (List AV)).flatten) true))] ++ ([(cm8, some cb93)] ++ ([(mr26, some mb94)] ++ ((qseg w wc) ++ (D92 ++ ((allL H0) ++ ([])))))))) ∧ T126.get 0 = (.i .i64 room) ∧ T126.get 1 = pv ∧ T126.get 2 = (.i .i64 n0) ∧ T126.get 6 = (.b false) ∧ T126.get 7 = (.b true) ∧ T126.get 8 = (.i .i64 (((q1 : Nat)) : Int)) ∧ T126.get 9 = (.p (some (F6, 0))) ∧ T126.get 11 = (.i .i64 en) ∧ T126.get 12 = (.i .i64 (((i : Nat)) : Int)) ∧ T126.get 15 = (.i .i64 (((q122 : Nat)) : Int)) ∧ T126.get 10 = (.i .i64 (((n2 : Nat)) : Int)) ∧ T126.get 16 = (.i .i64 (((j : Nat)) : Int))) (fun m125 T126 H127 hI128 => ?_) cnt _ _ ⟨nx, v97, c98, rows99, cnt, 0, rfl, hsq105, hir106, hEE, by omega, hH124, hT71, hT72, hT73, hT74, hT75, hT76, hT77, hT79, hT80, rfl, hT78, rfl⟩
          obtain ⟨n2, w, wc, wr, c2, j, hm129, hp130, hp131, hp132, hp133, hH146, hT134, hT135, hT136, hT137, hT138, hT139, hT140, hT141, hT142, hT143, hT144, hT145⟩ := hI128
          refine C_seq ?_
          refine C_seq ?_
          refine C_region ?_
          refine O_p (.i .i64 (((j : Nat)) : Int)) (r_mv hT145) ?_
          refine O_p (.i .i64 (((q122 : Nat)) : Int)) (r_mv hT143) ?_
          refine O_p (.b (decide ((((j : Nat)) : Int) < (((q122 : Nat)) : Int)))) (r_lss rfl rfl) ?_
          refine O_nil ?_
          refine C_cond (x := (decide ((((j : Nat)) : Int) < (((q122 : Nat)) : Int)))) rfl (fun hc147 => ?_) (fun hc147 => ?_)
          ·
            try simp only [decide_eq_true_eq, decide_eq_false_iff_not, Bool.not_eq_true', Bool.not_eq_false', Bool.and_eq_true, Bool.or_eq_true, Bool.or_eq_false_iff, Bool.not_not, Bool.and_eq_false_iff] at hc147
            refine C_skip ?_
            refine C_seq ?_
            refine C_block ?_
            refine C_seq ?_
            by_cases hc0 : c2 = 0
            ·
              have hp3 := hp131
              rw [hc0] at hp3
              obtain rfl : wr = [] := List.length_eq_zero_iff.1 hp3.1
              have hpe : ItsR D92 [] ((rg n2 c2).map itT) := by rw [hc0]; exact hp3
              refine C_region ?_
              refine O_p (.p (some (F6, 0))) (r_mv hT140) ?_
              have hall148 : ∀ x ∈ ([(prow true (some mr17) (.sl none 0 0 0) 0), (prow true (some mr26) w 0), zrow] : List (List AV)), x.length = 4 := fun x hx => by simp only [List.mem_cons, List.not_mem_nil, or_false] at hx; rcases hx with rfl | rfl | rfl <;> rfl
              have hH149 := (((hH146.top4).top2).top2)
              have hH150 : Hs H127 ([(F6, some (.cells ([(.sl (some (Lb7, 0)) 3 3 0), (.i .i64 (((clampR room) : Nat) : Int)), (.m (some cm8))]) true))] ++ ([(Lb7, some (.cells ((([(prow true (some mr17) (.sl none 0 0 0) 0), (prow true (some mr26) w 0), zrow] : List (List AV)).set 1 (prow true (some mr26) w 0)).flatten) true))] ++ ((qseg w wc) ++ ([(cm8, some cb93)] ++ ([(mr26, some mb94)] ++ (D92 ++ ((allL H0) ++ ([])))))))) := hH149
              have hH151 := (((hH150.top2).top2).top2)
              refine O_call (Ev.mono (pull0_ev (np := 3) (i := 1) (rws := ([(prow true (some mr17) (.sl none 0 0 0) 0), (prow true (some mr26) w 0), zrow] : List (List AV))) (by decide) hall148 (Nat.le_of_ble_eq_true rfl) hp130 hH151) fun v152 H153 hq154 => ?_)
              obtain ⟨rfl, hH155⟩ := hq154
              refine O_p (.tup [(.agg [(.s (txt [])), (.i .i64 0), (.i .i64 0), (.b false), (.sl none 0 0 0)]), (.b false)]) (r_mv rfl) ?_
              refine O_p (.agg [(.s (txt [])), (.i .i64 0), (.i .i64 0), (.b false), (.sl none 0 0 0)]) (r_ext rfl rfl) ?_
              refine O_p (.b false) (r_ext rfl rfl) ?_
              refine O_alloc fun n156 H157 hN158 => ?_
              have hH159 := hH155.new hN158
              refine O_store (vs := [(.s (txt [])), (.i .i64 0), (.i .i64 0), (.b false), (.sl none 0 0 0)]) (c' := [(.s (txt [])), (.i .i64 0), (.i .i64 0), (.b false), (.sl none 0 0 0)]) rfl (by rfl) hH159.get0 rfl (List.cons_ne_nil _ _) (Nat.le_of_ble_eq_true rfl) rfl fun H160 hW161 => ?_
              have hH162 := hH159.wr0 hW161
              refine O_p (.b false) (r_mv rfl) ?_
              refine O_nil ?_
              refine C_seq ?_
              refine C_seq ?_
              refine C_region ?_
              refine O_p (.b false) (r_mv rfl) ?_
              refine O_p (.b true) (r_un rfl rfl) ?_
              refine O_nil ?_
              refine C_cond (x := true) rfl (fun _ => ?_) (fun h => by cases h)
              refine C_exit ?_
              refine nx_exit ?_
              refine bk_miss (by decide) ?_
              refine nx_exit ?_
              refine nx_exit ?_
              refine bk_hit ?_
              refine C_region ?_
              refine O_p (.i .i64 (((i : Nat)) : Int)) (r_mv hT142) ?_
              refine O_p (.i .i64 ((((i : Nat)) : Int) + 1)) (by exact (r_addi rfl rfl (wrap_i64 (by omega) (by omega)))) ?_
              refine O_p (.i .i64 ((((i : Nat)) : Int) + 1)) (r_mv rfl) ?_
              refine O_nil ?_
              have hH163 := (hH162.sub0)
              have hH164 := (((((((hH163.top6).top6).top4).top6).top6).top6).top6)
              exact ⟨q1 + 1 - (i + 1), by omega, cb93, cl96, mb94, ml95, w, wc, ([] : List (List AV)), D92, n2, c2, true, en, E, (i + 1), rfl, by omega, by omega, hcb101, hcg102, hMb103, hmg104, hp130, hpe, by omega, fun h => by first | (cases h; done) | (exact ⟨by omega, by omega⟩), fun h => by first | (cases h; done) | (exact ⟨by omega, by omega⟩), by omega, hH164, hT134, hT135, hT136, hT137, hT138, hT139, hT140, hT144, hT141, rfl⟩
            ·
              have hp3 := hp131
              obtain ⟨c3, rfl⟩ : ∃ z, c2 = z + 1 := ⟨c2 - 1, by omega⟩
              obtain ⟨r0, rz, rfl⟩ : ∃ r rz, wr = r :: rz := by
                cases wr with
                | nil => have := hp3.1; rw [List.length_map, rg_len] at this; simp at this
                | cons r rz => exact ⟨r, rz, rfl⟩
              have hl50 := hp3.lens
              have hp4 : ItsR D92 (r0 :: rz) (itT n2 :: (rg (n2 + 1) c3).map itT) := hp3
              have hpt := hp4.tail
              obtain ⟨rr, hrr, hpk⟩ := hp4.2 0 _ rfl
              simp only [List.getElem?_cons_zero, Option.some.injEq] at hrr
              subst hrr
              obtain ⟨ka, kc, kg, rfl, hkg, _, _, hkb⟩ := hpk
              have hbl : (bd n2).length = 1 := rfl
              refine C_region ?_
              refine O_p (.p (some (F6, 0))) (r_mv hT140) ?_
              have hall165 : ∀ x ∈ ([(prow true (some mr17) (.sl none 0 0 0) 0), (prow true (some mr26) w 0), zrow] : List (List AV)), x.length = 4 := fun x hx => by simp only [List.mem_cons, List.not_mem_nil, or_false] at hx; rcases hx with rfl | rfl | rfl <;> rfl
              have hH166 := (((hH146.top4).top2).top2)
              have hH167 : Hs H127 ([(F6, some (.cells ([(.sl (some (Lb7, 0)) 3 3 0), (.i .i64 (((clampR room) : Nat) : Int)), (.m (some cm8))]) true))] ++ ([(Lb7, some (.cells ((([(prow true (some mr17) (.sl none 0 0 0) 0), (prow true (some mr26) w 0), zrow] : List (List AV)).set 1 (prow true (some mr26) w 0)).flatten) true))] ++ ((qseg w wc) ++ ([(cm8, some cb93)] ++ ([(mr26, some mb94)] ++ (D92 ++ ((allL H0) ++ ([])))))))) := hH166
              have hH168 := (((hH167.top2).top2).top2)
              refine O_call (Ev.mono (pull_ev (np := 3) (i := 1) (rws := ([(prow true (some mr17) (.sl none 0 0 0) 0), (prow true (some mr26) w 0), zrow] : List (List AV))) (by decide) hall165 (Nat.le_of_ble_eq_true rfl) hp130 hl50 hH168) fun v169 H170 hq171 => ?_)
              obtain ⟨v172, c173, rfl, hsq174, hH175⟩ := hq171
              refine O_p (.tup [(.agg [(.s (txt [116])), (.i .i64 0), (.i .i64 (((n2 : Nat)) : Int)), (.b false), (.sl ka 1 kc kg)]), (.b true)]) (r_mv rfl) ?_
              refine O_p (.agg [(.s (txt [116])), (.i .i64 0), (.i .i64 (((n2 : Nat)) : Int)), (.b false), (.sl ka 1 kc kg)]) (r_ext rfl rfl) ?_
              refine O_p (.b true) (r_ext rfl rfl) ?_
              refine O_alloc fun n176 H177 hN178 => ?_
              have hH179 := hH175.new hN178
              refine O_store (vs := [(.s (txt [116])), (.i .i64 0), (.i .i64 (((n2 : Nat)) : Int)), (.b false), (.sl ka 1 kc kg)]) (c' := [(.s (txt [116])), (.i .i64 0), (.i .i64 (((n2 : Nat)) : Int)), (.b false), (.sl ka 1 kc kg)]) rfl (by rfl) hH179.get0 rfl (List.cons_ne_nil _ _) (Nat.le_of_ble_eq_true rfl) rfl fun H180 hW181 => ?_
              have hH182 := hH179.wr0 hW181
              refine O_p (.b true) (r_mv rfl) ?_
              refine O_nil ?_
              refine C_seq ?_
              refine C_seq ?_
              refine C_region ?_
              refine O_p (.b true) (r_mv rfl) ?_
              refine O_p (.b false) (r_un rfl rfl) ?_
              refine O_nil ?_
              refine C_cond (x := false) rfl (fun h => by cases h) (fun _ => ?_)
              refine C_skip ?_
              refine C_seq ?_
              refine C_seq ?_
              refine C_region ?_
              refine O_p (.p (some (n176, 2))) (r_fadd' rfl rfl) ?_
              refine O_p (.i .i64 (((n2 : Nat)) : Int)) (r_ld rfl hH182.get0 rfl) ?_
              refine O_p (.i .i64 (((n2 : Nat)) : Int)) (r_mv hT144) ?_
              refine O_p (.b false) (r_nqq rfl rfl) ?_
              refine O_p (.b false) (r_mv rfl) ?_
              refine O_gk rfl ?_
              refine O_p (.p (some (n176, 4))) (r_fadd' rfl rfl) ?_
              refine O_gk rfl ?_
              refine O_p (.sl ka 1 kc kg) (r_ld rfl hH182.get0 rfl) ?_
              refine O_gk rfl ?_
              refine O_p (.i .i64 1) (r_len rfl) ?_
              refine O_gk rfl ?_
              refine O_p (.b false) (r_bin rfl rfl rfl) ?_
              refine O_p (.b false) (r_pick_f rfl rfl) ?_
              refine O_p (.b false) (r_mv rfl) ?_
              refine O_gk rfl ?_
              refine O_p (.p (some (n176, 4))) (r_fadd' rfl rfl) ?_
              refine O_gk rfl ?_
              refine O_p (.sl ka 1 kc kg) (r_ld rfl hH182.get0 rfl) ?_
              refine O_gk rfl ?_
              refine O_q (by exact Bs.ix (hkb _ hH182.top6.fst) rfl (i := 0) rfl (by first | omega | (simp only [List.length_take, List.length_drop, List.length_append, List.length_cons, List.length_nil, beN_len] <;> omega))) fun v184 hv183 => ?_
              refine O_gk rfl ?_
              refine O_p (.i .u8 (((bd n2).getD 0 0).toNat : Int)) (hv183.load rfl) ?_
              refine O_gk rfl ?_
              refine O_p (.i .i64 (((n2 : Nat)) : Int)) (r_mv hT144) ?_
              refine O_gk rfl ?_
              refine O_p (.i .u8 ((UInt8.ofNat (n2 % 256)).toNat : Int)) (by exact (by rw [u8_lo]; exact r_cint rfl)) ?_
              refine O_gk rfl ?_
              refine O_p (.b false) (by exact (by rw [r_neq rfl rfl, decide_eq_true (show (((bd n2).getD 0 0).toNat : Int) = ((UInt8.ofNat (n2 % 256)).toNat : Int) from rfl)]; rfl)) ?_
              refine O_p (.b false) (r_pick_f rfl rfl) ?_
              refine O_p (.b false) (r_mv rfl) ?_
              refine O_gk rfl ?_
              refine O_p (.p (some (n176, 1))) (r_fadd' rfl rfl) ?_
              refine O_gk rfl ?_
              refine O_p (.i .i64 0) (r_ld rfl hH182.get0 rfl) ?_
              refine O_gk rfl ?_
              refine O_p (.b false) (r_bin rfl rfl rfl) ?_
              refine O_p (.b false) (r_pick_f rfl rfl) ?_
              refine O_nil ?_
              refine C_cond (x := false) rfl (fun h => by cases h) (fun _ => ?_)
              refine C_skip ?_
              refine C_region ?_
              refine O_p (.i .i64 (((n2 : Nat)) : Int)) (r_mv hT144) ?_
              refine O_p (.i .i64 ((((n2 : Nat)) : Int) + 1)) (by exact (r_addi rfl rfl (wrap_i64 (by omega) (by omega)))) ?_
              refine O_p (.i .i64 ((((n2 : Nat)) : Int) + 1)) (r_mv rfl) ?_
              refine O_nil ?_
              refine C_region ?_
              refine O_p (.i .i64 (((j : Nat)) : Int)) (r_mv hT145) ?_
              refine O_p (.i .i64 ((((j : Nat)) : Int) + 1)) (by exact (r_addi rfl rfl (wrap_i64 (by omega) (by omega)))) ?_
              refine O_p (.i .i64 ((((j : Nat)) : Int) + 1)) (r_mv rfl) ?_
              refine O_nil ?_
              have hH185 := (hH182.sub0)
              have hH186 := (((((((hH185.top6).top6).top4).top6).top6).top6).top6)
              exact ⟨c3, by omega, (n2 + 1), v172, c173, rz, c3, (j + 1), rfl, hsq174, hpt, by omega, by omega, hH186, hT134, hT135, hT136, hT137, hT138, hT139, hT140, hT141, hT142, hT143, rfl, rfl⟩
          ·
            try simp only [decide_eq_true_eq, decide_eq_false_iff_not, Bool.not_eq_true', Bool.not_eq_false', Bool.and_eq_true, Bool.or_eq_true, Bool.or_eq_false_iff, Bool.not_not, Bool.and_eq_false_iff] at hc147
            refine C_exit ?_
            refine nx_exit ?_
            refine nx_exit ?_
            refine bk_hit ?_
            refine C_region ?_
            refine O_p (.i .i64 (((i : Nat)) : Int)) (r_mv hT142) ?_
            refine O_p (.i .i64 ((((i : Nat)) : Int) + 1)) (by exact (r_addi rfl rfl (wrap_i64 (by omega) (by omega)))) ?_
            refine O_p (.i .i64 ((((i : Nat)) : Int) + 1)) (r_mv rfl) ?_
            refine O_nil ?_
            have hH187 := (((((((hH146.top6).top6).top6).top6).top6).top6).top6)
            exact ⟨q1 + 1 - (i + 1), by omega, cb93, cl96, mb94, ml95, w, wc, wr, D92, n2, c2, true, en, E, (i + 1), rfl, by omega, by omega, hcb101, hcg102, hMb103, hmg104, hp130, hp131, by omega, fun h => by first | (cases h; done) | (exact ⟨by omega, by omega⟩), fun h => by first | (cases h; done) | (exact ⟨by omega, by omega⟩), by omega, hH187, hT134, hT135, hT136, hT137, hT138, hT139, hT140, hT144, hT141, rfl⟩
        ·
          try simp only [decide_eq_true_eq, decide_eq_false_iff_not, Bool.not_eq_true', Bool.not_eq_false', Bool.and_eq_true, Bool.or_eq_true, Bool.or_eq_false_iff, Bool.not_not, Bool.and_eq_false_iff] at hc116
          refine C_skip ?_
          refine C_seq ?_
          refine C_region ?_
          refine O_p (.i .i64 0) (r_mv rfl) ?_
          refine O_nil ?_
          refine C_block ?_
          have hH188 := (hH115.sub6)
          have hH189 := (((((((hH188.top6).top6).top6).top5).top6).top6).top6)
          have hEE : nx + cnt = E := by omega
          refine C_while (fun m190 T191 H192 => ∃ n2 : Nat, ∃ w : AV, ∃ wc : List AV, ∃ wr : List (List AV), ∃ c2 : Nat, ∃ j : Nat, m190 = c2 ∧ Sq 5 w wc wr.flatten ∧ ItsR D92 wr ((rg n2 c2).map itT) ∧ n2 + c2 = E ∧ j + c2 ≤ 300 ∧ Hs H192 ([(F6, some (.cells ([(.sl (some (Lb7, 0)) 3 3 0), (.i .i64 (((clampR room) : Nat) : Int)), (.m (some cm8))]) true))] ++ ([(Lb7, some (.cells (([(prow true (some mr17) (.sl none 0 0 0) 0), (prow true (some mr26) w 0), zrow] : List (List AV)).flatten) true))] ++ ([(cm8, some cb93)] ++ ([(mr26, some mb94)] ++ ((qseg w wc) ++ (D92 ++ ((allL H0) ++ ([])))))))) ∧ T191.get 0 = (.i .i64 room) ∧ T191.get 1 = pv ∧ T191.get 2 = (.i .i64 n0) ∧ T191.get 6 = (.b false) ∧ T191.get 7 = (.b true) ∧ T191.get 8 = (.i .i64 (((q1 : Nat)) : Int)) ∧ T191.get 9 = (.p (some (F6, 0))) ∧ T191.get 11 = (.i .i64 en) ∧ T191.get 12 = (.i .i64 (((i : Nat)) : Int)) ∧ T191.get 15 = (.i .i64 0) ∧ T191.get 10 = (.i .i64 (((n2 : Nat)) : Int)) ∧ T191.get 16 = (.i .i64 (((j : Nat)) : Int))) (fun m190 T191 H192 hI193 => ?_) cnt _ _ ⟨nx, v97, c98, rows99, cnt, 0, rfl, hsq105, hir106, hEE, by omega, hH189, hT71, hT72, hT73, hT74, hT75, hT76, hT77, hT79, hT80, rfl, hT78, rfl⟩
          obtain ⟨n2, w, wc, wr, c2, j, hm194, hp195, hp196, hp197, hp198, hH211, hT199, hT200, hT201, hT202, hT203, hT204, hT205, hT206, hT207, hT208, hT209, hT210⟩ := hI193
          refine C_seq ?_
          refine C_seq ?_
          refine C_region ?_
          refine O_p (.i .i64 (((j : Nat)) : Int)) (r_mv hT210) ?_
          refine O_p (.i .i64 0) (r_mv hT208) ?_
          refine O_p (.b false) (by exact (by rw [r_lss rfl rfl, decide_eq_false (by omega)])) ?_
          refine O_nil ?_
          refine C_cond (x := false) rfl (fun h => by cases h) (fun _ => ?_)
          refine C_exit ?_
          refine nx_exit ?_
          refine nx_exit ?_
          refine bk_hit ?_
          refine C_region ?_
          refine O_p (.i .i64 (((i : Nat)) : Int)) (r_mv hT207) ?_
          refine O_p (.i .i64 ((((i : Nat)) : Int) + 1)) (by exact (r_addi rfl rfl (wrap_i64 (by omega) (by omega)))) ?_
          refine O_p (.i .i64 ((((i : Nat)) : Int) + 1)) (r_mv rfl) ?_
          refine O_nil ?_
          have hH212 := (((((((hH211.top6).top6).top6).top6).top6).top6).top6)
          exact ⟨q1 + 1 - (i + 1), by omega, cb93, cl96, mb94, ml95, w, wc, wr, D92, n2, c2, true, en, E, (i + 1), rfl, by omega, by omega, hcb101, hcg102, hMb103, hmg104, hp195, hp196, by omega, fun h => by first | (cases h; done) | (exact ⟨by omega, by omega⟩), fun h => by first | (cases h; done) | (exact ⟨by omega, by omega⟩), by omega, hH212, hT199, hT200, hT201, hT202, hT203, hT204, hT205, hT209, hT206, rfl⟩
      ·
        have hcE := hp67
        obtain rfl : f = false := by simpa using hf
        obtain ⟨hEi, hen⟩ := hp68 rfl
        by_cases hr : cnt < clampR room
        ·
          have hW := handR_room (nx := nx) hr (hcE.trans hEi)
          refine C_region ?_
          refine O_p (.p (some (F6, 0))) (r_mv hT77) ?_
          refine O_p (.i .i64 (((i : Nat)) : Int)) (r_mv hT80) ?_
          refine O_p (.i .u8 ((UInt8.ofNat (i % 256)).toNat : Int)) (by exact (by rw [u8_lo]; exact r_cint rfl)) ?_
          refine O_bslice (c := [(.i .u8 ((UInt8.ofNat (i % 256)).toNat : Int))]) rfl fun n213 H214 hN215 => ?_
          have hH216 := hH81.new hN215
          have hH217 := ((((((hH216.top6).top6).top6).top6).top6).top6)
          have hH218 := (((((((hH217.top6).top6).top6).top6).top6).top6).top6)
          refine O_call (Ev.mono (publish_ev (room := clampR room) (n := i) (tp := [116]) (dd := bd i) (tx := false) (da := some (n213, 0)) (dc := 1) (dg := 0) (B := [(n213, some (.cells [.i .u8 ((UInt8.ofNat (i % 256)).toNat : Int)] true))]) (w := (rg nx cnt).map itT) (g := some (0, false)) (lost := 0) hp61 hp62 (by omega) (by decide) (by show 1 ≤ 16384; decide) (.inl rfl) (Nat.le_refl 1) (by decide) (fun H' hh => octs1 (Hs.get (R := []) (by rw [List.append_nil]; exact hh))) hp65 hp66 hp63 hp64 (fun mode f h => by cases h; decide) rg_tp (clampR_le room).1 ⟨Int.le_refl 0, by decide⟩ (by rw [List.length_map, rg_len]; omega) hH218) fun v219 H220 hq221 => ?_)
          rw [hW] at hq221
          obtain ⟨D222, cb223, mb224, ml225, cl226, v227, c228, rows229, rfl, hm230, hcb231, hcg232, hMb233, hmg234, hsq235, hir236, hH237⟩ := hq221
          refine O_p (.tup [(.i .i64 1), (.i .i64 0)]) (r_mv rfl) ?_
          refine O_p (.i .i64 1) (r_ext rfl rfl) ?_
          refine O_p (.i .i64 0) (r_ext rfl rfl) ?_
          refine O_p (.i .i64 1) (r_mv rfl) ?_
          refine O_p (.i .i64 0) (r_mv rfl) ?_
          refine O_nil ?_
          refine C_seq ?_
          refine C_seq ?_
          refine C_region ?_
          refine O_p (.i .i64 0) (r_mv rfl) ?_
          refine O_p (.b false) (r_bin rfl rfl rfl) ?_
          refine O_p (.b false) (r_mv rfl) ?_
          refine O_gk rfl ?_
          refine O_p (.i .i64 1) (r_mv rfl) ?_
          refine O_gk rfl ?_
          refine O_p (.b true) (r_bin rfl rfl rfl) ?_
          refine O_gk rfl ?_
          refine O_p (.b true) (r_mv rfl) ?_
          refine O_gk rfl ?_
          refine O_p (.i .i64 1) (r_mv rfl) ?_
          refine O_gk rfl ?_
          refine O_p (.b false) (r_bin rfl rfl rfl) ?_
          refine O_gk rfl ?_
          refine O_p (.b false) (r_pick_t rfl rfl) ?_
          refine O_p (.b false) (r_pick_f rfl rfl) ?_
          refine O_p (.b false) (r_mv rfl) ?_
          refine O_gk rfl ?_
          refine O_p (.i .i64 1) (r_mv rfl) ?_
          refine O_gk rfl ?_
          refine O_p (.b false) (r_bin rfl rfl rfl) ?_
          refine O_gk rfl ?_
          refine O_p (.b false) (r_mv rfl) ?_
          refine O_gf rfl ?_
          refine O_gf rfl ?_
          refine O_gf rfl ?_
          refine O_gk rfl ?_
          refine O_p (.b false) (r_pick_f rfl rfl) ?_
          refine O_p (.b false) (r_pick_f rfl rfl) ?_
          refine O_nil ?_
          refine C_cond (x := false) rfl (fun h => by cases h) (fun _ => ?_)
          refine C_skip ?_
          refine C_seq ?_
          refine C_seq ?_
          refine C_region ?_
          refine O_p (.i .i64 1) (r_mv rfl) ?_
          refine O_p (.b false) (r_bin rfl rfl rfl) ?_
          refine O_p (.b false) (r_mv rfl) ?_
          refine O_gf rfl ?_
          refine O_gf rfl ?_
          refine O_p (.b false) (r_pick_f rfl rfl) ?_
          refine O_nil ?_
          refine C_cond (x := false) rfl (fun h => by cases h) (fun _ => ?_)
          refine C_skip ?_
          refine C_seq ?_
          refine C_seq ?_
          refine C_region ?_
          refine O_p (.i .i64 1) (r_mv rfl) ?_
          refine O_p (.b true) (r_bin rfl rfl rfl) ?_
          refine O_p (.b true) (r_mv rfl) ?_
          refine O_gk rfl ?_
          refine O_p (.i .i64 en) (r_mv hT79) ?_
          refine O_gk rfl ?_
          refine O_p (.b false) (by exact (by rw [r_geq rfl rfl, decide_eq_false (by omega)])) ?_
          refine O_p (.b false) (r_pick_t rfl rfl) ?_
          refine O_nil ?_
          refine C_cond (x := false) rfl (fun h => by cases h) (fun _ => ?_)
          refine C_skip ?_
          refine C_seq ?_
          refine C_region ?_
          refine O_p (.i .i64 0) (r_mv rfl) ?_
          refine O_nil ?_
          refine C_seq ?_
          refine C_seq ?_
          refine C_region ?_
          refine O_p (.i .i64 (((i : Nat)) : Int)) (r_mv hT80) ?_
          refine O_p pv (r_mv hT72) ?_
          refine O_p (.i .i64 (((pl.length : Nat)) : Int)) (r_lenOf (v := pv) (n := pl.length) rfl ((hpv _ hH237.top7.fst).lenOf (List.length_map ..)) (hpv _ hH237.top7.fst).isSl) ?_
          refine O_p (.b (decide ((((i : Nat)) : Int) ≤ (((pl.length : Nat)) : Int)))) (r_leq rfl rfl) ?_
          refine O_nil ?_
          refine C_cond (x := (decide ((((i : Nat)) : Int) ≤ (((pl.length : Nat)) : Int)))) rfl (fun hc238 => ?_) (fun hc238 => ?_)
          ·
            try simp only [decide_eq_true_eq, decide_eq_false_iff_not, Bool.not_eq_true', Bool.not_eq_false', Bool.and_eq_true, Bool.or_eq_true, Bool.or_eq_false_iff, Bool.not_not, Bool.and_eq_false_iff] at hc238
            refine C_region ?_
            refine O_p pv (r_mv hT72) ?_
            refine O_p (.i .i64 (((i : Nat)) : Int)) (r_mv hT80) ?_
            refine O_p (.i .i64 ((((i - 1) : Nat)) : Int)) (by exact (r_subn (a := i) (b := 1) rfl rfl (by omega) (by omega))) ?_
            refine O_q (by exact Rw.row (hpv _ hH237.top7.fst) rfl (i := (i - 1)) rfl (r := [(.i .i64 (pl.getD (i - 1) 0))]) (seq_row (by omega))) fun v240 hv239 => ?_
            obtain ⟨rb241, ro242, rfl, hr243⟩ := hv239
            refine O_p (.i .i64 (pl.getD (i - 1) 0)) (r_ldR (q := 0) rfl (hr243 _ (hpv _ hH237.top7.fst)) rfl) ?_
            obtain ⟨q244, hq244, hlq244⟩ := and_nat (pl.getD (i - 1) 0) 3 (by decide)
            refine O_p (.i .i64 (((q244 : Nat)) : Int)) (by exact (by rw [← hq244]; exact r_bin rfl rfl rfl)) ?_
            refine O_p (.i .i64 (((q244 : Nat)) : Int)) (r_mv rfl) ?_
            refine O_nil ?_
            refine C_seq ?_
            refine C_region ?_
            refine O_p (.i .i64 0) (r_mv rfl) ?_
            refine O_nil ?_
            refine C_block ?_
            have hH245 := (hH237.sub6)
            have hH246 := (((((((hH245.top6).top6).top6).top6).top6).top6).top6)
            have hEE : nx + (cnt + 1) = (i + 1) := by omega
            refine C_while (fun m247 T248 H249 => ∃ n2 : Nat, ∃ w : AV, ∃ wc : List AV, ∃ wr : List (List AV), ∃ c2 : Nat, ∃ j : Nat, m247 = c2 ∧ Sq 5 w wc wr.flatten ∧ ItsR D222 wr ((rg n2 c2).map itT) ∧ n2 + c2 = (i + 1) ∧ j + c2 ≤ 300 ∧ Hs H249 ([(F6, some (.cells ([(.sl (some (Lb7, 0)) 3 3 0), (.i .i64 (((clampR room) : Nat) : Int)), (.m (some cm8))]) true))] ++ ([(Lb7, some (.cells (([(prow true (some mr17) (.sl none 0 0 0) 0), (prow true (some mr26) w 0), zrow] : List (List AV)).flatten) true))] ++ ([(cm8, some cb223)] ++ ([(mr26, some mb224)] ++ ((qseg w wc) ++ (D222 ++ ((allL H0) ++ ([])))))))) ∧ T248.get 0 = (.i .i64 room) ∧ T248.get 1 = pv ∧ T248.get 2 = (.i .i64 n0) ∧ T248.get 6 = (.b false) ∧ T248.get 7 = (.b true) ∧ T248.get 8 = (.i .i64 (((q1 : Nat)) : Int)) ∧ T248.get 9 = (.p (some (F6, 0))) ∧ T248.get 11 = (.i .i64 en) ∧ T248.get 12 = (.i .i64 (((i : Nat)) : Int)) ∧ T248.get 15 = (.i .i64 (((q244 : Nat)) : Int)) ∧ T248.get 10 = (.i .i64 (((n2 : Nat)) : Int)) ∧ T248.get 16 = (.i .i64 (((j : Nat)) : Int))) (fun m247 T248 H249 hI250 => ?_) (cnt + 1) _ _ ⟨nx, v227, c228, rows229, (cnt + 1), 0, rfl, hsq235, hir236, hEE, by omega, hH246, hT71, hT72, hT73, hT74, hT75, hT76, hT77, hT79, hT80, rfl, hT78, rfl⟩
            obtain ⟨n2, w, wc, wr, c2, j, hm251, hp252, hp253, hp254, hp255, hH268, hT256, hT257, hT258, hT259, hT260, hT261, hT262, hT263, hT264, hT265, hT266, hT267⟩ := hI250
            refine C_seq ?_
            refine C_seq ?_
            refine C_region ?_
            refine O_p (.i .i64 (((j : Nat)) : Int)) (r_mv hT267) ?_
            refine O_p (.i .i64 (((q244 : Nat)) : Int)) (r_mv hT265) ?_
            refine O_p (.b (decide ((((j : Nat)) : Int) < (((q244 : Nat)) : Int)))) (r_lss rfl rfl) ?_
            refine O_nil ?_
            refine C_cond (x := (decide ((((j : Nat)) : Int) < (((q244 : Nat)) : Int)))) rfl (fun hc269 => ?_) (fun hc269 => ?_)
            ·
              try simp only [decide_eq_true_eq, decide_eq_false_iff_not, Bool.not_eq_true', Bool.not_eq_false', Bool.and_eq_true, Bool.or_eq_true, Bool.or_eq_false_iff, Bool.not_not, Bool.and_eq_false_iff] at hc269
              refine C_skip ?_
              refine C_seq ?_
              refine C_block ?_
              refine C_seq ?_
              by_cases hc0 : c2 = 0
              ·
                have hp3 := hp253
                rw [hc0] at hp3
                obtain rfl : wr = [] := List.length_eq_zero_iff.1 hp3.1
                have hpe : ItsR D222 [] ((rg n2 c2).map itT) := by rw [hc0]; exact hp3
                refine C_region ?_
                refine O_p (.p (some (F6, 0))) (r_mv hT262) ?_
                have hall270 : ∀ x ∈ ([(prow true (some mr17) (.sl none 0 0 0) 0), (prow true (some mr26) w 0), zrow] : List (List AV)), x.length = 4 := fun x hx => by simp only [List.mem_cons, List.not_mem_nil, or_false] at hx; rcases hx with rfl | rfl | rfl <;> rfl
                have hH271 := (((hH268.top4).top2).top2)
                have hH272 : Hs H249 ([(F6, some (.cells ([(.sl (some (Lb7, 0)) 3 3 0), (.i .i64 (((clampR room) : Nat) : Int)), (.m (some cm8))]) true))] ++ ([(Lb7, some (.cells ((([(prow true (some mr17) (.sl none 0 0 0) 0), (prow true (some mr26) w 0), zrow] : List (List AV)).set 1 (prow true (some mr26) w 0)).flatten) true))] ++ ((qseg w wc) ++ ([(cm8, some cb223)] ++ ([(mr26, some mb224)] ++ (D222 ++ ((allL H0) ++ ([])))))))) := hH271
                have hH273 := (((hH272.top2).top2).top2)
                refine O_call (Ev.mono (pull0_ev (np := 3) (i := 1) (rws := ([(prow true (some mr17) (.sl none 0 0 0) 0), (prow true (some mr26) w 0), zrow] : List (List AV))) (by decide) hall270 (Nat.le_of_ble_eq_true rfl) hp252 hH273) fun v274 H275 hq276 => ?_)
                obtain ⟨rfl, hH277⟩ := hq276
                refine O_p (.tup [(.agg [(.s (txt [])), (.i .i64 0), (.i .i64 0), (.b false), (.sl none 0 0 0)]), (.b false)]) (r_mv rfl) ?_
                refine O_p (.agg [(.s (txt [])), (.i .i64 0), (.i .i64 0), (.b false), (.sl none 0 0 0)]) (r_ext rfl rfl) ?_
                refine O_p (.b false) (r_ext rfl rfl) ?_
                refine O_alloc fun n278 H279 hN280 => ?_
                have hH281 := hH277.new hN280
                refine O_store (vs := [(.s (txt [])), (.i .i64 0), (.i .i64 0), (.b false), (.sl none 0 0 0)]) (c' := [(.s (txt [])), (.i .i64 0), (.i .i64 0), (.b false), (.sl none 0 0 0)]) rfl (by rfl) hH281.get0 rfl (List.cons_ne_nil _ _) (Nat.le_of_ble_eq_true rfl) rfl fun H282 hW283 => ?_
                have hH284 := hH281.wr0 hW283
                refine O_p (.b false) (r_mv rfl) ?_
                refine O_nil ?_
                refine C_seq ?_
                refine C_seq ?_
                refine C_region ?_
                refine O_p (.b false) (r_mv rfl) ?_
                refine O_p (.b true) (r_un rfl rfl) ?_
                refine O_nil ?_
                refine C_cond (x := true) rfl (fun _ => ?_) (fun h => by cases h)
                refine C_exit ?_
                refine nx_exit ?_
                refine bk_miss (by decide) ?_
                refine nx_exit ?_
                refine nx_exit ?_
                refine bk_hit ?_
                refine C_region ?_
                refine O_p (.i .i64 (((i : Nat)) : Int)) (r_mv hT264) ?_
                refine O_p (.i .i64 ((((i : Nat)) : Int) + 1)) (by exact (r_addi rfl rfl (wrap_i64 (by omega) (by omega)))) ?_
                refine O_p (.i .i64 ((((i : Nat)) : Int) + 1)) (r_mv rfl) ?_
                refine O_nil ?_
                have hH285 := (hH284.sub0)
                have hH286 := (((((((hH285.top6).top6).top4).top6).top6).top6).top6)
                exact ⟨q1 + 1 - (i + 1), by omega, cb223, cl226, mb224, ml225, w, wc, ([] : List (List AV)), D222, n2, c2, false, en, (i + 1), (i + 1), rfl, by omega, by omega, hcb231, hcg232, hMb233, hmg234, hp252, hpe, by omega, fun h => by first | (cases h; done) | (exact ⟨by omega, by omega⟩), fun h => by first | (cases h; done) | (exact ⟨by omega, by omega⟩), by omega, hH286, hT256, hT257, hT258, hT259, hT260, hT261, hT262, hT266, hT263, rfl⟩
              ·
                have hp3 := hp253
                obtain ⟨c3, rfl⟩ : ∃ z, c2 = z + 1 := ⟨c2 - 1, by omega⟩
                obtain ⟨r0, rz, rfl⟩ : ∃ r rz, wr = r :: rz := by
                  cases wr with
                  | nil => have := hp3.1; rw [List.length_map, rg_len] at this; simp at this
                  | cons r rz => exact ⟨r, rz, rfl⟩
                have hl50 := hp3.lens
                have hp4 : ItsR D222 (r0 :: rz) (itT n2 :: (rg (n2 + 1) c3).map itT) := hp3
                have hpt := hp4.tail
                obtain ⟨rr, hrr, hpk⟩ := hp4.2 0 _ rfl
                simp only [List.getElem?_cons_zero, Option.some.injEq] at hrr
                subst hrr
                obtain ⟨ka, kc, kg, rfl, hkg, _, _, hkb⟩ := hpk
                have hbl : (bd n2).length = 1 := rfl
                refine C_region ?_
                refine O_p (.p (some (F6, 0))) (r_mv hT262) ?_
                have hall287 : ∀ x ∈ ([(prow true (some mr17) (.sl none 0 0 0) 0), (prow true (some mr26) w 0), zrow] : List (List AV)), x.length = 4 := fun x hx => by simp only [List.mem_cons, List.not_mem_nil, or_false] at hx; rcases hx with rfl | rfl | rfl <;> rfl
                have hH288 := (((hH268.top4).top2).top2)
                have hH289 : Hs H249 ([(F6, some (.cells ([(.sl (some (Lb7, 0)) 3 3 0), (.i .i64 (((clampR room) : Nat) : Int)), (.m (some cm8))]) true))] ++ ([(Lb7, some (.cells ((([(prow true (some mr17) (.sl none 0 0 0) 0), (prow true (some mr26) w 0), zrow] : List (List AV)).set 1 (prow true (some mr26) w 0)).flatten) true))] ++ ((qseg w wc) ++ ([(cm8, some cb223)] ++ ([(mr26, some mb224)] ++ (D222 ++ ((allL H0) ++ ([])))))))) := hH288
                have hH290 := (((hH289.top2).top2).top2)
                refine O_call (Ev.mono (pull_ev (np := 3) (i := 1) (rws := ([(prow true (some mr17) (.sl none 0 0 0) 0), (prow true (some mr26) w 0), zrow] : List (List AV))) (by decide) hall287 (Nat.le_of_ble_eq_true rfl) hp252 hl50 hH290) fun v291 H292 hq293 => ?_)
                obtain ⟨v294, c295, rfl, hsq296, hH297⟩ := hq293
                refine O_p (.tup [(.agg [(.s (txt [116])), (.i .i64 0), (.i .i64 (((n2 : Nat)) : Int)), (.b false), (.sl ka 1 kc kg)]), (.b true)]) (r_mv rfl) ?_
                refine O_p (.agg [(.s (txt [116])), (.i .i64 0), (.i .i64 (((n2 : Nat)) : Int)), (.b false), (.sl ka 1 kc kg)]) (r_ext rfl rfl) ?_
                refine O_p (.b true) (r_ext rfl rfl) ?_
                refine O_alloc fun n298 H299 hN300 => ?_
                have hH301 := hH297.new hN300
                refine O_store (vs := [(.s (txt [116])), (.i .i64 0), (.i .i64 (((n2 : Nat)) : Int)), (.b false), (.sl ka 1 kc kg)]) (c' := [(.s (txt [116])), (.i .i64 0), (.i .i64 (((n2 : Nat)) : Int)), (.b false), (.sl ka 1 kc kg)]) rfl (by rfl) hH301.get0 rfl (List.cons_ne_nil _ _) (Nat.le_of_ble_eq_true rfl) rfl fun H302 hW303 => ?_
                have hH304 := hH301.wr0 hW303
                refine O_p (.b true) (r_mv rfl) ?_
                refine O_nil ?_
                refine C_seq ?_
                refine C_seq ?_
                refine C_region ?_
                refine O_p (.b true) (r_mv rfl) ?_
                refine O_p (.b false) (r_un rfl rfl) ?_
                refine O_nil ?_
                refine C_cond (x := false) rfl (fun h => by cases h) (fun _ => ?_)
                refine C_skip ?_
                refine C_seq ?_
                refine C_seq ?_
                refine C_region ?_
                refine O_p (.p (some (n298, 2))) (r_fadd' rfl rfl) ?_
                refine O_p (.i .i64 (((n2 : Nat)) : Int)) (r_ld rfl hH304.get0 rfl) ?_
                refine O_p (.i .i64 (((n2 : Nat)) : Int)) (r_mv hT266) ?_
                refine O_p (.b false) (r_nqq rfl rfl) ?_
                refine O_p (.b false) (r_mv rfl) ?_
                refine O_gk rfl ?_
                refine O_p (.p (some (n298, 4))) (r_fadd' rfl rfl) ?_
                refine O_gk rfl ?_
                refine O_p (.sl ka 1 kc kg) (r_ld rfl hH304.get0 rfl) ?_
                refine O_gk rfl ?_
                refine O_p (.i .i64 1) (r_len rfl) ?_
                refine O_gk rfl ?_
                refine O_p (.b false) (r_bin rfl rfl rfl) ?_
                refine O_p (.b false) (r_pick_f rfl rfl) ?_
                refine O_p (.b false) (r_mv rfl) ?_
                refine O_gk rfl ?_
                refine O_p (.p (some (n298, 4))) (r_fadd' rfl rfl) ?_
                refine O_gk rfl ?_
                refine O_p (.sl ka 1 kc kg) (r_ld rfl hH304.get0 rfl) ?_
                refine O_gk rfl ?_
                refine O_q (by exact Bs.ix (hkb _ hH304.top6.fst) rfl (i := 0) rfl (by first | omega | (simp only [List.length_take, List.length_drop, List.length_append, List.length_cons, List.length_nil, beN_len] <;> omega))) fun v306 hv305 => ?_
                refine O_gk rfl ?_
                refine O_p (.i .u8 (((bd n2).getD 0 0).toNat : Int)) (hv305.load rfl) ?_
                refine O_gk rfl ?_
                refine O_p (.i .i64 (((n2 : Nat)) : Int)) (r_mv hT266) ?_
                refine O_gk rfl ?_
                refine O_p (.i .u8 ((UInt8.ofNat (n2 % 256)).toNat : Int)) (by exact (by rw [u8_lo]; exact r_cint rfl)) ?_
                refine O_gk rfl ?_
                refine O_p (.b false) (by exact (by rw [r_neq rfl rfl, decide_eq_true (show (((bd n2).getD 0 0).toNat : Int) = ((UInt8.ofNat (n2 % 256)).toNat : Int) from rfl)]; rfl)) ?_
                refine O_p (.b false) (r_pick_f rfl rfl) ?_
                refine O_p (.b false) (r_mv rfl) ?_
                refine O_gk rfl ?_
                refine O_p (.p (some (n298, 1))) (r_fadd' rfl rfl) ?_
                refine O_gk rfl ?_
                refine O_p (.i .i64 0) (r_ld rfl hH304.get0 rfl) ?_
                refine O_gk rfl ?_
                refine O_p (.b false) (r_bin rfl rfl rfl) ?_
                refine O_p (.b false) (r_pick_f rfl rfl) ?_
                refine O_nil ?_
                refine C_cond (x := false) rfl (fun h => by cases h) (fun _ => ?_)
                refine C_skip ?_
                refine C_region ?_
                refine O_p (.i .i64 (((n2 : Nat)) : Int)) (r_mv hT266) ?_
                refine O_p (.i .i64 ((((n2 : Nat)) : Int) + 1)) (by exact (r_addi rfl rfl (wrap_i64 (by omega) (by omega)))) ?_
                refine O_p (.i .i64 ((((n2 : Nat)) : Int) + 1)) (r_mv rfl) ?_
                refine O_nil ?_
                refine C_region ?_
                refine O_p (.i .i64 (((j : Nat)) : Int)) (r_mv hT267) ?_
                refine O_p (.i .i64 ((((j : Nat)) : Int) + 1)) (by exact (r_addi rfl rfl (wrap_i64 (by omega) (by omega)))) ?_
                refine O_p (.i .i64 ((((j : Nat)) : Int) + 1)) (r_mv rfl) ?_
                refine O_nil ?_
                have hH307 := (hH304.sub0)
                have hH308 := (((((((hH307.top6).top6).top4).top6).top6).top6).top6)
                exact ⟨c3, by omega, (n2 + 1), v294, c295, rz, c3, (j + 1), rfl, hsq296, hpt, by omega, by omega, hH308, hT256, hT257, hT258, hT259, hT260, hT261, hT262, hT263, hT264, hT265, rfl, rfl⟩
            ·
              try simp only [decide_eq_true_eq, decide_eq_false_iff_not, Bool.not_eq_true', Bool.not_eq_false', Bool.and_eq_true, Bool.or_eq_true, Bool.or_eq_false_iff, Bool.not_not, Bool.and_eq_false_iff] at hc269
              refine C_exit ?_
              refine nx_exit ?_
              refine nx_exit ?_
              refine bk_hit ?_
              refine C_region ?_
              refine O_p (.i .i64 (((i : Nat)) : Int)) (r_mv hT264) ?_
              refine O_p (.i .i64 ((((i : Nat)) : Int) + 1)) (by exact (r_addi rfl rfl (wrap_i64 (by omega) (by omega)))) ?_
              refine O_p (.i .i64 ((((i : Nat)) : Int) + 1)) (r_mv rfl) ?_
              refine O_nil ?_
              have hH309 := (((((((hH268.top6).top6).top6).top6).top6).top6).top6)
              exact ⟨q1 + 1 - (i + 1), by omega, cb223, cl226, mb224, ml225, w, wc, wr, D222, n2, c2, false, en, (i + 1), (i + 1), rfl, by omega, by omega, hcb231, hcg232, hMb233, hmg234, hp252, hp253, by omega, fun h => by first | (cases h; done) | (exact ⟨by omega, by omega⟩), fun h => by first | (cases h; done) | (exact ⟨by omega, by omega⟩), by omega, hH309, hT256, hT257, hT258, hT259, hT260, hT261, hT262, hT266, hT263, rfl⟩
          ·
            try simp only [decide_eq_true_eq, decide_eq_false_iff_not, Bool.not_eq_true', Bool.not_eq_false', Bool.and_eq_true, Bool.or_eq_true, Bool.or_eq_false_iff, Bool.not_not, Bool.and_eq_false_iff] at hc238
            refine C_skip ?_
            refine C_seq ?_
            refine C_region ?_
            refine O_p (.i .i64 0) (r_mv rfl) ?_
            refine O_nil ?_
            refine C_block ?_
            have hH310 := (hH237.sub6)
            have hH311 := (((((((hH310.top6).top6).top6).top6).top6).top6).top6)
            have hEE : nx + (cnt + 1) = (i + 1) := by omega
            refine C_while (fun m312 T313 H314 => ∃ n2 : Nat, ∃ w : AV, ∃ wc : List AV, ∃ wr : List (List AV), ∃ c2 : Nat, ∃ j : Nat, m312 = c2 ∧ Sq 5 w wc wr.flatten ∧ ItsR D222 wr ((rg n2 c2).map itT) ∧ n2 + c2 = (i + 1) ∧ j + c2 ≤ 300 ∧ Hs H314 ([(F6, some (.cells ([(.sl (some (Lb7, 0)) 3 3 0), (.i .i64 (((clampR room) : Nat) : Int)), (.m (some cm8))]) true))] ++ ([(Lb7, some (.cells (([(prow true (some mr17) (.sl none 0 0 0) 0), (prow true (some mr26) w 0), zrow] : List (List AV)).flatten) true))] ++ ([(cm8, some cb223)] ++ ([(mr26, some mb224)] ++ ((qseg w wc) ++ (D222 ++ ((allL H0) ++ ([])))))))) ∧ T313.get 0 = (.i .i64 room) ∧ T313.get 1 = pv ∧ T313.get 2 = (.i .i64 n0) ∧ T313.get 6 = (.b false) ∧ T313.get 7 = (.b true) ∧ T313.get 8 = (.i .i64 (((q1 : Nat)) : Int)) ∧ T313.get 9 = (.p (some (F6, 0))) ∧ T313.get 11 = (.i .i64 en) ∧ T313.get 12 = (.i .i64 (((i : Nat)) : Int)) ∧ T313.get 15 = (.i .i64 0) ∧ T313.get 10 = (.i .i64 (((n2 : Nat)) : Int)) ∧ T313.get 16 = (.i .i64 (((j : Nat)) : Int))) (fun m312 T313 H314 hI315 => ?_) (cnt + 1) _ _ ⟨nx, v227, c228, rows229, (cnt + 1), 0, rfl, hsq235, hir236, hEE, by omega, hH311, hT71, hT72, hT73, hT74, hT75, hT76, hT77, hT79, hT80, rfl, hT78, rfl⟩
            obtain ⟨n2, w, wc, wr, c2, j, hm316, hp317, hp318, hp319, hp320, hH333, hT321, hT322, hT323, hT324, hT325, hT326, hT327, hT328, hT329, hT330, hT331, hT332⟩ := hI315
            refine C_seq ?_
            refine C_seq ?_
            refine C_region ?_
            refine O_p (.i .i64 (((j : Nat)) : Int)) (r_mv hT332) ?_
            refine O_p (.i .i64 0) (r_mv hT330) ?_
            refine O_p (.b false) (by exact (by rw [r_lss rfl rfl, decide_eq_false (by omega)])) ?_
            refine O_nil ?_
            refine C_cond (x := false) rfl (fun h => by cases h) (fun _ => ?_)
            refine C_exit ?_
            refine nx_exit ?_
            refine nx_exit ?_
            refine bk_hit ?_
            refine C_region ?_
            refine O_p (.i .i64 (((i : Nat)) : Int)) (r_mv hT329) ?_
            refine O_p (.i .i64 ((((i : Nat)) : Int) + 1)) (by exact (r_addi rfl rfl (wrap_i64 (by omega) (by omega)))) ?_
            refine O_p (.i .i64 ((((i : Nat)) : Int) + 1)) (r_mv rfl) ?_
            refine O_nil ?_
            have hH334 := (((((((hH333.top6).top6).top6).top6).top6).top6).top6)
            exact ⟨q1 + 1 - (i + 1), by omega, cb223, cl226, mb224, ml225, w, wc, wr, D222, n2, c2, false, en, (i + 1), (i + 1), rfl, by omega, by omega, hcb231, hcg232, hMb233, hmg234, hp317, hp318, by omega, fun h => by first | (cases h; done) | (exact ⟨by omega, by omega⟩), fun h => by first | (cases h; done) | (exact ⟨by omega, by omega⟩), by omega, hH334, hT321, hT322, hT323, hT324, hT325, hT326, hT327, hT331, hT328, rfl⟩
        ·
          have hW := handR_full (nx := nx) (x := itT i) hr
          refine C_region ?_
          refine O_p (.p (some (F6, 0))) (r_mv hT77) ?_
          refine O_p (.i .i64 (((i : Nat)) : Int)) (r_mv hT80) ?_
          refine O_p (.i .u8 ((UInt8.ofNat (i % 256)).toNat : Int)) (by exact (by rw [u8_lo]; exact r_cint rfl)) ?_
          refine O_bslice (c := [(.i .u8 ((UInt8.ofNat (i % 256)).toNat : Int))]) rfl fun n335 H336 hN337 => ?_
          have hH338 := hH81.new hN337
          have hH339 := ((((((hH338.top6).top6).top6).top6).top6).top6)
          have hH340 := (((((((hH339.top6).top6).top6).top6).top6).top6).top6)
          refine O_call (Ev.mono (publish_ev (room := clampR room) (n := i) (tp := [116]) (dd := bd i) (tx := false) (da := some (n335, 0)) (dc := 1) (dg := 0) (B := [(n335, some (.cells [.i .u8 ((UInt8.ofNat (i % 256)).toNat : Int)] true))]) (w := (rg nx cnt).map itT) (g := some (0, false)) (lost := 0) hp61 hp62 (by omega) (by decide) (by show 1 ≤ 16384; decide) (.inl rfl) (Nat.le_refl 1) (by decide) (fun H' hh => octs1 (Hs.get (R := []) (by rw [List.append_nil]; exact hh))) hp65 hp66 hp63 hp64 (fun mode f h => by cases h; decide) rg_tp (clampR_le room).1 ⟨Int.le_refl 0, by decide⟩ (by rw [List.length_map, rg_len]; omega) hH340) fun v341 H342 hq343 => ?_)
          rw [hW] at hq343
          obtain ⟨D344, cb345, mb346, ml347, cl348, v349, c350, rows351, rfl, hm352, hcb353, hcg354, hMb355, hmg356, hsq357, hir358, hH359⟩ := hq343
          refine O_p (.tup [(.i .i64 0), (.i .i64 0)]) (r_mv rfl) ?_
          refine O_p (.i .i64 0) (r_ext rfl rfl) ?_
          refine O_p (.i .i64 0) (r_ext rfl rfl) ?_
          refine O_p (.i .i64 0) (r_mv rfl) ?_
          refine O_p (.i .i64 0) (r_mv rfl) ?_
          refine O_nil ?_
          refine C_seq ?_
          refine C_seq ?_
          refine C_region ?_
          refine O_p (.i .i64 0) (r_mv rfl) ?_
          refine O_p (.b false) (r_bin rfl rfl rfl) ?_
          refine O_p (.b false) (r_mv rfl) ?_
          refine O_gk rfl ?_
          refine O_p (.i .i64 0) (r_mv rfl) ?_
          refine O_gk rfl ?_
          refine O_p (.b false) (r_bin rfl rfl rfl) ?_
          refine O_gk rfl ?_
          refine O_p (.b false) (r_mv rfl) ?_
          refine O_gf rfl ?_
          refine O_gf rfl ?_
          refine O_gk rfl ?_
          refine O_p (.b false) (r_pick_f rfl rfl) ?_
          refine O_p (.b false) (r_pick_f rfl rfl) ?_
          refine O_p (.b false) (r_mv rfl) ?_
          refine O_gk rfl ?_
          refine O_p (.i .i64 0) (r_mv rfl) ?_
          refine O_gk rfl ?_
          refine O_p (.b true) (r_bin rfl rfl rfl) ?_
          refine O_gk rfl ?_
          refine O_p (.b true) (r_mv rfl) ?_
          refine O_gk rfl ?_
          refine O_p (.p (some (F6, 0))) (r_mv hT77) ?_
          refine O_gk rfl ?_
          have hall360 : ∀ x ∈ ([(prow true (some mr17) (.sl none 0 0 0) 0), (prow true (some mr26) v349 0), zrow] : List (List AV)), x.length = 4 := fun x hx => by simp only [List.mem_cons, List.not_mem_nil, or_false] at hx; rcases hx with rfl | rfl | rfl <;> rfl
          have hH361 := (((hH359.top3).top2).top2)
          have hH362 : Hs H342 ([(F6, some (.cells ([(.sl (some (Lb7, 0)) 3 3 0), (.i .i64 (((clampR room) : Nat) : Int)), (.m (some cm8))]) true))] ++ ([(Lb7, some (.cells ((([(prow true (some mr17) (.sl none 0 0 0) 0), (prow true (some mr26) v349 0), zrow] : List (List AV)).set 1 (prow true (some mr26) v349 0)).flatten) true))] ++ ([(mr26, some mb346)] ++ ([(cm8, some cb345)] ++ ((qseg v349 c350) ++ (D344 ++ ([(n335, some (.cells ([(.i .u8 ((UInt8.ofNat (i % 256)).toNat : Int))]) true))] ++ ((allL H0) ++ ([]))))))))) := hH361
          have hH363 := (((hH362.top2).top2).top2)
          refine O_call (Ev.mono (failed_some (np := 3) (i := 1) (rws := ([(prow true (some mr17) (.sl none 0 0 0) 0), (prow true (some mr26) v349 0), zrow] : List (List AV))) (tp := [116]) (fl := true) (by decide) hall360 (Nat.le_of_ble_eq_true rfl) hMb355 hmg356 hH363) fun v364 H365 hq366 => ?_)
          obtain ⟨rfl, hH367⟩ := hq366
          refine O_gk rfl ?_
          refine O_p (.b false) (r_un rfl rfl) ?_
          refine O_gk rfl ?_
          refine O_p (.b false) (r_pick_t rfl rfl) ?_
          refine O_p (.b false) (r_pick_f rfl rfl) ?_
          refine O_nil ?_
          refine C_cond (x := false) rfl (fun h => by cases h) (fun _ => ?_)
          refine C_skip ?_
          refine C_seq ?_
          refine C_seq ?_
          refine C_region ?_
          refine O_p (.i .i64 0) (r_mv rfl) ?_
          refine O_p (.b true) (r_bin rfl rfl rfl) ?_
          refine O_p (.b true) (r_mv rfl) ?_
          refine O_gk rfl ?_
          refine O_p (.i .i64 en) (r_mv hT79) ?_
          refine O_gk rfl ?_
          refine O_p (.b true) (by exact (by rw [r_lss rfl rfl, decide_eq_true (by omega)])) ?_
          refine O_p (.b true) (r_pick_t rfl rfl) ?_
          refine O_nil ?_
          refine C_cond (x := true) rfl (fun _ => ?_) (fun h => by cases h)
          refine C_region ?_
          refine O_p (.i .i64 (((i : Nat)) : Int)) (r_mv hT80) ?_
          refine O_p (.i .i64 (((i : Nat)) : Int)) (r_mv rfl) ?_
          refine O_nil ?_
          refine C_seq ?_
          refine C_seq ?_
          refine C_region ?_
          refine O_p (.i .i64 0) (r_mv rfl) ?_
          refine O_p (.b false) (r_bin rfl rfl rfl) ?_
          refine O_p (.b false) (r_mv rfl) ?_
          refine O_gf rfl ?_
          refine O_gf rfl ?_
          refine O_p (.b false) (r_pick_f rfl rfl) ?_
          refine O_nil ?_
          refine C_cond (x := false) rfl (fun h => by cases h) (fun _ => ?_)
          refine C_skip ?_
          refine C_seq ?_
          refine C_region ?_
          refine O_p (.i .i64 0) (r_mv rfl) ?_
          refine O_nil ?_
          refine C_seq ?_
          refine C_seq ?_
          refine C_region ?_
          refine O_p (.i .i64 (((i : Nat)) : Int)) (r_mv hT80) ?_
          refine O_p pv (r_mv hT72) ?_
          refine O_p (.i .i64 (((pl.length : Nat)) : Int)) (r_lenOf (v := pv) (n := pl.length) rfl ((hpv _ hH367.top7.fst).lenOf (List.length_map ..)) (hpv _ hH367.top7.fst).isSl) ?_
          refine O_p (.b (decide ((((i : Nat)) : Int) ≤ (((pl.length : Nat)) : Int)))) (r_leq rfl rfl) ?_
          refine O_nil ?_
          refine C_cond (x := (decide ((((i : Nat)) : Int) ≤ (((pl.length : Nat)) : Int)))) rfl (fun hc368 => ?_) (fun hc368 => ?_)
          ·
            try simp only [decide_eq_true_eq, decide_eq_false_iff_not, Bool.not_eq_true', Bool.not_eq_false', Bool.and_eq_true, Bool.or_eq_true, Bool.or_eq_false_iff, Bool.not_not, Bool.and_eq_false_iff] at hc368
            refine C_region ?_
            refine O_p pv (r_mv hT72) ?_
            refine O_p (.i .i64 (((i : Nat)) : Int)) (r_mv hT80) ?_
            refine O_p (.i .i64 ((((i - 1) : Nat)) : Int)) (by exact (r_subn (a := i) (b := 1) rfl rfl (by omega) (by omega))) ?_
            refine O_q (by exact Rw.row (hpv _ hH367.top7.fst) rfl (i := (i - 1)) rfl (r := [(.i .i64 (pl.getD (i - 1) 0))]) (seq_row (by omega))) fun v370 hv369 => ?_
            obtain ⟨rb371, ro372, rfl, hr373⟩ := hv369
            refine O_p (.i .i64 (pl.getD (i - 1) 0)) (r_ldR (q := 0) rfl (hr373 _ (hpv _ hH367.top7.fst)) rfl) ?_
            obtain ⟨q374, hq374, hlq374⟩ := and_nat (pl.getD (i - 1) 0) 3 (by decide)
            refine O_p (.i .i64 (((q374 : Nat)) : Int)) (by exact (by rw [← hq374]; exact r_bin rfl rfl rfl)) ?_
            refine O_p (.i .i64 (((q374 : Nat)) : Int)) (r_mv rfl) ?_
            refine O_nil ?_
            refine C_seq ?_
            refine C_region ?_
            refine O_p (.i .i64 0) (r_mv rfl) ?_
            refine O_nil ?_
            refine C_block ?_
            have hH375 := (hH367.sub6)
            have hH376 := (((((((hH375.top6).top6).top6).top5).top6).top6).top6)
            have hEE : nx + cnt = E := by omega
            refine C_while (fun m377 T378 H379 => ∃ n2 : Nat, ∃ w : AV, ∃ wc : List AV, ∃ wr : List (List AV), ∃ c2 : Nat, ∃ j : Nat, m377 = c2 ∧ Sq 5 w wc wr.flatten ∧ ItsR D344 wr ((rg n2 c2).map itT) ∧ n2 + c2 = E ∧ j + c2 ≤ 300 ∧ Hs H379 ([(F6, some (.cells ([(.sl (some (Lb7, 0)) 3 3 0), (.i .i64 (((clampR room) : Nat) : Int)), (.m (some cm8))]) true))] ++ ([(Lb7, some (.cells (([(prow true (some mr17) (.sl none 0 0 0) 0), (prow true (some mr26) w 0), zrow] : List (List AV)).flatten) true))] ++ ([(cm8, some cb345)] ++ ([(mr26, some mb346)] ++ ((qseg w wc) ++ (D344 ++ ((allL H0) ++ ([])))))))) ∧ T378.get 0 = (.i .i64 room) ∧ T378.get 1 = pv ∧ T378.get 2 = (.i .i64 n0) ∧ T378.get 6 = (.b false) ∧ T378.get 7 = (.b true) ∧ T378.get 8 = (.i .i64 (((q1 : Nat)) : Int)) ∧ T378.get 9 = (.p (some (F6, 0))) ∧ T378.get 11 = (.i .i64 (((i : Nat)) : Int)) ∧ T378.get 12 = (.i .i64 (((i : Nat)) : Int)) ∧ T378.get 15 = (.i .i64 (((q374 : Nat)) : Int)) ∧ T378.get 10 = (.i .i64 (((n2 : Nat)) : Int)) ∧ T378.get 16 = (.i .i64 (((j : Nat)) : Int))) (fun m377 T378 H379 hI380 => ?_) cnt _ _ ⟨nx, v349, c350, rows351, cnt, 0, rfl, hsq357, hir358, hEE, by omega, hH376, hT71, hT72, hT73, hT74, hT75, hT76, hT77, rfl, hT80, rfl, hT78, rfl⟩
            obtain ⟨n2, w, wc, wr, c2, j, hm381, hp382, hp383, hp384, hp385, hH398, hT386, hT387, hT388, hT389, hT390, hT391, hT392, hT393, hT394, hT395, hT396, hT397⟩ := hI380
            refine C_seq ?_
            refine C_seq ?_
            refine C_region ?_
            refine O_p (.i .i64 (((j : Nat)) : Int)) (r_mv hT397) ?_
            refine O_p (.i .i64 (((q374 : Nat)) : Int)) (r_mv hT395) ?_
            refine O_p (.b (decide ((((j : Nat)) : Int) < (((q374 : Nat)) : Int)))) (r_lss rfl rfl) ?_
            refine O_nil ?_
            refine C_cond (x := (decide ((((j : Nat)) : Int) < (((q374 : Nat)) : Int)))) rfl (fun hc399 => ?_) (fun hc399 => ?_)
            ·
              try simp only [decide_eq_true_eq, decide_eq_false_iff_not, Bool.not_eq_true', Bool.not_eq_false', Bool.and_eq_true, Bool.or_eq_true, Bool.or_eq_false_iff, Bool.not_not, Bool.and_eq_false_iff] at hc399
              refine C_skip ?_
              refine C_seq ?_
              refine C_block ?_
              refine C_seq ?_
              by_cases hc0 : c2 = 0
              ·
                have hp3 := hp383
                rw [hc0] at hp3
                obtain rfl : wr = [] := List.length_eq_zero_iff.1 hp3.1
                have hpe : ItsR D344 [] ((rg n2 c2).map itT) := by rw [hc0]; exact hp3
                refine C_region ?_
                refine O_p (.p (some (F6, 0))) (r_mv hT392) ?_
                have hall400 : ∀ x ∈ ([(prow true (some mr17) (.sl none 0 0 0) 0), (prow true (some mr26) w 0), zrow] : List (List AV)), x.length = 4 := fun x hx => by simp only [List.mem_cons, List.not_mem_nil, or_false] at hx; rcases hx with rfl | rfl | rfl <;> rfl
                have hH401 := (((hH398.top4).top2).top2)
                have hH402 : Hs H379 ([(F6, some (.cells ([(.sl (some (Lb7, 0)) 3 3 0), (.i .i64 (((clampR room) : Nat) : Int)), (.m (some cm8))]) true))] ++ ([(Lb7, some (.cells ((([(prow true (some mr17) (.sl none 0 0 0) 0), (prow true (some mr26) w 0), zrow] : List (List AV)).set 1 (prow true (some mr26) w 0)).flatten) true))] ++ ((qseg w wc) ++ ([(cm8, some cb345)] ++ ([(mr26, some mb346)] ++ (D344 ++ ((allL H0) ++ ([])))))))) := hH401
                have hH403 := (((hH402.top2).top2).top2)
                refine O_call (Ev.mono (pull0_ev (np := 3) (i := 1) (rws := ([(prow true (some mr17) (.sl none 0 0 0) 0), (prow true (some mr26) w 0), zrow] : List (List AV))) (by decide) hall400 (Nat.le_of_ble_eq_true rfl) hp382 hH403) fun v404 H405 hq406 => ?_)
                obtain ⟨rfl, hH407⟩ := hq406
                refine O_p (.tup [(.agg [(.s (txt [])), (.i .i64 0), (.i .i64 0), (.b false), (.sl none 0 0 0)]), (.b false)]) (r_mv rfl) ?_
                refine O_p (.agg [(.s (txt [])), (.i .i64 0), (.i .i64 0), (.b false), (.sl none 0 0 0)]) (r_ext rfl rfl) ?_
                refine O_p (.b false) (r_ext rfl rfl) ?_
                refine O_alloc fun n408 H409 hN410 => ?_
                have hH411 := hH407.new hN410
                refine O_store (vs := [(.s (txt [])), (.i .i64 0), (.i .i64 0), (.b false), (.sl none 0 0 0)]) (c' := [(.s (txt [])), (.i .i64 0), (.i .i64 0), (.b false), (.sl none 0 0 0)]) rfl (by rfl) hH411.get0 rfl (List.cons_ne_nil _ _) (Nat.le_of_ble_eq_true rfl) rfl fun H412 hW413 => ?_
                have hH414 := hH411.wr0 hW413
                refine O_p (.b false) (r_mv rfl) ?_
                refine O_nil ?_
                refine C_seq ?_
                refine C_seq ?_
                refine C_region ?_
                refine O_p (.b false) (r_mv rfl) ?_
                refine O_p (.b true) (r_un rfl rfl) ?_
                refine O_nil ?_
                refine C_cond (x := true) rfl (fun _ => ?_) (fun h => by cases h)
                refine C_exit ?_
                refine nx_exit ?_
                refine bk_miss (by decide) ?_
                refine nx_exit ?_
                refine nx_exit ?_
                refine bk_hit ?_
                refine C_region ?_
                refine O_p (.i .i64 (((i : Nat)) : Int)) (r_mv hT394) ?_
                refine O_p (.i .i64 ((((i : Nat)) : Int) + 1)) (by exact (r_addi rfl rfl (wrap_i64 (by omega) (by omega)))) ?_
                refine O_p (.i .i64 ((((i : Nat)) : Int) + 1)) (r_mv rfl) ?_
                refine O_nil ?_
                have hH415 := (hH414.sub0)
                have hH416 := (((((((hH415.top6).top6).top4).top6).top6).top6).top6)
                exact ⟨q1 + 1 - (i + 1), by omega, cb345, cl348, mb346, ml347, w, wc, ([] : List (List AV)), D344, n2, c2, true, ((i : Nat) : Int), E, (i + 1), rfl, by omega, by omega, hcb353, hcg354, hMb355, hmg356, hp382, hpe, by omega, fun h => by first | (cases h; done) | (exact ⟨by omega, by omega⟩), fun h => by first | (cases h; done) | (exact ⟨by omega, by omega⟩), by omega, hH416, hT386, hT387, hT388, hT389, hT390, hT391, hT392, hT396, hT393, rfl⟩
              ·
                have hp3 := hp383
                obtain ⟨c3, rfl⟩ : ∃ z, c2 = z + 1 := ⟨c2 - 1, by omega⟩
                obtain ⟨r0, rz, rfl⟩ : ∃ r rz, wr = r :: rz := by
                  cases wr with
                  | nil => have := hp3.1; rw [List.length_map, rg_len] at this; simp at this
                  | cons r rz => exact ⟨r, rz, rfl⟩
                have hl50 := hp3.lens
                have hp4 : ItsR D344 (r0 :: rz) (itT n2 :: (rg (n2 + 1) c3).map itT) := hp3
                have hpt := hp4.tail
                obtain ⟨rr, hrr, hpk⟩ := hp4.2 0 _ rfl
                simp only [List.getElem?_cons_zero, Option.some.injEq] at hrr
                subst hrr
                obtain ⟨ka, kc, kg, rfl, hkg, _, _, hkb⟩ := hpk
                have hbl : (bd n2).length = 1 := rfl
                refine C_region ?_
                refine O_p (.p (some (F6, 0))) (r_mv hT392) ?_
                have hall417 : ∀ x ∈ ([(prow true (some mr17) (.sl none 0 0 0) 0), (prow true (some mr26) w 0), zrow] : List (List AV)), x.length = 4 := fun x hx => by simp only [List.mem_cons, List.not_mem_nil, or_false] at hx; rcases hx with rfl | rfl | rfl <;> rfl
                have hH418 := (((hH398.top4).top2).top2)
                have hH419 : Hs H379 ([(F6, some (.cells ([(.sl (some (Lb7, 0)) 3 3 0), (.i .i64 (((clampR room) : Nat) : Int)), (.m (some cm8))]) true))] ++ ([(Lb7, some (.cells ((([(prow true (some mr17) (.sl none 0 0 0) 0), (prow true (some mr26) w 0), zrow] : List (List AV)).set 1 (prow true (some mr26) w 0)).flatten) true))] ++ ((qseg w wc) ++ ([(cm8, some cb345)] ++ ([(mr26, some mb346)] ++ (D344 ++ ((allL H0) ++ ([])))))))) := hH418
                have hH420 := (((hH419.top2).top2).top2)
                refine O_call (Ev.mono (pull_ev (np := 3) (i := 1) (rws := ([(prow true (some mr17) (.sl none 0 0 0) 0), (prow true (some mr26) w 0), zrow] : List (List AV))) (by decide) hall417 (Nat.le_of_ble_eq_true rfl) hp382 hl50 hH420) fun v421 H422 hq423 => ?_)
                obtain ⟨v424, c425, rfl, hsq426, hH427⟩ := hq423
                refine O_p (.tup [(.agg [(.s (txt [116])), (.i .i64 0), (.i .i64 (((n2 : Nat)) : Int)), (.b false), (.sl ka 1 kc kg)]), (.b true)]) (r_mv rfl) ?_
                refine O_p (.agg [(.s (txt [116])), (.i .i64 0), (.i .i64 (((n2 : Nat)) : Int)), (.b false), (.sl ka 1 kc kg)]) (r_ext rfl rfl) ?_
                refine O_p (.b true) (r_ext rfl rfl) ?_
                refine O_alloc fun n428 H429 hN430 => ?_
                have hH431 := hH427.new hN430
                refine O_store (vs := [(.s (txt [116])), (.i .i64 0), (.i .i64 (((n2 : Nat)) : Int)), (.b false), (.sl ka 1 kc kg)]) (c' := [(.s (txt [116])), (.i .i64 0), (.i .i64 (((n2 : Nat)) : Int)), (.b false), (.sl ka 1 kc kg)]) rfl (by rfl) hH431.get0 rfl (List.cons_ne_nil _ _) (Nat.le_of_ble_eq_true rfl) rfl fun H432 hW433 => ?_
                have hH434 := hH431.wr0 hW433
                refine O_p (.b true) (r_mv rfl) ?_
                refine O_nil ?_
                refine C_seq ?_
                refine C_seq ?_
                refine C_region ?_
                refine O_p (.b true) (r_mv rfl) ?_
                refine O_p (.b false) (r_un rfl rfl) ?_
                refine O_nil ?_
                refine C_cond (x := false) rfl (fun h => by cases h) (fun _ => ?_)
                refine C_skip ?_
                refine C_seq ?_
                refine C_seq ?_
                refine C_region ?_
                refine O_p (.p (some (n428, 2))) (r_fadd' rfl rfl) ?_
                refine O_p (.i .i64 (((n2 : Nat)) : Int)) (r_ld rfl hH434.get0 rfl) ?_
                refine O_p (.i .i64 (((n2 : Nat)) : Int)) (r_mv hT396) ?_
                refine O_p (.b false) (r_nqq rfl rfl) ?_
                refine O_p (.b false) (r_mv rfl) ?_
                refine O_gk rfl ?_
                refine O_p (.p (some (n428, 4))) (r_fadd' rfl rfl) ?_
                refine O_gk rfl ?_
                refine O_p (.sl ka 1 kc kg) (r_ld rfl hH434.get0 rfl) ?_
                refine O_gk rfl ?_
                refine O_p (.i .i64 1) (r_len rfl) ?_
                refine O_gk rfl ?_
                refine O_p (.b false) (r_bin rfl rfl rfl) ?_
                refine O_p (.b false) (r_pick_f rfl rfl) ?_
                refine O_p (.b false) (r_mv rfl) ?_
                refine O_gk rfl ?_
                refine O_p (.p (some (n428, 4))) (r_fadd' rfl rfl) ?_
                refine O_gk rfl ?_
                refine O_p (.sl ka 1 kc kg) (r_ld rfl hH434.get0 rfl) ?_
                refine O_gk rfl ?_
                refine O_q (by exact Bs.ix (hkb _ hH434.top6.fst) rfl (i := 0) rfl (by first | omega | (simp only [List.length_take, List.length_drop, List.length_append, List.length_cons, List.length_nil, beN_len] <;> omega))) fun v436 hv435 => ?_
                refine O_gk rfl ?_
                refine O_p (.i .u8 (((bd n2).getD 0 0).toNat : Int)) (hv435.load rfl) ?_
                refine O_gk rfl ?_
                refine O_p (.i .i64 (((n2 : Nat)) : Int)) (r_mv hT396) ?_
                refine O_gk rfl ?_
                refine O_p (.i .u8 ((UInt8.ofNat (n2 % 256)).toNat : Int)) (by exact (by rw [u8_lo]; exact r_cint rfl)) ?_
                refine O_gk rfl ?_
                refine O_p (.b false) (by exact (by rw [r_neq rfl rfl, decide_eq_true (show (((bd n2).getD 0 0).toNat : Int) = ((UInt8.ofNat (n2 % 256)).toNat : Int) from rfl)]; rfl)) ?_
                refine O_p (.b false) (r_pick_f rfl rfl) ?_
                refine O_p (.b false) (r_mv rfl) ?_
                refine O_gk rfl ?_
                refine O_p (.p (some (n428, 1))) (r_fadd' rfl rfl) ?_
                refine O_gk rfl ?_
                refine O_p (.i .i64 0) (r_ld rfl hH434.get0 rfl) ?_
                refine O_gk rfl ?_
                refine O_p (.b false) (r_bin rfl rfl rfl) ?_
                refine O_p (.b false) (r_pick_f rfl rfl) ?_
                refine O_nil ?_
                refine C_cond (x := false) rfl (fun h => by cases h) (fun _ => ?_)
                refine C_skip ?_
                refine C_region ?_
                refine O_p (.i .i64 (((n2 : Nat)) : Int)) (r_mv hT396) ?_
                refine O_p (.i .i64 ((((n2 : Nat)) : Int) + 1)) (by exact (r_addi rfl rfl (wrap_i64 (by omega) (by omega)))) ?_
                refine O_p (.i .i64 ((((n2 : Nat)) : Int) + 1)) (r_mv rfl) ?_
                refine O_nil ?_
                refine C_region ?_
                refine O_p (.i .i64 (((j : Nat)) : Int)) (r_mv hT397) ?_
                refine O_p (.i .i64 ((((j : Nat)) : Int) + 1)) (by exact (r_addi rfl rfl (wrap_i64 (by omega) (by omega)))) ?_
                refine O_p (.i .i64 ((((j : Nat)) : Int) + 1)) (r_mv rfl) ?_
                refine O_nil ?_
                have hH437 := (hH434.sub0)
                have hH438 := (((((((hH437.top6).top6).top4).top6).top6).top6).top6)
                exact ⟨c3, by omega, (n2 + 1), v424, c425, rz, c3, (j + 1), rfl, hsq426, hpt, by omega, by omega, hH438, hT386, hT387, hT388, hT389, hT390, hT391, hT392, hT393, hT394, hT395, rfl, rfl⟩
            ·
              try simp only [decide_eq_true_eq, decide_eq_false_iff_not, Bool.not_eq_true', Bool.not_eq_false', Bool.and_eq_true, Bool.or_eq_true, Bool.or_eq_false_iff, Bool.not_not, Bool.and_eq_false_iff] at hc399
              refine C_exit ?_
              refine nx_exit ?_
              refine nx_exit ?_
              refine bk_hit ?_
              refine C_region ?_
              refine O_p (.i .i64 (((i : Nat)) : Int)) (r_mv hT394) ?_
              refine O_p (.i .i64 ((((i : Nat)) : Int) + 1)) (by exact (r_addi rfl rfl (wrap_i64 (by omega) (by omega)))) ?_
              refine O_p (.i .i64 ((((i : Nat)) : Int) + 1)) (r_mv rfl) ?_
              refine O_nil ?_
              have hH439 := (((((((hH398.top6).top6).top6).top6).top6).top6).top6)
              exact ⟨q1 + 1 - (i + 1), by omega, cb345, cl348, mb346, ml347, w, wc, wr, D344, n2, c2, true, ((i : Nat) : Int), E, (i + 1), rfl, by omega, by omega, hcb353, hcg354, hMb355, hmg356, hp382, hp383, by omega, fun h => by first | (cases h; done) | (exact ⟨by omega, by omega⟩), fun h => by first | (cases h; done) | (exact ⟨by omega, by omega⟩), by omega, hH439, hT386, hT387, hT388, hT389, hT390, hT391, hT392, hT396, hT393, rfl⟩
          ·
            try simp only [decide_eq_true_eq, decide_eq_false_iff_not, Bool.not_eq_true', Bool.not_eq_false', Bool.and_eq_true, Bool.or_eq_true, Bool.or_eq_false_iff, Bool.not_not, Bool.and_eq_false_iff] at hc368
            refine C_skip ?_
            refine C_seq ?_
            refine C_region ?_
            refine O_p (.i .i64 0) (r_mv rfl) ?_
            refine O_nil ?_
            refine C_block ?_
            have hH440 := (hH367.sub6)
            have hH441 := (((((((hH440.top6).top6).top6).top5).top6).top6).top6)
            have hEE : nx + cnt = E := by omega
            refine C_while (fun m442 T443 H444 => ∃ n2 : Nat, ∃ w : AV, ∃ wc : List AV, ∃ wr : List (List AV), ∃ c2 : Nat, ∃ j : Nat, m442 = c2 ∧ Sq 5 w wc wr.flatten ∧ ItsR D344 wr ((rg n2 c2).map itT) ∧ n2 + c2 = E ∧ j + c2 ≤ 300 ∧ Hs H444 ([(F6, some (.cells ([(.sl (some (Lb7, 0)) 3 3 0), (.i .i64 (((clampR room) : Nat) : Int)), (.m (some cm8))]) true))] ++ ([(Lb7, some (.cells (([(prow true (some mr17) (.sl none 0 0 0) 0), (prow true (some mr26) w 0), zrow] : List (List AV)).flatten) true))] ++ ([(cm8, some cb345)] ++ ([(mr26, some mb346)] ++ ((qseg w wc) ++ (D344 ++ ((allL H0) ++ ([])))))))) ∧ T443.get 0 = (.i .i64 room) ∧ T443.get 1 = pv ∧ T443.get 2 = (.i .i64 n0) ∧ T443.get 6 = (.b false) ∧ T443.get 7 = (.b true) ∧ T443.get 8 = (.i .i64 (((q1 : Nat)) : Int)) ∧ T443.get 9 = (.p (some (F6, 0))) ∧ T443.get 11 = (.i .i64 (((i : Nat)) : Int)) ∧ T443.get 12 = (.i .i64 (((i : Nat)) : Int)) ∧ T443.get 15 = (.i .i64 0) ∧ T443.get 10 = (.i .i64 (((n2 : Nat)) : Int)) ∧ T443.get 16 = (.i .i64 (((j : Nat)) : Int))) (fun m442 T443 H444 hI445 => ?_) cnt _ _ ⟨nx, v349, c350, rows351, cnt, 0, rfl, hsq357, hir358, hEE, by omega, hH441, hT71, hT72, hT73, hT74, hT75, hT76, hT77, rfl, hT80, rfl, hT78, rfl⟩
            obtain ⟨n2, w, wc, wr, c2, j, hm446, hp447, hp448, hp449, hp450, hH463, hT451, hT452, hT453, hT454, hT455, hT456, hT457, hT458, hT459, hT460, hT461, hT462⟩ := hI445
            refine C_seq ?_
            refine C_seq ?_
            refine C_region ?_
            refine O_p (.i .i64 (((j : Nat)) : Int)) (r_mv hT462) ?_
            refine O_p (.i .i64 0) (r_mv hT460) ?_
            refine O_p (.b false) (by exact (by rw [r_lss rfl rfl, decide_eq_false (by omega)])) ?_
            refine O_nil ?_
            refine C_cond (x := false) rfl (fun h => by cases h) (fun _ => ?_)
            refine C_exit ?_
            refine nx_exit ?_
            refine nx_exit ?_
            refine bk_hit ?_
            refine C_region ?_
            refine O_p (.i .i64 (((i : Nat)) : Int)) (r_mv hT459) ?_
            refine O_p (.i .i64 ((((i : Nat)) : Int) + 1)) (by exact (r_addi rfl rfl (wrap_i64 (by omega) (by omega)))) ?_
            refine O_p (.i .i64 ((((i : Nat)) : Int) + 1)) (r_mv rfl) ?_
            refine O_nil ?_
            have hH464 := (((((((hH463.top6).top6).top6).top6).top6).top6).top6)
            exact ⟨q1 + 1 - (i + 1), by omega, cb345, cl348, mb346, ml347, w, wc, wr, D344, n2, c2, true, ((i : Nat) : Int), E, (i + 1), rfl, by omega, by omega, hcb353, hcg354, hMb355, hmg356, hp447, hp448, by omega, fun h => by first | (cases h; done) | (exact ⟨by omega, by omega⟩), fun h => by first | (cases h; done) | (exact ⟨by omega, by omega⟩), by omega, hH464, hT451, hT452, hT453, hT454, hT455, hT456, hT457, hT461, hT458, rfl⟩
    ·
      try simp only [decide_eq_true_eq, decide_eq_false_iff_not, Bool.not_eq_true', Bool.not_eq_false', Bool.and_eq_true, Bool.or_eq_true, Bool.or_eq_false_iff, Bool.not_not, Bool.and_eq_false_iff] at hc82
      refine C_exit ?_
      refine nx_exit ?_
      refine nx_exit ?_
      refine bk_hit ?_
      refine C_seq ?_
      refine C_block ?_
      have hiK : i = q1 + 1 := by omega
      have hcE := hp67
      have hH465 := (((((((hH81.top6).top6).top6).top6).top6).top6).top6)
      have hEE : nx + cnt = E := by omega
      refine C_while (fun m466 T467 H468 => ∃ n2 : Nat, ∃ w : AV, ∃ wc : List AV, ∃ wr : List (List AV), ∃ c2 : Nat, m466 = c2 ∧ Sq 5 w wc wr.flatten ∧ ItsR D wr ((rg n2 c2).map itT) ∧ n2 + c2 = E ∧ Hs H468 ([(F6, some (.cells ([(.sl (some (Lb7, 0)) 3 3 0), (.i .i64 (((clampR room) : Nat) : Int)), (.m (some cm8))]) true))] ++ ([(Lb7, some (.cells (([(prow true (some mr17) (.sl none 0 0 0) 0), (prow true (some mr26) w 0), zrow] : List (List AV)).flatten) true))] ++ ([(cm8, some cb)] ++ ([(mr26, some mb)] ++ ((qseg w wc) ++ (D ++ ((allL H0) ++ ([])))))))) ∧ T467.get 0 = (.i .i64 room) ∧ T467.get 1 = pv ∧ T467.get 2 = (.i .i64 n0) ∧ T467.get 6 = (.b false) ∧ T467.get 7 = (.b true) ∧ T467.get 8 = (.i .i64 (((q1 : Nat)) : Int)) ∧ T467.get 9 = (.p (some (F6, 0))) ∧ T467.get 11 = (.i .i64 en) ∧ T467.get 10 = (.i .i64 (((n2 : Nat)) : Int))) (fun m466 T467 H468 hI469 => ?_) cnt _ _ ⟨nx, v, c, rows, cnt, rfl, hp65, hp66, hEE, hH465, hT71, hT72, hT73, hT74, hT75, hT76, hT77, hT79, hT78⟩
      obtain ⟨n2, w, wc, wr, c2, hm470, hp471, hp472, hp473, hH483, hT474, hT475, hT476, hT477, hT478, hT479, hT480, hT481, hT482⟩ := hI469
      refine C_block ?_
      refine C_seq ?_
      by_cases hc0 : c2 = 0
      ·
        have hp3 := hp472
        rw [hc0] at hp3
        obtain rfl : wr = [] := List.length_eq_zero_iff.1 hp3.1
        have hpe : ItsR D [] ((rg n2 c2).map itT) := by rw [hc0]; exact hp3
        refine C_region ?_
        refine O_p (.p (some (F6, 0))) (r_mv hT480) ?_
        have hall484 : ∀ x ∈ ([(prow true (some mr17) (.sl none 0 0 0) 0), (prow true (some mr26) w 0), zrow] : List (List AV)), x.length = 4 := fun x hx => by simp only [List.mem_cons, List.not_mem_nil, or_false] at hx; rcases hx with rfl | rfl | rfl <;> rfl
        have hH485 := (((hH483.top4).top2).top2)
        have hH486 : Hs H468 ([(F6, some (.cells ([(.sl (some (Lb7, 0)) 3 3 0), (.i .i64 (((clampR room) : Nat) : Int)), (.m (some cm8))]) true))] ++ ([(Lb7, some (.cells ((([(prow true (some mr17) (.sl none 0 0 0) 0), (prow true (some mr26) w 0), zrow] : List (List AV)).set 1 (prow true (some mr26) w 0)).flatten) true))] ++ ((qseg w wc) ++ ([(cm8, some cb)] ++ ([(mr26, some mb)] ++ (D ++ ((allL H0) ++ ([])))))))) := hH485
        have hH487 := (((hH486.top2).top2).top2)
        refine O_call (Ev.mono (pull0_ev (np := 3) (i := 1) (rws := ([(prow true (some mr17) (.sl none 0 0 0) 0), (prow true (some mr26) w 0), zrow] : List (List AV))) (by decide) hall484 (Nat.le_of_ble_eq_true rfl) hp471 hH487) fun v488 H489 hq490 => ?_)
        obtain ⟨rfl, hH491⟩ := hq490
        refine O_p (.tup [(.agg [(.s (txt [])), (.i .i64 0), (.i .i64 0), (.b false), (.sl none 0 0 0)]), (.b false)]) (r_mv rfl) ?_
        refine O_p (.agg [(.s (txt [])), (.i .i64 0), (.i .i64 0), (.b false), (.sl none 0 0 0)]) (r_ext rfl rfl) ?_
        refine O_p (.b false) (r_ext rfl rfl) ?_
        refine O_alloc fun n492 H493 hN494 => ?_
        have hH495 := hH491.new hN494
        refine O_store (vs := [(.s (txt [])), (.i .i64 0), (.i .i64 0), (.b false), (.sl none 0 0 0)]) (c' := [(.s (txt [])), (.i .i64 0), (.i .i64 0), (.b false), (.sl none 0 0 0)]) rfl (by rfl) hH495.get0 rfl (List.cons_ne_nil _ _) (Nat.le_of_ble_eq_true rfl) rfl fun H496 hW497 => ?_
        have hH498 := hH495.wr0 hW497
        refine O_p (.b false) (r_mv rfl) ?_
        refine O_nil ?_
        refine C_seq ?_
        refine C_seq ?_
        refine C_region ?_
        refine O_p (.b false) (r_mv rfl) ?_
        refine O_p (.b true) (r_un rfl rfl) ?_
        refine O_nil ?_
        refine C_cond (x := true) rfl (fun _ => ?_) (fun h => by cases h)
        refine C_exit ?_
        refine nx_exit ?_
        refine bk_miss (by decide) ?_
        refine nx_exit ?_
        refine bk_hit ?_
        refine C_seq ?_
        refine C_seq ?_
        by_cases hff : f = true
        ·
          obtain ⟨henz, _⟩ := hp69 hff
          refine C_region ?_
          refine O_p (.i .i64 en) (r_mv hT481) ?_
          refine O_p (.b false) (by exact (by rw [r_lss rfl rfl, decide_eq_false (by omega)])) ?_
          refine O_nil ?_
          refine C_cond (x := false) rfl (fun h => by cases h) (fun _ => ?_)
          refine C_skip ?_
          refine C_seq ?_
          refine C_region ?_
          refine O_p (.b true) (r_mv hT478) ?_
          refine O_p (.b true) (r_mv rfl) ?_
          refine O_gk rfl ?_
          refine O_p (.i .i64 (((n2 : Nat)) : Int)) (r_mv hT482) ?_
          refine O_gk rfl ?_
          refine O_p (.i .i64 en) (r_mv hT481) ?_
          refine O_gk rfl ?_
          refine O_p (.b true) (by exact (by rw [r_eql rfl rfl, decide_eq_true (by omega)])) ?_
          refine O_p (.b true) (r_pick_t rfl rfl) ?_
          refine O_p (.b true) (r_mv rfl) ?_
          refine O_gk rfl ?_
          refine O_p (.p (some (F6, 0))) (r_mv hT480) ?_
          refine O_gk rfl ?_
          have hH499 := ((hH498.top4).top2)
          have hcK : mget cl [116] = some (.i .i64 ((q1 + 1 : Nat) : Int)) := by rw [hp62, hiK]; unfold cntO; rw [if_neg (by omega)]
          have hH500 := ((hH499.top1).top1)
          refine O_call (Ev.mono (count_some (np := 3) (tp := [116]) hp61 hcK hH500) fun v501 H502 hq503 => ?_)
          obtain ⟨rfl, hH504⟩ := hq503
          refine O_gk rfl ?_
          refine O_p (.i .i64 (((q1 : Nat)) : Int)) (r_mv hT479) ?_
          refine O_gk rfl ?_
          refine O_p (.i .i64 ((((q1 : Nat)) : Int) + 1)) (by exact (r_addi rfl rfl (wrap_i64 (by omega) (by omega)))) ?_
          refine O_gk rfl ?_
          refine O_p (.b true) (by exact (by rw [r_eql rfl rfl, decide_eq_true (by omega)])) ?_
          refine O_p (.b true) (r_pick_t rfl rfl) ?_
          refine O_p (.b true) (r_mv rfl) ?_
          refine O_nil ?_
          refine C_ret ?_
          exact ⟨.inr rfl, _, resL_one (r_tmp (v := .b true) rfl), rfl⟩
        ·
          obtain ⟨hEz, henz⟩ := hp68 (by simpa using hff)
          refine C_region ?_
          refine O_p (.i .i64 en) (r_mv hT481) ?_
          refine O_p (.b true) (by exact (by rw [r_lss rfl rfl, decide_eq_true (by omega)])) ?_
          refine O_nil ?_
          refine C_cond (x := true) rfl (fun _ => ?_) (fun h => by cases h)
          refine C_region ?_
          refine O_p (.i .i64 (((q1 : Nat)) : Int)) (r_mv hT479) ?_
          refine O_p (.i .i64 ((((q1 : Nat)) : Int) + 1)) (by exact (r_addi rfl rfl (wrap_i64 (by omega) (by omega)))) ?_
          refine O_p (.i .i64 ((((q1 : Nat)) : Int) + 1)) (r_mv rfl) ?_
          refine O_nil ?_
          refine C_seq ?_
          refine C_region ?_
          refine O_p (.b true) (r_mv hT478) ?_
          refine O_p (.b true) (r_mv rfl) ?_
          refine O_gk rfl ?_
          refine O_p (.i .i64 (((n2 : Nat)) : Int)) (r_mv hT482) ?_
          refine O_gk rfl ?_
          refine O_p (.i .i64 ((((q1 : Nat)) : Int) + 1)) (r_mv rfl) ?_
          refine O_gk rfl ?_
          refine O_p (.b true) (by exact (by rw [r_eql rfl rfl, decide_eq_true (by omega)])) ?_
          refine O_p (.b true) (r_pick_t rfl rfl) ?_
          refine O_p (.b true) (r_mv rfl) ?_
          refine O_gk rfl ?_
          refine O_p (.p (some (F6, 0))) (r_mv hT480) ?_
          refine O_gk rfl ?_
          have hH505 := ((hH498.top4).top2)
          have hcK : mget cl [116] = some (.i .i64 ((q1 + 1 : Nat) : Int)) := by rw [hp62, hiK]; unfold cntO; rw [if_neg (by omega)]
          have hH506 := ((hH505.top1).top1)
          refine O_call (Ev.mono (count_some (np := 3) (tp := [116]) hp61 hcK hH506) fun v507 H508 hq509 => ?_)
          obtain ⟨rfl, hH510⟩ := hq509
          refine O_gk rfl ?_
          refine O_p (.i .i64 (((q1 : Nat)) : Int)) (r_mv hT479) ?_
          refine O_gk rfl ?_
          refine O_p (.i .i64 ((((q1 : Nat)) : Int) + 1)) (by exact (r_addi rfl rfl (wrap_i64 (by omega) (by omega)))) ?_
          refine O_gk rfl ?_
          refine O_p (.b true) (by exact (by rw [r_eql rfl rfl, decide_eq_true (by omega)])) ?_
          refine O_p (.b true) (r_pick_t rfl rfl) ?_
          refine O_p (.b true) (r_mv rfl) ?_
          refine O_nil ?_
          refine C_ret ?_
          exact ⟨.inr rfl, _, resL_one (r_tmp (v := .b true) rfl), rfl⟩
      ·
        have hp3 := hp472
        obtain ⟨c3, rfl⟩ : ∃ z, c2 = z + 1 := ⟨c2 - 1, by omega⟩
        obtain ⟨r0, rz, rfl⟩ : ∃ r rz, wr = r :: rz := by
          cases wr with
          | nil => have := hp3.1; rw [List.length_map, rg_len] at this; simp at this
          | cons r rz => exact ⟨r, rz, rfl⟩
        have hl50 := hp3.lens
        have hp4 : ItsR D (r0 :: rz) (itT n2 :: (rg (n2 + 1) c3).map itT) := hp3
        have hpt := hp4.tail
        obtain ⟨rr, hrr, hpk⟩ := hp4.2 0 _ rfl
        simp only [List.getElem?_cons_zero, Option.some.injEq] at hrr
        subst hrr
        obtain ⟨ka, kc, kg, rfl, hkg, _, _, hkb⟩ := hpk
        have hbl : (bd n2).length = 1 := rfl
        refine C_region ?_
        refine O_p (.p (some (F6, 0))) (r_mv hT480) ?_
        have hall511 : ∀ x ∈ ([(prow true (some mr17) (.sl none 0 0 0) 0), (prow true (some mr26) w 0), zrow] : List (List AV)), x.length = 4 := fun x hx => by simp only [List.mem_cons, List.not_mem_nil, or_false] at hx; rcases hx with rfl | rfl | rfl <;> rfl
        have hH512 := (((hH483.top4).top2).top2)
        have hH513 : Hs H468 ([(F6, some (.cells ([(.sl (some (Lb7, 0)) 3 3 0), (.i .i64 (((clampR room) : Nat) : Int)), (.m (some cm8))]) true))] ++ ([(Lb7, some (.cells ((([(prow true (some mr17) (.sl none 0 0 0) 0), (prow true (some mr26) w 0), zrow] : List (List AV)).set 1 (prow true (some mr26) w 0)).flatten) true))] ++ ((qseg w wc) ++ ([(cm8, some cb)] ++ ([(mr26, some mb)] ++ (D ++ ((allL H0) ++ ([])))))))) := hH512
        have hH514 := (((hH513.top2).top2).top2)
        refine O_call (Ev.mono (pull_ev (np := 3) (i := 1) (rws := ([(prow true (some mr17) (.sl none 0 0 0) 0), (prow true (some mr26) w 0), zrow] : List (List AV))) (by decide) hall511 (Nat.le_of_ble_eq_true rfl) hp471 hl50 hH514) fun v515 H516 hq517 => ?_)
        obtain ⟨v518, c519, rfl, hsq520, hH521⟩ := hq517
        refine O_p (.tup [(.agg [(.s (txt [116])), (.i .i64 0), (.i .i64 (((n2 : Nat)) : Int)), (.b false), (.sl ka 1 kc kg)]), (.b true)]) (r_mv rfl) ?_
        refine O_p (.agg [(.s (txt [116])), (.i .i64 0), (.i .i64 (((n2 : Nat)) : Int)), (.b false), (.sl ka 1 kc kg)]) (r_ext rfl rfl) ?_
        refine O_p (.b true) (r_ext rfl rfl) ?_
        refine O_alloc fun n522 H523 hN524 => ?_
        have hH525 := hH521.new hN524
        refine O_store (vs := [(.s (txt [116])), (.i .i64 0), (.i .i64 (((n2 : Nat)) : Int)), (.b false), (.sl ka 1 kc kg)]) (c' := [(.s (txt [116])), (.i .i64 0), (.i .i64 (((n2 : Nat)) : Int)), (.b false), (.sl ka 1 kc kg)]) rfl (by rfl) hH525.get0 rfl (List.cons_ne_nil _ _) (Nat.le_of_ble_eq_true rfl) rfl fun H526 hW527 => ?_
        have hH528 := hH525.wr0 hW527
        refine O_p (.b true) (r_mv rfl) ?_
        refine O_nil ?_
        refine C_seq ?_
        refine C_seq ?_
        refine C_region ?_
        refine O_p (.b true) (r_mv rfl) ?_
        refine O_p (.b false) (r_un rfl rfl) ?_
        refine O_nil ?_
        refine C_cond (x := false) rfl (fun h => by cases h) (fun _ => ?_)
        refine C_skip ?_
        refine C_seq ?_
        refine C_seq ?_
        refine C_region ?_
        refine O_p (.p (some (n522, 2))) (r_fadd' rfl rfl) ?_
        refine O_p (.i .i64 (((n2 : Nat)) : Int)) (r_ld rfl hH528.get0 rfl) ?_
        refine O_p (.i .i64 (((n2 : Nat)) : Int)) (r_mv hT482) ?_
        refine O_p (.b false) (r_nqq rfl rfl) ?_
        refine O_nil ?_
        refine C_cond (x := false) rfl (fun h => by cases h) (fun _ => ?_)
        refine C_skip ?_
        refine C_region ?_
        refine O_p (.i .i64 (((n2 : Nat)) : Int)) (r_mv hT482) ?_
        refine O_p (.i .i64 ((((n2 : Nat)) : Int) + 1)) (by exact (r_addi rfl rfl (wrap_i64 (by omega) (by omega)))) ?_
        refine O_p (.i .i64 ((((n2 : Nat)) : Int) + 1)) (r_mv rfl) ?_
        refine O_nil ?_
        have hH529 := (hH528.sub0)
        have hH530 := (((((((hH529.top6).top6).top4).top6).top6).top6).top6)
        exact ⟨c3, by omega, (n2 + 1), v518, c519, rz, c3, rfl, hsq520, hpt, by omega, hH530, hT474, hT475, hT476, hT477, hT478, hT479, hT480, hT481, rfl⟩
set_option maxRecDepth 100000 in
theorem run3T (H : AH) (hok : H.Ok) (room n0 : Int) {v : AV} (h : Typed Try.prog H 9 22 [v]) : Ev tabA spA (.fn (.func 3) [] []) [.i .i64 room, v, .i .i64 n0] H (fun v _ => v = .b true) := by
  obtain ⟨p, n, c, rfl, hnc, _, hr⟩ := typed_recs (z := 1) Try.underlying22 (by kernel_rfl) h
  obtain ⟨rows, hrw, _, hrt⟩ := Rw.given hnc hr
  obtain ⟨pl, rfl⟩ := ints_ex (k := .i64) fun i r hi => by
    obtain ⟨x, e, _⟩ := typed_int Try.underlying3 (hrt i r hi)
    exact ⟨x, e⟩
  have hpv : ∀ H', Hs H' (allL H) → Rw 1 H' (.sl p n c 0) (pl.map fun x => [AV.i .i64 x]) := fun H' hh => hrw.ro (R := []) hok (by rw [List.append_nil]; exact hh)
  exact run3 H hok room n0 _ pl hpv
set_option maxRecDepth 100000 in
theorem law3 (W : World) (ρ : Rho) (H : AH) (xs : List AV) (args : Array Value) (hR : Rel Try.prog W.heap.size W ρ H W) (hro : RO H) (hv : VRL ρ xs args.toList) (ht : TypedVs Try.prog H 9 Try.f3.params.toList xs) :
    Calls Try.prog 3 args W fun e w' => e = .returned (.bool true) ∧ Below W.heap.size W w' := by
  rw [Try.params3] at ht
  obtain ⟨a0, xs, rfl, g0, a1, xs, rfl, g1, a2, xs, rfl, g2, rfl⟩ := ht
  obtain ⟨room, rfl, wroom⟩ := typedV_int Try.underlying3 g0
  obtain ⟨n0, rfl, wn0⟩ := typedV_int Try.underlying3 g2
  obtain ⟨k, v, H', hex, rfl⟩ := run3T H hR.aok room n0 (typedV_slice Try.underlying22 g1)
  exact law_of mixed tabA_ok spA_ok hex hR hv
end Go.Proofs.Ytnkpmidfefilbaa.E
namespace Go.Proofs.Ytnkpmidfefilbaa.topicRuns
open Go.ChangeShapes Go.WideShapes Go.RowKit
set_option linter.unusedVariables false
theorem own : ownKnob Try.prog.godebug = none := by kernel_rfl
theorem types : (Try.f3.params.toList.all fun t => E.fit Try.prog 9 t && (Try.prog.readableRec t && decide (t < Try.prog.types.size))) = true := by kernel_rfl
set_option maxRecDepth 100000 in
theorem lifted (os : Os) (started : os.Started) (H : Type) (enc : TypeId × Value → H) :
    ReturnsInHanded {} Try.checked os 3 .any (Rows.topicRunsSpec.pre6 enc Try.prog Try.f3 Rows.topicRunsRow.domain false) (Rows.topicRunsSpec.post enc Try.prog Try.f3 false true false false) :=
  E.law_lifted (C := Try.checked) (k := 9) (tb := 4) E.globals0 E.laid own started (by kernel_rfl) Try.func3
    (ChangeSpec.witness6 (enc := enc) (C := Try.checked) false ⟨#[], #[.int .i64 0, .slice none 0 0, .int .i64 0], []⟩ 8 (by kernel_rfl) (by kernel_rfl) (by kernel_rfl) (by kernel_rfl))
    rfl rfl Try.underlying4 (fun t ht => by have h := List.all_eq_true.1 types t ht; simp only [Bool.and_eq_true, decide_eq_true_eq] at h; exact h)
    (fun ds hd => by
      rw [Try.params3] at hd
      match ds, hd with
      | [d0, d1, d2], _ => rfl) E.law3
theorem over : Rows.topicRunsRow.holds Try.pinned (OpenSpec.ofChange Rows.topicRunsSpec) :=
  OpenClaim.holds_of_wide 3 Try.f3 rfl rfl rfl rfl rfl rfl rfl ⟨rfl, rfl, rfl, rfl, rfl⟩ rfl rfl rfl rfl rfl (by kernel_rfl) Try.func3 (by kernel_rfl)
    (of_decide_eq_true (by kernel_rfl)) (by unfold Func.isWrapper; first | (rw [if_pos (by decide +kernel)]; kernel_rfl) | (rw [if_neg (by decide +kernel)]; exact ⟨rfl, rfl⟩))
    (fun os started H enc _ => lifted os started H enc)
end Go.Proofs.Ytnkpmidfefilbaa.topicRuns
namespace Go.Proofs.Ytnkpmidfefilbaa
/-- The row, under a short name, for the claim. -/
theorem topicRuns_holds : Rows.TopicRunsSaid := topicRuns.over
#print axioms topicRuns_holds
end Go.Proofs.Ytnkpmidfefilbaa
