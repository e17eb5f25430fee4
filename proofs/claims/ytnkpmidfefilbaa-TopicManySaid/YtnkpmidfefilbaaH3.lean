/- Topics: an item published. It bears no condition. -/
import Derived.Test.YtnkpmidfefilbaaH2
namespace Go.Proofs.Ytnkpmidfefilbaa.E
set_option linter.unusedVariables false
set_option linter.unusedSimpArgs false
/-- What an item makes of a party: its subscription (mode, failed), what waits, what is lost; is it taken? -/
def handT (g : Option (Int × Bool)) (room : Nat) (w : List It) (lost : Int) (x : It) : Option (Int × Bool) × List It × Int × Bool :=
  match g with
  | none => (none, w, lost, false)
  | some (mode, true) => (some (mode, true), w, lost, false)
  | some (mode, false) =>
    if w.length < room then (some (mode, false), w ++ [x], lost, true)
    else if mode = 0 then (some (0, true), w, lost, false)
    else if mode = 1 then (some (1, false), w, lost + 1, false)
    else (some (mode, false), w.drop 1 ++ [x], lost + 1, true)
abbrev subO (g : Option (Int × Bool)) : Option AV := g.map fun q => sub q.1 q.2

theorem handT_ev {H : AH} {R D : HL} {Lb i mr room : Nat} {rws rows : List (List AV)} {v : AV} {c : List AV} {mb : Blk} {m : ML} {lost : Int} {g : Option (Int × Bool)} {w : List It} {x : It} {dv : AV} (hrw : ∀ x ∈ rws, x.length = 4) (hi : i < rws.length) (hsq : Sq 5 v c rows.flatten) (hir : ItsR D rows w) (hmb : Mb m mb) (hg : mget m x.tp = subO g) (hmode : ∀ mode f, g = some (mode, f) → 0 ≤ mode ∧ mode ≤ 2) (htp : ∀ y ∈ w, y.tp = x.tp) (hx : ItRow D [.s (txt x.tp), .i .i64 x.frm, .i .i64 x.num, .b x.tx, dv] x) (hroom : 1 ≤ room) (hlost : 0 ≤ lost ∧ lost < 4611686018427387904) (hw : w.length ≤ 1000000) (hH0 : Hs H ([(Lb, some (.cells (rws.set i (prow true (some mr) v lost)).flatten true))] ++ ([(mr, some mb)] ++ (qseg v c ++ R)))) :
    Ev tabA spA (.fn (.func 31) [] []) [.p (some (Lb, i * 4 + 0)), .agg [.s (txt x.tp), .i .i64 x.frm, .i .i64 x.num, .b x.tx, dv], .i .i64 room] H (fun r H' => ∃ mb' m' v' c' rows', r = .b (handT g room w lost x).2.2.2 ∧ Mb m' mb' ∧ mget m' x.tp = subO (handT g room w lost x).1 ∧ Sq 5 v' c' rows'.flatten ∧ ItsR D rows' (handT g room w lost x).2.1 ∧ Hs H' ([(Lb, some (.cells (rws.set i (prow true (some mr) v' (handT g room w lost x).2.2.1)).flatten true))] ++ ([(mr, some mb')] ++ (qseg v' c' ++ R)))) := by
  have hl5 := hir.lens
  have hrl := hir.1
  cases g with
  | none =>
    refine Ev.mono (hand_no (mode := 0) hrw hi hsq hl5 hmb hlost (by omega) hg hH0) fun r H2 hq => ?_
    obtain ⟨rfl, hh⟩ := hq
    exact ⟨mb, m, v, c, rows, rfl, hmb, hg, hsq, hir, hh⟩
  | some q =>
    obtain ⟨mode, f⟩ := q
    have hmo := hmode mode f rfl
    cases f with
    | true =>
      refine Ev.mono (hand_failed (mode := mode) hrw hi hsq hl5 hmb hlost (by omega) hg hH0) fun r H2 hq => ?_
      obtain ⟨rfl, hh⟩ := hq
      exact ⟨mb, m, v, c, rows, rfl, hmb, hg, hsq, hir, hh⟩
    | false =>
      by_cases hr : w.length < room
      · have e : handT (some (mode, false)) room w lost x = (some (mode, false), w ++ [x], lost, true) := by unfold handT; simp only; rw [if_pos hr]
        rw [e]
        refine Ev.mono (hand_room (mode := mode) hrw hi hsq hl5 hmb hlost (by omega) hg (by omega) hH0) fun r H2 hq => ?_
        obtain ⟨rfl, v2, c2, hs2, hh⟩ := hq
        exact ⟨mb, m, v2, c2, _, rfl, hmb, hg, hs2, hir.snoc hx, hh⟩
      · by_cases h0 : mode = 0
        · subst h0
          have e : handT (some (0, false)) room w lost x = (some (0, true), w, lost, false) := by unfold handT; simp only; rw [if_neg hr]; rfl
          rw [e]
          refine Ev.mono (hand_ord (mode := 0) hrw hi hsq hl5 hmb hlost (by omega) hg (by omega) hH0) fun r H2 hq => ?_
          obtain ⟨rfl, mb2, hm2, hh⟩ := hq
          exact ⟨mb2, _, v, c, rows, rfl, hm2, by rw [mget_set, if_pos rfl]; rfl, hsq, hir, hh⟩
        · cases w with
          | nil => simp at hr; omega
          | cons y w =>
            obtain ⟨r0, rz, rfl⟩ : ∃ r rz, rows = r :: rz := by
              cases rows with
              | nil => simp at hrl
              | cons r rz => exact ⟨r, rz, rfl⟩
            obtain ⟨rr, hrr, a, cap, gg, e0, _⟩ := hir.2 0 y rfl
            simp only [List.getElem?_cons_zero, Option.some.injEq] at hrr
            subst hrr
            subst e0
            rw [htp y (List.mem_cons_self ..)] at hsq hl5
            have hrl2 : rz.length = w.length := by simpa using hrl
            by_cases h1 : mode = 1
            · subst h1
              have e : handT (some (1, false)) room (y :: w) lost x = (some (1, false), y :: w, lost + 1, false) := by unfold handT; simp only; rw [if_neg hr, if_neg (by decide)]; rfl
              rw [e]
              refine Ev.mono (hand_new (mode := 1) hrw hi hsq hl5 hmb hlost (by simp only [List.length_cons] at *; omega) hg (by simp only [List.length_cons] at *; omega) hH0) fun r H2 hq => ?_
              obtain ⟨rfl, hh⟩ := hq
              exact ⟨mb, m, v, c, _, rfl, hmb, hg, hsq, by rw [← htp y (List.mem_cons_self ..)]; exact hir, hh⟩
            · have h2 : mode = 2 := by omega
              subst h2
              have e : handT (some (2, false)) room (y :: w) lost x = (some (2, false), w ++ [x], lost + 1, true) := by unfold handT; simp only; rw [if_neg hr, if_neg (by decide), if_neg (by decide)]; rfl
              rw [e]
              refine Ev.mono (hand_old (mode := 2) hrw hi hsq hl5 hmb hlost (by simp only [List.length_cons] at *; omega) hg (by simp only [List.length_cons] at *; omega) hH0) fun r H2 hq => ?_
              obtain ⟨rfl, v2, c2, hs2, hh⟩ := hq
              exact ⟨mb, m, v2, c2, _, rfl, hmb, hg, hs2, hir.tail.snoc hx, hh⟩

set_option maxHeartbeats 2000000 in
theorem publish_none {H : AH} {R D B : HL} {F Lb cm m0 m1 room : Nat} {cb mb : Blk} {cmL m : ML} {v0 v : AV} {l0 lost n : Int} {c : List AV} {rows : List (List AV)} {w : List It} {g : Option (Int × Bool)} {tp dd : List UInt8} {tx : Bool} {da : Option (Nat × Nat)} {dc dg : Nat} (hcb : Mb cmL cb) (hcg : mget cmL tp = none) (hn : 0 ≤ n ∧ n < 1000000) (htp : 0 < tp.length ∧ tp.length ≤ 256) (hdl : dd.length ≤ 16384) (hdg : dg = 0 ∨ dg = 1) (hdc : dd.length ≤ dc) (hdm : dc ≤ 9223372036854775807) (hdb : ∀ H', Hs H' B → Bs H' (.sl da dd.length dc dg) dd) (hsq : Sq 5 v c rows.flatten) (hir : ItsR D rows w) (hmb : Mb m mb) (hg : mget m tp = subO g) (hmode : ∀ mode f, g = some (mode, f) → 0 ≤ mode ∧ mode ≤ 2) (htpw : ∀ y ∈ w, y.tp = tp) (hroom : 1 ≤ room) (hlost : 0 ≤ lost ∧ lost < 4611686018427387904) (hww : w.length ≤ 1000000) (hH0 : Hs H ([(F, some (.cells ([(.sl (some (Lb, 0)) 3 3 0), (.i .i64 ((room : Nat) : Int)), (.m (some cm))]) true))] ++ ([(Lb, some (.cells (([(prow true (some m0) v0 l0), (prow true (some m1) v lost), zrow] : List (List AV)).flatten) true))] ++ ([(cm, some cb)] ++ ([(m1, some mb)] ++ ((qseg v c) ++ (D ++ (B ++ (R))))))))) : Ev tabA spA (.fn (.func 13) [] []) [.p (some (F, 0)), .i .i64 0, .s (txt tp), .b tx, .sl da dd.length dc dg] H (fun r H' => ∃ D' cb2 mb2 m2 v2 c2 rows2, r = .tup [.i .i64 (if (handT g room w lost (⟨tp, 0, 0, tx, dd⟩ : It)).2.2.2 then 1 else 0), .i .i64 0] ∧ (∀ H', Hs H' D' → Hs H' D) ∧ Mb (mset cmL tp (.i .i64 1)) cb2 ∧ Mb m2 mb2 ∧ mget m2 tp = subO (handT g room w lost (⟨tp, 0, 0, tx, dd⟩ : It)).1 ∧ Sq 5 v2 c2 rows2.flatten ∧ ItsR D' rows2 (handT g room w lost (⟨tp, 0, 0, tx, dd⟩ : It)).2.1 ∧ Hs H' ([(F, some (.cells ([(.sl (some (Lb, 0)) 3 3 0), (.i .i64 ((room : Nat) : Int)), (.m (some cm))]) true))] ++ ([(Lb, some (.cells (([(prow true (some m0) v0 l0), (prow true (some m1) v2 (handT g room w lost (⟨tp, 0, 0, tx, dd⟩ : It)).2.2.1), zrow] : List (List AV)).flatten) true))] ++ ([(cm, some cb2)] ++ ([(m1, some mb2)] ++ ((qseg v2 c2) ++ (D' ++ (B ++ (R))))))))) := by
  refine Ev_C (F := x13) rfl ?_
  refine C_seq ?_
  refine C_region ?_
  refine O_p (.i .i64 0) (r_mv rfl) ?_
  refine O_p (.i .i64 0) (r_mv rfl) ?_
  refine O_nil ?_
  refine C_seq ?_
  refine C_region ?_
  refine O_p (.p (some (F, 0))) (r_mv rfl) ?_
  refine O_p (.i .i64 0) (r_mv rfl) ?_
  refine O_call (Ev.mono (at_ev (k := 0) (np := 3) (by decide) hH0) fun v1 H2 hq3 => ?_)
  obtain ⟨rfl, hH4⟩ := hq3
  refine O_p (.p (some (Lb, (0 * 4 + 0)))) (r_mv rfl) ?_
  refine O_nil ?_
  refine C_seq ?_
  refine C_block ?_
  refine C_seq ?_
  refine C_region ?_
  refine O_p (.p (some (Lb, (0 * 4 + 0)))) (r_mv rfl) ?_
  refine O_p (.b false) (r_nilq_s rfl) ?_
  refine O_p (.b false) (r_mv rfl) ?_
  refine O_gk rfl ?_
  refine O_p (.s (txt tp)) (r_mv rfl) ?_
  refine O_gk rfl ?_
  refine O_p (.b false) (by exact (by rw [r_eqt (b := ([] : List UInt8)) rfl rfl, decide_eq_false (by intro h; rw [h] at htp; exact absurd htp.1 (by decide))])) ?_
  refine O_p (.b false) (r_pick_f rfl rfl) ?_
  refine O_p (.b false) (r_mv rfl) ?_
  refine O_nil ?_
  refine C_cond (x := false) rfl (fun h => by cases h) (fun _ => ?_)
  refine C_seq ?_
  refine C_region ?_
  refine O_p (.s (txt tp)) (r_mv rfl) ?_
  refine O_p (.i .i64 ((((tp).length : Nat)) : Int)) (r_lent (l := tp) rfl) ?_
  refine O_p (.b false) (by exact (by rw [r_gtr rfl rfl, decide_eq_false (by first | omega | assumption)])) ?_
  refine O_p (.b false) (r_mv rfl) ?_
  refine O_gk rfl ?_
  refine O_p (.sl da dd.length dc dg) (r_mv rfl) ?_
  refine O_gk rfl ?_
  refine O_p (.i .i64 (((dd.length : Nat)) : Int)) (r_len rfl) ?_
  refine O_gk rfl ?_
  refine O_p (.b false) (by exact (by rw [r_gtr rfl rfl, decide_eq_false (by first | omega | assumption)])) ?_
  refine O_p (.b false) (r_pick_f rfl rfl) ?_
  refine O_p (.b false) (r_mv rfl) ?_
  refine O_nil ?_
  refine C_cond (x := false) rfl (fun h => by cases h) (fun _ => ?_)
  refine C_seq ?_
  refine C_region ?_
  have hall5 : ∀ x ∈ ([(prow true (some m0) v0 l0), (prow true (some m1) v lost), zrow] : List (List AV)), x.length = 4 := fun x hx => by simp only [List.mem_cons, List.not_mem_nil, or_false] at hx; rcases hx with rfl | rfl | rfl <;> rfl
  have hH6 : Hs H2 ([(F, some (.cells ([(.sl (some (Lb, 0)) 3 3 0), (.i .i64 ((room : Nat) : Int)), (.m (some cm))]) true))] ++ ([(Lb, some (.cells (((([(prow true (some m0) v0 l0), (prow true (some m1) v lost), zrow] : List (List AV))).set 0 (prow true (some m0) v0 l0)).flatten) true))] ++ ([(cm, some cb)] ++ ([(m1, some mb)] ++ ((qseg v c) ++ (D ++ (B ++ (R)))))))) := hH4
  refine O_p (.p (some (Lb, (0 * 4 + 0)))) (r_mv rfl) ?_
  refine O_p (.p (some (Lb, (0 * 4 + 0)))) (r_nilc rfl) ?_
  refine O_p (.p (some (Lb, (0 * 4 + 0)))) (r_fadd' rfl rfl) ?_
  refine O_p (.b true) (by exact (r_ld rfl hH6.get1 ((foc_get hall5 (Nat.le_of_ble_eq_true rfl) rfl (by decide)).trans rfl))) ?_
  refine O_p (.b false) (r_un rfl rfl) ?_
  refine O_p (.b false) (r_mv rfl) ?_
  refine O_nil ?_
  refine C_cond (x := false) rfl (fun h => by cases h) (fun _ => ?_)
  refine C_skip ?_
  refine C_seq ?_
  refine C_region ?_
  refine O_p (.s (txt tp)) (r_mv rfl) ?_
  refine O_p (.i .i64 0) (r_mv rfl) ?_
  refine O_p (.p (some (F, 0))) (r_mv rfl) ?_
  refine O_p (.p (some (F, 0))) (r_nilc rfl) ?_
  refine O_p (.p (some (F, 2))) (r_fadd' rfl rfl) ?_
  refine O_p (.m (some cm)) (r_ld rfl hH6.get0 rfl) ?_
  refine O_p (.s (txt tp)) (r_mv rfl) ?_
  refine O_p (.i .i64 0) (by exact ((r_mget (m := cmL) (k := tp) hH6.get2 hcb rfl rfl false).trans (by first | (rw [hcg]; rfl) | rw [hcg]))) ?_
  refine O_p (.b tx) (r_mv rfl) ?_
  refine O_p (.agg [(.s (txt tp)), (.i .i64 0), (.i .i64 0), (.b tx), (.sl none 0 0 0)]) (r_build rfl) ?_
  refine O_alloc fun n7 H8 hN9 => ?_
  have hH10 := hH6.new hN9
  refine O_store (vs := [(.s (txt tp)), (.i .i64 0), (.i .i64 0), (.b tx), (.sl none 0 0 0)]) (c' := [(.s (txt tp)), (.i .i64 0), (.i .i64 0), (.b tx), (.sl none 0 0 0)]) rfl (by rfl) hH10.get0 rfl (List.cons_ne_nil _ _) (Nat.le_of_ble_eq_true rfl) rfl fun H11 hW12 => ?_
  have hH13 := hH10.wr0 hW12
  refine O_nil ?_
  refine C_seq ?_
  refine C_region ?_
  refine O_p (.p (some (F, 0))) (r_mv rfl) ?_
  refine O_p (.p (some (F, 0))) (r_nilc rfl) ?_
  refine O_p (.p (some (F, 2))) (r_fadd' rfl rfl) ?_
  refine O_p (.m (some cm)) (r_ld rfl hH13.get1 rfl) ?_
  refine O_p (.s (txt tp)) (r_mv rfl) ?_
  refine O_p (.i .i64 0) (by exact ((r_mget (m := cmL) (k := tp) hH13.get3 hcb rfl rfl false).trans (by first | (rw [hcg]; rfl) | rw [hcg]))) ?_
  refine O_p (.i .i64 1) (r_bin rfl rfl rfl) ?_
  refine O_nh (by exact r_mput (k := tp) (v := (.i .i64 1)) hH13.top3 hcb rfl rfl rfl) fun H14 hA15 => ?_
  obtain ⟨bm16, hMb17, hH18⟩ := hA15
  refine O_nil ?_
  refine C_seq ?_
  refine C_region ?_
  refine O_p (.i .i64 0) (r_mv rfl) ?_
  refine O_nil ?_
  refine C_seq ?_
  refine C_seq ?_
  refine C_region ?_
  refine O_p (.p (some (F, 0))) (r_mv rfl) ?_
  refine O_p (.p (some (F, 0))) (r_nilc rfl) ?_
  refine O_p (.p (some (F, 0))) (r_fadd' rfl rfl) ?_
  refine O_p (.sl (some (Lb, 0)) 3 3 0) (r_ld rfl hH18.get2 rfl) ?_
  refine O_p (.i .i64 3) (r_len rfl) ?_
  refine O_p (.i .i64 0) (r_mv rfl) ?_
  refine O_nil ?_
  refine C_block ?_
  refine C_loop ?_
  refine C_seq ?_
  refine C_region ?_
  refine O_p (.b true) (r_bin rfl rfl rfl) ?_
  refine O_nil ?_
  refine C_seq ?_
  refine C_cond (x := true) rfl (fun _ => ?_) (fun h => by cases h)
  refine C_skip ?_
  refine C_seq ?_
  refine C_block ?_
  refine C_seq ?_
  refine C_region ?_
  refine O_p (.i .i64 0) (r_mv rfl) ?_
  refine O_p (.i .i64 0) (r_mv rfl) ?_
  refine O_nil ?_
  refine C_seq ?_
  refine C_region ?_
  refine O_p (.sl da dd.length dc dg) (r_mv rfl) ?_
  refine O_call (Ev.mono (clone_ev (tab := tabA) (sp := spA) rfl hH18.ok hdg (hdb _ hH18.top7.fst) (by first | omega | (simp only [List.length_take, List.length_drop, List.length_append, List.length_cons, List.length_nil, beN_len] <;> omega)) (by first | omega | (simp only [List.length_take, List.length_drop, List.length_append, List.length_cons, List.length_nil, beN_len] <;> omega)) (by first | omega | (simp only [List.length_take, List.length_drop, List.length_append, List.length_cons, List.length_nil, beN_len] <;> omega))) fun v19 H20 hq21 => ?_)
  obtain ⟨hM22, hK23⟩ := hq21
  obtain ⟨qa24, qg25, rfl, hqg26, _⟩ := hM22.own.bs
  have hH28 := Hs.ofMine hH18 hM22 hK23
  have hSq27 := Sq.ofMine hH18 hM22 hK23
  have hH29 := (hH28.top7)
  have hH30 := Hs.unassoc hH29
  refine O_p (.p (some (n7, 4))) (r_fadd' rfl rfl) ?_
  refine O_store (vs := [(.sl qa24 (dd).length (dd).length qg25)]) (c' := [(.s (txt tp)), (.i .i64 0), (.i .i64 0), (.b tx), (.sl qa24 (dd).length (dd).length qg25)]) rfl (by rfl) hH30.get2 rfl (List.cons_ne_nil _ _) (Nat.le_of_ble_eq_true rfl) rfl fun H31 hW32 => ?_
  have hH33 := hH30.wr2 hW32
  refine O_nil ?_
  refine C_seq ?_
  refine C_draw fun b34 H35 hbase36 hA37 => ?_
  have hH38 := hH33.keep (by have := hA37.1; omega) (fun q _ => hA37.2 q) ((hH33.old).aside hA37).ok
  refine D_l (v := (.i .i64 0)) rfl rfl rfl (r_mv rfl) ?_
  refine D_l (v := (.i .i64 0)) rfl rfl rfl (r_mv rfl) ?_
  refine D_l (v := (.b false)) rfl rfl rfl (r_bin rfl rfl rfl) ?_
  refine D_l (v := (.b false)) rfl rfl rfl (r_mv rfl) ?_
  refine D_gf rfl ?_
  refine D_gf rfl ?_
  refine D_gf rfl ?_
  refine D_gf rfl ?_
  refine D_gf rfl ?_
  refine D_gf rfl ?_
  refine D_gf rfl ?_
  refine D_gf rfl ?_
  refine D_gf rfl ?_
  refine D_gf rfl ?_
  refine D_gf rfl ?_
  refine D_gf rfl ?_
  refine D_l (v := (.b false)) rfl rfl rfl (r_pick_f rfl rfl) ?_
  refine D_nil ?_
  refine C_cond (x := false) rfl (fun h => by cases h) (fun _ => ?_)
  refine C_skip ?_
  refine C_region ?_
  refine O_p (.i .i64 1) (r_bin rfl rfl rfl) ?_
  refine O_p (.i .i64 1) (r_mv rfl) ?_
  refine O_nil ?_
  refine C_loop ?_
  refine C_seq ?_
  refine C_region ?_
  refine O_p (.b true) (r_bin rfl rfl rfl) ?_
  refine O_nil ?_
  refine C_seq ?_
  refine C_cond (x := true) rfl (fun _ => ?_) (fun h => by cases h)
  refine C_skip ?_
  refine C_seq ?_
  refine C_block ?_
  refine C_seq ?_
  refine C_region ?_
  refine O_p (.i .i64 1) (r_mv rfl) ?_
  refine O_p (.i .i64 1) (r_mv rfl) ?_
  refine O_nil ?_
  refine C_seq ?_
  refine C_region ?_
  refine O_p (.sl da dd.length dc dg) (r_mv rfl) ?_
  refine O_call (Ev.mono (clone_ev (tab := tabA) (sp := spA) rfl hH38.ok hdg (hdb _ hH38.top7.fst) (by first | omega | (simp only [List.length_take, List.length_drop, List.length_append, List.length_cons, List.length_nil, beN_len] <;> omega)) (by first | omega | (simp only [List.length_take, List.length_drop, List.length_append, List.length_cons, List.length_nil, beN_len] <;> omega)) (by first | omega | (simp only [List.length_take, List.length_drop, List.length_append, List.length_cons, List.length_nil, beN_len] <;> omega))) fun v39 H40 hq41 => ?_)
  obtain ⟨hM42, hK43⟩ := hq41
  obtain ⟨qa44, qg45, rfl, hqg46, _⟩ := hM42.own.bs
  have hH48 := Hs.ofMine hH38 hM42 hK43
  have hSq47 := Sq.ofMine hH38 hM42 hK43
  have hH49 := (hH48.top1)
  have hH50 := Hs.unassoc hH49
  refine O_p (.p (some (n7, 4))) (r_fadd' rfl rfl) ?_
  refine O_store (vs := [(.sl qa44 (dd).length (dd).length qg45)]) (c' := [(.s (txt tp)), (.i .i64 0), (.i .i64 0), (.b tx), (.sl qa44 (dd).length (dd).length qg45)]) rfl (by rfl) hH50.get2 rfl (List.cons_ne_nil _ _) (Nat.le_of_ble_eq_true rfl) rfl fun H51 hW52 => ?_
  have hH53 := hH50.wr2 hW52
  refine O_nil ?_
  refine C_seq ?_
  refine C_draw fun b54 H55 hbase56 hA57 => ?_
  have hH58 := hH53.keep (by have := hA57.1; omega) (fun q _ => hA57.2 q) ((hH53.old).aside hA57).ok
  refine D_l (v := (.i .i64 1)) rfl rfl rfl (r_mv rfl) ?_
  refine D_l (v := (.i .i64 0)) rfl rfl rfl (r_mv rfl) ?_
  refine D_l (v := (.b true)) rfl rfl rfl (r_bin rfl rfl rfl) ?_
  refine D_l (v := (.b true)) rfl rfl rfl (r_mv rfl) ?_
  refine D_gk rfl ?_
  refine D_l (v := (.p (some (F, 0)))) rfl rfl rfl (r_mv rfl) ?_
  refine D_gk rfl ?_
  refine D_l (v := (.p (some (F, 0)))) rfl rfl rfl (r_nilc rfl) ?_
  refine D_gk rfl ?_
  refine D_l (v := (.p (some (F, 0)))) rfl rfl rfl (r_fadd' rfl rfl) ?_
  refine D_gk rfl ?_
  refine D_l (v := (.i .i64 1)) rfl rfl rfl (r_mv rfl) ?_
  refine D_gk rfl ?_
  refine D_l (v := (.p (some (F, 0)))) rfl rfl rfl (r_mv rfl) ?_
  refine D_gk rfl ?_
  refine D_l (v := (.p (some (F, 0)))) rfl rfl rfl (r_nilc rfl) ?_
  refine D_gk rfl ?_
  refine D_l (v := (.p (some (F, 1)))) rfl rfl rfl (r_fadd' rfl rfl) ?_
  refine D_gk rfl ?_
  refine D_r (v := (.sl (some (Lb, 0)) 3 3 0)) rfl rfl rfl (r_ld rfl hH58.get3 rfl) ?_
  refine D_gk rfl ?_
  refine D_l (v := (.p (some (Lb, (1 * 4 + 0))))) rfl rfl rfl (by exact (r_islr (b := Lb) (k := 1) (len := 3) (cap := 3) (g := 0) rfl rfl (by decide))) ?_
  refine D_gk rfl ?_
  refine D_r (v := (.agg [(.s (txt tp)), (.i .i64 0), (.i .i64 0), (.b tx), (.sl qa44 (dd).length (dd).length qg45)])) rfl rfl rfl (r_ldA rfl hH58.get2 rfl) ?_
  refine D_gk rfl ?_
  refine D_r (v := (.i .i64 ((room : Nat) : Int))) rfl rfl rfl (r_ld rfl hH58.get3 rfl) ?_
  refine D_gk rfl ?_
  have hall59 : ∀ x ∈ ([(prow true (some m0) v0 l0), (prow true (some m1) v lost), zrow] : List (List AV)), x.length = 4 := fun x hx => by simp only [List.mem_cons, List.not_mem_nil, or_false] at hx; rcases hx with rfl | rfl | rfl <;> rfl
  have hH60 := (((hH58.top6).top6).top6)
  have hH61 : Hs H55 ([(Lb, some (.cells ((([(prow true (some m0) v0 l0), (prow true (some m1) v lost), zrow] : List (List AV)).set 1 (prow true (some m1) v lost)).flatten) true))] ++ ([(m1, some mb)] ++ ((qseg v c) ++ (((D ++ (qseg (.sl qa24 (dd).length (dd).length qg25) (bcells dd))) ++ (qseg (.sl qa44 (dd).length (dd).length qg45) (bcells dd))) ++ ([(cm, some bm16)] ++ ([(n7, some (.cells ([(.s (txt tp)), (.i .i64 0), (.i .i64 0), (.b tx), (.sl qa44 (dd).length (dd).length qg45)]) true))] ++ ([(F, some (.cells ([(.sl (some (Lb, 0)) 3 3 0), (.i .i64 ((room : Nat) : Int)), (.m (some cm))]) true))] ++ (B ++ (R))))))))) := hH60
  have hH62 := (((hH61.top2).top2).top2)
  refine D_call (Ev.mono (handT_ev (i := 1) (rws := ([(prow true (some m0) v0 l0), (prow true (some m1) v lost), zrow] : List (List AV))) (D := ((D ++ (qseg (.sl qa24 (dd).length (dd).length qg25) (bcells dd))) ++ (qseg (.sl qa44 (dd).length (dd).length qg45) (bcells dd)))) (x := (⟨tp, 0, 0, tx, dd⟩ : It)) (g := g) hall59 (Nat.le_of_ble_eq_true rfl) hsq (hir.mono (fun _ hh => hh.fst.fst)) hmb hg hmode htpw ⟨_, _, _, rfl, hqg46, Nat.le_refl _, by omega, fun _ hh => Sq.bs (R := []) hSq47 (by rw [List.append_nil]; exact hh.sub)⟩ hroom hlost hww hH62) fun v63 H64 hq65 => ?_)
  obtain ⟨mb2, m2, v2, c2, rows2, rfl, hmb2, hg2, hsq2, hir2, hh2⟩ := hq65
  refine And.intro (And.intro (Or.inl rfl) (And.intro (Or.inl rfl) (And.intro (Or.inl rfl) True.intro))) ?_
  refine D_l (v := (.b (handT g room w lost (⟨tp, 0, 0, tx, dd⟩ : It)).2.2.2)) rfl rfl rfl (r_pick_t rfl rfl) ?_
  refine D_nil ?_
  refine C_cond (x := (handT g room w lost (⟨tp, 0, 0, tx, dd⟩ : It)).2.2.2) rfl (fun hc66 => ?_) (fun hc66 => ?_)
  ·
    try simp only [decide_eq_true_eq, decide_eq_false_iff_not, Bool.not_eq_true', Bool.not_eq_false', Bool.and_eq_true, Bool.or_eq_true, Bool.or_eq_false_iff, Bool.not_not, Bool.and_eq_false_iff] at hc66
    have htk : (handT g room w lost (⟨tp, 0, 0, tx, dd⟩ : It)).2.2.2 = true := by simpa using hc66
    refine C_region ?_
    refine O_p (.i .i64 0) (r_mv rfl) ?_
    refine O_p (.i .i64 1) (r_bin rfl rfl rfl) ?_
    refine O_p (.i .i64 1) (r_mv rfl) ?_
    refine O_nil ?_
    refine C_region ?_
    refine O_p (.i .i64 2) (r_bin rfl rfl rfl) ?_
    refine O_p (.i .i64 2) (r_mv rfl) ?_
    refine O_nil ?_
    refine C_loop ?_
    refine C_seq ?_
    refine C_region ?_
    refine O_p (.b true) (r_bin rfl rfl rfl) ?_
    refine O_nil ?_
    refine C_seq ?_
    refine C_cond (x := true) rfl (fun _ => ?_) (fun h => by cases h)
    refine C_skip ?_
    refine C_seq ?_
    refine C_block ?_
    refine C_seq ?_
    refine C_region ?_
    refine O_p (.i .i64 2) (r_mv rfl) ?_
    refine O_p (.i .i64 2) (r_mv rfl) ?_
    refine O_nil ?_
    refine C_seq ?_
    refine C_region ?_
    refine O_p (.sl da dd.length dc dg) (r_mv rfl) ?_
    refine O_call (Ev.mono (clone_ev (tab := tabA) (sp := spA) rfl hh2.ok hdg (hdb _ hh2.top7.fst) (by first | omega | (simp only [List.length_take, List.length_drop, List.length_append, List.length_cons, List.length_nil, beN_len] <;> omega)) (by first | omega | (simp only [List.length_take, List.length_drop, List.length_append, List.length_cons, List.length_nil, beN_len] <;> omega)) (by first | omega | (simp only [List.length_take, List.length_drop, List.length_append, List.length_cons, List.length_nil, beN_len] <;> omega))) fun v67 H68 hq69 => ?_)
    obtain ⟨hM70, hK71⟩ := hq69
    obtain ⟨qa72, qg73, rfl, hqg74, _⟩ := hM70.own.bs
    have hH76 := Hs.ofMine hh2 hM70 hK71
    have hSq75 := Sq.ofMine hh2 hM70 hK71
    have hH77 := (hH76.top4)
    have hH78 := Hs.unassoc hH77
    refine O_p (.p (some (n7, 4))) (r_fadd' rfl rfl) ?_
    refine O_store (vs := [(.sl qa72 (dd).length (dd).length qg73)]) (c' := [(.s (txt tp)), (.i .i64 0), (.i .i64 0), (.b tx), (.sl qa72 (dd).length (dd).length qg73)]) rfl (by rfl) hH78.get5 rfl (List.cons_ne_nil _ _) (Nat.le_of_ble_eq_true rfl) rfl fun H79 hW80 => ?_
    have hH81 := hH78.wr5 hW80
    refine O_nil ?_
    refine C_seq ?_
    refine C_draw fun b82 H83 hbase84 hA85 => ?_
    have hH86 := hH81.keep (by have := hA85.1; omega) (fun q _ => hA85.2 q) ((hH81.old).aside hA85).ok
    refine D_l (v := (.i .i64 2)) rfl rfl rfl (r_mv rfl) ?_
    refine D_l (v := (.i .i64 0)) rfl rfl rfl (r_mv rfl) ?_
    refine D_l (v := (.b true)) rfl rfl rfl (r_bin rfl rfl rfl) ?_
    refine D_l (v := (.b true)) rfl rfl rfl (r_mv rfl) ?_
    refine D_gk rfl ?_
    refine D_l (v := (.p (some (F, 0)))) rfl rfl rfl (r_mv rfl) ?_
    refine D_gk rfl ?_
    refine D_l (v := (.p (some (F, 0)))) rfl rfl rfl (r_nilc rfl) ?_
    refine D_gk rfl ?_
    refine D_l (v := (.p (some (F, 0)))) rfl rfl rfl (r_fadd' rfl rfl) ?_
    refine D_gk rfl ?_
    refine D_l (v := (.i .i64 2)) rfl rfl rfl (r_mv rfl) ?_
    refine D_gk rfl ?_
    refine D_l (v := (.p (some (F, 0)))) rfl rfl rfl (r_mv rfl) ?_
    refine D_gk rfl ?_
    refine D_l (v := (.p (some (F, 0)))) rfl rfl rfl (r_nilc rfl) ?_
    refine D_gk rfl ?_
    refine D_l (v := (.p (some (F, 1)))) rfl rfl rfl (r_fadd' rfl rfl) ?_
    refine D_gk rfl ?_
    refine D_r (v := (.sl (some (Lb, 0)) 3 3 0)) rfl rfl rfl (r_ld rfl hH86.get6 rfl) ?_
    refine D_gk rfl ?_
    refine D_l (v := (.p (some (Lb, (2 * 4 + 0))))) rfl rfl rfl (by exact (r_islr (b := Lb) (k := 2) (len := 3) (cap := 3) (g := 0) rfl rfl (by decide))) ?_
    refine D_gk rfl ?_
    refine D_r (v := (.agg [(.s (txt tp)), (.i .i64 0), (.i .i64 0), (.b tx), (.sl qa72 (dd).length (dd).length qg73)])) rfl rfl rfl (r_ldA rfl hH86.get5 rfl) ?_
    refine D_gk rfl ?_
    refine D_r (v := (.i .i64 ((room : Nat) : Int))) rfl rfl rfl (r_ld rfl hH86.get6 rfl) ?_
    refine D_gk rfl ?_
    have hall87 : ∀ x ∈ ([(prow true (some m0) v0 l0), (prow true (some m1) v2 (handT g room w lost (⟨tp, 0, 0, tx, dd⟩ : It)).2.2.1), zrow] : List (List AV)), x.length = 4 := fun x hx => by simp only [List.mem_cons, List.not_mem_nil, or_false] at hx; rcases hx with rfl | rfl | rfl <;> rfl
    have hH88 := (hH86.top1)
    have hH89 : Hs H83 ([(Lb, some (.cells ((([(prow true (some m0) v0 l0), (prow true (some m1) v2 (handT g room w lost (⟨tp, 0, 0, tx, dd⟩ : It)).2.2.1), zrow] : List (List AV)).set 2 (prow false none (.sl none 0 0 0) 0)).flatten) true))] ++ ((((D ++ (qseg (.sl qa24 (dd).length (dd).length qg25) (bcells dd))) ++ (qseg (.sl qa44 (dd).length (dd).length qg45) (bcells dd))) ++ (qseg (.sl qa72 (dd).length (dd).length qg73) (bcells dd))) ++ ([(m1, some mb2)] ++ ((qseg v2 c2) ++ ([(cm, some bm16)] ++ ([(n7, some (.cells ([(.s (txt tp)), (.i .i64 0), (.i .i64 0), (.b tx), (.sl qa72 (dd).length (dd).length qg73)]) true))] ++ ([(F, some (.cells ([(.sl (some (Lb, 0)) 3 3 0), (.i .i64 ((room : Nat) : Int)), (.m (some cm))]) true))] ++ (B ++ (R))))))))) := hH88
    refine D_call (Ev.mono (hand_off (i := 2) (rws := ([(prow true (some m0) v0 l0), (prow true (some m1) v2 (handT g room w lost (⟨tp, 0, 0, tx, dd⟩ : It)).2.2.1), zrow] : List (List AV))) hall87 (Nat.le_of_ble_eq_true rfl) hH89) fun v90 H91 hq92 => ?_)
    obtain ⟨rfl, hH93⟩ := hq92
    refine And.intro (And.intro (Or.inl rfl) (And.intro (Or.inl rfl) (And.intro (Or.inl rfl) True.intro))) ?_
    refine D_l (v := (.b false)) rfl rfl rfl (r_pick_t rfl rfl) ?_
    refine D_nil ?_
    refine C_cond (x := false) rfl (fun h => by cases h) (fun _ => ?_)
    refine C_skip ?_
    refine C_region ?_
    refine O_p (.i .i64 3) (r_bin rfl rfl rfl) ?_
    refine O_p (.i .i64 3) (r_mv rfl) ?_
    refine O_nil ?_
    refine C_loop ?_
    refine C_seq ?_
    refine C_region ?_
    refine O_p (.b false) (r_bin rfl rfl rfl) ?_
    refine O_nil ?_
    refine C_seq ?_
    refine C_cond (x := false) rfl (fun h => by cases h) (fun _ => ?_)
    refine C_exit ?_
    refine nx_exit ?_
    refine nx_exit ?_
    refine bk_hit ?_
    refine C_seq ?_
    refine C_region ?_
    refine O_p (.i .i64 1) (r_mv rfl) ?_
    refine O_p (.i .i64 1) (r_mv rfl) ?_
    refine O_p (.i .i64 0) (r_mv rfl) ?_
    refine O_nil ?_
    refine C_ret ?_
    have hH94 := (hH93.sub5)
    have hH95 := (((((((hH94.top6).top2).top4).top4).top5).top5).top6)
    have hH96 : Hs H91 ([(F, some (.cells ([(.sl (some (Lb, 0)) 3 3 0), (.i .i64 ((room : Nat) : Int)), (.m (some cm))]) true))] ++ ([(Lb, some (.cells (([(prow true (some m0) v0 l0), (prow true (some m1) v2 (handT g room w lost (⟨tp, 0, 0, tx, dd⟩ : It)).2.2.1), zrow] : List (List AV)).flatten) true))] ++ ([(cm, some bm16)] ++ ([(m1, some mb2)] ++ ((qseg v2 c2) ++ ((((D ++ (qseg (.sl qa24 (dd).length (dd).length qg25) (bcells dd))) ++ (qseg (.sl qa44 (dd).length (dd).length qg45) (bcells dd))) ++ (qseg (.sl qa72 (dd).length (dd).length qg73) (bcells dd))) ++ (B ++ (R)))))))) := hH95
    exact ⟨.inr rfl, _, resL_cons (r_tmp (v := (.i .i64 1)) rfl) (resL_one (r_tmp (v := .i .i64 0) rfl)), (((D ++ (qseg (.sl qa24 (dd).length (dd).length qg25) (bcells dd))) ++ (qseg (.sl qa44 (dd).length (dd).length qg45) (bcells dd))) ++ (qseg (.sl qa72 (dd).length (dd).length qg73) (bcells dd))), bm16, mb2, m2, v2, c2, rows2, by rw [htk]; rfl, (fun _ hh => hh.fst.fst.fst), hMb17, hmb2, hg2, hsq2, hir2.mono (fun _ hh => hh.fst), hH96⟩
  ·
    try simp only [decide_eq_true_eq, decide_eq_false_iff_not, Bool.not_eq_true', Bool.not_eq_false', Bool.and_eq_true, Bool.or_eq_true, Bool.or_eq_false_iff, Bool.not_not, Bool.and_eq_false_iff] at hc66
    have htk : (handT g room w lost (⟨tp, 0, 0, tx, dd⟩ : It)).2.2.2 = false := by simpa using hc66
    refine C_skip ?_
    refine C_region ?_
    refine O_p (.i .i64 2) (r_bin rfl rfl rfl) ?_
    refine O_p (.i .i64 2) (r_mv rfl) ?_
    refine O_nil ?_
    refine C_loop ?_
    refine C_seq ?_
    refine C_region ?_
    refine O_p (.b true) (r_bin rfl rfl rfl) ?_
    refine O_nil ?_
    refine C_seq ?_
    refine C_cond (x := true) rfl (fun _ => ?_) (fun h => by cases h)
    refine C_skip ?_
    refine C_seq ?_
    refine C_block ?_
    refine C_seq ?_
    refine C_region ?_
    refine O_p (.i .i64 2) (r_mv rfl) ?_
    refine O_p (.i .i64 2) (r_mv rfl) ?_
    refine O_nil ?_
    refine C_seq ?_
    refine C_region ?_
    refine O_p (.sl da dd.length dc dg) (r_mv rfl) ?_
    refine O_call (Ev.mono (clone_ev (tab := tabA) (sp := spA) rfl hh2.ok hdg (hdb _ hh2.top7.fst) (by first | omega | (simp only [List.length_take, List.length_drop, List.length_append, List.length_cons, List.length_nil, beN_len] <;> omega)) (by first | omega | (simp only [List.length_take, List.length_drop, List.length_append, List.length_cons, List.length_nil, beN_len] <;> omega)) (by first | omega | (simp only [List.length_take, List.length_drop, List.length_append, List.length_cons, List.length_nil, beN_len] <;> omega))) fun v97 H98 hq99 => ?_)
    obtain ⟨hM100, hK101⟩ := hq99
    obtain ⟨qa102, qg103, rfl, hqg104, _⟩ := hM100.own.bs
    have hH106 := Hs.ofMine hh2 hM100 hK101
    have hSq105 := Sq.ofMine hh2 hM100 hK101
    have hH107 := (hH106.top4)
    have hH108 := Hs.unassoc hH107
    refine O_p (.p (some (n7, 4))) (r_fadd' rfl rfl) ?_
    refine O_store (vs := [(.sl qa102 (dd).length (dd).length qg103)]) (c' := [(.s (txt tp)), (.i .i64 0), (.i .i64 0), (.b tx), (.sl qa102 (dd).length (dd).length qg103)]) rfl (by rfl) hH108.get5 rfl (List.cons_ne_nil _ _) (Nat.le_of_ble_eq_true rfl) rfl fun H109 hW110 => ?_
    have hH111 := hH108.wr5 hW110
    refine O_nil ?_
    refine C_seq ?_
    refine C_draw fun b112 H113 hbase114 hA115 => ?_
    have hH116 := hH111.keep (by have := hA115.1; omega) (fun q _ => hA115.2 q) ((hH111.old).aside hA115).ok
    refine D_l (v := (.i .i64 2)) rfl rfl rfl (r_mv rfl) ?_
    refine D_l (v := (.i .i64 0)) rfl rfl rfl (r_mv rfl) ?_
    refine D_l (v := (.b true)) rfl rfl rfl (r_bin rfl rfl rfl) ?_
    refine D_l (v := (.b true)) rfl rfl rfl (r_mv rfl) ?_
    refine D_gk rfl ?_
    refine D_l (v := (.p (some (F, 0)))) rfl rfl rfl (r_mv rfl) ?_
    refine D_gk rfl ?_
    refine D_l (v := (.p (some (F, 0)))) rfl rfl rfl (r_nilc rfl) ?_
    refine D_gk rfl ?_
    refine D_l (v := (.p (some (F, 0)))) rfl rfl rfl (r_fadd' rfl rfl) ?_
    refine D_gk rfl ?_
    refine D_l (v := (.i .i64 2)) rfl rfl rfl (r_mv rfl) ?_
    refine D_gk rfl ?_
    refine D_l (v := (.p (some (F, 0)))) rfl rfl rfl (r_mv rfl) ?_
    refine D_gk rfl ?_
    refine D_l (v := (.p (some (F, 0)))) rfl rfl rfl (r_nilc rfl) ?_
    refine D_gk rfl ?_
    refine D_l (v := (.p (some (F, 1)))) rfl rfl rfl (r_fadd' rfl rfl) ?_
    refine D_gk rfl ?_
    refine D_r (v := (.sl (some (Lb, 0)) 3 3 0)) rfl rfl rfl (r_ld rfl hH116.get6 rfl) ?_
    refine D_gk rfl ?_
    refine D_l (v := (.p (some (Lb, (2 * 4 + 0))))) rfl rfl rfl (by exact (r_islr (b := Lb) (k := 2) (len := 3) (cap := 3) (g := 0) rfl rfl (by decide))) ?_
    refine D_gk rfl ?_
    refine D_r (v := (.agg [(.s (txt tp)), (.i .i64 0), (.i .i64 0), (.b tx), (.sl qa102 (dd).length (dd).length qg103)])) rfl rfl rfl (r_ldA rfl hH116.get5 rfl) ?_
    refine D_gk rfl ?_
    refine D_r (v := (.i .i64 ((room : Nat) : Int))) rfl rfl rfl (r_ld rfl hH116.get6 rfl) ?_
    refine D_gk rfl ?_
    have hall117 : ∀ x ∈ ([(prow true (some m0) v0 l0), (prow true (some m1) v2 (handT g room w lost (⟨tp, 0, 0, tx, dd⟩ : It)).2.2.1), zrow] : List (List AV)), x.length = 4 := fun x hx => by simp only [List.mem_cons, List.not_mem_nil, or_false] at hx; rcases hx with rfl | rfl | rfl <;> rfl
    have hH118 := (hH116.top1)
    have hH119 : Hs H113 ([(Lb, some (.cells ((([(prow true (some m0) v0 l0), (prow true (some m1) v2 (handT g room w lost (⟨tp, 0, 0, tx, dd⟩ : It)).2.2.1), zrow] : List (List AV)).set 2 (prow false none (.sl none 0 0 0) 0)).flatten) true))] ++ ((((D ++ (qseg (.sl qa24 (dd).length (dd).length qg25) (bcells dd))) ++ (qseg (.sl qa44 (dd).length (dd).length qg45) (bcells dd))) ++ (qseg (.sl qa102 (dd).length (dd).length qg103) (bcells dd))) ++ ([(m1, some mb2)] ++ ((qseg v2 c2) ++ ([(cm, some bm16)] ++ ([(n7, some (.cells ([(.s (txt tp)), (.i .i64 0), (.i .i64 0), (.b tx), (.sl qa102 (dd).length (dd).length qg103)]) true))] ++ ([(F, some (.cells ([(.sl (some (Lb, 0)) 3 3 0), (.i .i64 ((room : Nat) : Int)), (.m (some cm))]) true))] ++ (B ++ (R))))))))) := hH118
    refine D_call (Ev.mono (hand_off (i := 2) (rws := ([(prow true (some m0) v0 l0), (prow true (some m1) v2 (handT g room w lost (⟨tp, 0, 0, tx, dd⟩ : It)).2.2.1), zrow] : List (List AV))) hall117 (Nat.le_of_ble_eq_true rfl) hH119) fun v120 H121 hq122 => ?_)
    obtain ⟨rfl, hH123⟩ := hq122
    refine And.intro (And.intro (Or.inl rfl) (And.intro (Or.inl rfl) (And.intro (Or.inl rfl) True.intro))) ?_
    refine D_l (v := (.b false)) rfl rfl rfl (r_pick_t rfl rfl) ?_
    refine D_nil ?_
    refine C_cond (x := false) rfl (fun h => by cases h) (fun _ => ?_)
    refine C_skip ?_
    refine C_region ?_
    refine O_p (.i .i64 3) (r_bin rfl rfl rfl) ?_
    refine O_p (.i .i64 3) (r_mv rfl) ?_
    refine O_nil ?_
    refine C_loop ?_
    refine C_seq ?_
    refine C_region ?_
    refine O_p (.b false) (r_bin rfl rfl rfl) ?_
    refine O_nil ?_
    refine C_seq ?_
    refine C_cond (x := false) rfl (fun h => by cases h) (fun _ => ?_)
    refine C_exit ?_
    refine nx_exit ?_
    refine nx_exit ?_
    refine bk_hit ?_
    refine C_seq ?_
    refine C_region ?_
    refine O_p (.i .i64 0) (r_mv rfl) ?_
    refine O_p (.i .i64 0) (r_mv rfl) ?_
    refine O_p (.i .i64 0) (r_mv rfl) ?_
    refine O_nil ?_
    refine C_ret ?_
    have hH124 := (hH123.sub5)
    have hH125 := (((((((hH124.top6).top2).top4).top4).top5).top5).top6)
    have hH126 : Hs H121 ([(F, some (.cells ([(.sl (some (Lb, 0)) 3 3 0), (.i .i64 ((room : Nat) : Int)), (.m (some cm))]) true))] ++ ([(Lb, some (.cells (([(prow true (some m0) v0 l0), (prow true (some m1) v2 (handT g room w lost (⟨tp, 0, 0, tx, dd⟩ : It)).2.2.1), zrow] : List (List AV)).flatten) true))] ++ ([(cm, some bm16)] ++ ([(m1, some mb2)] ++ ((qseg v2 c2) ++ ((((D ++ (qseg (.sl qa24 (dd).length (dd).length qg25) (bcells dd))) ++ (qseg (.sl qa44 (dd).length (dd).length qg45) (bcells dd))) ++ (qseg (.sl qa102 (dd).length (dd).length qg103) (bcells dd))) ++ (B ++ (R)))))))) := hH125
    exact ⟨.inr rfl, _, resL_cons (r_tmp (v := (.i .i64 0)) rfl) (resL_one (r_tmp (v := .i .i64 0) rfl)), (((D ++ (qseg (.sl qa24 (dd).length (dd).length qg25) (bcells dd))) ++ (qseg (.sl qa44 (dd).length (dd).length qg45) (bcells dd))) ++ (qseg (.sl qa102 (dd).length (dd).length qg103) (bcells dd))), bm16, mb2, m2, v2, c2, rows2, by rw [htk]; rfl, (fun _ hh => hh.fst.fst.fst), hMb17, hmb2, hg2, hsq2, hir2.mono (fun _ hh => hh.fst), hH126⟩
set_option maxHeartbeats 2000000 in
theorem publish_some {H : AH} {R D B : HL} {F Lb cm m0 m1 room : Nat} {cb mb : Blk} {cmL m : ML} {v0 v : AV} {l0 lost n : Int} {c : List AV} {rows : List (List AV)} {w : List It} {g : Option (Int × Bool)} {tp dd : List UInt8} {tx : Bool} {da : Option (Nat × Nat)} {dc dg : Nat} (hcb : Mb cmL cb) (hcg : mget cmL tp = some (.i .i64 n)) (hn : 0 ≤ n ∧ n < 1000000) (htp : 0 < tp.length ∧ tp.length ≤ 256) (hdl : dd.length ≤ 16384) (hdg : dg = 0 ∨ dg = 1) (hdc : dd.length ≤ dc) (hdm : dc ≤ 9223372036854775807) (hdb : ∀ H', Hs H' B → Bs H' (.sl da dd.length dc dg) dd) (hsq : Sq 5 v c rows.flatten) (hir : ItsR D rows w) (hmb : Mb m mb) (hg : mget m tp = subO g) (hmode : ∀ mode f, g = some (mode, f) → 0 ≤ mode ∧ mode ≤ 2) (htpw : ∀ y ∈ w, y.tp = tp) (hroom : 1 ≤ room) (hlost : 0 ≤ lost ∧ lost < 4611686018427387904) (hww : w.length ≤ 1000000) (hH0 : Hs H ([(F, some (.cells ([(.sl (some (Lb, 0)) 3 3 0), (.i .i64 ((room : Nat) : Int)), (.m (some cm))]) true))] ++ ([(Lb, some (.cells (([(prow true (some m0) v0 l0), (prow true (some m1) v lost), zrow] : List (List AV)).flatten) true))] ++ ([(cm, some cb)] ++ ([(m1, some mb)] ++ ((qseg v c) ++ (D ++ (B ++ (R))))))))) : Ev tabA spA (.fn (.func 13) [] []) [.p (some (F, 0)), .i .i64 0, .s (txt tp), .b tx, .sl da dd.length dc dg] H (fun r H' => ∃ D' cb2 mb2 m2 v2 c2 rows2, r = .tup [.i .i64 (if (handT g room w lost (⟨tp, 0, n, tx, dd⟩ : It)).2.2.2 then 1 else 0), .i .i64 0] ∧ (∀ H', Hs H' D' → Hs H' D) ∧ Mb (mset cmL tp (.i .i64 (n + 1))) cb2 ∧ Mb m2 mb2 ∧ mget m2 tp = subO (handT g room w lost (⟨tp, 0, n, tx, dd⟩ : It)).1 ∧ Sq 5 v2 c2 rows2.flatten ∧ ItsR D' rows2 (handT g room w lost (⟨tp, 0, n, tx, dd⟩ : It)).2.1 ∧ Hs H' ([(F, some (.cells ([(.sl (some (Lb, 0)) 3 3 0), (.i .i64 ((room : Nat) : Int)), (.m (some cm))]) true))] ++ ([(Lb, some (.cells (([(prow true (some m0) v0 l0), (prow true (some m1) v2 (handT g room w lost (⟨tp, 0, n, tx, dd⟩ : It)).2.2.1), zrow] : List (List AV)).flatten) true))] ++ ([(cm, some cb2)] ++ ([(m1, some mb2)] ++ ((qseg v2 c2) ++ (D' ++ (B ++ (R))))))))) := by
  refine Ev_C (F := x13) rfl ?_
  refine C_seq ?_
  refine C_region ?_
  refine O_p (.i .i64 0) (r_mv rfl) ?_
  refine O_p (.i .i64 0) (r_mv rfl) ?_
  refine O_nil ?_
  refine C_seq ?_
  refine C_region ?_
  refine O_p (.p (some (F, 0))) (r_mv rfl) ?_
  refine O_p (.i .i64 0) (r_mv rfl) ?_
  refine O_call (Ev.mono (at_ev (k := 0) (np := 3) (by decide) hH0) fun v1 H2 hq3 => ?_)
  obtain ⟨rfl, hH4⟩ := hq3
  refine O_p (.p (some (Lb, (0 * 4 + 0)))) (r_mv rfl) ?_
  refine O_nil ?_
  refine C_seq ?_
  refine C_block ?_
  refine C_seq ?_
  refine C_region ?_
  refine O_p (.p (some (Lb, (0 * 4 + 0)))) (r_mv rfl) ?_
  refine O_p (.b false) (r_nilq_s rfl) ?_
  refine O_p (.b false) (r_mv rfl) ?_
  refine O_gk rfl ?_
  refine O_p (.s (txt tp)) (r_mv rfl) ?_
  refine O_gk rfl ?_
  refine O_p (.b false) (by exact (by rw [r_eqt (b := ([] : List UInt8)) rfl rfl, decide_eq_false (by intro h; rw [h] at htp; exact absurd htp.1 (by decide))])) ?_
  refine O_p (.b false) (r_pick_f rfl rfl) ?_
  refine O_p (.b false) (r_mv rfl) ?_
  refine O_nil ?_
  refine C_cond (x := false) rfl (fun h => by cases h) (fun _ => ?_)
  refine C_seq ?_
  refine C_region ?_
  refine O_p (.s (txt tp)) (r_mv rfl) ?_
  refine O_p (.i .i64 ((((tp).length : Nat)) : Int)) (r_lent (l := tp) rfl) ?_
  refine O_p (.b false) (by exact (by rw [r_gtr rfl rfl, decide_eq_false (by first | omega | assumption)])) ?_
  refine O_p (.b false) (r_mv rfl) ?_
  refine O_gk rfl ?_
  refine O_p (.sl da dd.length dc dg) (r_mv rfl) ?_
  refine O_gk rfl ?_
  refine O_p (.i .i64 (((dd.length : Nat)) : Int)) (r_len rfl) ?_
  refine O_gk rfl ?_
  refine O_p (.b false) (by exact (by rw [r_gtr rfl rfl, decide_eq_false (by first | omega | assumption)])) ?_
  refine O_p (.b false) (r_pick_f rfl rfl) ?_
  refine O_p (.b false) (r_mv rfl) ?_
  refine O_nil ?_
  refine C_cond (x := false) rfl (fun h => by cases h) (fun _ => ?_)
  refine C_seq ?_
  refine C_region ?_
  have hall5 : ∀ x ∈ ([(prow true (some m0) v0 l0), (prow true (some m1) v lost), zrow] : List (List AV)), x.length = 4 := fun x hx => by simp only [List.mem_cons, List.not_mem_nil, or_false] at hx; rcases hx with rfl | rfl | rfl <;> rfl
  have hH6 : Hs H2 ([(F, some (.cells ([(.sl (some (Lb, 0)) 3 3 0), (.i .i64 ((room : Nat) : Int)), (.m (some cm))]) true))] ++ ([(Lb, some (.cells (((([(prow true (some m0) v0 l0), (prow true (some m1) v lost), zrow] : List (List AV))).set 0 (prow true (some m0) v0 l0)).flatten) true))] ++ ([(cm, some cb)] ++ ([(m1, some mb)] ++ ((qseg v c) ++ (D ++ (B ++ (R)))))))) := hH4
  refine O_p (.p (some (Lb, (0 * 4 + 0)))) (r_mv rfl) ?_
  refine O_p (.p (some (Lb, (0 * 4 + 0)))) (r_nilc rfl) ?_
  refine O_p (.p (some (Lb, (0 * 4 + 0)))) (r_fadd' rfl rfl) ?_
  refine O_p (.b true) (by exact (r_ld rfl hH6.get1 ((foc_get hall5 (Nat.le_of_ble_eq_true rfl) rfl (by decide)).trans rfl))) ?_
  refine O_p (.b false) (r_un rfl rfl) ?_
  refine O_p (.b false) (r_mv rfl) ?_
  refine O_nil ?_
  refine C_cond (x := false) rfl (fun h => by cases h) (fun _ => ?_)
  refine C_skip ?_
  refine C_seq ?_
  refine C_region ?_
  refine O_p (.s (txt tp)) (r_mv rfl) ?_
  refine O_p (.i .i64 0) (r_mv rfl) ?_
  refine O_p (.p (some (F, 0))) (r_mv rfl) ?_
  refine O_p (.p (some (F, 0))) (r_nilc rfl) ?_
  refine O_p (.p (some (F, 2))) (r_fadd' rfl rfl) ?_
  refine O_p (.m (some cm)) (r_ld rfl hH6.get0 rfl) ?_
  refine O_p (.s (txt tp)) (r_mv rfl) ?_
  refine O_p (.i .i64 n) (by exact ((r_mget (m := cmL) (k := tp) hH6.get2 hcb rfl rfl false).trans (by first | (rw [hcg]; rfl) | rw [hcg]))) ?_
  refine O_p (.b tx) (r_mv rfl) ?_
  refine O_p (.agg [(.s (txt tp)), (.i .i64 0), (.i .i64 n), (.b tx), (.sl none 0 0 0)]) (r_build rfl) ?_
  refine O_alloc fun n7 H8 hN9 => ?_
  have hH10 := hH6.new hN9
  refine O_store (vs := [(.s (txt tp)), (.i .i64 0), (.i .i64 n), (.b tx), (.sl none 0 0 0)]) (c' := [(.s (txt tp)), (.i .i64 0), (.i .i64 n), (.b tx), (.sl none 0 0 0)]) rfl (by rfl) hH10.get0 rfl (List.cons_ne_nil _ _) (Nat.le_of_ble_eq_true rfl) rfl fun H11 hW12 => ?_
  have hH13 := hH10.wr0 hW12
  refine O_nil ?_
  refine C_seq ?_
  refine C_region ?_
  refine O_p (.p (some (F, 0))) (r_mv rfl) ?_
  refine O_p (.p (some (F, 0))) (r_nilc rfl) ?_
  refine O_p (.p (some (F, 2))) (r_fadd' rfl rfl) ?_
  refine O_p (.m (some cm)) (r_ld rfl hH13.get1 rfl) ?_
  refine O_p (.s (txt tp)) (r_mv rfl) ?_
  refine O_p (.i .i64 n) (by exact ((r_mget (m := cmL) (k := tp) hH13.get3 hcb rfl rfl false).trans (by first | (rw [hcg]; rfl) | rw [hcg]))) ?_
  refine O_p (.i .i64 (n + 1)) (by exact (r_addi rfl rfl (wrap_i64 (by omega) (by omega)))) ?_
  refine O_nh (by exact r_mput (k := tp) (v := (.i .i64 (n + 1))) hH13.top3 hcb rfl rfl rfl) fun H14 hA15 => ?_
  obtain ⟨bm16, hMb17, hH18⟩ := hA15
  refine O_nil ?_
  refine C_seq ?_
  refine C_region ?_
  refine O_p (.i .i64 0) (r_mv rfl) ?_
  refine O_nil ?_
  refine C_seq ?_
  refine C_seq ?_
  refine C_region ?_
  refine O_p (.p (some (F, 0))) (r_mv rfl) ?_
  refine O_p (.p (some (F, 0))) (r_nilc rfl) ?_
  refine O_p (.p (some (F, 0))) (r_fadd' rfl rfl) ?_
  refine O_p (.sl (some (Lb, 0)) 3 3 0) (r_ld rfl hH18.get2 rfl) ?_
  refine O_p (.i .i64 3) (r_len rfl) ?_
  refine O_p (.i .i64 0) (r_mv rfl) ?_
  refine O_nil ?_
  refine C_block ?_
  refine C_loop ?_
  refine C_seq ?_
  refine C_region ?_
  refine O_p (.b true) (r_bin rfl rfl rfl) ?_
  refine O_nil ?_
  refine C_seq ?_
  refine C_cond (x := true) rfl (fun _ => ?_) (fun h => by cases h)
  refine C_skip ?_
  refine C_seq ?_
  refine C_block ?_
  refine C_seq ?_
  refine C_region ?_
  refine O_p (.i .i64 0) (r_mv rfl) ?_
  refine O_p (.i .i64 0) (r_mv rfl) ?_
  refine O_nil ?_
  refine C_seq ?_
  refine C_region ?_
  refine O_p (.sl da dd.length dc dg) (r_mv rfl) ?_
  refine O_call (Ev.mono (clone_ev (tab := tabA) (sp := spA) rfl hH18.ok hdg (hdb _ hH18.top7.fst) (by first | omega | (simp only [List.length_take, List.length_drop, List.length_append, List.length_cons, List.length_nil, beN_len] <;> omega)) (by first | omega | (simp only [List.length_take, List.length_drop, List.length_append, List.length_cons, List.length_nil, beN_len] <;> omega)) (by first | omega | (simp only [List.length_take, List.length_drop, List.length_append, List.length_cons, List.length_nil, beN_len] <;> omega))) fun v19 H20 hq21 => ?_)
  obtain ⟨hM22, hK23⟩ := hq21
  obtain ⟨qa24, qg25, rfl, hqg26, _⟩ := hM22.own.bs
  have hH28 := Hs.ofMine hH18 hM22 hK23
  have hSq27 := Sq.ofMine hH18 hM22 hK23
  have hH29 := (hH28.top7)
  have hH30 := Hs.unassoc hH29
  refine O_p (.p (some (n7, 4))) (r_fadd' rfl rfl) ?_
  refine O_store (vs := [(.sl qa24 (dd).length (dd).length qg25)]) (c' := [(.s (txt tp)), (.i .i64 0), (.i .i64 n), (.b tx), (.sl qa24 (dd).length (dd).length qg25)]) rfl (by rfl) hH30.get2 rfl (List.cons_ne_nil _ _) (Nat.le_of_ble_eq_true rfl) rfl fun H31 hW32 => ?_
  have hH33 := hH30.wr2 hW32
  refine O_nil ?_
  refine C_seq ?_
  refine C_draw fun b34 H35 hbase36 hA37 => ?_
  have hH38 := hH33.keep (by have := hA37.1; omega) (fun q _ => hA37.2 q) ((hH33.old).aside hA37).ok
  refine D_l (v := (.i .i64 0)) rfl rfl rfl (r_mv rfl) ?_
  refine D_l (v := (.i .i64 0)) rfl rfl rfl (r_mv rfl) ?_
  refine D_l (v := (.b false)) rfl rfl rfl (r_bin rfl rfl rfl) ?_
  refine D_l (v := (.b false)) rfl rfl rfl (r_mv rfl) ?_
  refine D_gf rfl ?_
  refine D_gf rfl ?_
  refine D_gf rfl ?_
  refine D_gf rfl ?_
  refine D_gf rfl ?_
  refine D_gf rfl ?_
  refine D_gf rfl ?_
  refine D_gf rfl ?_
  refine D_gf rfl ?_
  refine D_gf rfl ?_
  refine D_gf rfl ?_
  refine D_gf rfl ?_
  refine D_l (v := (.b false)) rfl rfl rfl (r_pick_f rfl rfl) ?_
  refine D_nil ?_
  refine C_cond (x := false) rfl (fun h => by cases h) (fun _ => ?_)
  refine C_skip ?_
  refine C_region ?_
  refine O_p (.i .i64 1) (r_bin rfl rfl rfl) ?_
  refine O_p (.i .i64 1) (r_mv rfl) ?_
  refine O_nil ?_
  refine C_loop ?_
  refine C_seq ?_
  refine C_region ?_
  refine O_p (.b true) (r_bin rfl rfl rfl) ?_
  refine O_nil ?_
  refine C_seq ?_
  refine C_cond (x := true) rfl (fun _ => ?_) (fun h => by cases h)
  refine C_skip ?_
  refine C_seq ?_
  refine C_block ?_
  refine C_seq ?_
  refine C_region ?_
  refine O_p (.i .i64 1) (r_mv rfl) ?_
  refine O_p (.i .i64 1) (r_mv rfl) ?_
  refine O_nil ?_
  refine C_seq ?_
  refine C_region ?_
  refine O_p (.sl da dd.length dc dg) (r_mv rfl) ?_
  refine O_call (Ev.mono (clone_ev (tab := tabA) (sp := spA) rfl hH38.ok hdg (hdb _ hH38.top7.fst) (by first | omega | (simp only [List.length_take, List.length_drop, List.length_append, List.length_cons, List.length_nil, beN_len] <;> omega)) (by first | omega | (simp only [List.length_take, List.length_drop, List.length_append, List.length_cons, List.length_nil, beN_len] <;> omega)) (by first | omega | (simp only [List.length_take, List.length_drop, List.length_append, List.length_cons, List.length_nil, beN_len] <;> omega))) fun v39 H40 hq41 => ?_)
  obtain ⟨hM42, hK43⟩ := hq41
  obtain ⟨qa44, qg45, rfl, hqg46, _⟩ := hM42.own.bs
  have hH48 := Hs.ofMine hH38 hM42 hK43
  have hSq47 := Sq.ofMine hH38 hM42 hK43
  have hH49 := (hH48.top1)
  have hH50 := Hs.unassoc hH49
  refine O_p (.p (some (n7, 4))) (r_fadd' rfl rfl) ?_
  refine O_store (vs := [(.sl qa44 (dd).length (dd).length qg45)]) (c' := [(.s (txt tp)), (.i .i64 0), (.i .i64 n), (.b tx), (.sl qa44 (dd).length (dd).length qg45)]) rfl (by rfl) hH50.get2 rfl (List.cons_ne_nil _ _) (Nat.le_of_ble_eq_true rfl) rfl fun H51 hW52 => ?_
  have hH53 := hH50.wr2 hW52
  refine O_nil ?_
  refine C_seq ?_
  refine C_draw fun b54 H55 hbase56 hA57 => ?_
  have hH58 := hH53.keep (by have := hA57.1; omega) (fun q _ => hA57.2 q) ((hH53.old).aside hA57).ok
  refine D_l (v := (.i .i64 1)) rfl rfl rfl (r_mv rfl) ?_
  refine D_l (v := (.i .i64 0)) rfl rfl rfl (r_mv rfl) ?_
  refine D_l (v := (.b true)) rfl rfl rfl (r_bin rfl rfl rfl) ?_
  refine D_l (v := (.b true)) rfl rfl rfl (r_mv rfl) ?_
  refine D_gk rfl ?_
  refine D_l (v := (.p (some (F, 0)))) rfl rfl rfl (r_mv rfl) ?_
  refine D_gk rfl ?_
  refine D_l (v := (.p (some (F, 0)))) rfl rfl rfl (r_nilc rfl) ?_
  refine D_gk rfl ?_
  refine D_l (v := (.p (some (F, 0)))) rfl rfl rfl (r_fadd' rfl rfl) ?_
  refine D_gk rfl ?_
  refine D_l (v := (.i .i64 1)) rfl rfl rfl (r_mv rfl) ?_
  refine D_gk rfl ?_
  refine D_l (v := (.p (some (F, 0)))) rfl rfl rfl (r_mv rfl) ?_
  refine D_gk rfl ?_
  refine D_l (v := (.p (some (F, 0)))) rfl rfl rfl (r_nilc rfl) ?_
  refine D_gk rfl ?_
  refine D_l (v := (.p (some (F, 1)))) rfl rfl rfl (r_fadd' rfl rfl) ?_
  refine D_gk rfl ?_
  refine D_r (v := (.sl (some (Lb, 0)) 3 3 0)) rfl rfl rfl (r_ld rfl hH58.get3 rfl) ?_
  refine D_gk rfl ?_
  refine D_l (v := (.p (some (Lb, (1 * 4 + 0))))) rfl rfl rfl (by exact (r_islr (b := Lb) (k := 1) (len := 3) (cap := 3) (g := 0) rfl rfl (by decide))) ?_
  refine D_gk rfl ?_
  refine D_r (v := (.agg [(.s (txt tp)), (.i .i64 0), (.i .i64 n), (.b tx), (.sl qa44 (dd).length (dd).length qg45)])) rfl rfl rfl (r_ldA rfl hH58.get2 rfl) ?_
  refine D_gk rfl ?_
  refine D_r (v := (.i .i64 ((room : Nat) : Int))) rfl rfl rfl (r_ld rfl hH58.get3 rfl) ?_
  refine D_gk rfl ?_
  have hall59 : ∀ x ∈ ([(prow true (some m0) v0 l0), (prow true (some m1) v lost), zrow] : List (List AV)), x.length = 4 := fun x hx => by simp only [List.mem_cons, List.not_mem_nil, or_false] at hx; rcases hx with rfl | rfl | rfl <;> rfl
  have hH60 := (((hH58.top6).top6).top6)
  have hH61 : Hs H55 ([(Lb, some (.cells ((([(prow true (some m0) v0 l0), (prow true (some m1) v lost), zrow] : List (List AV)).set 1 (prow true (some m1) v lost)).flatten) true))] ++ ([(m1, some mb)] ++ ((qseg v c) ++ (((D ++ (qseg (.sl qa24 (dd).length (dd).length qg25) (bcells dd))) ++ (qseg (.sl qa44 (dd).length (dd).length qg45) (bcells dd))) ++ ([(cm, some bm16)] ++ ([(n7, some (.cells ([(.s (txt tp)), (.i .i64 0), (.i .i64 n), (.b tx), (.sl qa44 (dd).length (dd).length qg45)]) true))] ++ ([(F, some (.cells ([(.sl (some (Lb, 0)) 3 3 0), (.i .i64 ((room : Nat) : Int)), (.m (some cm))]) true))] ++ (B ++ (R))))))))) := hH60
  have hH62 := (((hH61.top2).top2).top2)
  refine D_call (Ev.mono (handT_ev (i := 1) (rws := ([(prow true (some m0) v0 l0), (prow true (some m1) v lost), zrow] : List (List AV))) (D := ((D ++ (qseg (.sl qa24 (dd).length (dd).length qg25) (bcells dd))) ++ (qseg (.sl qa44 (dd).length (dd).length qg45) (bcells dd)))) (x := (⟨tp, 0, n, tx, dd⟩ : It)) (g := g) hall59 (Nat.le_of_ble_eq_true rfl) hsq (hir.mono (fun _ hh => hh.fst.fst)) hmb hg hmode htpw ⟨_, _, _, rfl, hqg46, Nat.le_refl _, by omega, fun _ hh => Sq.bs (R := []) hSq47 (by rw [List.append_nil]; exact hh.sub)⟩ hroom hlost hww hH62) fun v63 H64 hq65 => ?_)
  obtain ⟨mb2, m2, v2, c2, rows2, rfl, hmb2, hg2, hsq2, hir2, hh2⟩ := hq65
  refine And.intro (And.intro (Or.inl rfl) (And.intro (Or.inl rfl) (And.intro (Or.inl rfl) True.intro))) ?_
  refine D_l (v := (.b (handT g room w lost (⟨tp, 0, n, tx, dd⟩ : It)).2.2.2)) rfl rfl rfl (r_pick_t rfl rfl) ?_
  refine D_nil ?_
  refine C_cond (x := (handT g room w lost (⟨tp, 0, n, tx, dd⟩ : It)).2.2.2) rfl (fun hc66 => ?_) (fun hc66 => ?_)
  ·
    try simp only [decide_eq_true_eq, decide_eq_false_iff_not, Bool.not_eq_true', Bool.not_eq_false', Bool.and_eq_true, Bool.or_eq_true, Bool.or_eq_false_iff, Bool.not_not, Bool.and_eq_false_iff] at hc66
    have htk : (handT g room w lost (⟨tp, 0, n, tx, dd⟩ : It)).2.2.2 = true := by simpa using hc66
    refine C_region ?_
    refine O_p (.i .i64 0) (r_mv rfl) ?_
    refine O_p (.i .i64 1) (r_bin rfl rfl rfl) ?_
    refine O_p (.i .i64 1) (r_mv rfl) ?_
    refine O_nil ?_
    refine C_region ?_
    refine O_p (.i .i64 2) (r_bin rfl rfl rfl) ?_
    refine O_p (.i .i64 2) (r_mv rfl) ?_
    refine O_nil ?_
    refine C_loop ?_
    refine C_seq ?_
    refine C_region ?_
    refine O_p (.b true) (r_bin rfl rfl rfl) ?_
    refine O_nil ?_
    refine C_seq ?_
    refine C_cond (x := true) rfl (fun _ => ?_) (fun h => by cases h)
    refine C_skip ?_
    refine C_seq ?_
    refine C_block ?_
    refine C_seq ?_
    refine C_region ?_
    refine O_p (.i .i64 2) (r_mv rfl) ?_
    refine O_p (.i .i64 2) (r_mv rfl) ?_
    refine O_nil ?_
    refine C_seq ?_
    refine C_region ?_
    refine O_p (.sl da dd.length dc dg) (r_mv rfl) ?_
    refine O_call (Ev.mono (clone_ev (tab := tabA) (sp := spA) rfl hh2.ok hdg (hdb _ hh2.top7.fst) (by first | omega | (simp only [List.length_take, List.length_drop, List.length_append, List.length_cons, List.length_nil, beN_len] <;> omega)) (by first | omega | (simp only [List.length_take, List.length_drop, List.length_append, List.length_cons, List.length_nil, beN_len] <;> omega)) (by first | omega | (simp only [List.length_take, List.length_drop, List.length_append, List.length_cons, List.length_nil, beN_len] <;> omega))) fun v67 H68 hq69 => ?_)
    obtain ⟨hM70, hK71⟩ := hq69
    obtain ⟨qa72, qg73, rfl, hqg74, _⟩ := hM70.own.bs
    have hH76 := Hs.ofMine hh2 hM70 hK71
    have hSq75 := Sq.ofMine hh2 hM70 hK71
    have hH77 := (hH76.top4)
    have hH78 := Hs.unassoc hH77
    refine O_p (.p (some (n7, 4))) (r_fadd' rfl rfl) ?_
    refine O_store (vs := [(.sl qa72 (dd).length (dd).length qg73)]) (c' := [(.s (txt tp)), (.i .i64 0), (.i .i64 n), (.b tx), (.sl qa72 (dd).length (dd).length qg73)]) rfl (by rfl) hH78.get5 rfl (List.cons_ne_nil _ _) (Nat.le_of_ble_eq_true rfl) rfl fun H79 hW80 => ?_
    have hH81 := hH78.wr5 hW80
    refine O_nil ?_
    refine C_seq ?_
    refine C_draw fun b82 H83 hbase84 hA85 => ?_
    have hH86 := hH81.keep (by have := hA85.1; omega) (fun q _ => hA85.2 q) ((hH81.old).aside hA85).ok
    refine D_l (v := (.i .i64 2)) rfl rfl rfl (r_mv rfl) ?_
    refine D_l (v := (.i .i64 0)) rfl rfl rfl (r_mv rfl) ?_
    refine D_l (v := (.b true)) rfl rfl rfl (r_bin rfl rfl rfl) ?_
    refine D_l (v := (.b true)) rfl rfl rfl (r_mv rfl) ?_
    refine D_gk rfl ?_
    refine D_l (v := (.p (some (F, 0)))) rfl rfl rfl (r_mv rfl) ?_
    refine D_gk rfl ?_
    refine D_l (v := (.p (some (F, 0)))) rfl rfl rfl (r_nilc rfl) ?_
    refine D_gk rfl ?_
    refine D_l (v := (.p (some (F, 0)))) rfl rfl rfl (r_fadd' rfl rfl) ?_
    refine D_gk rfl ?_
    refine D_l (v := (.i .i64 2)) rfl rfl rfl (r_mv rfl) ?_
    refine D_gk rfl ?_
    refine D_l (v := (.p (some (F, 0)))) rfl rfl rfl (r_mv rfl) ?_
    refine D_gk rfl ?_
    refine D_l (v := (.p (some (F, 0)))) rfl rfl rfl (r_nilc rfl) ?_
    refine D_gk rfl ?_
    refine D_l (v := (.p (some (F, 1)))) rfl rfl rfl (r_fadd' rfl rfl) ?_
    refine D_gk rfl ?_
    refine D_r (v := (.sl (some (Lb, 0)) 3 3 0)) rfl rfl rfl (r_ld rfl hH86.get6 rfl) ?_
    refine D_gk rfl ?_
    refine D_l (v := (.p (some (Lb, (2 * 4 + 0))))) rfl rfl rfl (by exact (r_islr (b := Lb) (k := 2) (len := 3) (cap := 3) (g := 0) rfl rfl (by decide))) ?_
    refine D_gk rfl ?_
    refine D_r (v := (.agg [(.s (txt tp)), (.i .i64 0), (.i .i64 n), (.b tx), (.sl qa72 (dd).length (dd).length qg73)])) rfl rfl rfl (r_ldA rfl hH86.get5 rfl) ?_
    refine D_gk rfl ?_
    refine D_r (v := (.i .i64 ((room : Nat) : Int))) rfl rfl rfl (r_ld rfl hH86.get6 rfl) ?_
    refine D_gk rfl ?_
    have hall87 : ∀ x ∈ ([(prow true (some m0) v0 l0), (prow true (some m1) v2 (handT g room w lost (⟨tp, 0, n, tx, dd⟩ : It)).2.2.1), zrow] : List (List AV)), x.length = 4 := fun x hx => by simp only [List.mem_cons, List.not_mem_nil, or_false] at hx; rcases hx with rfl | rfl | rfl <;> rfl
    have hH88 := (hH86.top1)
    have hH89 : Hs H83 ([(Lb, some (.cells ((([(prow true (some m0) v0 l0), (prow true (some m1) v2 (handT g room w lost (⟨tp, 0, n, tx, dd⟩ : It)).2.2.1), zrow] : List (List AV)).set 2 (prow false none (.sl none 0 0 0) 0)).flatten) true))] ++ ((((D ++ (qseg (.sl qa24 (dd).length (dd).length qg25) (bcells dd))) ++ (qseg (.sl qa44 (dd).length (dd).length qg45) (bcells dd))) ++ (qseg (.sl qa72 (dd).length (dd).length qg73) (bcells dd))) ++ ([(m1, some mb2)] ++ ((qseg v2 c2) ++ ([(cm, some bm16)] ++ ([(n7, some (.cells ([(.s (txt tp)), (.i .i64 0), (.i .i64 n), (.b tx), (.sl qa72 (dd).length (dd).length qg73)]) true))] ++ ([(F, some (.cells ([(.sl (some (Lb, 0)) 3 3 0), (.i .i64 ((room : Nat) : Int)), (.m (some cm))]) true))] ++ (B ++ (R))))))))) := hH88
    refine D_call (Ev.mono (hand_off (i := 2) (rws := ([(prow true (some m0) v0 l0), (prow true (some m1) v2 (handT g room w lost (⟨tp, 0, n, tx, dd⟩ : It)).2.2.1), zrow] : List (List AV))) hall87 (Nat.le_of_ble_eq_true rfl) hH89) fun v90 H91 hq92 => ?_)
    obtain ⟨rfl, hH93⟩ := hq92
    refine And.intro (And.intro (Or.inl rfl) (And.intro (Or.inl rfl) (And.intro (Or.inl rfl) True.intro))) ?_
    refine D_l (v := (.b false)) rfl rfl rfl (r_pick_t rfl rfl) ?_
    refine D_nil ?_
    refine C_cond (x := false) rfl (fun h => by cases h) (fun _ => ?_)
    refine C_skip ?_
    refine C_region ?_
    refine O_p (.i .i64 3) (r_bin rfl rfl rfl) ?_
    refine O_p (.i .i64 3) (r_mv rfl) ?_
    refine O_nil ?_
    refine C_loop ?_
    refine C_seq ?_
    refine C_region ?_
    refine O_p (.b false) (r_bin rfl rfl rfl) ?_
    refine O_nil ?_
    refine C_seq ?_
    refine C_cond (x := false) rfl (fun h => by cases h) (fun _ => ?_)
    refine C_exit ?_
    refine nx_exit ?_
    refine nx_exit ?_
    refine bk_hit ?_
    refine C_seq ?_
    refine C_region ?_
    refine O_p (.i .i64 1) (r_mv rfl) ?_
    refine O_p (.i .i64 1) (r_mv rfl) ?_
    refine O_p (.i .i64 0) (r_mv rfl) ?_
    refine O_nil ?_
    refine C_ret ?_
    have hH94 := (hH93.sub5)
    have hH95 := (((((((hH94.top6).top2).top4).top4).top5).top5).top6)
    have hH96 : Hs H91 ([(F, some (.cells ([(.sl (some (Lb, 0)) 3 3 0), (.i .i64 ((room : Nat) : Int)), (.m (some cm))]) true))] ++ ([(Lb, some (.cells (([(prow true (some m0) v0 l0), (prow true (some m1) v2 (handT g room w lost (⟨tp, 0, n, tx, dd⟩ : It)).2.2.1), zrow] : List (List AV)).flatten) true))] ++ ([(cm, some bm16)] ++ ([(m1, some mb2)] ++ ((qseg v2 c2) ++ ((((D ++ (qseg (.sl qa24 (dd).length (dd).length qg25) (bcells dd))) ++ (qseg (.sl qa44 (dd).length (dd).length qg45) (bcells dd))) ++ (qseg (.sl qa72 (dd).length (dd).length qg73) (bcells dd))) ++ (B ++ (R)))))))) := hH95
    exact ⟨.inr rfl, _, resL_cons (r_tmp (v := (.i .i64 1)) rfl) (resL_one (r_tmp (v := .i .i64 0) rfl)), (((D ++ (qseg (.sl qa24 (dd).length (dd).length qg25) (bcells dd))) ++ (qseg (.sl qa44 (dd).length (dd).length qg45) (bcells dd))) ++ (qseg (.sl qa72 (dd).length (dd).length qg73) (bcells dd))), bm16, mb2, m2, v2, c2, rows2, by rw [htk]; rfl, (fun _ hh => hh.fst.fst.fst), hMb17, hmb2, hg2, hsq2, hir2.mono (fun _ hh => hh.fst), hH96⟩
  ·
    try simp only [decide_eq_true_eq, decide_eq_false_iff_not, Bool.not_eq_true', Bool.not_eq_false', Bool.and_eq_true, Bool.or_eq_true, Bool.or_eq_false_iff, Bool.not_not, Bool.and_eq_false_iff] at hc66
    have htk : (handT g room w lost (⟨tp, 0, n, tx, dd⟩ : It)).2.2.2 = false := by simpa using hc66
    refine C_skip ?_
    refine C_region ?_
    refine O_p (.i .i64 2) (r_bin rfl rfl rfl) ?_
    refine O_p (.i .i64 2) (r_mv rfl) ?_
    refine O_nil ?_
    refine C_loop ?_
    refine C_seq ?_
    refine C_region ?_
    refine O_p (.b true) (r_bin rfl rfl rfl) ?_
    refine O_nil ?_
    refine C_seq ?_
    refine C_cond (x := true) rfl (fun _ => ?_) (fun h => by cases h)
    refine C_skip ?_
    refine C_seq ?_
    refine C_block ?_
    refine C_seq ?_
    refine C_region ?_
    refine O_p (.i .i64 2) (r_mv rfl) ?_
    refine O_p (.i .i64 2) (r_mv rfl) ?_
    refine O_nil ?_
    refine C_seq ?_
    refine C_region ?_
    refine O_p (.sl da dd.length dc dg) (r_mv rfl) ?_
    refine O_call (Ev.mono (clone_ev (tab := tabA) (sp := spA) rfl hh2.ok hdg (hdb _ hh2.top7.fst) (by first | omega | (simp only [List.length_take, List.length_drop, List.length_append, List.length_cons, List.length_nil, beN_len] <;> omega)) (by first | omega | (simp only [List.length_take, List.length_drop, List.length_append, List.length_cons, List.length_nil, beN_len] <;> omega)) (by first | omega | (simp only [List.length_take, List.length_drop, List.length_append, List.length_cons, List.length_nil, beN_len] <;> omega))) fun v97 H98 hq99 => ?_)
    obtain ⟨hM100, hK101⟩ := hq99
    obtain ⟨qa102, qg103, rfl, hqg104, _⟩ := hM100.own.bs
    have hH106 := Hs.ofMine hh2 hM100 hK101
    have hSq105 := Sq.ofMine hh2 hM100 hK101
    have hH107 := (hH106.top4)
    have hH108 := Hs.unassoc hH107
    refine O_p (.p (some (n7, 4))) (r_fadd' rfl rfl) ?_
    refine O_store (vs := [(.sl qa102 (dd).length (dd).length qg103)]) (c' := [(.s (txt tp)), (.i .i64 0), (.i .i64 n), (.b tx), (.sl qa102 (dd).length (dd).length qg103)]) rfl (by rfl) hH108.get5 rfl (List.cons_ne_nil _ _) (Nat.le_of_ble_eq_true rfl) rfl fun H109 hW110 => ?_
    have hH111 := hH108.wr5 hW110
    refine O_nil ?_
    refine C_seq ?_
    refine C_draw fun b112 H113 hbase114 hA115 => ?_
    have hH116 := hH111.keep (by have := hA115.1; omega) (fun q _ => hA115.2 q) ((hH111.old).aside hA115).ok
    refine D_l (v := (.i .i64 2)) rfl rfl rfl (r_mv rfl) ?_
    refine D_l (v := (.i .i64 0)) rfl rfl rfl (r_mv rfl) ?_
    refine D_l (v := (.b true)) rfl rfl rfl (r_bin rfl rfl rfl) ?_
    refine D_l (v := (.b true)) rfl rfl rfl (r_mv rfl) ?_
    refine D_gk rfl ?_
    refine D_l (v := (.p (some (F, 0)))) rfl rfl rfl (r_mv rfl) ?_
    refine D_gk rfl ?_
    refine D_l (v := (.p (some (F, 0)))) rfl rfl rfl (r_nilc rfl) ?_
    refine D_gk rfl ?_
    refine D_l (v := (.p (some (F, 0)))) rfl rfl rfl (r_fadd' rfl rfl) ?_
    refine D_gk rfl ?_
    refine D_l (v := (.i .i64 2)) rfl rfl rfl (r_mv rfl) ?_
    refine D_gk rfl ?_
    refine D_l (v := (.p (some (F, 0)))) rfl rfl rfl (r_mv rfl) ?_
    refine D_gk rfl ?_
    refine D_l (v := (.p (some (F, 0)))) rfl rfl rfl (r_nilc rfl) ?_
    refine D_gk rfl ?_
    refine D_l (v := (.p (some (F, 1)))) rfl rfl rfl (r_fadd' rfl rfl) ?_
    refine D_gk rfl ?_
    refine D_r (v := (.sl (some (Lb, 0)) 3 3 0)) rfl rfl rfl (r_ld rfl hH116.get6 rfl) ?_
    refine D_gk rfl ?_
    refine D_l (v := (.p (some (Lb, (2 * 4 + 0))))) rfl rfl rfl (by exact (r_islr (b := Lb) (k := 2) (len := 3) (cap := 3) (g := 0) rfl rfl (by decide))) ?_
    refine D_gk rfl ?_
    refine D_r (v := (.agg [(.s (txt tp)), (.i .i64 0), (.i .i64 n), (.b tx), (.sl qa102 (dd).length (dd).length qg103)])) rfl rfl rfl (r_ldA rfl hH116.get5 rfl) ?_
    refine D_gk rfl ?_
    refine D_r (v := (.i .i64 ((room : Nat) : Int))) rfl rfl rfl (r_ld rfl hH116.get6 rfl) ?_
    refine D_gk rfl ?_
    have hall117 : ∀ x ∈ ([(prow true (some m0) v0 l0), (prow true (some m1) v2 (handT g room w lost (⟨tp, 0, n, tx, dd⟩ : It)).2.2.1), zrow] : List (List AV)), x.length = 4 := fun x hx => by simp only [List.mem_cons, List.not_mem_nil, or_false] at hx; rcases hx with rfl | rfl | rfl <;> rfl
    have hH118 := (hH116.top1)
    have hH119 : Hs H113 ([(Lb, some (.cells ((([(prow true (some m0) v0 l0), (prow true (some m1) v2 (handT g room w lost (⟨tp, 0, n, tx, dd⟩ : It)).2.2.1), zrow] : List (List AV)).set 2 (prow false none (.sl none 0 0 0) 0)).flatten) true))] ++ ((((D ++ (qseg (.sl qa24 (dd).length (dd).length qg25) (bcells dd))) ++ (qseg (.sl qa44 (dd).length (dd).length qg45) (bcells dd))) ++ (qseg (.sl qa102 (dd).length (dd).length qg103) (bcells dd))) ++ ([(m1, some mb2)] ++ ((qseg v2 c2) ++ ([(cm, some bm16)] ++ ([(n7, some (.cells ([(.s (txt tp)), (.i .i64 0), (.i .i64 n), (.b tx), (.sl qa102 (dd).length (dd).length qg103)]) true))] ++ ([(F, some (.cells ([(.sl (some (Lb, 0)) 3 3 0), (.i .i64 ((room : Nat) : Int)), (.m (some cm))]) true))] ++ (B ++ (R))))))))) := hH118
    refine D_call (Ev.mono (hand_off (i := 2) (rws := ([(prow true (some m0) v0 l0), (prow true (some m1) v2 (handT g room w lost (⟨tp, 0, n, tx, dd⟩ : It)).2.2.1), zrow] : List (List AV))) hall117 (Nat.le_of_ble_eq_true rfl) hH119) fun v120 H121 hq122 => ?_)
    obtain ⟨rfl, hH123⟩ := hq122
    refine And.intro (And.intro (Or.inl rfl) (And.intro (Or.inl rfl) (And.intro (Or.inl rfl) True.intro))) ?_
    refine D_l (v := (.b false)) rfl rfl rfl (r_pick_t rfl rfl) ?_
    refine D_nil ?_
    refine C_cond (x := false) rfl (fun h => by cases h) (fun _ => ?_)
    refine C_skip ?_
    refine C_region ?_
    refine O_p (.i .i64 3) (r_bin rfl rfl rfl) ?_
    refine O_p (.i .i64 3) (r_mv rfl) ?_
    refine O_nil ?_
    refine C_loop ?_
    refine C_seq ?_
    refine C_region ?_
    refine O_p (.b false) (r_bin rfl rfl rfl) ?_
    refine O_nil ?_
    refine C_seq ?_
    refine C_cond (x := false) rfl (fun h => by cases h) (fun _ => ?_)
    refine C_exit ?_
    refine nx_exit ?_
    refine nx_exit ?_
    refine bk_hit ?_
    refine C_seq ?_
    refine C_region ?_
    refine O_p (.i .i64 0) (r_mv rfl) ?_
    refine O_p (.i .i64 0) (r_mv rfl) ?_
    refine O_p (.i .i64 0) (r_mv rfl) ?_
    refine O_nil ?_
    refine C_ret ?_
    have hH124 := (hH123.sub5)
    have hH125 := (((((((hH124.top6).top2).top4).top4).top5).top5).top6)
    have hH126 : Hs H121 ([(F, some (.cells ([(.sl (some (Lb, 0)) 3 3 0), (.i .i64 ((room : Nat) : Int)), (.m (some cm))]) true))] ++ ([(Lb, some (.cells (([(prow true (some m0) v0 l0), (prow true (some m1) v2 (handT g room w lost (⟨tp, 0, n, tx, dd⟩ : It)).2.2.1), zrow] : List (List AV)).flatten) true))] ++ ([(cm, some bm16)] ++ ([(m1, some mb2)] ++ ((qseg v2 c2) ++ ((((D ++ (qseg (.sl qa24 (dd).length (dd).length qg25) (bcells dd))) ++ (qseg (.sl qa44 (dd).length (dd).length qg45) (bcells dd))) ++ (qseg (.sl qa102 (dd).length (dd).length qg103) (bcells dd))) ++ (B ++ (R)))))))) := hH125
    exact ⟨.inr rfl, _, resL_cons (r_tmp (v := (.i .i64 0)) rfl) (resL_one (r_tmp (v := .i .i64 0) rfl)), (((D ++ (qseg (.sl qa24 (dd).length (dd).length qg25) (bcells dd))) ++ (qseg (.sl qa44 (dd).length (dd).length qg45) (bcells dd))) ++ (qseg (.sl qa102 (dd).length (dd).length qg103) (bcells dd))), bm16, mb2, m2, v2, c2, rows2, by rw [htk]; rfl, (fun _ hh => hh.fst.fst.fst), hMb17, hmb2, hg2, hsq2, hir2.mono (fun _ hh => hh.fst), hH126⟩
end Go.Proofs.Ytnkpmidfefilbaa.E
