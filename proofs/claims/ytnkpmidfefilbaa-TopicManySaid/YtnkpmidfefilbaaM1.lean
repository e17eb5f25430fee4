/- Topics: sixteen parties. It bears no condition. -/
import Derived.Test.YtnkpmidfefilbaaL
namespace Go.Proofs.Ytnkpmidfefilbaa.E
set_option linter.unusedVariables false
set_option linter.unusedSimpArgs false
/-- A party that has joined: its map, whether it hears the topic, what waits. -/
structure Pt where
  mr : Nat
  mb : Blk
  s : Bool
  v : AV
  c : List AV
  rows : List (List AV)
def Pt.seg (p : Pt) : HL := [(p.mr, some p.mb)] ++ qseg p.v p.c
def Pt.row (p : Pt) : List AV := prow true (some p.mr) p.v 0
def Pt.ok (t : Nat) (p : Pt) : Prop := Sq 5 p.v p.c p.rows.flatten ∧ (∀ r ∈ p.rows, r.length = 5) ∧ (∃ m, Mb m p.mb ∧ mget m [116] = if p.s then some (sub 0 false) else none) ∧ p.rows.length = if p.s then t else 0
theorem Pt.row_len (p : Pt) : p.row.length = 4 := rfl
theorem erase_perm {α β : Type} (f : α → List β) : ∀ {l : List α} {k : Nat} {p : α}, l[k]? = some p → (l.flatMap f).Perm (f p ++ (l.eraseIdx k).flatMap f)
  | [], k, p, h => by simp at h
  | a :: l, 0, p, h => by
    simp only [List.getElem?_cons_zero, Option.some.injEq] at h
    subst h
    rw [List.flatMap_cons]; exact List.Perm.refl _
  | a :: l, k + 1, p, h => by
    have h1 := erase_perm f (l := l) (k := k) (p := p) (by simpa using h)
    rw [List.eraseIdx_cons_succ, List.flatMap_cons, List.flatMap_cons]
    refine (List.Perm.append_left _ h1).trans ?_
    rw [← List.append_assoc, ← List.append_assoc]
    exact List.Perm.append_right _ List.perm_append_comm
theorem erase_set {α : Type} : ∀ {l : List α} {k : Nat} {p : α}, (l.set k p).eraseIdx k = l.eraseIdx k
  | [], _, _ => rfl
  | a :: l, 0, p => rfl
  | a :: l, k + 1, p => by rw [List.set_cons_succ, List.eraseIdx_cons_succ, List.eraseIdx_cons_succ, erase_set]
section
variable {H : AH} {Lb k : Nat} {ps : List Pt} {p : Pt} {Z : List (List AV)} {R : HL}
theorem Pt.out (h : ps[k]? = some p) (hH : Hs H ([(Lb, some (.cells (ps.map Pt.row ++ Z).flatten true))] ++ (ps.flatMap Pt.seg ++ R))) : Hs H ([(Lb, some (.cells ((ps.map Pt.row ++ Z).set k (prow true (some p.mr) p.v 0)).flatten true))] ++ ([(p.mr, some p.mb)] ++ (qseg p.v p.c ++ ((ps.eraseIdx k).flatMap Pt.seg ++ R)))) := by
  have hk := (List.getElem?_eq_some_iff.1 h).1
  have e : (ps.map Pt.row ++ Z).set k (prow true (some p.mr) p.v 0) = ps.map Pt.row ++ Z := by
    refine (rows_foc (r := prow true (some p.mr) p.v 0) ?_).symm
    rw [List.getElem?_append_left (by rw [List.length_map]; exact hk), List.getElem?_map, h]; rfl
  rw [e]
  refine Hs.perm hH (List.Perm.append_left _ ?_)
  refine (List.Perm.append_right R (erase_perm Pt.seg h)).trans ?_
  unfold Pt.seg
  simp only [List.append_assoc]
  exact List.Perm.refl _
theorem Pt.back {v' : AV} {c' : List AV} {rows' : List (List AV)} {mb' : Blk} {s' : Bool} (h : ps[k]? = some p) (hH : Hs H ([(Lb, some (.cells ((ps.map Pt.row ++ Z).set k (prow true (some p.mr) v' 0)).flatten true))] ++ ([(p.mr, some mb')] ++ (qseg v' c' ++ ((ps.eraseIdx k).flatMap Pt.seg ++ R))))) : Hs H ([(Lb, some (.cells ((ps.set k ⟨p.mr, mb', s', v', c', rows'⟩).map Pt.row ++ Z).flatten true))] ++ ((ps.set k ⟨p.mr, mb', s', v', c', rows'⟩).flatMap Pt.seg ++ R)) := by
  have hk := (List.getElem?_eq_some_iff.1 h).1
  have e : (ps.map Pt.row ++ Z).set k (prow true (some p.mr) v' 0) = (ps.set k ⟨p.mr, mb', s', v', c', rows'⟩).map Pt.row ++ Z := by
    rw [List.set_append_left _ _ (by rw [List.length_map]; exact hk), List.map_set]; rfl
  rw [e] at hH
  refine Hs.perm hH (List.Perm.append_left _ ?_)
  have h2 : (ps.set k ⟨p.mr, mb', s', v', c', rows'⟩)[k]? = some ⟨p.mr, mb', s', v', c', rows'⟩ := List.getElem?_set_self hk
  refine List.Perm.trans ?_ (List.Perm.append_right R (erase_perm Pt.seg h2)).symm
  rw [erase_set]
  unfold Pt.seg
  simp only [List.append_assoc]
  exact List.Perm.refl _
end
theorem rows_pt {ps : List Pt} {Z : List (List AV)} (hz : ∀ z ∈ Z, z.length = 4) : ∀ r ∈ ps.map Pt.row ++ Z, r.length = 4 := fun r hr => by
  rcases List.mem_append.1 hr with h | h
  · obtain ⟨p, _, rfl⟩ := List.mem_map.1 h; exact p.row_len
  · exact hz r h
theorem Pt.rd {H : AH} {Lb k : Nat} {ps : List Pt} {p : Pt} {Z : List (List AV)} {R : HL} (hz : ∀ z ∈ Z, z.length = 4) (h : ps[k]? = some p) (hH : Hs H ([(Lb, some (.cells (ps.map Pt.row ++ Z).flatten true))] ++ R)) : ∃ c mu, H.get Lb = some (.cells c mu) ∧ takeAt c (k * 4) 4 = some p.row := by
  have hk := (List.getElem?_eq_some_iff.1 h).1
  have hi : (ps.map Pt.row ++ Z)[k]? = some p.row := by rw [List.getElem?_append_left (by rw [List.length_map]; exact hk), List.getElem?_map, h]; rfl
  refine ⟨_, _, hH.get, ?_⟩
  have hlt := (List.getElem?_eq_some_iff.1 hi).1
  rw [rows_foc hi]
  have := foc_take (sz := 4) (n := 4) (j := 0) (rows_pt hz) hlt p.row_len (by omega)
  rw [Nat.add_zero] at this
  rw [this]; rfl
theorem ok_set {ps : List Pt} {k t : Nat} {q : Pt} (hok : ∀ (i : Nat) (p : Pt), ps[i]? = some p → p.ok (if i < k then t + 1 else t)) (hq : q.ok (t + 1)) : ∀ (i : Nat) (p : Pt), (ps.set k q)[i]? = some p → p.ok (if i < k + 1 then t + 1 else t) := fun i p hp => by
  rw [List.getElem?_set] at hp
  by_cases h : k = i
  · subst h
    rw [if_pos rfl] at hp
    split at hp
    · cases hp; rw [if_pos (by omega)]; exact hq
    · cases hp
  · rw [if_neg h] at hp
    have := hok i p hp
    by_cases h2 : i < k
    · rw [if_pos h2] at this; rw [if_pos (by omega)]; exact this
    · rw [if_neg h2] at this; rw [if_neg (by omega)]; exact this
theorem ok_skip {ps : List Pt} {k t : Nat} (hok : ∀ (i : Nat) (p : Pt), ps[i]? = some p → p.ok (if i < k then t + 1 else t)) (hs : ∀ p, ps[k]? = some p → p.s = false) : ∀ (i : Nat) (p : Pt), ps[i]? = some p → p.ok (if i < k + 1 then t + 1 else t) := fun i p hp => by
  have := hok i p hp
  by_cases h : i = k
  · subst h
    rw [if_neg (Nat.lt_irrefl _)] at this
    rw [if_pos (Nat.lt_succ_self _)]
    obtain ⟨h1, h2, h3, h4⟩ := this
    have hsf := hs p hp
    exact ⟨h1, h2, h3, by rw [hsf] at h4 ⊢; exact h4⟩
  · by_cases h2 : i < k
    · rw [if_pos h2] at this; rw [if_pos (by omega)]; exact this
    · rw [if_neg h2] at this; rw [if_neg (by omega)]; exact this
theorem s_set {ps : List Pt} {k : Nat} {p q : Pt} (h : ps[k]? = some p) (hs : q.s = p.s) : (ps.set k q).map Pt.s = ps.map Pt.s := by
  rw [List.map_set, hs]
  refine (List.ext_getElem? fun i => ?_)
  rw [List.getElem?_set]
  by_cases hk : k = i
  · subst hk
    have hlt := (List.getElem?_eq_some_iff.1 h).1
    rw [if_pos rfl, if_pos (by rw [List.length_map]; exact hlt), List.getElem?_map, h]; rfl
  · rw [if_neg hk]
def tkn (l : List Bool) (k : Nat) : Nat := (l.take k).count true
theorem tkn_succ {l : List Bool} {k : Nat} {b : Bool} (h : l[k]? = some b) : tkn l (k + 1) = tkn l k + if b then 1 else 0 := by
  unfold tkn
  obtain ⟨hk, rfl⟩ := List.getElem?_eq_some_iff.1 h
  rw [List.take_succ_eq_append_getElem hk, List.count_append]
  cases l[k] <;> rfl
set_option maxRecDepth 100000 in
set_option maxHeartbeats 2000000 in
theorem publishM_none {H : AH} {R B : HL} {F Lb cm room t : Nat} {cb : Blk} {cmL : ML} {n : Int} {ps : List Pt} {dd : List UInt8} {tx : Bool} {da : Option (Nat × Nat)} {dc dg : Nat} (hlen : ps.length = 16) (hok : ∀ (i : Nat) (p : Pt), ps[i]? = some p → p.ok t) (h15 : ∀ p, ps[15]? = some p → p.s = false) (hroom : t < room) (hroom64 : room ≤ 64) (hcb : Mb cmL cb) (hcg : mget cmL [116] = none) (hn : 0 ≤ n ∧ n < 1000000) (hdl : dd.length ≤ 16384) (hdg : dg = 0 ∨ dg = 1) (hdc : dd.length ≤ dc) (hdm : dc ≤ 9223372036854775807) (hdb : ∀ H', Hs H' B → Bs H' (.sl da dd.length dc dg) dd) (hH0 : Hs H ([(F, some (.cells ([(.sl (some (Lb, 0)) 16 16 0), (.i .i64 ((room : Nat) : Int)), (.m (some cm))]) true))] ++ ([(Lb, some (.cells ((ps.map Pt.row ++ []).flatten) true))] ++ ([(cm, some cb)] ++ ((ps.flatMap Pt.seg) ++ (B ++ (R))))))) : Ev tabA spA (.fn (.func 13) [] []) [.p (some (F, 0)), .i .i64 15, .s (txt [116]), .b tx, .sl da dd.length dc dg] H (fun r H' => ∃ (qs : List Pt) (cb2 : Blk), r = .tup [.i .i64 ((tkn (ps.map Pt.s) 16 : Nat) : Int), .i .i64 0] ∧ qs.length = 16 ∧ qs.map Pt.s = ps.map Pt.s ∧ (∀ (i : Nat) (p : Pt), qs[i]? = some p → p.ok (t + 1)) ∧ Mb (mset cmL [116] (.i .i64 1)) cb2 ∧ Hs H' ([(F, some (.cells ([(.sl (some (Lb, 0)) 16 16 0), (.i .i64 ((room : Nat) : Int)), (.m (some cm))]) true))] ++ ([(Lb, some (.cells ((qs.map Pt.row ++ []).flatten) true))] ++ ([(cm, some cb2)] ++ ((qs.flatMap Pt.seg) ++ (B ++ (R))))))) := by
  refine Ev_C (F := x13) rfl ?_
  refine C_seq ?_
  refine C_region ?_
  refine O_p (.i .i64 0) (r_mv rfl) ?_
  refine O_p (.i .i64 0) (r_mv rfl) ?_
  refine O_nil ?_
  refine C_seq ?_
  refine C_region ?_
  refine O_p (.p (some (F, 0))) (r_mv rfl) ?_
  refine O_p (.i .i64 15) (r_mv rfl) ?_
  refine O_call (Ev.mono (at_ev (k := 15) (np := 16) (by decide) hH0) fun v1 H2 hq3 => ?_)
  obtain ⟨rfl, hH4⟩ := hq3
  obtain ⟨p15, hp15⟩ : ∃ p, ps[15]? = some p := ⟨_, List.getElem?_eq_getElem (by omega)⟩
  refine O_p (.p (some (Lb, (15 * 4 + 0)))) (r_mv rfl) ?_
  refine O_nil ?_
  refine C_seq ?_
  refine C_block ?_
  refine C_seq ?_
  refine C_region ?_
  refine O_p (.p (some (Lb, (15 * 4 + 0)))) (r_mv rfl) ?_
  refine O_p (.b false) (r_nilq_s rfl) ?_
  refine O_p (.b false) (r_mv rfl) ?_
  refine O_gk rfl ?_
  refine O_p (.s (txt [116])) (r_mv rfl) ?_
  refine O_gk rfl ?_
  refine O_p (.b false) (by exact (by rw [r_eqt (a := [116]) (b := ([] : List UInt8)) rfl rfl]; rfl)) ?_
  refine O_p (.b false) (r_pick_f rfl rfl) ?_
  refine O_p (.b false) (r_mv rfl) ?_
  refine O_nil ?_
  refine C_cond (x := false) rfl (fun h => by cases h) (fun _ => ?_)
  refine C_seq ?_
  refine C_region ?_
  refine O_p (.s (txt [116])) (r_mv rfl) ?_
  refine O_p (.i .i64 (((([116]).length : Nat)) : Int)) (r_lent (l := [116]) rfl) ?_
  refine O_p (.b false) (by exact (by rw [r_gtr rfl rfl, decide_eq_false (by decide)])) ?_
  refine O_p (.b false) (r_mv rfl) ?_
  refine O_gk rfl ?_
  refine O_p (.sl da dd.length dc dg) (r_mv rfl) ?_
  refine O_gk rfl ?_
  refine O_p (.i .i64 (((dd.length : Nat)) : Int)) (r_len rfl) ?_
  refine O_gk rfl ?_
  refine O_p (.b false) (by exact (by rw [r_gtr rfl rfl, decide_eq_false (by first | omega | assumption)])) ?_
  refine O_p (.b false) (r_pick_f rfl rfl) ?_
  refine O_p (.b false) (r_mv rfl) ?_
  refine O_nil ?_
  refine C_cond (x := false) rfl (fun h => by cases h) (fun _ => ?_)
  refine C_seq ?_
  refine C_region ?_
  refine O_p (.p (some (Lb, (15 * 4 + 0)))) (r_mv rfl) ?_
  refine O_p (.p (some (Lb, (15 * 4 + 0)))) (r_nilc rfl) ?_
  refine O_p (.p (some (Lb, (15 * 4 + 0)))) (r_fadd' rfl rfl) ?_
  refine O_p (.b true) (r_ldR (q := 0) rfl (Pt.rd (Z := []) (fun z hz => absurd hz (List.not_mem_nil)) hp15 hH4.top1) rfl) ?_
  refine O_p (.b false) (r_un rfl rfl) ?_
  refine O_p (.b false) (r_mv rfl) ?_
  refine O_nil ?_
  refine C_cond (x := false) rfl (fun h => by cases h) (fun _ => ?_)
  refine C_skip ?_
  refine C_seq ?_
  refine C_region ?_
  refine O_p (.s (txt [116])) (r_mv rfl) ?_
  refine O_p (.i .i64 15) (r_mv rfl) ?_
  refine O_p (.p (some (F, 0))) (r_mv rfl) ?_
  refine O_p (.p (some (F, 0))) (r_nilc rfl) ?_
  refine O_p (.p (some (F, 2))) (r_fadd' rfl rfl) ?_
  refine O_p (.m (some cm)) (r_ld rfl hH4.get0 rfl) ?_
  refine O_p (.s (txt [116])) (r_mv rfl) ?_
  refine O_p (.i .i64 0) (by exact ((r_mget (m := cmL) (k := [116]) hH4.get2 hcb rfl rfl false).trans (by first | (rw [hcg]; rfl) | rw [hcg]))) ?_
  refine O_p (.b tx) (r_mv rfl) ?_
  refine O_p (.agg [(.s (txt [116])), (.i .i64 15), (.i .i64 0), (.b tx), (.sl none 0 0 0)]) (r_build rfl) ?_
  refine O_alloc fun n5 H6 hN7 => ?_
  have hH8 := hH4.new hN7
  refine O_store (vs := [(.s (txt [116])), (.i .i64 15), (.i .i64 0), (.b tx), (.sl none 0 0 0)]) (c' := [(.s (txt [116])), (.i .i64 15), (.i .i64 0), (.b tx), (.sl none 0 0 0)]) rfl (by rfl) hH8.get0 rfl (List.cons_ne_nil _ _) (Nat.le_of_ble_eq_true rfl) rfl fun H9 hW10 => ?_
  have hH11 := hH8.wr0 hW10
  refine O_nil ?_
  refine C_seq ?_
  refine C_region ?_
  refine O_p (.p (some (F, 0))) (r_mv rfl) ?_
  refine O_p (.p (some (F, 0))) (r_nilc rfl) ?_
  refine O_p (.p (some (F, 2))) (r_fadd' rfl rfl) ?_
  refine O_p (.m (some cm)) (r_ld rfl hH11.get1 rfl) ?_
  refine O_p (.s (txt [116])) (r_mv rfl) ?_
  refine O_p (.i .i64 0) (by exact ((r_mget (m := cmL) (k := [116]) hH11.get3 hcb rfl rfl false).trans (by first | (rw [hcg]; rfl) | rw [hcg]))) ?_
  refine O_p (.i .i64 1) (r_bin rfl rfl rfl) ?_
  refine O_nh (by exact r_mput (k := [116]) (v := (.i .i64 1)) hH11.top3 hcb rfl rfl rfl) fun H12 hA13 => ?_
  obtain ⟨bm14, hMb15, hH16⟩ := hA13
  refine O_nil ?_
  refine C_seq ?_
  refine C_region ?_
  refine O_p (.i .i64 0) (r_mv rfl) ?_
  refine O_nil ?_
  refine C_seq ?_
  refine C_seq ?_
  refine C_region ?_
  refine O_p (.p (some (F, 0))) (r_mv rfl) ?_
  refine O_p (.p (some (F, 0))) (r_nilc rfl) ?_
  refine O_p (.p (some (F, 0))) (r_fadd' rfl rfl) ?_
  refine O_p (.sl (some (Lb, 0)) 16 16 0) (r_ld rfl hH16.get2 rfl) ?_
  refine O_p (.i .i64 16) (r_len rfl) ?_
  refine O_p (.i .i64 0) (r_mv rfl) ?_
  refine O_nil ?_
  refine C_block ?_
  have hH17 := ((((((hH16.top5).top2).top5).top3).top5).top5)
  refine C_while (fun m18 T19 H20 => ∃ qs : List Pt, ∃ xd : AV, ∃ tk : Nat, ∃ k : Nat, m18 = 16 - k ∧ k ≤ 16 ∧ qs.length = 16 ∧ qs.map Pt.s = ps.map Pt.s ∧ (∀ (i : Nat) (p : Pt), qs[i]? = some p → p.ok (if i < k then t + 1 else t)) ∧ tk = tkn (ps.map Pt.s) k ∧ tk ≤ k ∧ Hs H20 ([(F, some (.cells ([(.sl (some (Lb, 0)) 16 16 0), (.i .i64 ((room : Nat) : Int)), (.m (some cm))]) true))] ++ ([(Lb, some (.cells ((qs.map Pt.row ++ []).flatten) true))] ++ ([(cm, some bm14)] ++ ((qs.flatMap Pt.seg) ++ ([(n5, some (.cells ([(.s (txt [116])), (.i .i64 15), (.i .i64 0), (.b tx), xd]) true))] ++ (B ++ (R))))))) ∧ T19.get 0 = (.p (some (F, 0))) ∧ T19.get 1 = (.i .i64 15) ∧ T19.get 2 = (.s (txt [116])) ∧ T19.get 3 = (.b tx) ∧ T19.get 4 = (.sl da dd.length dc dg) ∧ T19.get 13 = (.p (some (n5, 0))) ∧ T19.get 62 = (.i .i64 16) ∧ T19.get 14 = (.i .i64 (((tk : Nat)) : Int)) ∧ T19.get 63 = (.i .i64 (((k : Nat)) : Int))) (fun m18 T19 H20 hI21 => ?_) 16 _ _ ⟨ps, (.sl none 0 0 0), 0, 0, rfl, by omega, hlen, rfl, fun i p h => by rw [if_neg (Nat.not_lt_zero _)]; exact hok i p h, rfl, Nat.le_refl _, hH17, rfl, rfl, rfl, rfl, rfl, rfl, rfl, rfl, rfl⟩
  obtain ⟨qs, xd, tk, k, hm22, hp23, hp24, hp25, hp26, hp27, hp28, hH38, hT29, hT30, hT31, hT32, hT33, hT34, hT35, hT36, hT37⟩ := hI21
  refine C_seq ?_
  refine C_region ?_
  refine O_p (.b (decide ((((k : Nat)) : Int) < 16))) (r_lss hT37 hT35) ?_
  refine O_nil ?_
  refine C_seq ?_
  refine C_cond (x := (decide ((((k : Nat)) : Int) < 16))) rfl (fun hc39 => ?_) (fun hc39 => ?_)
  ·
    try simp only [decide_eq_true_eq, decide_eq_false_iff_not, Bool.not_eq_true', Bool.not_eq_false', Bool.and_eq_true, Bool.or_eq_true, Bool.or_eq_false_iff, Bool.not_not, Bool.and_eq_false_iff] at hc39
    refine C_skip ?_
    refine C_seq ?_
    refine C_block ?_
    refine C_seq ?_
    refine C_region ?_
    refine O_p (.i .i64 (((k : Nat)) : Int)) (r_mv hT37) ?_
    refine O_p (.i .i64 (((k : Nat)) : Int)) (r_mv rfl) ?_
    refine O_nil ?_
    refine C_seq ?_
    refine C_region ?_
    refine O_p (.sl da dd.length dc dg) (r_mv hT33) ?_
    refine O_call (Ev.mono (clone_ev (tab := tabA) (sp := spA) rfl hH38.ok hdg (hdb _ hH38.top5.fst) (by first | omega | (simp only [List.length_take, List.length_drop, List.length_append, List.length_cons, List.length_nil, beN_len] <;> omega)) (by first | omega | (simp only [List.length_take, List.length_drop, List.length_append, List.length_cons, List.length_nil, beN_len] <;> omega)) (by first | omega | (simp only [List.length_take, List.length_drop, List.length_append, List.length_cons, List.length_nil, beN_len] <;> omega))) fun v40 H41 hq42 => ?_)
    obtain ⟨hM43, hK44⟩ := hq42
    obtain ⟨qa45, qg46, rfl, hqg47, _⟩ := hM43.own.bs
    have hH48 := (Hs.ofMine hH38 hM43 hK44).sub
    refine O_p (.p (some (n5, 4))) (r_fadd' hT34 rfl) ?_
    refine O_store (vs := [(.sl qa45 (dd).length (dd).length qg46)]) (c' := [(.s (txt [116])), (.i .i64 15), (.i .i64 0), (.b tx), (.sl qa45 (dd).length (dd).length qg46)]) rfl (by rfl) hH48.get4 rfl (List.cons_ne_nil _ _) (Nat.le_of_ble_eq_true rfl) rfl fun H49 hW50 => ?_
    have hH51 := hH48.wr4 hW50
    refine O_nil ?_
    refine C_seq ?_
    by_cases hk15 : k = 15
    ·
      have hk16 : k < 16 := by omega
      obtain ⟨pk, hpk⟩ : ∃ p, qs[k]? = some p := ⟨_, List.getElem?_eq_getElem (by omega)⟩
      have hsk : (ps.map Pt.s)[k]? = some pk.s := by rw [← hp25, List.getElem?_map, hpk]; rfl
      have hs15 : ∀ p, qs[k]? = some p → p.s = false := fun p hp => by have e := hsk; rw [hpk] at hp; cases hp; rw [hk15, List.getElem?_map] at e; cases hq : ps[15]? with
        | none => rw [hq] at e; cases e
        | some z => rw [hq] at e; simp only [Option.map_some, Option.some.injEq] at e; rw [← e]; exact h15 z hq
      have hsk15 : (ps.map Pt.s)[k]? = some false := by rw [hsk, hs15 pk hpk]
      refine C_draw fun b52 H53 hbase54 hA55 => ?_
      have hH56 := hH51.keep (by have := hA55.1; omega) (fun q _ => hA55.2 q) ((hH51.old).aside hA55).ok
      refine D_l (v := (.i .i64 (((k : Nat)) : Int))) rfl rfl rfl (r_mv rfl) ?_
      refine D_l (v := (.i .i64 15)) rfl rfl rfl (r_mv hT30) ?_
      refine D_l (v := (.b false)) rfl rfl rfl (by exact (by rw [r_neq rfl rfl, decide_eq_true (by omega)]; rfl)) ?_
      refine D_l (v := (.b false)) rfl rfl rfl (r_mv rfl) ?_
      refine D_gf rfl ?_
      refine D_gf rfl ?_
      refine D_gf rfl ?_
      refine D_gf rfl ?_
      refine D_gf rfl ?_
      refine D_gf rfl ?_
      refine D_gf rfl ?_
      refine D_gf rfl ?_
      refine D_gf rfl ?_
      refine D_gf rfl ?_
      refine D_gf rfl ?_
      refine D_gf rfl ?_
      refine D_l (v := (.b false)) rfl rfl rfl (r_pick_f rfl rfl) ?_
      refine D_nil ?_
      refine C_cond (x := false) rfl (fun h => by cases h) (fun _ => ?_)
      refine C_skip ?_
      refine C_region ?_
      refine O_p (.i .i64 ((((k : Nat)) : Int) + 1)) (by exact (r_addi hT37 rfl (wrap_i64 (by omega) (by omega)))) ?_
      refine O_p (.i .i64 ((((k : Nat)) : Int) + 1)) (r_mv rfl) ?_
      refine O_nil ?_
      have hH57 := ((((((hH56.top5).top5).top5).top5).top5).top5)
      exact ⟨16 - (k + 1), by omega, qs, (.sl qa45 (dd).length (dd).length qg46), tk, (k + 1), rfl, by omega, hp24, hp25, ok_skip hp26 hs15, by rw [tkn_succ hsk15, hp27]; rfl, by omega, hH57, hT29, hT30, hT31, hT32, hT33, hT34, hT35, hT36, rfl⟩
    ·
      have hk16 : k < 16 := by omega
      obtain ⟨pk, hpk⟩ : ∃ p, qs[k]? = some p := ⟨_, List.getElem?_eq_getElem (by omega)⟩
      have hsk : (ps.map Pt.s)[k]? = some pk.s := by rw [← hp25, List.getElem?_map, hpk]; rfl
      have hpo := hp26 k pk hpk
      rw [if_neg (Nat.lt_irrefl _)] at hpo
      obtain ⟨hsq, hl5, ⟨m, hmb, hmg⟩, hrl⟩ := hpo
      by_cases hs : pk.s = true
      ·
        have hps : pk.s = true := hs
        rw [hps] at hmg hrl
        have hrl2 : pk.rows.length = t := hrl
        refine C_draw fun b58 H59 hbase60 hA61 => ?_
        have hH62 := hH51.keep (by have := hA61.1; omega) (fun q _ => hA61.2 q) ((hH51.old).aside hA61).ok
        refine D_l (v := (.i .i64 (((k : Nat)) : Int))) rfl rfl rfl (r_mv rfl) ?_
        refine D_l (v := (.i .i64 15)) rfl rfl rfl (r_mv hT30) ?_
        refine D_l (v := (.b true)) rfl rfl rfl (by exact (by rw [r_neq rfl rfl, decide_eq_false (by omega)]; rfl)) ?_
        refine D_l (v := (.b true)) rfl rfl rfl (r_mv rfl) ?_
        refine D_gk rfl ?_
        refine D_l (v := (.p (some (F, 0)))) rfl rfl rfl (r_mv hT29) ?_
        refine D_gk rfl ?_
        refine D_l (v := (.p (some (F, 0)))) rfl rfl rfl (r_nilc rfl) ?_
        refine D_gk rfl ?_
        refine D_l (v := (.p (some (F, 0)))) rfl rfl rfl (r_fadd' rfl rfl) ?_
        refine D_gk rfl ?_
        refine D_l (v := (.i .i64 (((k : Nat)) : Int))) rfl rfl rfl (r_mv rfl) ?_
        refine D_gk rfl ?_
        refine D_l (v := (.p (some (F, 0)))) rfl rfl rfl (r_mv hT29) ?_
        refine D_gk rfl ?_
        refine D_l (v := (.p (some (F, 0)))) rfl rfl rfl (r_nilc rfl) ?_
        refine D_gk rfl ?_
        refine D_l (v := (.p (some (F, 1)))) rfl rfl rfl (r_fadd' rfl rfl) ?_
        refine D_gk rfl ?_
        refine D_r (v := (.sl (some (Lb, 0)) 16 16 0)) rfl rfl rfl (r_ld rfl hH62.get0 rfl) ?_
        refine D_gk rfl ?_
        refine D_l (v := (.p (some (Lb, (k * 4 + 0))))) rfl rfl rfl (by exact (r_islr (b := Lb) (k := k) (len := 16) (cap := 16) (g := 0) rfl rfl (by omega))) ?_
        refine D_gk rfl ?_
        refine D_r (v := (.agg [(.s (txt [116])), (.i .i64 15), (.i .i64 0), (.b tx), (.sl qa45 (dd).length (dd).length qg46)])) rfl rfl rfl (r_ldA hT34 hH62.get4 rfl) ?_
        refine D_gk rfl ?_
        refine D_r (v := (.i .i64 ((room : Nat) : Int))) rfl rfl rfl (r_ld rfl hH62.get0 rfl) ?_
        refine D_gk rfl ?_
        have hH63 := ((hH62.top3).top2)
        have hH64 := Pt.out (Z := []) hpk hH63
        have hH65 := ((((hH64.top3).top3).top3).top3)
        refine D_call (Ev.mono (hand_room (mode := 0) (i := k) (rws := qs.map Pt.row ++ []) (mr := pk.mr) (v := pk.v) (c := pk.c) (rows := pk.rows) (lost := 0) (rows_pt (fun z hz => absurd hz (List.not_mem_nil))) (by rw [List.length_append, List.length_map]; omega) hsq hl5 hmb ⟨Int.le_refl 0, by decide⟩ (by omega) hmg (by omega) hH65) fun v66 H67 hq68 => ?_)
        obtain ⟨rfl, v2, c2, hs2, hh2⟩ := hq68
        have hqok : Pt.ok (t + 1) ⟨pk.mr, pk.mb, pk.s, v2, c2, pk.rows ++ [[(.s (txt [116])), (.i .i64 15), (.i .i64 0), (.b tx), (.sl qa45 (dd).length (dd).length qg46)]]⟩ := ⟨hs2, fun r hr => by rcases List.mem_append.1 hr with h | h; exact hl5 r h; rw [List.mem_singleton] at h; subst h; rfl, ⟨m, hmb, by rw [hmg, hps]⟩, by show (pk.rows ++ [_]).length = _; rw [List.length_append, hps, hrl2]; rfl⟩
        have hH69 := Pt.back (Z := []) (rows' := pk.rows ++ [[(.s (txt [116])), (.i .i64 15), (.i .i64 0), (.b tx), (.sl qa45 (dd).length (dd).length qg46)]]) (s' := pk.s) hpk hh2
        refine And.intro (And.intro (Or.inl rfl) (And.intro (Or.inl rfl) (And.intro (Or.inl rfl) True.intro))) ?_
        refine D_l (v := (.b true)) rfl rfl rfl (r_pick_t rfl rfl) ?_
        refine D_nil ?_
        refine C_cond (x := true) rfl (fun _ => ?_) (fun h => by cases h)
        refine C_region ?_
        refine O_p (.i .i64 (((tk : Nat)) : Int)) (r_mv hT36) ?_
        refine O_p (.i .i64 ((((tk : Nat)) : Int) + 1)) (by exact (r_addi rfl rfl (wrap_i64 (by omega) (by omega)))) ?_
        refine O_p (.i .i64 ((((tk : Nat)) : Int) + 1)) (r_mv rfl) ?_
        refine O_nil ?_
        refine C_region ?_
        refine O_p (.i .i64 ((((k : Nat)) : Int) + 1)) (by exact (r_addi hT37 rfl (wrap_i64 (by omega) (by omega)))) ?_
        refine O_p (.i .i64 ((((k : Nat)) : Int) + 1)) (r_mv rfl) ?_
        refine O_nil ?_
        have hH70 := ((((((hH69.top5).top5).top3).top5).top4).top5)
        exact ⟨16 - (k + 1), by omega, (qs.set k ⟨pk.mr, pk.mb, pk.s, v2, c2, pk.rows ++ [[(.s (txt [116])), (.i .i64 15), (.i .i64 0), (.b tx), (.sl qa45 (dd).length (dd).length qg46)]]⟩), (.sl qa45 (dd).length (dd).length qg46), (tk + 1), (k + 1), rfl, by omega, by rw [List.length_set]; exact hp24, (s_set (q := ⟨pk.mr, pk.mb, pk.s, v2, c2, pk.rows ++ [[(.s (txt [116])), (.i .i64 15), (.i .i64 0), (.b tx), (.sl qa45 (dd).length (dd).length qg46)]]⟩) hpk rfl).trans hp25, ok_set hp26 hqok, by rw [tkn_succ hsk, hp27, hps]; rfl, by omega, hH70, hT29, hT30, hT31, hT32, hT33, hT34, hT35, rfl, rfl⟩
      ·
        have hps : pk.s = false := by simpa using hs
        rw [hps] at hmg hrl
        have hrl2 : pk.rows.length = 0 := hrl
        refine C_draw fun b71 H72 hbase73 hA74 => ?_
        have hH75 := hH51.keep (by have := hA74.1; omega) (fun q _ => hA74.2 q) ((hH51.old).aside hA74).ok
        refine D_l (v := (.i .i64 (((k : Nat)) : Int))) rfl rfl rfl (r_mv rfl) ?_
        refine D_l (v := (.i .i64 15)) rfl rfl rfl (r_mv hT30) ?_
        refine D_l (v := (.b true)) rfl rfl rfl (by exact (by rw [r_neq rfl rfl, decide_eq_false (by omega)]; rfl)) ?_
        refine D_l (v := (.b true)) rfl rfl rfl (r_mv rfl) ?_
        refine D_gk rfl ?_
        refine D_l (v := (.p (some (F, 0)))) rfl rfl rfl (r_mv hT29) ?_
        refine D_gk rfl ?_
        refine D_l (v := (.p (some (F, 0)))) rfl rfl rfl (r_nilc rfl) ?_
        refine D_gk rfl ?_
        refine D_l (v := (.p (some (F, 0)))) rfl rfl rfl (r_fadd' rfl rfl) ?_
        refine D_gk rfl ?_
        refine D_l (v := (.i .i64 (((k : Nat)) : Int))) rfl rfl rfl (r_mv rfl) ?_
        refine D_gk rfl ?_
        refine D_l (v := (.p (some (F, 0)))) rfl rfl rfl (r_mv hT29) ?_
        refine D_gk rfl ?_
        refine D_l (v := (.p (some (F, 0)))) rfl rfl rfl (r_nilc rfl) ?_
        refine D_gk rfl ?_
        refine D_l (v := (.p (some (F, 1)))) rfl rfl rfl (r_fadd' rfl rfl) ?_
        refine D_gk rfl ?_
        refine D_r (v := (.sl (some (Lb, 0)) 16 16 0)) rfl rfl rfl (r_ld rfl hH75.get0 rfl) ?_
        refine D_gk rfl ?_
        refine D_l (v := (.p (some (Lb, (k * 4 + 0))))) rfl rfl rfl (by exact (r_islr (b := Lb) (k := k) (len := 16) (cap := 16) (g := 0) rfl rfl (by omega))) ?_
        refine D_gk rfl ?_
        refine D_r (v := (.agg [(.s (txt [116])), (.i .i64 15), (.i .i64 0), (.b tx), (.sl qa45 (dd).length (dd).length qg46)])) rfl rfl rfl (r_ldA hT34 hH75.get4 rfl) ?_
        refine D_gk rfl ?_
        refine D_r (v := (.i .i64 ((room : Nat) : Int))) rfl rfl rfl (r_ld rfl hH75.get0 rfl) ?_
        refine D_gk rfl ?_
        have hH76 := ((hH75.top3).top2)
        have hH77 := Pt.out (Z := []) hpk hH76
        have hH78 := ((((hH77.top3).top3).top3).top3)
        refine D_call (Ev.mono (hand_no (mode := 0) (i := k) (rws := qs.map Pt.row ++ []) (mr := pk.mr) (v := pk.v) (c := pk.c) (rows := pk.rows) (lost := 0) (rows_pt (fun z hz => absurd hz (List.not_mem_nil))) (by rw [List.length_append, List.length_map]; omega) hsq hl5 hmb ⟨Int.le_refl 0, by decide⟩ (by omega) hmg hH78) fun v79 H80 hq81 => ?_)
        obtain ⟨rfl, hh2⟩ := hq81
        have hqok : Pt.ok (t + 1) ⟨pk.mr, pk.mb, pk.s, pk.v, pk.c, pk.rows⟩ := ⟨hsq, hl5, ⟨m, hmb, by rw [hmg, hps]⟩, by show pk.rows.length = _; rw [hrl2, hps]; rfl⟩
        have hH82 := Pt.back (Z := []) (rows' := pk.rows) (s' := pk.s) hpk hh2
        refine And.intro (And.intro (Or.inl rfl) (And.intro (Or.inl rfl) (And.intro (Or.inl rfl) True.intro))) ?_
        refine D_l (v := (.b false)) rfl rfl rfl (r_pick_t rfl rfl) ?_
        refine D_nil ?_
        refine C_cond (x := false) rfl (fun h => by cases h) (fun _ => ?_)
        refine C_skip ?_
        refine C_region ?_
        refine O_p (.i .i64 ((((k : Nat)) : Int) + 1)) (by exact (r_addi hT37 rfl (wrap_i64 (by omega) (by omega)))) ?_
        refine O_p (.i .i64 ((((k : Nat)) : Int) + 1)) (r_mv rfl) ?_
        refine O_nil ?_
        have hH83 := ((((((hH82.top5).top5).top3).top5).top4).top5)
        exact ⟨16 - (k + 1), by omega, (qs.set k ⟨pk.mr, pk.mb, pk.s, pk.v, pk.c, pk.rows⟩), (.sl qa45 (dd).length (dd).length qg46), tk, (k + 1), rfl, by omega, by rw [List.length_set]; exact hp24, (s_set (q := ⟨pk.mr, pk.mb, pk.s, pk.v, pk.c, pk.rows⟩) hpk rfl).trans hp25, ok_set hp26 hqok, by rw [tkn_succ hsk, hp27, hps]; rfl, by omega, hH83, hT29, hT30, hT31, hT32, hT33, hT34, hT35, hT36, rfl⟩
  ·
    try simp only [decide_eq_true_eq, decide_eq_false_iff_not, Bool.not_eq_true', Bool.not_eq_false', Bool.and_eq_true, Bool.or_eq_true, Bool.or_eq_false_iff, Bool.not_not, Bool.and_eq_false_iff] at hc39
    refine C_exit ?_
    refine nx_exit ?_
    refine nx_exit ?_
    refine bk_hit ?_
    refine C_seq ?_
    refine C_region ?_
    refine O_p (.i .i64 (((tk : Nat)) : Int)) (r_mv hT36) ?_
    refine O_p (.i .i64 (((tk : Nat)) : Int)) (r_mv rfl) ?_
    refine O_p (.i .i64 0) (r_mv rfl) ?_
    refine O_nil ?_
    refine C_ret ?_
    have hH84 := (hH38.sub4)
    have hH85 := (((((hH84.top4).top4).top4).top4).top4)
    have hk16 : k = 16 := by omega
    exact ⟨.inr rfl, _, resL_cons (r_tmp (v := (.i .i64 (((tk : Nat)) : Int))) rfl) (resL_one (r_tmp (v := .i .i64 0) rfl)), qs, bm14, by rw [hp27, hk16]; rfl, hp24, hp25, fun i p hp => by have h := hp26 i p hp; rw [if_pos (by have := (List.getElem?_eq_some_iff.1 hp).1; omega)] at h; exact h, hMb15, hH85⟩
set_option maxRecDepth 100000 in
set_option maxHeartbeats 2000000 in
theorem publishM_some {H : AH} {R B : HL} {F Lb cm room t : Nat} {cb : Blk} {cmL : ML} {n : Int} {ps : List Pt} {dd : List UInt8} {tx : Bool} {da : Option (Nat × Nat)} {dc dg : Nat} (hlen : ps.length = 16) (hok : ∀ (i : Nat) (p : Pt), ps[i]? = some p → p.ok t) (h15 : ∀ p, ps[15]? = some p → p.s = false) (hroom : t < room) (hroom64 : room ≤ 64) (hcb : Mb cmL cb) (hcg : mget cmL [116] = some (.i .i64 n)) (hn : 0 ≤ n ∧ n < 1000000) (hdl : dd.length ≤ 16384) (hdg : dg = 0 ∨ dg = 1) (hdc : dd.length ≤ dc) (hdm : dc ≤ 9223372036854775807) (hdb : ∀ H', Hs H' B → Bs H' (.sl da dd.length dc dg) dd) (hH0 : Hs H ([(F, some (.cells ([(.sl (some (Lb, 0)) 16 16 0), (.i .i64 ((room : Nat) : Int)), (.m (some cm))]) true))] ++ ([(Lb, some (.cells ((ps.map Pt.row ++ []).flatten) true))] ++ ([(cm, some cb)] ++ ((ps.flatMap Pt.seg) ++ (B ++ (R))))))) : Ev tabA spA (.fn (.func 13) [] []) [.p (some (F, 0)), .i .i64 15, .s (txt [116]), .b tx, .sl da dd.length dc dg] H (fun r H' => ∃ (qs : List Pt) (cb2 : Blk), r = .tup [.i .i64 ((tkn (ps.map Pt.s) 16 : Nat) : Int), .i .i64 0] ∧ qs.length = 16 ∧ qs.map Pt.s = ps.map Pt.s ∧ (∀ (i : Nat) (p : Pt), qs[i]? = some p → p.ok (t + 1)) ∧ Mb (mset cmL [116] (.i .i64 (n + 1))) cb2 ∧ Hs H' ([(F, some (.cells ([(.sl (some (Lb, 0)) 16 16 0), (.i .i64 ((room : Nat) : Int)), (.m (some cm))]) true))] ++ ([(Lb, some (.cells ((qs.map Pt.row ++ []).flatten) true))] ++ ([(cm, some cb2)] ++ ((qs.flatMap Pt.seg) ++ (B ++ (R))))))) := by
  refine Ev_C (F := x13) rfl ?_
  refine C_seq ?_
  refine C_region ?_
  refine O_p (.i .i64 0) (r_mv rfl) ?_
  refine O_p (.i .i64 0) (r_mv rfl) ?_
  refine O_nil ?_
  refine C_seq ?_
  refine C_region ?_
  refine O_p (.p (some (F, 0))) (r_mv rfl) ?_
  refine O_p (.i .i64 15) (r_mv rfl) ?_
  refine O_call (Ev.mono (at_ev (k := 15) (np := 16) (by decide) hH0) fun v1 H2 hq3 => ?_)
  obtain ⟨rfl, hH4⟩ := hq3
  obtain ⟨p15, hp15⟩ : ∃ p, ps[15]? = some p := ⟨_, List.getElem?_eq_getElem (by omega)⟩
  refine O_p (.p (some (Lb, (15 * 4 + 0)))) (r_mv rfl) ?_
  refine O_nil ?_
  refine C_seq ?_
  refine C_block ?_
  refine C_seq ?_
  refine C_region ?_
  refine O_p (.p (some (Lb, (15 * 4 + 0)))) (r_mv rfl) ?_
  refine O_p (.b false) (r_nilq_s rfl) ?_
  refine O_p (.b false) (r_mv rfl) ?_
  refine O_gk rfl ?_
  refine O_p (.s (txt [116])) (r_mv rfl) ?_
  refine O_gk rfl ?_
  refine O_p (.b false) (by exact (by rw [r_eqt (a := [116]) (b := ([] : List UInt8)) rfl rfl]; rfl)) ?_
  refine O_p (.b false) (r_pick_f rfl rfl) ?_
  refine O_p (.b false) (r_mv rfl) ?_
  refine O_nil ?_
  refine C_cond (x := false) rfl (fun h => by cases h) (fun _ => ?_)
  refine C_seq ?_
  refine C_region ?_
  refine O_p (.s (txt [116])) (r_mv rfl) ?_
  refine O_p (.i .i64 (((([116]).length : Nat)) : Int)) (r_lent (l := [116]) rfl) ?_
  refine O_p (.b false) (by exact (by rw [r_gtr rfl rfl, decide_eq_false (by decide)])) ?_
  refine O_p (.b false) (r_mv rfl) ?_
  refine O_gk rfl ?_
  refine O_p (.sl da dd.length dc dg) (r_mv rfl) ?_
  refine O_gk rfl ?_
  refine O_p (.i .i64 (((dd.length : Nat)) : Int)) (r_len rfl) ?_
  refine O_gk rfl ?_
  refine O_p (.b false) (by exact (by rw [r_gtr rfl rfl, decide_eq_false (by first | omega | assumption)])) ?_
  refine O_p (.b false) (r_pick_f rfl rfl) ?_
  refine O_p (.b false) (r_mv rfl) ?_
  refine O_nil ?_
  refine C_cond (x := false) rfl (fun h => by cases h) (fun _ => ?_)
  refine C_seq ?_
  refine C_region ?_
  refine O_p (.p (some (Lb, (15 * 4 + 0)))) (r_mv rfl) ?_
  refine O_p (.p (some (Lb, (15 * 4 + 0)))) (r_nilc rfl) ?_
  refine O_p (.p (some (Lb, (15 * 4 + 0)))) (r_fadd' rfl rfl) ?_
  refine O_p (.b true) (r_ldR (q := 0) rfl (Pt.rd (Z := []) (fun z hz => absurd hz (List.not_mem_nil)) hp15 hH4.top1) rfl) ?_
  refine O_p (.b false) (r_un rfl rfl) ?_
  refine O_p (.b false) (r_mv rfl) ?_
  refine O_nil ?_
  refine C_cond (x := false) rfl (fun h => by cases h) (fun _ => ?_)
  refine C_skip ?_
  refine C_seq ?_
  refine C_region ?_
  refine O_p (.s (txt [116])) (r_mv rfl) ?_
  refine O_p (.i .i64 15) (r_mv rfl) ?_
  refine O_p (.p (some (F, 0))) (r_mv rfl) ?_
  refine O_p (.p (some (F, 0))) (r_nilc rfl) ?_
  refine O_p (.p (some (F, 2))) (r_fadd' rfl rfl) ?_
  refine O_p (.m (some cm)) (r_ld rfl hH4.get0 rfl) ?_
  refine O_p (.s (txt [116])) (r_mv rfl) ?_
  refine O_p (.i .i64 n) (by exact ((r_mget (m := cmL) (k := [116]) hH4.get2 hcb rfl rfl false).trans (by first | (rw [hcg]; rfl) | rw [hcg]))) ?_
  refine O_p (.b tx) (r_mv rfl) ?_
  refine O_p (.agg [(.s (txt [116])), (.i .i64 15), (.i .i64 n), (.b tx), (.sl none 0 0 0)]) (r_build rfl) ?_
  refine O_alloc fun n5 H6 hN7 => ?_
  have hH8 := hH4.new hN7
  refine O_store (vs := [(.s (txt [116])), (.i .i64 15), (.i .i64 n), (.b tx), (.sl none 0 0 0)]) (c' := [(.s (txt [116])), (.i .i64 15), (.i .i64 n), (.b tx), (.sl none 0 0 0)]) rfl (by rfl) hH8.get0 rfl (List.cons_ne_nil _ _) (Nat.le_of_ble_eq_true rfl) rfl fun H9 hW10 => ?_
  have hH11 := hH8.wr0 hW10
  refine O_nil ?_
  refine C_seq ?_
  refine C_region ?_
  refine O_p (.p (some (F, 0))) (r_mv rfl) ?_
  refine O_p (.p (some (F, 0))) (r_nilc rfl) ?_
  refine O_p (.p (some (F, 2))) (r_fadd' rfl rfl) ?_
  refine O_p (.m (some cm)) (r_ld rfl hH11.get1 rfl) ?_
  refine O_p (.s (txt [116])) (r_mv rfl) ?_
  refine O_p (.i .i64 n) (by exact ((r_mget (m := cmL) (k := [116]) hH11.get3 hcb rfl rfl false).trans (by first | (rw [hcg]; rfl) | rw [hcg]))) ?_
  refine O_p (.i .i64 (n + 1)) (by exact (r_addi rfl rfl (wrap_i64 (by omega) (by omega)))) ?_
  refine O_nh (by exact r_mput (k := [116]) (v := (.i .i64 (n + 1))) hH11.top3 hcb rfl rfl rfl) fun H12 hA13 => ?_
  obtain ⟨bm14, hMb15, hH16⟩ := hA13
  refine O_nil ?_
  refine C_seq ?_
  refine C_region ?_
  refine O_p (.i .i64 0) (r_mv rfl) ?_
  refine O_nil ?_
  refine C_seq ?_
  refine C_seq ?_
  refine C_region ?_
  refine O_p (.p (some (F, 0))) (r_mv rfl) ?_
  refine O_p (.p (some (F, 0))) (r_nilc rfl) ?_
  refine O_p (.p (some (F, 0))) (r_fadd' rfl rfl) ?_
  refine O_p (.sl (some (Lb, 0)) 16 16 0) (r_ld rfl hH16.get2 rfl) ?_
  refine O_p (.i .i64 16) (r_len rfl) ?_
  refine O_p (.i .i64 0) (r_mv rfl) ?_
  refine O_nil ?_
  refine C_block ?_
  have hH17 := ((((((hH16.top5).top2).top5).top3).top5).top5)
  refine C_while (fun m18 T19 H20 => ∃ qs : List Pt, ∃ xd : AV, ∃ tk : Nat, ∃ k : Nat, m18 = 16 - k ∧ k ≤ 16 ∧ qs.length = 16 ∧ qs.map Pt.s = ps.map Pt.s ∧ (∀ (i : Nat) (p : Pt), qs[i]? = some p → p.ok (if i < k then t + 1 else t)) ∧ tk = tkn (ps.map Pt.s) k ∧ tk ≤ k ∧ Hs H20 ([(F, some (.cells ([(.sl (some (Lb, 0)) 16 16 0), (.i .i64 ((room : Nat) : Int)), (.m (some cm))]) true))] ++ ([(Lb, some (.cells ((qs.map Pt.row ++ []).flatten) true))] ++ ([(cm, some bm14)] ++ ((qs.flatMap Pt.seg) ++ ([(n5, some (.cells ([(.s (txt [116])), (.i .i64 15), (.i .i64 n), (.b tx), xd]) true))] ++ (B ++ (R))))))) ∧ T19.get 0 = (.p (some (F, 0))) ∧ T19.get 1 = (.i .i64 15) ∧ T19.get 2 = (.s (txt [116])) ∧ T19.get 3 = (.b tx) ∧ T19.get 4 = (.sl da dd.length dc dg) ∧ T19.get 13 = (.p (some (n5, 0))) ∧ T19.get 62 = (.i .i64 16) ∧ T19.get 14 = (.i .i64 (((tk : Nat)) : Int)) ∧ T19.get 63 = (.i .i64 (((k : Nat)) : Int))) (fun m18 T19 H20 hI21 => ?_) 16 _ _ ⟨ps, (.sl none 0 0 0), 0, 0, rfl, by omega, hlen, rfl, fun i p h => by rw [if_neg (Nat.not_lt_zero _)]; exact hok i p h, rfl, Nat.le_refl _, hH17, rfl, rfl, rfl, rfl, rfl, rfl, rfl, rfl, rfl⟩
  obtain ⟨qs, xd, tk, k, hm22, hp23, hp24, hp25, hp26, hp27, hp28, hH38, hT29, hT30, hT31, hT32, hT33, hT34, hT35, hT36, hT37⟩ := hI21
  refine C_seq ?_
  refine C_region ?_
  refine O_p (.b (decide ((((k : Nat)) : Int) < 16))) (r_lss hT37 hT35) ?_
  refine O_nil ?_
  refine C_seq ?_
  refine C_cond (x := (decide ((((k : Nat)) : Int) < 16))) rfl (fun hc39 => ?_) (fun hc39 => ?_)
  ·
    try simp only [decide_eq_true_eq, decide_eq_false_iff_not, Bool.not_eq_true', Bool.not_eq_false', Bool.and_eq_true, Bool.or_eq_true, Bool.or_eq_false_iff, Bool.not_not, Bool.and_eq_false_iff] at hc39
    refine C_skip ?_
    refine C_seq ?_
    refine C_block ?_
    refine C_seq ?_
    refine C_region ?_
    refine O_p (.i .i64 (((k : Nat)) : Int)) (r_mv hT37) ?_
    refine O_p (.i .i64 (((k : Nat)) : Int)) (r_mv rfl) ?_
    refine O_nil ?_
    refine C_seq ?_
    refine C_region ?_
    refine O_p (.sl da dd.length dc dg) (r_mv hT33) ?_
    refine O_call (Ev.mono (clone_ev (tab := tabA) (sp := spA) rfl hH38.ok hdg (hdb _ hH38.top5.fst) (by first | omega | (simp only [List.length_take, List.length_drop, List.length_append, List.length_cons, List.length_nil, beN_len] <;> omega)) (by first | omega | (simp only [List.length_take, List.length_drop, List.length_append, List.length_cons, List.length_nil, beN_len] <;> omega)) (by first | omega | (simp only [List.length_take, List.length_drop, List.length_append, List.length_cons, List.length_nil, beN_len] <;> omega))) fun v40 H41 hq42 => ?_)
    obtain ⟨hM43, hK44⟩ := hq42
    obtain ⟨qa45, qg46, rfl, hqg47, _⟩ := hM43.own.bs
    have hH48 := (Hs.ofMine hH38 hM43 hK44).sub
    refine O_p (.p (some (n5, 4))) (r_fadd' hT34 rfl) ?_
    refine O_store (vs := [(.sl qa45 (dd).length (dd).length qg46)]) (c' := [(.s (txt [116])), (.i .i64 15), (.i .i64 n), (.b tx), (.sl qa45 (dd).length (dd).length qg46)]) rfl (by rfl) hH48.get4 rfl (List.cons_ne_nil _ _) (Nat.le_of_ble_eq_true rfl) rfl fun H49 hW50 => ?_
    have hH51 := hH48.wr4 hW50
    refine O_nil ?_
    refine C_seq ?_
    by_cases hk15 : k = 15
    ·
      have hk16 : k < 16 := by omega
      obtain ⟨pk, hpk⟩ : ∃ p, qs[k]? = some p := ⟨_, List.getElem?_eq_getElem (by omega)⟩
      have hsk : (ps.map Pt.s)[k]? = some pk.s := by rw [← hp25, List.getElem?_map, hpk]; rfl
      have hs15 : ∀ p, qs[k]? = some p → p.s = false := fun p hp => by have e := hsk; rw [hpk] at hp; cases hp; rw [hk15, List.getElem?_map] at e; cases hq : ps[15]? with
        | none => rw [hq] at e; cases e
        | some z => rw [hq] at e; simp only [Option.map_some, Option.some.injEq] at e; rw [← e]; exact h15 z hq
      have hsk15 : (ps.map Pt.s)[k]? = some false := by rw [hsk, hs15 pk hpk]
      refine C_draw fun b52 H53 hbase54 hA55 => ?_
      have hH56 := hH51.keep (by have := hA55.1; omega) (fun q _ => hA55.2 q) ((hH51.old).aside hA55).ok
      refine D_l (v := (.i .i64 (((k : Nat)) : Int))) rfl rfl rfl (r_mv rfl) ?_
      refine D_l (v := (.i .i64 15)) rfl rfl rfl (r_mv hT30) ?_
      refine D_l (v := (.b false)) rfl rfl rfl (by exact (by rw [r_neq rfl rfl, decide_eq_true (by omega)]; rfl)) ?_
      refine D_l (v := (.b false)) rfl rfl rfl (r_mv rfl) ?_
      refine D_gf rfl ?_
      refine D_gf rfl ?_
      refine D_gf rfl ?_
      refine D_gf rfl ?_
      refine D_gf rfl ?_
      refine D_gf rfl ?_
      refine D_gf rfl ?_
      refine D_gf rfl ?_
      refine D_gf rfl ?_
      refine D_gf rfl ?_
      refine D_gf rfl ?_
      refine D_gf rfl ?_
      refine D_l (v := (.b false)) rfl rfl rfl (r_pick_f rfl rfl) ?_
      refine D_nil ?_
      refine C_cond (x := false) rfl (fun h => by cases h) (fun _ => ?_)
      refine C_skip ?_
      refine C_region ?_
      refine O_p (.i .i64 ((((k : Nat)) : Int) + 1)) (by exact (r_addi hT37 rfl (wrap_i64 (by omega) (by omega)))) ?_
      refine O_p (.i .i64 ((((k : Nat)) : Int) + 1)) (r_mv rfl) ?_
      refine O_nil ?_
      have hH57 := ((((((hH56.top5).top5).top5).top5).top5).top5)
      exact ⟨16 - (k + 1), by omega, qs, (.sl qa45 (dd).length (dd).length qg46), tk, (k + 1), rfl, by omega, hp24, hp25, ok_skip hp26 hs15, by rw [tkn_succ hsk15, hp27]; rfl, by omega, hH57, hT29, hT30, hT31, hT32, hT33, hT34, hT35, hT36, rfl⟩
    ·
      have hk16 : k < 16 := by omega
      obtain ⟨pk, hpk⟩ : ∃ p, qs[k]? = some p := ⟨_, List.getElem?_eq_getElem (by omega)⟩
      have hsk : (ps.map Pt.s)[k]? = some pk.s := by rw [← hp25, List.getElem?_map, hpk]; rfl
      have hpo := hp26 k pk hpk
      rw [if_neg (Nat.lt_irrefl _)] at hpo
      obtain ⟨hsq, hl5, ⟨m, hmb, hmg⟩, hrl⟩ := hpo
      by_cases hs : pk.s = true
      ·
        have hps : pk.s = true := hs
        rw [hps] at hmg hrl
        have hrl2 : pk.rows.length = t := hrl
        refine C_draw fun b58 H59 hbase60 hA61 => ?_
        have hH62 := hH51.keep (by have := hA61.1; omega) (fun q _ => hA61.2 q) ((hH51.old).aside hA61).ok
        refine D_l (v := (.i .i64 (((k : Nat)) : Int))) rfl rfl rfl (r_mv rfl) ?_
        refine D_l (v := (.i .i64 15)) rfl rfl rfl (r_mv hT30) ?_
        refine D_l (v := (.b true)) rfl rfl rfl (by exact (by rw [r_neq rfl rfl, decide_eq_false (by omega)]; rfl)) ?_
        refine D_l (v := (.b true)) rfl rfl rfl (r_mv rfl) ?_
        refine D_gk rfl ?_
        refine D_l (v := (.p (some (F, 0)))) rfl rfl rfl (r_mv hT29) ?_
        refine D_gk rfl ?_
        refine D_l (v := (.p (some (F, 0)))) rfl rfl rfl (r_nilc rfl) ?_
        refine D_gk rfl ?_
        refine D_l (v := (.p (some (F, 0)))) rfl rfl rfl (r_fadd' rfl rfl) ?_
        refine D_gk rfl ?_
        refine D_l (v := (.i .i64 (((k : Nat)) : Int))) rfl rfl rfl (r_mv rfl) ?_
        refine D_gk rfl ?_
        refine D_l (v := (.p (some (F, 0)))) rfl rfl rfl (r_mv hT29) ?_
        refine D_gk rfl ?_
        refine D_l (v := (.p (some (F, 0)))) rfl rfl rfl (r_nilc rfl) ?_
        refine D_gk rfl ?_
        refine D_l (v := (.p (some (F, 1)))) rfl rfl rfl (r_fadd' rfl rfl) ?_
        refine D_gk rfl ?_
        refine D_r (v := (.sl (some (Lb, 0)) 16 16 0)) rfl rfl rfl (r_ld rfl hH62.get0 rfl) ?_
        refine D_gk rfl ?_
        refine D_l (v := (.p (some (Lb, (k * 4 + 0))))) rfl rfl rfl (by exact (r_islr (b := Lb) (k := k) (len := 16) (cap := 16) (g := 0) rfl rfl (by omega))) ?_
        refine D_gk rfl ?_
        refine D_r (v := (.agg [(.s (txt [116])), (.i .i64 15), (.i .i64 n), (.b tx), (.sl qa45 (dd).length (dd).length qg46)])) rfl rfl rfl (r_ldA hT34 hH62.get4 rfl) ?_
        refine D_gk rfl ?_
        refine D_r (v := (.i .i64 ((room : Nat) : Int))) rfl rfl rfl (r_ld rfl hH62.get0 rfl) ?_
        refine D_gk rfl ?_
        have hH63 := ((hH62.top3).top2)
        have hH64 := Pt.out (Z := []) hpk hH63
        have hH65 := ((((hH64.top3).top3).top3).top3)
        refine D_call (Ev.mono (hand_room (mode := 0) (i := k) (rws := qs.map Pt.row ++ []) (mr := pk.mr) (v := pk.v) (c := pk.c) (rows := pk.rows) (lost := 0) (rows_pt (fun z hz => absurd hz (List.not_mem_nil))) (by rw [List.length_append, List.length_map]; omega) hsq hl5 hmb ⟨Int.le_refl 0, by decide⟩ (by omega) hmg (by omega) hH65) fun v66 H67 hq68 => ?_)
        obtain ⟨rfl, v2, c2, hs2, hh2⟩ := hq68
        have hqok : Pt.ok (t + 1) ⟨pk.mr, pk.mb, pk.s, v2, c2, pk.rows ++ [[(.s (txt [116])), (.i .i64 15), (.i .i64 n), (.b tx), (.sl qa45 (dd).length (dd).length qg46)]]⟩ := ⟨hs2, fun r hr => by rcases List.mem_append.1 hr with h | h; exact hl5 r h; rw [List.mem_singleton] at h; subst h; rfl, ⟨m, hmb, by rw [hmg, hps]⟩, by show (pk.rows ++ [_]).length = _; rw [List.length_append, hps, hrl2]; rfl⟩
        have hH69 := Pt.back (Z := []) (rows' := pk.rows ++ [[(.s (txt [116])), (.i .i64 15), (.i .i64 n), (.b tx), (.sl qa45 (dd).length (dd).length qg46)]]) (s' := pk.s) hpk hh2
        refine And.intro (And.intro (Or.inl rfl) (And.intro (Or.inl rfl) (And.intro (Or.inl rfl) True.intro))) ?_
        refine D_l (v := (.b true)) rfl rfl rfl (r_pick_t rfl rfl) ?_
        refine D_nil ?_
        refine C_cond (x := true) rfl (fun _ => ?_) (fun h => by cases h)
        refine C_region ?_
        refine O_p (.i .i64 (((tk : Nat)) : Int)) (r_mv hT36) ?_
        refine O_p (.i .i64 ((((tk : Nat)) : Int) + 1)) (by exact (r_addi rfl rfl (wrap_i64 (by omega) (by omega)))) ?_
        refine O_p (.i .i64 ((((tk : Nat)) : Int) + 1)) (r_mv rfl) ?_
        refine O_nil ?_
        refine C_region ?_
        refine O_p (.i .i64 ((((k : Nat)) : Int) + 1)) (by exact (r_addi hT37 rfl (wrap_i64 (by omega) (by omega)))) ?_
        refine O_p (.i .i64 ((((k : Nat)) : Int) + 1)) (r_mv rfl) ?_
        refine O_nil ?_
        have hH70 := ((((((hH69.top5).top5).top3).top5).top4).top5)
        exact ⟨16 - (k + 1), by omega, (qs.set k ⟨pk.mr, pk.mb, pk.s, v2, c2, pk.rows ++ [[(.s (txt [116])), (.i .i64 15), (.i .i64 n), (.b tx), (.sl qa45 (dd).length (dd).length qg46)]]⟩), (.sl qa45 (dd).length (dd).length qg46), (tk + 1), (k + 1), rfl, by omega, by rw [List.length_set]; exact hp24, (s_set (q := ⟨pk.mr, pk.mb, pk.s, v2, c2, pk.rows ++ [[(.s (txt [116])), (.i .i64 15), (.i .i64 n), (.b tx), (.sl qa45 (dd).length (dd).length qg46)]]⟩) hpk rfl).trans hp25, ok_set hp26 hqok, by rw [tkn_succ hsk, hp27, hps]; rfl, by omega, hH70, hT29, hT30, hT31, hT32, hT33, hT34, hT35, rfl, rfl⟩
      ·
        have hps : pk.s = false := by simpa using hs
        rw [hps] at hmg hrl
        have hrl2 : pk.rows.length = 0 := hrl
        refine C_draw fun b71 H72 hbase73 hA74 => ?_
        have hH75 := hH51.keep (by have := hA74.1; omega) (fun q _ => hA74.2 q) ((hH51.old).aside hA74).ok
        refine D_l (v := (.i .i64 (((k : Nat)) : Int))) rfl rfl rfl (r_mv rfl) ?_
        refine D_l (v := (.i .i64 15)) rfl rfl rfl (r_mv hT30) ?_
        refine D_l (v := (.b true)) rfl rfl rfl (by exact (by rw [r_neq rfl rfl, decide_eq_false (by omega)]; rfl)) ?_
        refine D_l (v := (.b true)) rfl rfl rfl (r_mv rfl) ?_
        refine D_gk rfl ?_
        refine D_l (v := (.p (some (F, 0)))) rfl rfl rfl (r_mv hT29) ?_
        refine D_gk rfl ?_
        refine D_l (v := (.p (some (F, 0)))) rfl rfl rfl (r_nilc rfl) ?_
        refine D_gk rfl ?_
        refine D_l (v := (.p (some (F, 0)))) rfl rfl rfl (r_fadd' rfl rfl) ?_
        refine D_gk rfl ?_
        refine D_l (v := (.i .i64 (((k : Nat)) : Int))) rfl rfl rfl (r_mv rfl) ?_
        refine D_gk rfl ?_
        refine D_l (v := (.p (some (F, 0)))) rfl rfl rfl (r_mv hT29) ?_
        refine D_gk rfl ?_
        refine D_l (v := (.p (some (F, 0)))) rfl rfl rfl (r_nilc rfl) ?_
        refine D_gk rfl ?_
        refine D_l (v := (.p (some (F, 1)))) rfl rfl rfl (r_fadd' rfl rfl) ?_
        refine D_gk rfl ?_
        refine D_r (v := (.sl (some (Lb, 0)) 16 16 0)) rfl rfl rfl (r_ld rfl hH75.get0 rfl) ?_
        refine D_gk rfl ?_
        refine D_l (v := (.p (some (Lb, (k * 4 + 0))))) rfl rfl rfl (by exact (r_islr (b := Lb) (k := k) (len := 16) (cap := 16) (g := 0) rfl rfl (by omega))) ?_
        refine D_gk rfl ?_
        refine D_r (v := (.agg [(.s (txt [116])), (.i .i64 15), (.i .i64 n), (.b tx), (.sl qa45 (dd).length (dd).length qg46)])) rfl rfl rfl (r_ldA hT34 hH75.get4 rfl) ?_
        refine D_gk rfl ?_
        refine D_r (v := (.i .i64 ((room : Nat) : Int))) rfl rfl rfl (r_ld rfl hH75.get0 rfl) ?_
        refine D_gk rfl ?_
        have hH76 := ((hH75.top3).top2)
        have hH77 := Pt.out (Z := []) hpk hH76
        have hH78 := ((((hH77.top3).top3).top3).top3)
        refine D_call (Ev.mono (hand_no (mode := 0) (i := k) (rws := qs.map Pt.row ++ []) (mr := pk.mr) (v := pk.v) (c := pk.c) (rows := pk.rows) (lost := 0) (rows_pt (fun z hz => absurd hz (List.not_mem_nil))) (by rw [List.length_append, List.length_map]; omega) hsq hl5 hmb ⟨Int.le_refl 0, by decide⟩ (by omega) hmg hH78) fun v79 H80 hq81 => ?_)
        obtain ⟨rfl, hh2⟩ := hq81
        have hqok : Pt.ok (t + 1) ⟨pk.mr, pk.mb, pk.s, pk.v, pk.c, pk.rows⟩ := ⟨hsq, hl5, ⟨m, hmb, by rw [hmg, hps]⟩, by show pk.rows.length = _; rw [hrl2, hps]; rfl⟩
        have hH82 := Pt.back (Z := []) (rows' := pk.rows) (s' := pk.s) hpk hh2
        refine And.intro (And.intro (Or.inl rfl) (And.intro (Or.inl rfl) (And.intro (Or.inl rfl) True.intro))) ?_
        refine D_l (v := (.b false)) rfl rfl rfl (r_pick_t rfl rfl) ?_
        refine D_nil ?_
        refine C_cond (x := false) rfl (fun h => by cases h) (fun _ => ?_)
        refine C_skip ?_
        refine C_region ?_
        refine O_p (.i .i64 ((((k : Nat)) : Int) + 1)) (by exact (r_addi hT37 rfl (wrap_i64 (by omega) (by omega)))) ?_
        refine O_p (.i .i64 ((((k : Nat)) : Int) + 1)) (r_mv rfl) ?_
        refine O_nil ?_
        have hH83 := ((((((hH82.top5).top5).top3).top5).top4).top5)
        exact ⟨16 - (k + 1), by omega, (qs.set k ⟨pk.mr, pk.mb, pk.s, pk.v, pk.c, pk.rows⟩), (.sl qa45 (dd).length (dd).length qg46), tk, (k + 1), rfl, by omega, by rw [List.length_set]; exact hp24, (s_set (q := ⟨pk.mr, pk.mb, pk.s, pk.v, pk.c, pk.rows⟩) hpk rfl).trans hp25, ok_set hp26 hqok, by rw [tkn_succ hsk, hp27, hps]; rfl, by omega, hH83, hT29, hT30, hT31, hT32, hT33, hT34, hT35, hT36, rfl⟩
  ·
    try simp only [decide_eq_true_eq, decide_eq_false_iff_not, Bool.not_eq_true', Bool.not_eq_false', Bool.and_eq_true, Bool.or_eq_true, Bool.or_eq_false_iff, Bool.not_not, Bool.and_eq_false_iff] at hc39
    refine C_exit ?_
    refine nx_exit ?_
    refine nx_exit ?_
    refine bk_hit ?_
    refine C_seq ?_
    refine C_region ?_
    refine O_p (.i .i64 (((tk : Nat)) : Int)) (r_mv hT36) ?_
    refine O_p (.i .i64 (((tk : Nat)) : Int)) (r_mv rfl) ?_
    refine O_p (.i .i64 0) (r_mv rfl) ?_
    refine O_nil ?_
    refine C_ret ?_
    have hH84 := (hH38.sub4)
    have hH85 := (((((hH84.top4).top4).top4).top4).top4)
    have hk16 : k = 16 := by omega
    exact ⟨.inr rfl, _, resL_cons (r_tmp (v := (.i .i64 (((tk : Nat)) : Int))) rfl) (resL_one (r_tmp (v := .i .i64 0) rfl)), qs, bm14, by rw [hp27, hk16]; rfl, hp24, hp25, fun i p hp => by have h := hp26 i p hp; rw [if_pos (by have := (List.getElem?_eq_some_iff.1 hp).1; omega)] at h; exact h, hMb15, hH85⟩
end Go.Proofs.Ytnkpmidfefilbaa.E
