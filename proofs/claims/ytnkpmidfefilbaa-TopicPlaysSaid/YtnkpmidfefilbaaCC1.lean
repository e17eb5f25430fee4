/- Topics: the document's relay: who is there, what is counted. It bears no condition. -/
import Derived.Test.YtnkpmidfefilbaaE46
import Derived.Test.YtnkpmidfefilbaaAA
namespace Go.Proofs.Ytnkpmidfefilbaa.E

set_option linter.unusedVariables false
set_option linter.unusedSimpArgs false
/-! ### The document's relay -/
def fxI {α : Type} (P : α → Bool) (w : List α) : Int := if w.findIdx P < w.length then ((w.findIdx P : Nat) : Int) else -1
theorem fxI_at {α : Type} {P : α → Bool} {w : List α} {i : Nat} {x : α} (hi : i ≤ w.findIdx P) (h : w[i]? = some x) (hp : P x = true) : fxI P w = ((i : Nat) : Int) := by
  unfold fxI
  rw [fx_at hi h hp, if_pos (List.getElem?_eq_some_iff.1 h).1]
theorem fxI_none {α : Type} {P : α → Bool} {w : List α} (h : w.length ≤ w.findIdx P) : fxI P w = -1 := by unfold fxI; rw [if_neg (by omega)]
abbrev sfP (tp : List UInt8) : Su → Bool := fun x => decide (x.tp = tp)
abbrev cfP (tp : List UInt8) : List UInt8 × Nat → Bool := fun x => decide (x.1 = tp)
def suRow (x : Su) : List AV := [.s (txt x.tp), .i .i64 x.mode, .b x.fl]
def coRow (x : List UInt8 × Nat) : List AV := [.s (txt x.1), .i .i64 ((x.2 : Nat) : Int)]
theorem su_lens (l : List Su) : ∀ r ∈ l.map suRow, r.length = 3 := fun r hr => by obtain ⟨x, _, rfl⟩ := List.mem_map.1 hr; rfl
theorem co_lens (l : List (List UInt8 × Nat)) : ∀ r ∈ l.map coRow, r.length = 2 := fun r hr => by obtain ⟨x, _, rfl⟩ := List.mem_map.1 hr; rfl
theorem su_get {l : List Su} {i : Nat} {x : Su} (h : l[i]? = some x) : (l.map suRow)[i]? = some [.s (txt x.tp), .i .i64 x.mode, .b x.fl] := by rw [List.getElem?_map, h]; rfl
theorem co_get {l : List (List UInt8 × Nat)} {i : Nat} {x : List UInt8 × Nat} (h : l[i]? = some x) : (l.map coRow)[i]? = some [.s (txt x.1), .i .i64 ((x.2 : Nat) : Int)] := by rw [List.getElem?_map, h]; rfl
theorem sget_none {tp : List UInt8} : ∀ {l : List Su}, sget l tp = none → l.length ≤ l.findIdx (sfP tp)
  | [], _ => Nat.zero_le _
  | x :: l, h => by
    unfold sget at h
    split at h
    · cases h
    · rename_i hx
      rw [List.findIdx_cons, show sfP tp x = false from decide_eq_false hx]
      have := sget_none h
      simp only [List.length_cons, cond_false]; omega
theorem sget_some {tp : List UInt8} {m : Int} {f : Bool} : ∀ {l : List Su}, sget l tp = some (m, f) → l[l.findIdx (sfP tp)]? = some ⟨tp, m, f⟩
  | [], h => by cases h
  | x :: l, h => by
    unfold sget at h
    rw [List.findIdx_cons]
    split at h
    · rename_i hx
      rw [show sfP tp x = true from decide_eq_true hx]
      simp only [Option.some.injEq, Prod.mk.injEq] at h
      obtain ⟨rfl, rfl⟩ := h
      subst hx; rfl
    · rename_i hx
      rw [show sfP tp x = false from decide_eq_false hx]
      simpa using sget_some h
theorem sdel_eq {tp : List UInt8} : ∀ {l : List Su}, sdel l tp = l.eraseIdx (l.findIdx (sfP tp))
  | [] => rfl
  | x :: l => by
    unfold sdel
    rw [List.findIdx_cons]
    split
    · rename_i hx
      rw [show sfP tp x = true from decide_eq_true hx]; rfl
    · rename_i hx
      rw [show sfP tp x = false from decide_eq_false hx]
      simp only [cond_false, List.eraseIdx_cons_succ]
      rw [sdel_eq]
theorem sset_at {tp : List UInt8} {m m0 : Int} {f f0 : Bool} : ∀ {l : List Su}, sget l tp = some (m0, f0) → sset l tp m f = l.set (l.findIdx (sfP tp)) ⟨tp, m, f⟩
  | [], h => by cases h
  | x :: l, h => by
    unfold sget at h
    unfold sset
    rw [List.findIdx_cons]
    split at h
    · rename_i hx
      rw [if_pos hx, show sfP tp x = true from decide_eq_true hx]; rfl
    · rename_i hx
      rw [if_neg hx, show sfP tp x = false from decide_eq_false hx, sset_at h]; rfl
theorem sset_new {tp : List UInt8} {m : Int} {f : Bool} : ∀ {l : List Su}, sget l tp = none → sset l tp m f = l ++ [⟨tp, m, f⟩]
  | [], _ => rfl
  | x :: l, h => by
    unfold sget at h
    unfold sset
    split at h
    · cases h
    · rename_i hx
      rw [if_neg hx, sset_new h]; rfl
def Sdn (l : List Su) : Prop := (l.map Su.tp).Nodup
theorem sget_mem {tp : List UInt8} : ∀ {l : List Su}, tp ∉ l.map Su.tp → sget l tp = none
  | [], _ => rfl
  | x :: l, h => by
    simp only [List.map_cons, List.mem_cons, not_or] at h
    unfold sget
    rw [if_neg (fun e => h.1 e.symm)]
    exact sget_mem h.2
theorem sget_del {tp : List UInt8} : ∀ {l : List Su}, Sdn l → sget (sdel l tp) tp = none
  | [], _ => rfl
  | x :: l, h => by
    unfold Sdn at h
    rw [List.map_cons, List.nodup_cons] at h
    unfold sdel
    split
    · rename_i hx; subst hx; exact sget_mem h.1
    · rename_i hx
      unfold sget
      rw [if_neg hx]; exact sget_del h.2
theorem sdel_sub {tp : List UInt8} : ∀ {l : List Su}, (sdel l tp).Sublist l
  | [] => List.Sublist.refl _
  | x :: l => by
    unfold sdel
    split
    · exact List.sublist_cons_self _ _
    · exact sdel_sub.cons_cons _
theorem Sdn.del {tp : List UInt8} {l : List Su} (h : Sdn l) : Sdn (sdel l tp) := List.Nodup.sublist (List.Sublist.map _ sdel_sub) h
theorem sget_notmem {tp : List UInt8} : ∀ {l : List Su}, sget l tp = none → tp ∉ l.map Su.tp
  | [], _ => by simp
  | x :: l, h => by
    unfold sget at h
    split at h
    · cases h
    · rename_i hx
      simp only [List.map_cons, List.mem_cons, not_or]
      exact ⟨fun e => hx e.symm, sget_notmem h⟩
theorem sset_keys {tp : List UInt8} {m m0 : Int} {f f0 : Bool} : ∀ {l : List Su}, sget l tp = some (m0, f0) → (sset l tp m f).map Su.tp = l.map Su.tp
  | [], h => by cases h
  | x :: l, h => by
    unfold sget at h
    unfold sset
    split at h
    · rename_i hx; rw [if_pos hx]; simp [hx]
    · rename_i hx; rw [if_neg hx, List.map_cons, List.map_cons, sset_keys h]
theorem Sdn.set {tp : List UInt8} {m : Int} {f : Bool} {l : List Su} (h : Sdn l) : Sdn (sset l tp m f) := by
  cases hg : sget l tp with
  | none =>
    rw [sset_new hg]
    unfold Sdn
    rw [List.map_append, List.nodup_append]
    refine ⟨h, by simp, fun a ha b hb => ?_⟩
    have hn := sget_notmem hg
    simp only [List.map_cons, List.map_nil, List.mem_singleton] at hb
    subst hb
    intro e; subst e; exact hn ha
  | some q => obtain ⟨m0, f0⟩ := q; unfold Sdn; rw [sset_keys hg]; exact h
theorem cget_none {tp : List UInt8} : ∀ {l : List (List UInt8 × Nat)}, cget l tp = none → l.length ≤ l.findIdx (cfP tp)
  | [], _ => Nat.zero_le _
  | x :: l, h => by
    unfold cget at h
    split at h
    · cases h
    · rename_i hx
      rw [List.findIdx_cons, show cfP tp x = false from decide_eq_false hx]
      have := cget_none h
      simp only [List.length_cons, cond_false]; omega
theorem cget_some {tp : List UInt8} {n : Nat} : ∀ {l : List (List UInt8 × Nat)}, cget l tp = some n → l[l.findIdx (cfP tp)]? = some (tp, n)
  | [], h => by cases h
  | x :: l, h => by
    unfold cget at h
    rw [List.findIdx_cons]
    split at h
    · rename_i hx
      rw [show cfP tp x = true from decide_eq_true hx]
      cases h; subst hx; rfl
    · rename_i hx
      rw [show cfP tp x = false from decide_eq_false hx]
      simpa using cget_some h
theorem cset_at {tp : List UInt8} {n n0 : Nat} : ∀ {l : List (List UInt8 × Nat)}, cget l tp = some n0 → cset l tp n = l.set (l.findIdx (cfP tp)) (tp, n)
  | [], h => by cases h
  | x :: l, h => by
    unfold cget at h
    unfold cset
    rw [List.findIdx_cons]
    split at h
    · rename_i hx
      rw [if_pos hx, show cfP tp x = true from decide_eq_true hx]; rfl
    · rename_i hx
      rw [if_neg hx, show cfP tp x = false from decide_eq_false hx, cset_at h]; rfl
theorem cset_new {tp : List UInt8} {n : Nat} : ∀ {l : List (List UInt8 × Nat)}, cget l tp = none → cset l tp n = l ++ [(tp, n)]
  | [], _ => rfl
  | x :: l, h => by
    unfold cget at h
    unfold cset
    split at h
    · cases h
    · rename_i hx
      rw [if_neg hx, cset_new h]; rfl
structure Rp where
  sv : AV
  sc : List AV
  wv : AV
  wc : List AV
  rows : List (List AV)
  a : Pa
def rrow (on : Bool) (sv wv : AV) (lost : Int) : List AV := [.b on, sv, wv, .i .i64 lost]
def Rp.row (p : Rp) : List AV := rrow p.a.on p.sv p.wv ((p.a.lost : Nat) : Int)
def Rp.seg (p : Rp) : HL := qseg p.sv p.sc ++ qseg p.wv p.wc
structure Rp.ok (B : HL) (p : Rp) : Prop where
  ss : Sq 3 p.sv p.sc (p.a.sb.map suRow).flatten
  sq : Sq 5 p.wv p.wc p.rows.flatten
  ir : ItsR B p.rows p.a.w
def rp0 : Rp := ⟨.sl none 0 0 0, [], .sl none 0 0 0, [], [], pa0⟩
theorem rp0_ok (B : HL) : rp0.ok B := ⟨Sq.nil, Sq.nil, ItsR.nil⟩
def clampP (n : Int) : Nat := if 1 ≤ n ∧ n ≤ 16 then n.toNat else 16
theorem clampP_le (n : Int) : 1 ≤ clampP n ∧ clampP n ≤ 16 := by unfold clampP; split <;> omega
theorem clamp_pn {H : AH} {R : HL} {n : Int} (hH0 : Hs H R) : Ev tabA spA (.fn (.func 28) [] []) [.i .i64 n, .i .i64 16] H (fun r H' => r = .i .i64 ((clampP n : Nat) : Int) ∧ Hs H' R) := by
  by_cases h : 1 ≤ n ∧ n ≤ 16
  · have e : ((clampP n : Nat) : Int) = n := by unfold clampP; rw [if_pos h]; omega
    rw [e]; exact clamp_in h hH0
  · have e : ((clampP n : Nat) : Int) = 16 := by unfold clampP; rw [if_neg h]; rfl
    rw [e]; exact clamp_out h hH0
theorem flat_era {rows : List (List AV)} {k : Nat} : ([] ++ (rows.take k).flatten) ++ (rows.drop (k + 1)).flatten = (rows.eraseIdx k).flatten := by
  rw [List.nil_append, ← List.flatten_append, ← List.eraseIdx_eq_take_drop_succ]
theorem tk_len {rows : List (List AV)} {sz i : Nat} (h : ∀ x ∈ rows, x.length = sz) (hi : i ≤ rows.length) : (rows.take i).flatten.length = i * sz := by
  rw [flat_len (fun x hx => h x (List.mem_of_mem_take hx)), List.length_take, Nat.min_eq_left hi]
theorem dr_len {rows : List (List AV)} {sz i : Nat} (h : ∀ x ∈ rows, x.length = sz) : (rows.drop i).flatten.length = (rows.length - i) * sz := by
  rw [flat_len (fun x hx => h x (List.mem_of_mem_drop hx)), List.length_drop]
theorem fx_ne {α : Type} {P : α → Bool} {w : List α} {i : Nat} {x : α} (hi : i < w.findIdx P) (h : w[i]? = some x) : P x = false := by
  have hn := List.not_of_lt_findIdx hi
  rw [(List.getElem?_eq_some_iff.1 h).2] at hn
  simpa using hn
theorem fx_yes {α : Type} {P : α → Bool} {w : List α} {i : Nat} {x : α} (hi : w.findIdx P = i) (h : w[i]? = some x) : P x = true := by
  have hl := (List.getElem?_eq_some_iff.1 h).1
  have hg := List.findIdx_getElem (xs := w) (p := P) (w := by omega)
  simp only [hi] at hg
  rw [(List.getElem?_eq_some_iff.1 h).2] at hg
  exact hg
theorem there_yes {H : AH} {R : HL} {F Pb np room : Nat} {cv : AV} {n : Int} (hk : 0 ≤ n ∧ n < ((np : Nat) : Int)) (hH0 : Hs H ([(F, some (.cells [.sl (some (Pb, 0)) np np 0, .i .i64 ((room : Nat) : Int), cv] true))] ++ R)) : Ev tabA spA (.fn (.func 42) [] []) [.p (some (F, 0)), .i .i64 n] H (fun r H' => r = .b true ∧ Hs H' ([(F, some (.cells [.sl (some (Pb, 0)) np np 0, .i .i64 ((room : Nat) : Int), cv] true))] ++ R)) := by
  refine Ev_C (F := x42) rfl ?_
  refine C_seq ?_
  refine C_region ?_
  refine O_p (.b false) (r_mv rfl) ?_
  refine O_nil ?_
  refine C_seq ?_
  refine C_region ?_
  refine O_p (.i .i64 n) (r_mv rfl) ?_
  refine O_p (.b (decide (0 ≤ n))) (r_geq rfl rfl) ?_
  refine O_p (.b (decide (0 ≤ n))) (r_mv rfl) ?_
  refine O_gx (e := (decide (0 ≤ n))) (v := (.i .i64 n)) (wt rfl) (fun he => (r_mv rfl)) ?_
  refine O_gx (e := (decide (0 ≤ n))) (v := (.p (some (F, 0)))) (wt rfl) (fun he => (r_mv rfl)) ?_
  refine O_gx (e := (decide (0 ≤ n))) (v := (.p (some (F, 0)))) (wt rfl) (fun he => (r_nilc (cond_pos he))) ?_
  refine O_gx (e := (decide (0 ≤ n))) (v := (.p (some (F, 0)))) (wt rfl) (fun he => (r_fadd' (cond_pos he) rfl)) ?_
  refine O_gx (e := (decide (0 ≤ n))) (v := (.sl (some (Pb, 0)) np np 0)) (wt rfl) (fun he => (r_ld (cond_pos he) hH0.get0 rfl)) ?_
  refine O_gx (e := (decide (0 ≤ n))) (v := (.i .i64 (((np : Nat)) : Int))) (wt rfl) (fun he => (r_len (cond_pos he))) ?_
  refine O_gx (e := (decide (0 ≤ n))) (v := (.b (decide (n < (((np : Nat)) : Int))))) (wt rfl) (fun he => (r_lss (cond_pos he) (cond_pos he))) ?_
  refine O_p (.b ((decide (0 ≤ n)) && (decide (n < (((np : Nat)) : Int))))) (r_pick_and rfl rfl rfl rfl) ?_
  refine O_p (.b ((decide (0 ≤ n)) && (decide (n < (((np : Nat)) : Int))))) (r_mv rfl) ?_
  refine O_nil ?_
  refine C_ret ?_
  exact ⟨.inr rfl, _, resL_one (r_tmp (v := (.b ((decide (0 ≤ n)) && (decide (n < (((np : Nat)) : Int)))))) rfl), by first | rfl | (show AV.b _ = AV.b _; congr 1; simp only [Bool.and_eq_true, Bool.and_eq_false_iff, decide_eq_true_eq, decide_eq_false_iff_not, ge_iff_le]; omega), hH0⟩
theorem there_no {H : AH} {R : HL} {F Pb np room : Nat} {cv : AV} {n : Int} (hk : ¬ (0 ≤ n ∧ n < ((np : Nat) : Int))) (hH0 : Hs H ([(F, some (.cells [.sl (some (Pb, 0)) np np 0, .i .i64 ((room : Nat) : Int), cv] true))] ++ R)) : Ev tabA spA (.fn (.func 42) [] []) [.p (some (F, 0)), .i .i64 n] H (fun r H' => r = .b false ∧ Hs H' ([(F, some (.cells [.sl (some (Pb, 0)) np np 0, .i .i64 ((room : Nat) : Int), cv] true))] ++ R)) := by
  refine Ev_C (F := x42) rfl ?_
  refine C_seq ?_
  refine C_region ?_
  refine O_p (.b false) (r_mv rfl) ?_
  refine O_nil ?_
  refine C_seq ?_
  refine C_region ?_
  refine O_p (.i .i64 n) (r_mv rfl) ?_
  refine O_p (.b (decide (0 ≤ n))) (r_geq rfl rfl) ?_
  refine O_p (.b (decide (0 ≤ n))) (r_mv rfl) ?_
  refine O_gx (e := (decide (0 ≤ n))) (v := (.i .i64 n)) (wt rfl) (fun he => (r_mv rfl)) ?_
  refine O_gx (e := (decide (0 ≤ n))) (v := (.p (some (F, 0)))) (wt rfl) (fun he => (r_mv rfl)) ?_
  refine O_gx (e := (decide (0 ≤ n))) (v := (.p (some (F, 0)))) (wt rfl) (fun he => (r_nilc (cond_pos he))) ?_
  refine O_gx (e := (decide (0 ≤ n))) (v := (.p (some (F, 0)))) (wt rfl) (fun he => (r_fadd' (cond_pos he) rfl)) ?_
  refine O_gx (e := (decide (0 ≤ n))) (v := (.sl (some (Pb, 0)) np np 0)) (wt rfl) (fun he => (r_ld (cond_pos he) hH0.get0 rfl)) ?_
  refine O_gx (e := (decide (0 ≤ n))) (v := (.i .i64 (((np : Nat)) : Int))) (wt rfl) (fun he => (r_len (cond_pos he))) ?_
  refine O_gx (e := (decide (0 ≤ n))) (v := (.b (decide (n < (((np : Nat)) : Int))))) (wt rfl) (fun he => (r_lss (cond_pos he) (cond_pos he))) ?_
  refine O_p (.b ((decide (0 ≤ n)) && (decide (n < (((np : Nat)) : Int))))) (r_pick_and rfl rfl rfl rfl) ?_
  refine O_p (.b ((decide (0 ≤ n)) && (decide (n < (((np : Nat)) : Int))))) (r_mv rfl) ?_
  refine O_nil ?_
  refine C_ret ?_
  exact ⟨.inr rfl, _, resL_one (r_tmp (v := (.b ((decide (0 ≤ n)) && (decide (n < (((np : Nat)) : Int)))))) rfl), by first | rfl | (show AV.b _ = AV.b _; congr 1; simp only [Bool.and_eq_true, Bool.and_eq_false_iff, decide_eq_true_eq, decide_eq_false_iff_not, ge_iff_le]; omega), hH0⟩
set_option maxHeartbeats 1000000 in
theorem sat_ev {H : AH} {R : HL} {Pb i : Nat} {rws : List (List AV)} {on : Bool} {sv wv : AV} {sc : List AV} {sb : List Su} {lost : Int} {tp : List UInt8} (hrw : ∀ x ∈ rws, x.length = 4) (hi : i < rws.length) (hss : Sq 3 sv sc (sb.map suRow).flatten) (hsl : sb.length ≤ 1000000) (hH0 : Hs H ([(Pb, some (.cells (rws.set i (rrow on sv wv lost)).flatten true))] ++ (qseg sv sc ++ R))) : Ev tabA spA (.fn (.func 43) [] []) [.p (some (Pb, i * 4 + 0)), .s (txt tp)] H (fun r H' => r = .i .i64 (fxI (sfP tp) sb) ∧ Hs H' ([(Pb, some (.cells (rws.set i (rrow on sv wv lost)).flatten true))] ++ (qseg sv sc ++ R))) := by
  refine Ev_C (F := x43) rfl ?_
  refine C_seq ?_
  refine C_region ?_
  refine O_p (.i .i64 0) (r_mv rfl) ?_
  refine O_nil ?_
  refine C_seq ?_
  refine C_seq ?_
  refine C_region ?_
  refine O_p (.i .i64 0) (r_mv rfl) ?_
  refine O_nil ?_
  refine C_block ?_
  refine C_while (fun m1 T2 H3 => ∃ j : Nat, m1 = sb.length - j ∧ j ≤ sb.length ∧ j ≤ sb.findIdx (sfP tp) ∧ sb.length ≤ 1000000 ∧ Hs H3 ([(Pb, some (.cells (((rws).set i (rrow on sv wv lost)).flatten) true))] ++ ((qseg sv sc) ++ (R))) ∧ T2.get 0 = (.p (some (Pb, (i * 4 + 0)))) ∧ T2.get 1 = (.s (txt tp)) ∧ T2.get 5 = (.i .i64 (((j : Nat)) : Int))) (fun m1 T2 H3 hI4 => ?_) sb.length _ _ ⟨0, rfl, by omega, Nat.zero_le _, hsl, hH0, rfl, rfl, rfl⟩
  obtain ⟨j, hm5, hp6, hp7, hp8, hH12, hT9, hT10, hT11⟩ := hI4
  refine C_seq ?_
  refine C_seq ?_
  refine C_region ?_
  refine O_p (.i .i64 (((j : Nat)) : Int)) (r_mv hT11) ?_
  refine O_p (.p (some (Pb, (i * 4 + 0)))) (r_mv hT9) ?_
  refine O_p (.p (some (Pb, (i * 4 + 0)))) (r_nilc rfl) ?_
  refine O_p (.p (some (Pb, (i * 4 + 1)))) (r_fadd' rfl rfl) ?_
  refine O_p sv (by exact (r_ld rfl hH12.get0 ((foc_get hrw hi rfl (by decide)).trans rfl))) ?_
  refine O_p (.i .i64 (((sb.length : Nat)) : Int)) (by exact (by exact r_lenOf rfl (hss.lenOf ((flat_len (su_lens sb)).trans (by rw [List.length_map])) (by decide)) hss.isSl)) ?_
  refine O_p (.b (decide ((((j : Nat)) : Int) < (((sb.length : Nat)) : Int)))) (r_lss rfl rfl) ?_
  refine O_nil ?_
  refine C_cond (x := (decide ((((j : Nat)) : Int) < (((sb.length : Nat)) : Int)))) rfl (fun hc13 => ?_) (fun hc13 => ?_)
  ·
    try simp only [decide_eq_true_eq, decide_eq_false_iff_not, Bool.not_eq_true', Bool.not_eq_false', Bool.and_eq_true, Bool.or_eq_true, Bool.or_eq_false_iff, Bool.not_not, Bool.and_eq_false_iff] at hc13
    refine C_skip ?_
    refine C_seq ?_
    refine C_block ?_
    refine C_seq ?_
    refine C_region ?_
    have hjl : j < sb.length := by omega
    obtain ⟨su, hsi⟩ : ∃ x, sb[j]? = some x := ⟨_, List.getElem?_eq_getElem hjl⟩
    refine O_p (.p (some (Pb, (i * 4 + 0)))) (r_mv hT9) ?_
    refine O_p (.p (some (Pb, (i * 4 + 0)))) (r_nilc rfl) ?_
    refine O_p (.p (some (Pb, (i * 4 + 1)))) (r_fadd' rfl rfl) ?_
    refine O_p sv (by exact (r_ld rfl hH12.get0 ((foc_get hrw hi rfl (by decide)).trans rfl))) ?_
    refine O_p (.i .i64 (((j : Nat)) : Int)) (r_mv hT11) ?_
    refine O_q (by exact Sq.cell hss (su_lens sb) hH12.top1 rfl (i := j) rfl (r := [(.s (txt su.tp)), (.i .i64 su.mode), (.b su.fl)]) (su_get hsi) (by decide)) fun v15 hv14 => ?_
    obtain ⟨rb16, ro17, rfl, hrg18, hrt19, hrb20, hput21, hqs22⟩ := hv14
    refine O_p (.p (some (rb16, (ro17 + 0)))) (r_fadd' rfl rfl) ?_
    refine O_p (.s (txt su.tp)) (r_ldR (q := 0) rfl ⟨_, _, hrg18, hrt19⟩ rfl) ?_
    refine O_p (.s (txt tp)) (r_mv hT10) ?_
    refine O_p (.b (decide (su.tp = tp))) (r_eqt rfl rfl) ?_
    refine O_nil ?_
    refine C_cond (x := (decide (su.tp = tp))) rfl (fun hc23 => ?_) (fun hc23 => ?_)
    ·
      try simp only [decide_eq_true_eq, decide_eq_false_iff_not, Bool.not_eq_true', Bool.not_eq_false', Bool.and_eq_true, Bool.or_eq_true, Bool.or_eq_false_iff, Bool.not_not, Bool.and_eq_false_iff] at hc23
      have hP : sfP tp su = true := by first | exact decide_eq_true hc23 | simpa using hc23
      refine C_seq ?_
      refine C_region ?_
      refine O_p (.i .i64 (((j : Nat)) : Int)) (r_mv hT11) ?_
      refine O_p (.i .i64 (((j : Nat)) : Int)) (r_mv rfl) ?_
      refine O_nil ?_
      refine C_ret ?_
      refine bk_ret ?_
      refine nx_ret ?_
      refine nx_ret ?_
      refine bk_ret ?_
      refine nx_ret ?_
      have hH24 := ((hH12.top1).top1)
      exact ⟨.inr rfl, _, resL_one (r_tmp (v := (.i .i64 (((j : Nat)) : Int))) rfl), by rw [fxI_at hp7 hsi hP]; rfl, hH24⟩
    ·
      try simp only [decide_eq_true_eq, decide_eq_false_iff_not, Bool.not_eq_true', Bool.not_eq_false', Bool.and_eq_true, Bool.or_eq_true, Bool.or_eq_false_iff, Bool.not_not, Bool.and_eq_false_iff] at hc23
      have hP : sfP tp su = false := by first | exact decide_eq_false hc23 | simpa using hc23
      refine C_skip ?_
      refine C_region ?_
      refine O_p (.i .i64 (((j : Nat)) : Int)) (r_mv hT11) ?_
      refine O_p (.i .i64 ((((j : Nat)) : Int) + 1)) (by exact (r_addi rfl rfl (wrap_i64 (by omega) (by omega)))) ?_
      refine O_p (.i .i64 ((((j : Nat)) : Int) + 1)) (r_mv rfl) ?_
      refine O_nil ?_
      have hH25 := ((hH12.top1).top1)
      exact ⟨sb.length - (j + 1), by omega, (j + 1), rfl, by omega, fx_next hp7 hsi hP, by omega, hH25, hT9, hT10, rfl⟩
  ·
    try simp only [decide_eq_true_eq, decide_eq_false_iff_not, Bool.not_eq_true', Bool.not_eq_false', Bool.and_eq_true, Bool.or_eq_true, Bool.or_eq_false_iff, Bool.not_not, Bool.and_eq_false_iff] at hc13
    refine C_exit ?_
    refine nx_exit ?_
    refine nx_exit ?_
    refine bk_hit ?_
    refine C_seq ?_
    refine C_region ?_
    refine O_p (.i .i64 (-1)) (r_mv rfl) ?_
    refine O_nil ?_
    refine C_ret ?_
    have hH26 := ((hH12.top1).top1)
    exact ⟨.inr rfl, _, resL_one (r_tmp (v := (.i .i64 (-1))) rfl), by rw [fxI_none (by omega)]; rfl, hH26⟩
set_option maxHeartbeats 1000000 in
theorem rcount_ev {H : AH} {R : HL} {F Pb np room : Nat} {cv : AV} {cc : List AV} {cs : List (List UInt8 × Nat)} {tp : List UInt8} (hcs : Sq 2 cv cc (cs.map coRow).flatten) (hcl : cs.length ≤ 1000000) (hH0 : Hs H ([(F, some (.cells [.sl (some (Pb, 0)) np np 0, .i .i64 ((room : Nat) : Int), cv] true))] ++ (qseg cv cc ++ R))) : Ev tabA spA (.fn (.func 27) [] []) [.p (some (F, 0)), .s (txt tp)] H (fun r H' => r = .i .i64 (((cget cs tp).getD 0 : Nat) : Int) ∧ Hs H' ([(F, some (.cells [.sl (some (Pb, 0)) np np 0, .i .i64 ((room : Nat) : Int), cv] true))] ++ (qseg cv cc ++ R))) := by
  refine Ev_C (F := x27) rfl ?_
  refine C_seq ?_
  refine C_region ?_
  refine O_p (.i .i64 0) (r_mv rfl) ?_
  refine O_nil ?_
  refine C_seq ?_
  refine C_seq ?_
  refine C_region ?_
  refine O_p (.i .i64 0) (r_mv rfl) ?_
  refine O_nil ?_
  refine C_block ?_
  refine C_while (fun m1 T2 H3 => ∃ j : Nat, m1 = cs.length - j ∧ j ≤ cs.length ∧ j ≤ cs.findIdx (cfP tp) ∧ cs.length ≤ 1000000 ∧ Hs H3 ([(F, some (.cells ([(.sl (some (Pb, 0)) np np 0), (.i .i64 ((room : Nat) : Int)), cv]) true))] ++ ((qseg cv cc) ++ (R))) ∧ T2.get 0 = (.p (some (F, 0))) ∧ T2.get 1 = (.s (txt tp)) ∧ T2.get 5 = (.i .i64 (((j : Nat)) : Int))) (fun m1 T2 H3 hI4 => ?_) cs.length _ _ ⟨0, rfl, by omega, Nat.zero_le _, hcl, hH0, rfl, rfl, rfl⟩
  obtain ⟨j, hm5, hp6, hp7, hp8, hH12, hT9, hT10, hT11⟩ := hI4
  refine C_seq ?_
  refine C_seq ?_
  refine C_region ?_
  refine O_p (.i .i64 (((j : Nat)) : Int)) (r_mv hT11) ?_
  refine O_p (.p (some (F, 0))) (r_mv hT9) ?_
  refine O_p (.p (some (F, 0))) (r_nilc rfl) ?_
  refine O_p (.p (some (F, 2))) (r_fadd' rfl rfl) ?_
  refine O_p cv (r_ld rfl hH12.get0 rfl) ?_
  refine O_p (.i .i64 (((cs.length : Nat)) : Int)) (by exact (by exact r_lenOf rfl (hcs.lenOf ((flat_len (co_lens cs)).trans (by rw [List.length_map])) (by decide)) hcs.isSl)) ?_
  refine O_p (.b (decide ((((j : Nat)) : Int) < (((cs.length : Nat)) : Int)))) (r_lss rfl rfl) ?_
  refine O_nil ?_
  refine C_cond (x := (decide ((((j : Nat)) : Int) < (((cs.length : Nat)) : Int)))) rfl (fun hc13 => ?_) (fun hc13 => ?_)
  ·
    try simp only [decide_eq_true_eq, decide_eq_false_iff_not, Bool.not_eq_true', Bool.not_eq_false', Bool.and_eq_true, Bool.or_eq_true, Bool.or_eq_false_iff, Bool.not_not, Bool.and_eq_false_iff] at hc13
    refine C_skip ?_
    refine C_seq ?_
    refine C_block ?_
    refine C_seq ?_
    refine C_region ?_
    have hjl : j < cs.length := by omega
    obtain ⟨co, hci⟩ : ∃ x, cs[j]? = some x := ⟨_, List.getElem?_eq_getElem hjl⟩
    refine O_p (.p (some (F, 0))) (r_mv hT9) ?_
    refine O_p (.p (some (F, 0))) (r_nilc rfl) ?_
    refine O_p (.p (some (F, 2))) (r_fadd' rfl rfl) ?_
    refine O_p cv (r_ld rfl hH12.get0 rfl) ?_
    refine O_p (.i .i64 (((j : Nat)) : Int)) (r_mv hT11) ?_
    refine O_q (by exact Sq.cell hcs (co_lens cs) hH12.top1 rfl (i := j) rfl (r := [(.s (txt co.1)), (.i .i64 (((co.2 : Nat)) : Int))]) (co_get hci) (by decide)) fun v15 hv14 => ?_
    obtain ⟨rb16, ro17, rfl, hrg18, hrt19, hrb20, hput21, hqs22⟩ := hv14
    refine O_p (.p (some (rb16, (ro17 + 0)))) (r_fadd' rfl rfl) ?_
    refine O_p (.s (txt co.1)) (r_ldR (q := 0) rfl ⟨_, _, hrg18, hrt19⟩ rfl) ?_
    refine O_p (.s (txt tp)) (r_mv hT10) ?_
    refine O_p (.b (decide (co.1 = tp))) (r_eqt rfl rfl) ?_
    refine O_nil ?_
    refine C_cond (x := (decide (co.1 = tp))) rfl (fun hc23 => ?_) (fun hc23 => ?_)
    ·
      try simp only [decide_eq_true_eq, decide_eq_false_iff_not, Bool.not_eq_true', Bool.not_eq_false', Bool.and_eq_true, Bool.or_eq_true, Bool.or_eq_false_iff, Bool.not_not, Bool.and_eq_false_iff] at hc23
      have hP : cfP tp co = true := by first | exact decide_eq_true hc23 | simpa using hc23
      refine C_seq ?_
      refine C_region ?_
      refine O_p (.p (some (F, 0))) (r_mv hT9) ?_
      refine O_p (.p (some (F, 0))) (r_nilc rfl) ?_
      refine O_p (.p (some (F, 2))) (r_fadd' rfl rfl) ?_
      refine O_p cv (r_ld rfl hH12.get0 rfl) ?_
      refine O_p (.i .i64 (((j : Nat)) : Int)) (r_mv hT11) ?_
      refine O_q (by exact Sq.cell hcs (co_lens cs) hH12.top1 rfl (i := j) rfl (r := [(.s (txt co.1)), (.i .i64 (((co.2 : Nat)) : Int))]) (co_get hci) (by decide)) fun v25 hv24 => ?_
      obtain ⟨rb26, ro27, rfl, hrg28, hrt29, hrb30, hput31, hqs32⟩ := hv24
      refine O_p (.p (some (rb26, (ro27 + 1)))) (r_fadd' rfl rfl) ?_
      refine O_p (.i .i64 (((co.2 : Nat)) : Int)) (r_ldR (q := 1) rfl ⟨_, _, hrg28, hrt29⟩ rfl) ?_
      refine O_p (.i .i64 (((co.2 : Nat)) : Int)) (r_mv rfl) ?_
      refine O_nil ?_
      refine C_ret ?_
      refine bk_ret ?_
      refine nx_ret ?_
      refine nx_ret ?_
      refine bk_ret ?_
      refine nx_ret ?_
      have hH33 := ((hH12.top1).top1)
      exact ⟨.inr rfl, _, resL_one (r_tmp (v := (.i .i64 (((co.2 : Nat)) : Int))) rfl), by cases hg : cget cs tp with | none => exact absurd (cget_none hg) (by rw [fx_at hp7 hci hP]; omega) | some z => (have h9 := cget_some hg; rw [fx_at hp7 hci hP, hci] at h9; simp only [Option.some.injEq] at h9; rw [h9]; rfl), hH33⟩
    ·
      try simp only [decide_eq_true_eq, decide_eq_false_iff_not, Bool.not_eq_true', Bool.not_eq_false', Bool.and_eq_true, Bool.or_eq_true, Bool.or_eq_false_iff, Bool.not_not, Bool.and_eq_false_iff] at hc23
      have hP : cfP tp co = false := by first | exact decide_eq_false hc23 | simpa using hc23
      refine C_skip ?_
      refine C_region ?_
      refine O_p (.i .i64 (((j : Nat)) : Int)) (r_mv hT11) ?_
      refine O_p (.i .i64 ((((j : Nat)) : Int) + 1)) (by exact (r_addi rfl rfl (wrap_i64 (by omega) (by omega)))) ?_
      refine O_p (.i .i64 ((((j : Nat)) : Int) + 1)) (r_mv rfl) ?_
      refine O_nil ?_
      have hH34 := ((hH12.top1).top1)
      exact ⟨cs.length - (j + 1), by omega, (j + 1), rfl, by omega, fx_next hp7 hci hP, by omega, hH34, hT9, hT10, rfl⟩
  ·
    try simp only [decide_eq_true_eq, decide_eq_false_iff_not, Bool.not_eq_true', Bool.not_eq_false', Bool.and_eq_true, Bool.or_eq_true, Bool.or_eq_false_iff, Bool.not_not, Bool.and_eq_false_iff] at hc13
    refine C_exit ?_
    refine nx_exit ?_
    refine nx_exit ?_
    refine bk_hit ?_
    refine C_seq ?_
    refine C_region ?_
    refine O_p (.i .i64 0) (r_mv rfl) ?_
    refine O_nil ?_
    refine C_ret ?_
    have hH35 := ((hH12.top1).top1)
    exact ⟨.inr rfl, _, resL_one (r_tmp (v := (.i .i64 0)) rfl), by have hz : cget cs tp = none := by { cases hg : cget cs tp with | none => rfl | some z => exact absurd (List.getElem?_eq_some_iff.1 (cget_some hg)).1 (by omega) }; rw [hz]; rfl, hH35⟩


set_option linter.unusedVariables false
set_option linter.unusedSimpArgs false
theorem rjoin_nil {H : AH} {R : HL} {F Pb np room : Nat} {cv : AV} {n : Int} (hk : ¬ (0 ≤ n ∧ n < ((np : Nat) : Int))) (hH0 : Hs H ([(F, some (.cells [.sl (some (Pb, 0)) np np 0, .i .i64 ((room : Nat) : Int), cv] true))] ++ R)) : Ev tabA spA (.fn (.func 35) [] []) [.p (some (F, 0)), .i .i64 n] H (fun r H' => r = .i .i64 1 ∧ Hs H' ([(F, some (.cells [.sl (some (Pb, 0)) np np 0, .i .i64 ((room : Nat) : Int), cv] true))] ++ R)) := by
  refine Ev_C (F := x35) rfl ?_
  refine C_seq ?_
  refine C_region ?_
  refine O_p (.i .i64 0) (r_mv rfl) ?_
  refine O_nil ?_
  refine C_seq ?_
  refine C_seq ?_
  refine C_region ?_
  refine O_p (.p (some (F, 0))) (r_mv rfl) ?_
  refine O_p (.i .i64 n) (r_mv rfl) ?_
  refine O_call (Ev.mono (there_no hk hH0) fun v1 H2 hq3 => ?_)
  obtain ⟨rfl, hH4⟩ := hq3
  refine O_p (.b true) (r_un rfl rfl) ?_
  refine O_nil ?_
  refine C_cond (x := true) rfl (fun _ => ?_) (fun h => by cases h)
  refine C_seq ?_
  refine C_region ?_
  refine O_p (.i .i64 1) (r_mv rfl) ?_
  refine O_nil ?_
  refine C_ret ?_
  refine nx_ret ?_
  exact ⟨.inr rfl, _, resL_one (r_tmp (v := (.i .i64 1)) rfl), rfl, hH4⟩
theorem rleave_nil {H : AH} {R : HL} {F Pb np room : Nat} {cv : AV} {n : Int} (hk : ¬ (0 ≤ n ∧ n < ((np : Nat) : Int))) (hH0 : Hs H ([(F, some (.cells [.sl (some (Pb, 0)) np np 0, .i .i64 ((room : Nat) : Int), cv] true))] ++ R)) : Ev tabA spA (.fn (.func 36) [] []) [.p (some (F, 0)), .i .i64 n] H (fun r H' => r = .i .i64 1 ∧ Hs H' ([(F, some (.cells [.sl (some (Pb, 0)) np np 0, .i .i64 ((room : Nat) : Int), cv] true))] ++ R)) := by
  refine Ev_C (F := x36) rfl ?_
  refine C_seq ?_
  refine C_region ?_
  refine O_p (.i .i64 0) (r_mv rfl) ?_
  refine O_nil ?_
  refine C_seq ?_
  refine C_seq ?_
  refine C_region ?_
  refine O_p (.p (some (F, 0))) (r_mv rfl) ?_
  refine O_p (.i .i64 n) (r_mv rfl) ?_
  refine O_call (Ev.mono (there_no hk hH0) fun v1 H2 hq3 => ?_)
  obtain ⟨rfl, hH4⟩ := hq3
  refine O_p (.b true) (r_un rfl rfl) ?_
  refine O_nil ?_
  refine C_cond (x := true) rfl (fun _ => ?_) (fun h => by cases h)
  refine C_seq ?_
  refine C_region ?_
  refine O_p (.i .i64 1) (r_mv rfl) ?_
  refine O_nil ?_
  refine C_ret ?_
  refine nx_ret ?_
  exact ⟨.inr rfl, _, resL_one (r_tmp (v := (.i .i64 1)) rfl), rfl, hH4⟩
theorem rdrop_nil {H : AH} {R : HL} {F Pb np room : Nat} {cv : AV} {n : Int} {tp : List UInt8} (hk : ¬ (0 ≤ n ∧ n < ((np : Nat) : Int))) (hH0 : Hs H ([(F, some (.cells [.sl (some (Pb, 0)) np np 0, .i .i64 ((room : Nat) : Int), cv] true))] ++ R)) : Ev tabA spA (.fn (.func 38) [] []) [.p (some (F, 0)), .i .i64 n, .s (txt tp)] H (fun r H' => r = .i .i64 1 ∧ Hs H' ([(F, some (.cells [.sl (some (Pb, 0)) np np 0, .i .i64 ((room : Nat) : Int), cv] true))] ++ R)) := by
  refine Ev_C (F := x38) rfl ?_
  refine C_seq ?_
  refine C_region ?_
  refine O_p (.i .i64 0) (r_mv rfl) ?_
  refine O_nil ?_
  refine C_seq ?_
  refine C_seq ?_
  refine C_region ?_
  refine O_p (.p (some (F, 0))) (r_mv rfl) ?_
  refine O_p (.i .i64 n) (r_mv rfl) ?_
  refine O_call (Ev.mono (there_no hk hH0) fun v1 H2 hq3 => ?_)
  obtain ⟨rfl, hH4⟩ := hq3
  refine O_p (.b true) (r_un rfl rfl) ?_
  refine O_nil ?_
  refine C_cond (x := true) rfl (fun _ => ?_) (fun h => by cases h)
  refine C_seq ?_
  refine C_region ?_
  refine O_p (.i .i64 1) (r_mv rfl) ?_
  refine O_nil ?_
  refine C_ret ?_
  refine nx_ret ?_
  exact ⟨.inr rfl, _, resL_one (r_tmp (v := (.i .i64 1)) rfl), rfl, hH4⟩
theorem rsub_nil {H : AH} {R : HL} {F Pb np room : Nat} {cv : AV} {n : Int} {tp : List UInt8} {mode : Int} (hk : ¬ (0 ≤ n ∧ n < ((np : Nat) : Int))) (hH0 : Hs H ([(F, some (.cells [.sl (some (Pb, 0)) np np 0, .i .i64 ((room : Nat) : Int), cv] true))] ++ R)) : Ev tabA spA (.fn (.func 37) [] []) [.p (some (F, 0)), .i .i64 n, .s (txt tp), .i .i64 mode] H (fun r H' => r = .i .i64 1 ∧ Hs H' ([(F, some (.cells [.sl (some (Pb, 0)) np np 0, .i .i64 ((room : Nat) : Int), cv] true))] ++ R)) := by
  refine Ev_C (F := x37) rfl ?_
  refine C_seq ?_
  refine C_region ?_
  refine O_p (.i .i64 0) (r_mv rfl) ?_
  refine O_nil ?_
  refine C_seq ?_
  refine C_seq ?_
  refine C_region ?_
  refine O_p (.p (some (F, 0))) (r_mv rfl) ?_
  refine O_p (.i .i64 n) (r_mv rfl) ?_
  refine O_call (Ev.mono (there_no hk hH0) fun v1 H2 hq3 => ?_)
  obtain ⟨rfl, hH4⟩ := hq3
  refine O_p (.b true) (r_un rfl rfl) ?_
  refine O_p (.b true) (r_mv rfl) ?_
  refine O_gf rfl ?_
  refine O_gf rfl ?_
  refine O_p (.b true) (r_pick_t rfl rfl) ?_
  refine O_p (.b true) (r_mv rfl) ?_
  refine O_gf rfl ?_
  refine O_gf rfl ?_
  refine O_p (.b true) (r_pick_t rfl rfl) ?_
  refine O_p (.b true) (r_mv rfl) ?_
  refine O_gf rfl ?_
  refine O_gf rfl ?_
  refine O_p (.b true) (r_pick_t rfl rfl) ?_
  refine O_nil ?_
  refine C_cond (x := true) rfl (fun _ => ?_) (fun h => by cases h)
  refine C_seq ?_
  refine C_region ?_
  refine O_p (.i .i64 1) (r_mv rfl) ?_
  refine O_nil ?_
  refine C_ret ?_
  refine nx_ret ?_
  exact ⟨.inr rfl, _, resL_one (r_tmp (v := (.i .i64 1)) rfl), rfl, hH4⟩
theorem rfailed_nil {H : AH} {R : HL} {F Pb np room : Nat} {cv : AV} {n : Int} {tp : List UInt8} (hk : ¬ (0 ≤ n ∧ n < ((np : Nat) : Int))) (hH0 : Hs H ([(F, some (.cells [.sl (some (Pb, 0)) np np 0, .i .i64 ((room : Nat) : Int), cv] true))] ++ R)) : Ev tabA spA (.fn (.func 26) [] []) [.p (some (F, 0)), .i .i64 n, .s (txt tp)] H (fun r H' => r = .b false ∧ Hs H' ([(F, some (.cells [.sl (some (Pb, 0)) np np 0, .i .i64 ((room : Nat) : Int), cv] true))] ++ R)) := by
  refine Ev_C (F := x26) rfl ?_
  refine C_seq ?_
  refine C_region ?_
  refine O_p (.b false) (r_mv rfl) ?_
  refine O_nil ?_
  refine C_seq ?_
  refine C_seq ?_
  refine C_region ?_
  refine O_p (.p (some (F, 0))) (r_mv rfl) ?_
  refine O_p (.i .i64 n) (r_mv rfl) ?_
  refine O_call (Ev.mono (there_no hk hH0) fun v1 H2 hq3 => ?_)
  obtain ⟨rfl, hH4⟩ := hq3
  refine O_p (.b true) (r_un rfl rfl) ?_
  refine O_nil ?_
  refine C_cond (x := true) rfl (fun _ => ?_) (fun h => by cases h)
  refine C_seq ?_
  refine C_region ?_
  refine O_p (.b false) (r_mv rfl) ?_
  refine O_nil ?_
  refine C_ret ?_
  refine nx_ret ?_
  exact ⟨.inr rfl, _, resL_one (r_tmp (v := (.b false)) rfl), rfl, hH4⟩
theorem rpub_nil {H : AH} {R : HL} {F Pb np room : Nat} {cv : AV} {n : Int} {tp dd : List UInt8} {tx : Bool} {da : Option (Nat × Nat)} {dc dg : Nat} (hk : ¬ (0 ≤ n ∧ n < ((np : Nat) : Int))) (hH0 : Hs H ([(F, some (.cells [.sl (some (Pb, 0)) np np 0, .i .i64 ((room : Nat) : Int), cv] true))] ++ R)) : Ev tabA spA (.fn (.func 39) [] []) [.p (some (F, 0)), .i .i64 n, .s (txt tp), .b tx, .sl da dd.length dc dg] H (fun r H' => r = .tup [.i .i64 0, .i .i64 1] ∧ Hs H' ([(F, some (.cells [.sl (some (Pb, 0)) np np 0, .i .i64 ((room : Nat) : Int), cv] true))] ++ R)) := by
  refine Ev_C (F := x39) rfl ?_
  refine C_seq ?_
  refine C_region ?_
  refine O_p (.i .i64 0) (r_mv rfl) ?_
  refine O_p (.i .i64 0) (r_mv rfl) ?_
  refine O_nil ?_
  refine C_seq ?_
  refine C_seq ?_
  refine C_region ?_
  refine O_p (.p (some (F, 0))) (r_mv rfl) ?_
  refine O_p (.i .i64 n) (r_mv rfl) ?_
  refine O_call (Ev.mono (there_no hk hH0) fun v1 H2 hq3 => ?_)
  obtain ⟨rfl, hH4⟩ := hq3
  refine O_p (.b true) (r_un rfl rfl) ?_
  refine O_p (.b true) (r_mv rfl) ?_
  refine O_gf rfl ?_
  refine O_gf rfl ?_
  refine O_p (.b true) (r_pick_t rfl rfl) ?_
  refine O_nil ?_
  refine C_cond (x := true) rfl (fun _ => ?_) (fun h => by cases h)
  refine C_seq ?_
  refine C_region ?_
  refine O_p (.i .i64 0) (r_mv rfl) ?_
  refine O_p (.i .i64 1) (r_mv rfl) ?_
  refine O_nil ?_
  refine C_ret ?_
  refine nx_ret ?_
  exact ⟨.inr rfl, _, resL_cons (r_tmp (v := (.i .i64 0)) rfl) (resL_one (r_tmp (v := (.i .i64 1)) rfl)), rfl, hH4⟩
theorem rpull_nil {H : AH} {R : HL} {F Pb np room : Nat} {cv : AV} {n : Int} (hk : ¬ (0 ≤ n ∧ n < ((np : Nat) : Int))) (hH0 : Hs H ([(F, some (.cells [.sl (some (Pb, 0)) np np 0, .i .i64 ((room : Nat) : Int), cv] true))] ++ R)) : Ev tabA spA (.fn (.func 40) [] []) [.p (some (F, 0)), .i .i64 n] H (fun r H' => r = .tup [.agg [.s (txt []), .i .i64 0, .i .i64 0, .b false, .sl none 0 0 0], .b false] ∧ Hs H' ([(F, some (.cells [.sl (some (Pb, 0)) np np 0, .i .i64 ((room : Nat) : Int), cv] true))] ++ R)) := by
  refine Ev_C (F := x40) rfl ?_
  refine C_seq ?_
  refine C_region ?_
  refine O_alloc fun n1 H2 hN3 => ?_
  have hH4 := hH0.new hN3
  refine O_p (.b false) (r_mv rfl) ?_
  refine O_nil ?_
  refine C_seq ?_
  refine C_seq ?_
  refine C_region ?_
  refine O_p (.p (some (F, 0))) (r_mv rfl) ?_
  refine O_p (.i .i64 n) (r_mv rfl) ?_
  have hH5 := (hH4.top1)
  refine O_call (Ev.mono (there_no hk hH5) fun v6 H7 hq8 => ?_)
  obtain ⟨rfl, hH9⟩ := hq8
  refine O_p (.b true) (r_un rfl rfl) ?_
  refine O_p (.b true) (r_mv rfl) ?_
  refine O_gf rfl ?_
  refine O_gf rfl ?_
  refine O_gf rfl ?_
  refine O_gf rfl ?_
  refine O_gf rfl ?_
  refine O_gf rfl ?_
  refine O_gf rfl ?_
  refine O_gf rfl ?_
  refine O_gf rfl ?_
  refine O_gf rfl ?_
  refine O_p (.b true) (r_pick_t rfl rfl) ?_
  refine O_nil ?_
  refine C_cond (x := true) rfl (fun _ => ?_) (fun h => by cases h)
  refine C_seq ?_
  refine C_region ?_
  refine O_p (.agg [(.s ⟨#[]⟩), (.i .i64 0), (.i .i64 0), (.b false), (.sl none 0 0 0)]) (r_build rfl) ?_
  refine O_store (vs := [(.s ⟨#[]⟩), (.i .i64 0), (.i .i64 0), (.b false), (.sl none 0 0 0)]) (c' := [(.s ⟨#[]⟩), (.i .i64 0), (.i .i64 0), (.b false), (.sl none 0 0 0)]) rfl (by rfl) hH9.get1 rfl (List.cons_ne_nil _ _) (Nat.le_of_ble_eq_true rfl) rfl fun H10 hW11 => ?_
  have hH12 := hH9.wr1 hW11
  refine O_p (.b false) (r_mv rfl) ?_
  refine O_nil ?_
  refine C_ret ?_
  refine nx_ret ?_
  have hcell := hH12.get1
  have hH13 := (hH12.sub1)
  exact ⟨.inr rfl, _, resL_cons (r_cellA (l := [(.s ⟨#[]⟩), (.i .i64 0), (.i .i64 0), (.b false), (.sl none 0 0 0)]) rfl hcell rfl) (resL_one (r_tmp (v := .b false) rfl)), rfl, hH13⟩
theorem rof_nil {H : AH} {R : HL} {F Pb np room : Nat} {cv : AV} {n : Int} (hk : ¬ (0 ≤ n ∧ n < ((np : Nat) : Int))) (hH0 : Hs H ([(F, some (.cells [.sl (some (Pb, 0)) np np 0, .i .i64 ((room : Nat) : Int), cv] true))] ++ R)) : Ev tabA spA (.fn (.func 25) [] []) [.p (some (F, 0)), .i .i64 n] H (fun r H' => r = .agg [.b false, .sl none 0 0 0, .sl none 0 0 0, .i .i64 0] ∧ Hs H' ([(F, some (.cells [.sl (some (Pb, 0)) np np 0, .i .i64 ((room : Nat) : Int), cv] true))] ++ R)) := by
  refine Ev_C (F := x25) rfl ?_
  refine C_seq ?_
  refine C_region ?_
  refine O_alloc fun n1 H2 hN3 => ?_
  have hH4 := hH0.new hN3
  refine O_nil ?_
  refine C_seq ?_
  refine C_seq ?_
  refine C_region ?_
  refine O_p (.p (some (F, 0))) (r_mv rfl) ?_
  refine O_p (.i .i64 n) (r_mv rfl) ?_
  have hH5 := (hH4.top1)
  refine O_call (Ev.mono (there_no hk hH5) fun v6 H7 hq8 => ?_)
  obtain ⟨rfl, hH9⟩ := hq8
  refine O_p (.b true) (r_un rfl rfl) ?_
  refine O_nil ?_
  refine C_cond (x := true) rfl (fun _ => ?_) (fun h => by cases h)
  refine C_seq ?_
  refine C_region ?_
  refine O_p (.agg [(.b false), (.sl none 0 0 0), (.sl none 0 0 0), (.i .i64 0)]) (r_build rfl) ?_
  refine O_store (vs := [(.b false), (.sl none 0 0 0), (.sl none 0 0 0), (.i .i64 0)]) (c' := [(.b false), (.sl none 0 0 0), (.sl none 0 0 0), (.i .i64 0)]) rfl (by rfl) hH9.get1 rfl (List.cons_ne_nil _ _) (Nat.le_of_ble_eq_true rfl) rfl fun H10 hW11 => ?_
  have hH12 := hH9.wr1 hW11
  refine O_nil ?_
  refine C_ret ?_
  refine nx_ret ?_
  have hcell := hH12.get1
  have hH13 := (hH12.sub1)
  exact ⟨.inr rfl, _, resL_one (r_cellA (l := [(.b false), (.sl none 0 0 0), (.sl none 0 0 0), (.i .i64 0)]) rfl hcell rfl), rfl, hH13⟩
set_option maxHeartbeats 1000000 in
theorem rjoin_on {H : AH} {R : HL} {F Pb np i room : Nat} {rws : List (List AV)} {cv : AV} {sv wv : AV} {lost : Int} (hk : i < np) (hrw : ∀ x ∈ rws, x.length = 4) (hi : i < rws.length)  (hH0 : Hs H ([(F, some (.cells ([(.sl (some (Pb, 0)) np np 0), (.i .i64 ((room : Nat) : Int)), cv]) true))] ++ ([(Pb, some (.cells (((rws).set i (rrow true sv wv lost)).flatten) true))] ++ (R)))) : Ev tabA spA (.fn (.func 35) [] []) [.p (some (F, 0)), .i .i64 ((i : Nat) : Int)] H (fun r H' => r = .i .i64 8 ∧ Hs H' ([(F, some (.cells ([(.sl (some (Pb, 0)) np np 0), (.i .i64 ((room : Nat) : Int)), cv]) true))] ++ ([(Pb, some (.cells (((rws).set i (rrow true sv wv lost)).flatten) true))] ++ (R)))) := by
  refine Ev_C (F := x35) rfl ?_
  refine C_seq ?_
  refine C_region ?_
  refine O_p (.i .i64 0) (r_mv rfl) ?_
  refine O_nil ?_
  refine C_seq ?_
  refine C_seq ?_
  refine C_region ?_
  refine O_p (.p (some (F, 0))) (r_mv rfl) ?_
  refine O_p (.i .i64 ((i : Nat) : Int)) (r_mv rfl) ?_
  refine O_call (Ev.mono (there_yes ⟨by omega, by omega⟩ hH0) fun v1 H2 hq3 => ?_)
  obtain ⟨rfl, hH4⟩ := hq3
  refine O_p (.b false) (r_un rfl rfl) ?_
  refine O_nil ?_
  refine C_cond (x := false) rfl (fun h => by cases h) (fun _ => ?_)
  refine C_skip ?_
  refine C_seq ?_
  refine C_seq ?_
  refine C_region ?_
  refine O_p (.p (some (F, 0))) (r_mv rfl) ?_
  refine O_p (.p (some (F, 0))) (r_nilc rfl) ?_
  refine O_p (.p (some (F, 0))) (r_fadd' rfl rfl) ?_
  refine O_p (.sl (some (Pb, 0)) np np 0) (r_ld rfl hH4.get0 rfl) ?_
  refine O_p (.i .i64 ((i : Nat) : Int)) (r_mv rfl) ?_
  refine O_p (.p (some (Pb, (i * 4 + 0)))) (by exact (r_islr (b := Pb) (k := i) (len := np) (cap := np) (g := 0) rfl rfl (by omega))) ?_
  refine O_p (.p (some (Pb, (i * 4 + 0)))) (r_fadd' rfl rfl) ?_
  refine O_p (.b true) (by exact (r_ld rfl hH4.get1 ((foc_get hrw hi rfl (by decide)).trans rfl))) ?_
  refine O_nil ?_
  refine C_cond (x := true) rfl (fun _ => ?_) (fun h => by cases h)
  refine C_seq ?_
  refine C_region ?_
  refine O_p (.i .i64 8) (r_mv rfl) ?_
  refine O_nil ?_
  refine C_ret ?_
  refine nx_ret ?_
  have hH5 := ((hH4.top1).top1)
  exact ⟨.inr rfl, _, resL_one (r_tmp (v := (.i .i64 8)) rfl), rfl, hH5⟩
set_option maxHeartbeats 1000000 in
theorem rjoin_off {H : AH} {R : HL} {F Pb np i room : Nat} {rws : List (List AV)} {cv : AV} {sv wv : AV} {lost : Int} (hk : i < np) (hrw : ∀ x ∈ rws, x.length = 4) (hi : i < rws.length)  (hH0 : Hs H ([(F, some (.cells ([(.sl (some (Pb, 0)) np np 0), (.i .i64 ((room : Nat) : Int)), cv]) true))] ++ ([(Pb, some (.cells (((rws).set i (rrow false sv wv lost)).flatten) true))] ++ (R)))) : Ev tabA spA (.fn (.func 35) [] []) [.p (some (F, 0)), .i .i64 ((i : Nat) : Int)] H (fun r H' => r = .i .i64 0 ∧ Hs H' ([(F, some (.cells ([(.sl (some (Pb, 0)) np np 0), (.i .i64 ((room : Nat) : Int)), cv]) true))] ++ ([(Pb, some (.cells (((rws).set i (rrow true (.sl none 0 0 0) (.sl none 0 0 0) 0)).flatten) true))] ++ (R)))) := by
  refine Ev_C (F := x35) rfl ?_
  refine C_seq ?_
  refine C_region ?_
  refine O_p (.i .i64 0) (r_mv rfl) ?_
  refine O_nil ?_
  refine C_seq ?_
  refine C_seq ?_
  refine C_region ?_
  refine O_p (.p (some (F, 0))) (r_mv rfl) ?_
  refine O_p (.i .i64 ((i : Nat) : Int)) (r_mv rfl) ?_
  refine O_call (Ev.mono (there_yes ⟨by omega, by omega⟩ hH0) fun v1 H2 hq3 => ?_)
  obtain ⟨rfl, hH4⟩ := hq3
  refine O_p (.b false) (r_un rfl rfl) ?_
  refine O_nil ?_
  refine C_cond (x := false) rfl (fun h => by cases h) (fun _ => ?_)
  refine C_skip ?_
  refine C_seq ?_
  refine C_seq ?_
  refine C_region ?_
  refine O_p (.p (some (F, 0))) (r_mv rfl) ?_
  refine O_p (.p (some (F, 0))) (r_nilc rfl) ?_
  refine O_p (.p (some (F, 0))) (r_fadd' rfl rfl) ?_
  refine O_p (.sl (some (Pb, 0)) np np 0) (r_ld rfl hH4.get0 rfl) ?_
  refine O_p (.i .i64 ((i : Nat) : Int)) (r_mv rfl) ?_
  refine O_p (.p (some (Pb, (i * 4 + 0)))) (by exact (r_islr (b := Pb) (k := i) (len := np) (cap := np) (g := 0) rfl rfl (by omega))) ?_
  refine O_p (.p (some (Pb, (i * 4 + 0)))) (r_fadd' rfl rfl) ?_
  refine O_p (.b false) (by exact (r_ld rfl hH4.get1 ((foc_get hrw hi rfl (by decide)).trans rfl))) ?_
  refine O_nil ?_
  refine C_cond (x := false) rfl (fun h => by cases h) (fun _ => ?_)
  refine C_skip ?_
  refine C_seq ?_
  refine C_region ?_
  refine O_p (.p (some (F, 0))) (r_mv rfl) ?_
  refine O_p (.p (some (F, 0))) (r_nilc rfl) ?_
  refine O_p (.p (some (F, 0))) (r_fadd' rfl rfl) ?_
  refine O_p (.sl (some (Pb, 0)) np np 0) (r_ld rfl hH4.get0 rfl) ?_
  refine O_p (.i .i64 ((i : Nat) : Int)) (r_mv rfl) ?_
  refine O_p (.agg [(.b true), (.sl none 0 0 0), (.sl none 0 0 0), (.i .i64 0)]) (r_build rfl) ?_
  refine O_p (.p (some (Pb, (i * 4 + 0)))) (by exact (r_islr (b := Pb) (k := i) (len := np) (cap := np) (g := 0) rfl rfl (by omega))) ?_
  refine O_store (vs := [(.b true), (.sl none 0 0 0), (.sl none 0 0 0), (.i .i64 0)]) (c' := ((rws).set i (rrow true (.sl none 0 0 0) (.sl none 0 0 0) 0)).flatten) rfl (by rfl) hH4.get1 rfl (List.cons_ne_nil _ _) (foc_len (n := 4) hrw hi rfl (Nat.le_of_ble_eq_true rfl)) (foc_put hrw hi rfl (Nat.le_of_ble_eq_true rfl) rfl) fun H5 hW6 => ?_
  have hH7 := hH4.wr1 hW6
  refine O_nil ?_
  refine C_seq ?_
  refine C_region ?_
  refine O_p (.i .i64 0) (r_mv rfl) ?_
  refine O_nil ?_
  refine C_ret ?_
  have hH8 := ((hH7.top1).top1)
  exact ⟨.inr rfl, _, resL_one (r_tmp (v := (.i .i64 0)) rfl), rfl, hH8⟩
set_option maxHeartbeats 1000000 in
theorem rleave_on {H : AH} {R : HL} {F Pb np i room : Nat} {rws : List (List AV)} {cv : AV} {sv wv : AV} {lost : Int} (hk : i < np) (hrw : ∀ x ∈ rws, x.length = 4) (hi : i < rws.length)  (hH0 : Hs H ([(F, some (.cells ([(.sl (some (Pb, 0)) np np 0), (.i .i64 ((room : Nat) : Int)), cv]) true))] ++ ([(Pb, some (.cells (((rws).set i (rrow true sv wv lost)).flatten) true))] ++ (R)))) : Ev tabA spA (.fn (.func 36) [] []) [.p (some (F, 0)), .i .i64 ((i : Nat) : Int)] H (fun r H' => r = .i .i64 0 ∧ Hs H' ([(F, some (.cells ([(.sl (some (Pb, 0)) np np 0), (.i .i64 ((room : Nat) : Int)), cv]) true))] ++ ([(Pb, some (.cells (((rws).set i (rrow false (.sl none 0 0 0) (.sl none 0 0 0) 0)).flatten) true))] ++ (R)))) := by
  refine Ev_C (F := x36) rfl ?_
  refine C_seq ?_
  refine C_region ?_
  refine O_p (.i .i64 0) (r_mv rfl) ?_
  refine O_nil ?_
  refine C_seq ?_
  refine C_seq ?_
  refine C_region ?_
  refine O_p (.p (some (F, 0))) (r_mv rfl) ?_
  refine O_p (.i .i64 ((i : Nat) : Int)) (r_mv rfl) ?_
  refine O_call (Ev.mono (there_yes ⟨by omega, by omega⟩ hH0) fun v1 H2 hq3 => ?_)
  obtain ⟨rfl, hH4⟩ := hq3
  refine O_p (.b false) (r_un rfl rfl) ?_
  refine O_nil ?_
  refine C_cond (x := false) rfl (fun h => by cases h) (fun _ => ?_)
  refine C_skip ?_
  refine C_seq ?_
  refine C_seq ?_
  refine C_region ?_
  refine O_p (.p (some (F, 0))) (r_mv rfl) ?_
  refine O_p (.p (some (F, 0))) (r_nilc rfl) ?_
  refine O_p (.p (some (F, 0))) (r_fadd' rfl rfl) ?_
  refine O_p (.sl (some (Pb, 0)) np np 0) (r_ld rfl hH4.get0 rfl) ?_
  refine O_p (.i .i64 ((i : Nat) : Int)) (r_mv rfl) ?_
  refine O_p (.p (some (Pb, (i * 4 + 0)))) (by exact (r_islr (b := Pb) (k := i) (len := np) (cap := np) (g := 0) rfl rfl (by omega))) ?_
  refine O_p (.p (some (Pb, (i * 4 + 0)))) (r_fadd' rfl rfl) ?_
  refine O_p (.b true) (by exact (r_ld rfl hH4.get1 ((foc_get hrw hi rfl (by decide)).trans rfl))) ?_
  refine O_p (.b false) (r_un rfl rfl) ?_
  refine O_nil ?_
  refine C_cond (x := false) rfl (fun h => by cases h) (fun _ => ?_)
  refine C_skip ?_
  refine C_seq ?_
  refine C_region ?_
  refine O_p (.p (some (F, 0))) (r_mv rfl) ?_
  refine O_p (.p (some (F, 0))) (r_nilc rfl) ?_
  refine O_p (.p (some (F, 0))) (r_fadd' rfl rfl) ?_
  refine O_p (.sl (some (Pb, 0)) np np 0) (r_ld rfl hH4.get0 rfl) ?_
  refine O_p (.i .i64 ((i : Nat) : Int)) (r_mv rfl) ?_
  refine O_p (.agg [(.b false), (.sl none 0 0 0), (.sl none 0 0 0), (.i .i64 0)]) (r_build rfl) ?_
  refine O_p (.p (some (Pb, (i * 4 + 0)))) (by exact (r_islr (b := Pb) (k := i) (len := np) (cap := np) (g := 0) rfl rfl (by omega))) ?_
  refine O_store (vs := [(.b false), (.sl none 0 0 0), (.sl none 0 0 0), (.i .i64 0)]) (c' := ((rws).set i (rrow false (.sl none 0 0 0) (.sl none 0 0 0) 0)).flatten) rfl (by rfl) hH4.get1 rfl (List.cons_ne_nil _ _) (foc_len (n := 4) hrw hi rfl (Nat.le_of_ble_eq_true rfl)) (foc_put hrw hi rfl (Nat.le_of_ble_eq_true rfl) rfl) fun H5 hW6 => ?_
  have hH7 := hH4.wr1 hW6
  refine O_nil ?_
  refine C_seq ?_
  refine C_region ?_
  refine O_p (.i .i64 0) (r_mv rfl) ?_
  refine O_nil ?_
  refine C_ret ?_
  have hH8 := ((hH7.top1).top1)
  exact ⟨.inr rfl, _, resL_one (r_tmp (v := (.i .i64 0)) rfl), rfl, hH8⟩
set_option maxHeartbeats 1000000 in
theorem rleave_off {H : AH} {R : HL} {F Pb np i room : Nat} {rws : List (List AV)} {cv : AV} {sv wv : AV} {lost : Int} (hk : i < np) (hrw : ∀ x ∈ rws, x.length = 4) (hi : i < rws.length)  (hH0 : Hs H ([(F, some (.cells ([(.sl (some (Pb, 0)) np np 0), (.i .i64 ((room : Nat) : Int)), cv]) true))] ++ ([(Pb, some (.cells (((rws).set i (rrow false sv wv lost)).flatten) true))] ++ (R)))) : Ev tabA spA (.fn (.func 36) [] []) [.p (some (F, 0)), .i .i64 ((i : Nat) : Int)] H (fun r H' => r = .i .i64 11 ∧ Hs H' ([(F, some (.cells ([(.sl (some (Pb, 0)) np np 0), (.i .i64 ((room : Nat) : Int)), cv]) true))] ++ ([(Pb, some (.cells (((rws).set i (rrow false sv wv lost)).flatten) true))] ++ (R)))) := by
  refine Ev_C (F := x36) rfl ?_
  refine C_seq ?_
  refine C_region ?_
  refine O_p (.i .i64 0) (r_mv rfl) ?_
  refine O_nil ?_
  refine C_seq ?_
  refine C_seq ?_
  refine C_region ?_
  refine O_p (.p (some (F, 0))) (r_mv rfl) ?_
  refine O_p (.i .i64 ((i : Nat) : Int)) (r_mv rfl) ?_
  refine O_call (Ev.mono (there_yes ⟨by omega, by omega⟩ hH0) fun v1 H2 hq3 => ?_)
  obtain ⟨rfl, hH4⟩ := hq3
  refine O_p (.b false) (r_un rfl rfl) ?_
  refine O_nil ?_
  refine C_cond (x := false) rfl (fun h => by cases h) (fun _ => ?_)
  refine C_skip ?_
  refine C_seq ?_
  refine C_seq ?_
  refine C_region ?_
  refine O_p (.p (some (F, 0))) (r_mv rfl) ?_
  refine O_p (.p (some (F, 0))) (r_nilc rfl) ?_
  refine O_p (.p (some (F, 0))) (r_fadd' rfl rfl) ?_
  refine O_p (.sl (some (Pb, 0)) np np 0) (r_ld rfl hH4.get0 rfl) ?_
  refine O_p (.i .i64 ((i : Nat) : Int)) (r_mv rfl) ?_
  refine O_p (.p (some (Pb, (i * 4 + 0)))) (by exact (r_islr (b := Pb) (k := i) (len := np) (cap := np) (g := 0) rfl rfl (by omega))) ?_
  refine O_p (.p (some (Pb, (i * 4 + 0)))) (r_fadd' rfl rfl) ?_
  refine O_p (.b false) (by exact (r_ld rfl hH4.get1 ((foc_get hrw hi rfl (by decide)).trans rfl))) ?_
  refine O_p (.b true) (r_un rfl rfl) ?_
  refine O_nil ?_
  refine C_cond (x := true) rfl (fun _ => ?_) (fun h => by cases h)
  refine C_seq ?_
  refine C_region ?_
  refine O_p (.i .i64 11) (r_mv rfl) ?_
  refine O_nil ?_
  refine C_ret ?_
  refine nx_ret ?_
  have hH5 := ((hH4.top1).top1)
  exact ⟨.inr rfl, _, resL_one (r_tmp (v := (.i .i64 11)) rfl), rfl, hH5⟩
set_option maxHeartbeats 1000000 in
theorem rof_ev {H : AH} {R : HL} {F Pb np i room : Nat} {rws : List (List AV)} {cv : AV} {on : Bool} {sv wv : AV} {lost : Int} (hk : i < np) (hrw : ∀ x ∈ rws, x.length = 4) (hi : i < rws.length)  (hH0 : Hs H ([(F, some (.cells ([(.sl (some (Pb, 0)) np np 0), (.i .i64 ((room : Nat) : Int)), cv]) true))] ++ ([(Pb, some (.cells (((rws).set i (rrow on sv wv lost)).flatten) true))] ++ (R)))) : Ev tabA spA (.fn (.func 25) [] []) [.p (some (F, 0)), .i .i64 ((i : Nat) : Int)] H (fun r H' => r = .agg [.b on, sv, wv, .i .i64 lost] ∧ Hs H' ([(F, some (.cells ([(.sl (some (Pb, 0)) np np 0), (.i .i64 ((room : Nat) : Int)), cv]) true))] ++ ([(Pb, some (.cells (((rws).set i (rrow on sv wv lost)).flatten) true))] ++ (R)))) := by
  refine Ev_C (F := x25) rfl ?_
  refine C_seq ?_
  refine C_region ?_
  refine O_alloc fun n1 H2 hN3 => ?_
  have hH4 := hH0.new hN3
  refine O_nil ?_
  refine C_seq ?_
  refine C_seq ?_
  refine C_region ?_
  refine O_p (.p (some (F, 0))) (r_mv rfl) ?_
  refine O_p (.i .i64 ((i : Nat) : Int)) (r_mv rfl) ?_
  have hH5 := (hH4.top1)
  refine O_call (Ev.mono (there_yes ⟨by omega, by omega⟩ hH5) fun v6 H7 hq8 => ?_)
  obtain ⟨rfl, hH9⟩ := hq8
  refine O_p (.b false) (r_un rfl rfl) ?_
  refine O_nil ?_
  refine C_cond (x := false) rfl (fun h => by cases h) (fun _ => ?_)
  refine C_skip ?_
  refine C_seq ?_
  refine C_region ?_
  refine O_p (.p (some (F, 0))) (r_mv rfl) ?_
  refine O_p (.p (some (F, 0))) (r_nilc rfl) ?_
  refine O_p (.p (some (F, 0))) (r_fadd' rfl rfl) ?_
  refine O_p (.sl (some (Pb, 0)) np np 0) (r_ld rfl hH9.get0 rfl) ?_
  refine O_p (.i .i64 ((i : Nat) : Int)) (r_mv rfl) ?_
  refine O_p (.p (some (Pb, (i * 4 + 0)))) (by exact (r_islr (b := Pb) (k := i) (len := np) (cap := np) (g := 0) rfl rfl (by omega))) ?_
  refine O_p (.agg [(.b on), sv, wv, (.i .i64 lost)]) (by exact (r_ldA rfl hH9.get2 ((foc_take hrw hi rfl (by decide)).trans rfl))) ?_
  refine O_store (vs := [(.b on), sv, wv, (.i .i64 lost)]) (c' := [(.b on), sv, wv, (.i .i64 lost)]) rfl (by rfl) hH9.get1 rfl (List.cons_ne_nil _ _) (Nat.le_of_ble_eq_true rfl) rfl fun H10 hW11 => ?_
  have hH12 := hH9.wr1 hW11
  refine O_nil ?_
  refine C_ret ?_
  have hcell := hH12.get1
  have hH13 := (hH12.sub1)
  have hH14 := ((hH13.top1).top1)
  exact ⟨.inr rfl, _, resL_one (r_cellA (l := [(.b on), sv, wv, (.i .i64 lost)]) rfl hcell rfl), rfl, hH14⟩
set_option maxHeartbeats 1000000 in
theorem rfailed_no {H : AH} {R : HL} {F Pb np i room : Nat} {rws : List (List AV)} {cv : AV} {on : Bool} {sv wv : AV} {sc : List AV} {sb : List Su} {lost : Int} {tp : List UInt8} (hk : i < np) (hrw : ∀ x ∈ rws, x.length = 4) (hi : i < rws.length) (hss : Sq 3 sv sc (sb.map suRow).flatten) (hsl : sb.length ≤ 1000000) (hg : sget sb tp = none) (hH0 : Hs H ([(F, some (.cells ([(.sl (some (Pb, 0)) np np 0), (.i .i64 ((room : Nat) : Int)), cv]) true))] ++ ([(Pb, some (.cells (((rws).set i (rrow on sv wv lost)).flatten) true))] ++ ((qseg sv sc) ++ (R))))) : Ev tabA spA (.fn (.func 26) [] []) [.p (some (F, 0)), .i .i64 ((i : Nat) : Int), .s (txt tp)] H (fun r H' => r = .b false ∧ Hs H' ([(F, some (.cells ([(.sl (some (Pb, 0)) np np 0), (.i .i64 ((room : Nat) : Int)), cv]) true))] ++ ([(Pb, some (.cells (((rws).set i (rrow on sv wv lost)).flatten) true))] ++ ((qseg sv sc) ++ (R))))) := by
  refine Ev_C (F := x26) rfl ?_
  refine C_seq ?_
  refine C_region ?_
  refine O_p (.b false) (r_mv rfl) ?_
  refine O_nil ?_
  refine C_seq ?_
  refine C_seq ?_
  refine C_region ?_
  refine O_p (.p (some (F, 0))) (r_mv rfl) ?_
  refine O_p (.i .i64 ((i : Nat) : Int)) (r_mv rfl) ?_
  refine O_call (Ev.mono (there_yes ⟨by omega, by omega⟩ hH0) fun v1 H2 hq3 => ?_)
  obtain ⟨rfl, hH4⟩ := hq3
  refine O_p (.b false) (r_un rfl rfl) ?_
  refine O_nil ?_
  refine C_cond (x := false) rfl (fun h => by cases h) (fun _ => ?_)
  refine C_skip ?_
  refine C_seq ?_
  refine C_region ?_
  refine O_p (.p (some (F, 0))) (r_mv rfl) ?_
  refine O_p (.p (some (F, 0))) (r_nilc rfl) ?_
  refine O_p (.p (some (F, 0))) (r_fadd' rfl rfl) ?_
  refine O_p (.sl (some (Pb, 0)) np np 0) (r_ld rfl hH4.get0 rfl) ?_
  refine O_p (.i .i64 ((i : Nat) : Int)) (r_mv rfl) ?_
  refine O_p (.p (some (Pb, (i * 4 + 0)))) (by exact (r_islr (b := Pb) (k := i) (len := np) (cap := np) (g := 0) rfl rfl (by omega))) ?_
  refine O_p (.s (txt tp)) (r_mv rfl) ?_
  have hH5 := ((hH4.top2).top2)
  refine O_call (Ev.mono (sat_ev (tp := tp) hrw hi hss hsl hH5) fun v6 H7 hq8 => ?_)
  rw [fxI_none (sget_none hg)] at hq8
  obtain ⟨rfl, hH9⟩ := hq8
  refine O_p (.i .i64 (-1)) (r_mv rfl) ?_
  refine O_nil ?_
  refine C_seq ?_
  refine C_region ?_
  refine O_p (.i .i64 (-1)) (r_mv rfl) ?_
  refine O_p (.b false) (by exact (by rw [r_geq rfl rfl, decide_eq_false (by decide)])) ?_
  refine O_p (.b false) (r_mv rfl) ?_
  refine O_gf rfl ?_
  refine O_gf rfl ?_
  refine O_gf rfl ?_
  refine O_gf rfl ?_
  refine O_gf rfl ?_
  refine O_gf rfl ?_
  refine O_gf rfl ?_
  refine O_gf rfl ?_
  refine O_gf rfl ?_
  refine O_gf rfl ?_
  refine O_gf rfl ?_
  refine O_gf rfl ?_
  refine O_p (.b false) (r_pick_f rfl rfl) ?_
  refine O_p (.b false) (r_mv rfl) ?_
  refine O_nil ?_
  refine C_ret ?_
  have hH10 := (((hH9.top1).top1).top2)
  exact ⟨.inr rfl, _, resL_one (r_tmp (v := (.b false)) rfl), rfl, hH10⟩
set_option maxHeartbeats 1000000 in
theorem rfailed_is {H : AH} {R : HL} {F Pb np i room : Nat} {rws : List (List AV)} {cv : AV} {on : Bool} {sv wv : AV} {sc : List AV} {sb : List Su} {lost : Int} {tp : List UInt8} {md : Int} {fl : Bool} {k : Nat} (hk : i < np) (hrw : ∀ x ∈ rws, x.length = 4) (hi : i < rws.length) (hss : Sq 3 sv sc (sb.map suRow).flatten) (hsl : sb.length ≤ 1000000) (hfi : sb.findIdx (sfP tp) = k) (hsi : sb[k]? = some ⟨tp, md, fl⟩) (hH0 : Hs H ([(F, some (.cells ([(.sl (some (Pb, 0)) np np 0), (.i .i64 ((room : Nat) : Int)), cv]) true))] ++ ([(Pb, some (.cells (((rws).set i (rrow on sv wv lost)).flatten) true))] ++ ((qseg sv sc) ++ (R))))) : Ev tabA spA (.fn (.func 26) [] []) [.p (some (F, 0)), .i .i64 ((i : Nat) : Int), .s (txt tp)] H (fun r H' => r = .b fl ∧ Hs H' ([(F, some (.cells ([(.sl (some (Pb, 0)) np np 0), (.i .i64 ((room : Nat) : Int)), cv]) true))] ++ ([(Pb, some (.cells (((rws).set i (rrow on sv wv lost)).flatten) true))] ++ ((qseg sv sc) ++ (R))))) := by
  refine Ev_C (F := x26) rfl ?_
  refine C_seq ?_
  refine C_region ?_
  refine O_p (.b false) (r_mv rfl) ?_
  refine O_nil ?_
  refine C_seq ?_
  refine C_seq ?_
  refine C_region ?_
  refine O_p (.p (some (F, 0))) (r_mv rfl) ?_
  refine O_p (.i .i64 ((i : Nat) : Int)) (r_mv rfl) ?_
  refine O_call (Ev.mono (there_yes ⟨by omega, by omega⟩ hH0) fun v1 H2 hq3 => ?_)
  obtain ⟨rfl, hH4⟩ := hq3
  refine O_p (.b false) (r_un rfl rfl) ?_
  refine O_nil ?_
  refine C_cond (x := false) rfl (fun h => by cases h) (fun _ => ?_)
  refine C_skip ?_
  refine C_seq ?_
  refine C_region ?_
  refine O_p (.p (some (F, 0))) (r_mv rfl) ?_
  refine O_p (.p (some (F, 0))) (r_nilc rfl) ?_
  refine O_p (.p (some (F, 0))) (r_fadd' rfl rfl) ?_
  refine O_p (.sl (some (Pb, 0)) np np 0) (r_ld rfl hH4.get0 rfl) ?_
  refine O_p (.i .i64 ((i : Nat) : Int)) (r_mv rfl) ?_
  refine O_p (.p (some (Pb, (i * 4 + 0)))) (by exact (r_islr (b := Pb) (k := i) (len := np) (cap := np) (g := 0) rfl rfl (by omega))) ?_
  refine O_p (.s (txt tp)) (r_mv rfl) ?_
  have hH5 := ((hH4.top2).top2)
  refine O_call (Ev.mono (sat_ev (tp := tp) hrw hi hss hsl hH5) fun v6 H7 hq8 => ?_)
  rw [show fxI (sfP tp) sb = ((k : Nat) : Int) from by unfold fxI; rw [hfi, if_pos (List.getElem?_eq_some_iff.1 hsi).1]] at hq8
  obtain ⟨rfl, hH9⟩ := hq8
  refine O_p (.i .i64 (((k : Nat)) : Int)) (r_mv rfl) ?_
  refine O_nil ?_
  refine C_seq ?_
  refine C_region ?_
  have hkl : k < sb.length := (List.getElem?_eq_some_iff.1 hsi).1
  refine O_p (.i .i64 (((k : Nat)) : Int)) (r_mv rfl) ?_
  refine O_p (.b true) (by exact (by rw [r_geq rfl rfl, decide_eq_true (by omega)])) ?_
  refine O_p (.b true) (r_mv rfl) ?_
  refine O_gk rfl ?_
  refine O_p (.p (some (F, 0))) (r_mv rfl) ?_
  refine O_gk rfl ?_
  refine O_p (.p (some (F, 0))) (r_nilc rfl) ?_
  refine O_gk rfl ?_
  refine O_p (.p (some (F, 0))) (r_fadd' rfl rfl) ?_
  refine O_gk rfl ?_
  refine O_p (.sl (some (Pb, 0)) np np 0) (r_ld rfl hH9.get2 rfl) ?_
  refine O_gk rfl ?_
  refine O_p (.i .i64 ((i : Nat) : Int)) (r_mv rfl) ?_
  refine O_gk rfl ?_
  refine O_p (.p (some (Pb, (i * 4 + 0)))) (by exact (r_islr (b := Pb) (k := i) (len := np) (cap := np) (g := 0) rfl rfl (by omega))) ?_
  refine O_gk rfl ?_
  refine O_p (.p (some (Pb, (i * 4 + 1)))) (r_fadd' rfl rfl) ?_
  refine O_gk rfl ?_
  refine O_p sv (by exact (r_ld rfl hH9.get0 ((foc_get hrw hi rfl (by decide)).trans rfl))) ?_
  refine O_gk rfl ?_
  refine O_p (.i .i64 (((k : Nat)) : Int)) (r_mv rfl) ?_
  refine O_gk rfl ?_
  refine O_q (by exact Sq.cell hss (su_lens sb) hH9.top1 rfl (i := k) rfl (r := [(.s (txt tp)), (.i .i64 md), (.b fl)]) (su_get hsi) (by decide)) fun v11 hv10 => ?_
  obtain ⟨rb12, ro13, rfl, hrg14, hrt15, hrb16, hput17, hqs18⟩ := hv10
  refine O_gk rfl ?_
  refine O_p (.p (some (rb12, (ro13 + 2)))) (r_fadd' rfl rfl) ?_
  refine O_gk rfl ?_
  refine O_p (.b fl) (r_ldR (q := 2) rfl ⟨_, _, hrg14, hrt15⟩ rfl) ?_
  refine O_p (.b fl) (r_pick_t rfl rfl) ?_
  refine O_p (.b fl) (r_mv rfl) ?_
  refine O_nil ?_
  refine C_ret ?_
  have hH19 := (((hH9.top1).top1).top2)
  exact ⟨.inr rfl, _, resL_one (r_tmp (v := (.b fl)) rfl), rfl, hH19⟩
set_option maxHeartbeats 1000000 in
theorem rpull_ev {H : AH} {R : HL} {F Pb np i room : Nat} {rws : List (List AV)} {cv : AV} {on : Bool} {sv wv : AV} {wc : List AV} {rows : List (List AV)} {lost : Int} {tp : List UInt8} {frm num : Int} {tx : Bool} {dv : AV} (hk : i < np) (hrw : ∀ x ∈ rws, x.length = 4) (hi : i < rws.length) (hsq : Sq 5 wv wc ([(.s (txt tp)), (.i .i64 frm), (.i .i64 num), (.b tx), dv] :: rows).flatten) (hl5 : ∀ x ∈ ([(.s (txt tp)), (.i .i64 frm), (.i .i64 num), (.b tx), dv] :: rows), x.length = 5) (hH0 : Hs H ([(F, some (.cells ([(.sl (some (Pb, 0)) np np 0), (.i .i64 ((room : Nat) : Int)), cv]) true))] ++ ([(Pb, some (.cells (((rws).set i (rrow on sv wv lost)).flatten) true))] ++ ((qseg wv wc) ++ (R))))) : Ev tabA spA (.fn (.func 40) [] []) [.p (some (F, 0)), .i .i64 ((i : Nat) : Int)] H (fun r H' => ∃ v', r = .tup [.agg [(.s (txt tp)), (.i .i64 frm), (.i .i64 num), (.b tx), dv], .b true] ∧ Sq 5 v' wc rows.flatten ∧ Hs H' ([(F, some (.cells ([(.sl (some (Pb, 0)) np np 0), (.i .i64 ((room : Nat) : Int)), cv]) true))] ++ ([(Pb, some (.cells (((rws).set i (rrow on sv v' lost)).flatten) true))] ++ ((qseg v' wc) ++ (R))))) := by
  refine Ev_C (F := x40) rfl ?_
  refine C_seq ?_
  refine C_region ?_
  refine O_alloc fun n1 H2 hN3 => ?_
  have hH4 := hH0.new hN3
  refine O_p (.b false) (r_mv rfl) ?_
  refine O_nil ?_
  refine C_seq ?_
  refine C_seq ?_
  refine C_region ?_
  refine O_p (.p (some (F, 0))) (r_mv rfl) ?_
  refine O_p (.i .i64 ((i : Nat) : Int)) (r_mv rfl) ?_
  have hH5 := (hH4.top1)
  refine O_call (Ev.mono (there_yes ⟨by omega, by omega⟩ hH5) fun v6 H7 hq8 => ?_)
  obtain ⟨rfl, hH9⟩ := hq8
  refine O_p (.b false) (r_un rfl rfl) ?_
  refine O_p (.b false) (r_mv rfl) ?_
  refine O_gk rfl ?_
  refine O_p (.p (some (F, 0))) (r_mv rfl) ?_
  refine O_gk rfl ?_
  refine O_p (.p (some (F, 0))) (r_nilc rfl) ?_
  refine O_gk rfl ?_
  refine O_p (.p (some (F, 0))) (r_fadd' rfl rfl) ?_
  refine O_gk rfl ?_
  refine O_p (.sl (some (Pb, 0)) np np 0) (r_ld rfl hH9.get0 rfl) ?_
  refine O_gk rfl ?_
  refine O_p (.i .i64 ((i : Nat) : Int)) (r_mv rfl) ?_
  refine O_gk rfl ?_
  refine O_p (.p (some (Pb, (i * 4 + 0)))) (by exact (r_islr (b := Pb) (k := i) (len := np) (cap := np) (g := 0) rfl rfl (by omega))) ?_
  refine O_gk rfl ?_
  refine O_p (.p (some (Pb, (i * 4 + 2)))) (r_fadd' rfl rfl) ?_
  refine O_gk rfl ?_
  refine O_p wv (by exact (r_ld rfl hH9.get2 ((foc_get hrw hi rfl (by decide)).trans rfl))) ?_
  refine O_gk rfl ?_
  refine O_p (.i .i64 ((((rows.length + 1) : Nat)) : Int)) (by exact (by exact r_lenOf rfl (hsq.lenOf (flat_len hl5) (by decide)) hsq.isSl)) ?_
  refine O_gk rfl ?_
  refine O_p (.b false) (by exact (by rw [r_eql rfl rfl, decide_eq_false (by show ¬ (((rows.length + 1 : Nat) : Int) = 0); omega)])) ?_
  refine O_p (.b false) (r_pick_f rfl rfl) ?_
  refine O_nil ?_
  refine C_cond (x := false) rfl (fun h => by cases h) (fun _ => ?_)
  refine C_skip ?_
  refine C_seq ?_
  refine C_region ?_
  refine O_p (.p (some (F, 0))) (r_mv rfl) ?_
  refine O_p (.p (some (F, 0))) (r_nilc rfl) ?_
  refine O_p (.p (some (F, 0))) (r_fadd' rfl rfl) ?_
  refine O_p (.sl (some (Pb, 0)) np np 0) (r_ld rfl hH9.get0 rfl) ?_
  refine O_p (.i .i64 ((i : Nat) : Int)) (r_mv rfl) ?_
  refine O_p (.p (some (Pb, (i * 4 + 0)))) (by exact (r_islr (b := Pb) (k := i) (len := np) (cap := np) (g := 0) rfl rfl (by omega))) ?_
  refine O_p (.p (some (Pb, (i * 4 + 2)))) (r_fadd' rfl rfl) ?_
  refine O_p wv (by exact (r_ld rfl hH9.get2 ((foc_get hrw hi rfl (by decide)).trans rfl))) ?_
  refine O_q (by exact Sq.cell hsq hl5 hH9.top3 rfl (i := 0) rfl (r := [(.s (txt tp)), (.i .i64 frm), (.i .i64 num), (.b tx), dv]) rfl (by decide)) fun v11 hv10 => ?_
  obtain ⟨rb12, ro13, rfl, hrg14, hrt15, hrb16, hput17, hqs18⟩ := hv10
  refine O_p (.agg [(.s (txt tp)), (.i .i64 frm), (.i .i64 num), (.b tx), dv]) (r_ldRA (q := 0) rfl ⟨_, _, hrg14, hrt15⟩ rfl) ?_
  refine O_alloc fun n19 H20 hN21 => ?_
  have hH22 := hH9.new hN21
  refine O_store (vs := [(.s (txt tp)), (.i .i64 frm), (.i .i64 num), (.b tx), dv]) (c' := [(.s (txt tp)), (.i .i64 frm), (.i .i64 num), (.b tx), dv]) rfl (by rfl) hH22.get0 rfl (List.cons_ne_nil _ _) (Nat.le_of_ble_eq_true rfl) rfl fun H23 hW24 => ?_
  have hH25 := hH22.wr0 hW24
  refine O_nil ?_
  refine C_seq ?_
  refine C_draw fun b26 H27 hbase28 hA29 => ?_
  have hH30 := hH25.keep (by have := hA29.1; omega) (fun q _ => hA29.2 q) ((hH25.old).aside hA29).ok
  refine D_l (v := (.p (some (F, 0)))) rfl rfl rfl (r_mv rfl) ?_
  refine D_l (v := (.p (some (F, 0)))) rfl rfl rfl (r_nilc rfl) ?_
  refine D_l (v := (.p (some (F, 0)))) rfl rfl rfl (r_fadd' rfl rfl) ?_
  refine D_l (v := (.i .i64 ((i : Nat) : Int))) rfl rfl rfl (r_mv rfl) ?_
  refine D_l (v := (.p (some (F, 0)))) rfl rfl rfl (r_mv rfl) ?_
  refine D_l (v := (.p (some (F, 0)))) rfl rfl rfl (r_nilc rfl) ?_
  refine D_l (v := (.p (some (F, 0)))) rfl rfl rfl (r_fadd' rfl rfl) ?_
  refine D_l (v := (.i .i64 ((i : Nat) : Int))) rfl rfl rfl (r_mv rfl) ?_
  refine D_r (v := (.sl (some (Pb, 0)) np np 0)) rfl rfl rfl (r_ld rfl hH30.get1 rfl) ?_
  refine D_r (v := (.sl (some (Pb, 0)) np np 0)) rfl rfl rfl (r_ld rfl hH30.get1 rfl) ?_
  refine D_l (v := (.p (some (Pb, (i * 4 + 0))))) rfl rfl rfl (by exact (r_islr (b := Pb) (k := i) (len := np) (cap := np) (g := 0) rfl rfl (by omega))) ?_
  refine D_l (v := (.p (some (Pb, (i * 4 + 2))))) rfl rfl rfl (r_fadd' rfl rfl) ?_
  refine D_r (v := wv) rfl rfl rfl (by exact (r_ld rfl hH30.get3 ((foc_get hrw hi rfl (by decide)).trans rfl))) ?_
  refine D_q rfl rfl rfl (by exact Sq.suf (i := 1) hsq hl5 (by decide) (Nat.succ_pos _) rfl rfl (Nat.succ_le_succ (Nat.zero_le _))) fun v32 hv31 => ?_
  obtain ⟨hSq33, hqs34, qa35, qn36, qc37, qg38, rfl⟩ := hv31
  refine D_l (v := (.p (some (Pb, (i * 4 + 0))))) rfl rfl rfl (by exact (r_islr (b := Pb) (k := i) (len := np) (cap := np) (g := 0) rfl rfl (by omega))) ?_
  refine D_l (v := (.p (some (Pb, (i * 4 + 2))))) rfl rfl rfl (r_fadd' rfl rfl) ?_
  refine D_store (vs := [(.sl qa35 qn36 qc37 qg38)]) (c' := ((rws).set i (rrow on sv (.sl qa35 qn36 qc37 qg38) lost)).flatten) rfl (by rfl) hH30.get3 rfl (List.cons_ne_nil _ _) (foc_len (n := 1) hrw hi rfl (Nat.le_of_ble_eq_true rfl)) (foc_put hrw hi rfl (Nat.le_of_ble_eq_true rfl) rfl) fun H39 hW40 => ?_
  have hH41 := hH30.wr3 hW40
  refine And.intro (And.intro (Or.inl rfl) (And.intro (Or.inl rfl) (And.intro (Or.inl rfl) True.intro))) ?_
  refine D_nil ?_
  refine C_seq ?_
  refine C_region ?_
  refine O_p (.agg [(.s (txt tp)), (.i .i64 frm), (.i .i64 num), (.b tx), dv]) (r_ldA rfl hH41.get0 rfl) ?_
  refine O_store (vs := [(.s (txt tp)), (.i .i64 frm), (.i .i64 num), (.b tx), dv]) (c' := [(.s (txt tp)), (.i .i64 frm), (.i .i64 num), (.b tx), dv]) rfl (by rfl) hH41.get2 rfl (List.cons_ne_nil _ _) (Nat.le_of_ble_eq_true rfl) rfl fun H42 hW43 => ?_
  have hH44 := hH41.wr2 hW43
  refine O_p (.b true) (r_mv rfl) ?_
  refine O_nil ?_
  refine C_ret ?_
  have hcell := hH44.get2
  have hH45 := ((hH44.sub0).sub1)
  have hH46 := (((hH45.top2).top2).top2)
  exact ⟨.inr rfl, _, resL_cons (r_cellA (l := [(.s (txt tp)), (.i .i64 frm), (.i .i64 num), (.b tx), dv]) rfl hcell rfl) (resL_one (r_tmp (v := .b true) rfl)), (.sl qa35 qn36 qc37 qg38), rfl, hSq33, Hs.cong2 hH46 hqs34.symm⟩
set_option maxHeartbeats 1000000 in
theorem rpull0_ev {H : AH} {R : HL} {F Pb np i room : Nat} {rws : List (List AV)} {cv : AV} {on : Bool} {sv wv : AV} {wc : List AV} {rows : List (List AV)} {lost : Int} {tp : List UInt8} {frm num : Int} {tx : Bool} {dv : AV} (hk : i < np) (hrw : ∀ x ∈ rws, x.length = 4) (hi : i < rws.length) (hsq : Sq 5 wv wc ([] : List (List AV)).flatten) (hl5 : ∀ x ∈ ([] : List (List AV)), x.length = 5) (hH0 : Hs H ([(F, some (.cells ([(.sl (some (Pb, 0)) np np 0), (.i .i64 ((room : Nat) : Int)), cv]) true))] ++ ([(Pb, some (.cells (((rws).set i (rrow on sv wv lost)).flatten) true))] ++ ((qseg wv wc) ++ (R))))) : Ev tabA spA (.fn (.func 40) [] []) [.p (some (F, 0)), .i .i64 ((i : Nat) : Int)] H (fun r H' => r = .tup [.agg [.s (txt []), .i .i64 0, .i .i64 0, .b false, .sl none 0 0 0], .b false] ∧ Hs H' ([(F, some (.cells ([(.sl (some (Pb, 0)) np np 0), (.i .i64 ((room : Nat) : Int)), cv]) true))] ++ ([(Pb, some (.cells (((rws).set i (rrow on sv wv lost)).flatten) true))] ++ ((qseg wv wc) ++ (R))))) := by
  refine Ev_C (F := x40) rfl ?_
  refine C_seq ?_
  refine C_region ?_
  refine O_alloc fun n1 H2 hN3 => ?_
  have hH4 := hH0.new hN3
  refine O_p (.b false) (r_mv rfl) ?_
  refine O_nil ?_
  refine C_seq ?_
  refine C_seq ?_
  refine C_region ?_
  refine O_p (.p (some (F, 0))) (r_mv rfl) ?_
  refine O_p (.i .i64 ((i : Nat) : Int)) (r_mv rfl) ?_
  have hH5 := (hH4.top1)
  refine O_call (Ev.mono (there_yes ⟨by omega, by omega⟩ hH5) fun v6 H7 hq8 => ?_)
  obtain ⟨rfl, hH9⟩ := hq8
  refine O_p (.b false) (r_un rfl rfl) ?_
  refine O_p (.b false) (r_mv rfl) ?_
  refine O_gk rfl ?_
  refine O_p (.p (some (F, 0))) (r_mv rfl) ?_
  refine O_gk rfl ?_
  refine O_p (.p (some (F, 0))) (r_nilc rfl) ?_
  refine O_gk rfl ?_
  refine O_p (.p (some (F, 0))) (r_fadd' rfl rfl) ?_
  refine O_gk rfl ?_
  refine O_p (.sl (some (Pb, 0)) np np 0) (r_ld rfl hH9.get0 rfl) ?_
  refine O_gk rfl ?_
  refine O_p (.i .i64 ((i : Nat) : Int)) (r_mv rfl) ?_
  refine O_gk rfl ?_
  refine O_p (.p (some (Pb, (i * 4 + 0)))) (by exact (r_islr (b := Pb) (k := i) (len := np) (cap := np) (g := 0) rfl rfl (by omega))) ?_
  refine O_gk rfl ?_
  refine O_p (.p (some (Pb, (i * 4 + 2)))) (r_fadd' rfl rfl) ?_
  refine O_gk rfl ?_
  refine O_p wv (by exact (r_ld rfl hH9.get2 ((foc_get hrw hi rfl (by decide)).trans rfl))) ?_
  refine O_gk rfl ?_
  refine O_p (.i .i64 0) (by exact (by exact r_lenOf rfl (hsq.lenOf rfl (by decide)) hsq.isSl)) ?_
  refine O_gk rfl ?_
  refine O_p (.b true) (by exact (by rw [r_eql rfl rfl, decide_eq_true (by simp)])) ?_
  refine O_p (.b true) (r_pick_f rfl rfl) ?_
  refine O_nil ?_
  refine C_cond (x := true) rfl (fun _ => ?_) (fun h => by cases h)
  refine C_seq ?_
  refine C_region ?_
  refine O_p (.agg [(.s ⟨#[]⟩), (.i .i64 0), (.i .i64 0), (.b false), (.sl none 0 0 0)]) (r_build rfl) ?_
  refine O_store (vs := [(.s ⟨#[]⟩), (.i .i64 0), (.i .i64 0), (.b false), (.sl none 0 0 0)]) (c' := [(.s ⟨#[]⟩), (.i .i64 0), (.i .i64 0), (.b false), (.sl none 0 0 0)]) rfl (by rfl) hH9.get1 rfl (List.cons_ne_nil _ _) (Nat.le_of_ble_eq_true rfl) rfl fun H10 hW11 => ?_
  have hH12 := hH9.wr1 hW11
  refine O_p (.b false) (r_mv rfl) ?_
  refine O_nil ?_
  refine C_ret ?_
  refine nx_ret ?_
  have hcell := hH12.get1
  have hH13 := (hH12.sub1)
  have hH14 := (((hH13.top2).top2).top2)
  exact ⟨.inr rfl, _, resL_cons (r_cellA (l := [(.s ⟨#[]⟩), (.i .i64 0), (.i .i64 0), (.b false), (.sl none 0 0 0)]) rfl hcell rfl) (resL_one (r_tmp (v := .b false) rfl)), rfl, hH14⟩
theorem rnew_ev {H : AH} {R : HL} {pn room : Int} (hH0 : Hs H R) : Ev tabA spA (.fn (.func 23) [] []) [.i .i64 pn, .i .i64 room] H (fun r H' => ∃ F Pb, r = .p (some (F, 0)) ∧ Hs H' ([(F, some (.cells [.sl (some (Pb, 0)) (clampP pn) (clampP pn) 0, .i .i64 ((clampR room : Nat) : Int), .sl none 0 0 0] true))] ++ ([(Pb, some (.cells (List.replicate (clampP pn) (rrow false (.sl none 0 0 0) (.sl none 0 0 0) 0)).flatten true))] ++ R))) := by
  refine Ev_C (F := x23) rfl ?_
  refine C_seq ?_
  refine C_region ?_
  refine O_p (.p none) (r_mv rfl) ?_
  refine O_nil ?_
  refine C_seq ?_
  refine C_seq ?_
  by_cases hpi : 1 ≤ pn ∧ pn ≤ 16
  ·
    have hcp : ((clampP pn : Nat) : Int) = pn := by unfold clampP; rw [if_pos hpi]; omega
    refine C_region ?_
    refine O_p (.i .i64 pn) (r_mv rfl) ?_
    refine O_p (.b false) (by exact (by rw [r_lss rfl rfl, decide_eq_false (by omega)])) ?_
    refine O_p (.b false) (r_mv rfl) ?_
    refine O_gk rfl ?_
    refine O_p (.i .i64 pn) (r_mv rfl) ?_
    refine O_gk rfl ?_
    refine O_p (.b false) (by exact (by rw [r_gtr rfl rfl, decide_eq_false (by omega)])) ?_
    refine O_p (.b false) (r_pick_f rfl rfl) ?_
    refine O_nil ?_
    refine C_cond (x := false) rfl (fun h => by cases h) (fun _ => ?_)
    refine C_skip ?_
    refine C_seq ?_
    refine C_seq ?_
    by_cases hri : 1 ≤ room ∧ room ≤ 64
    ·
      have hcr : ((clampR room : Nat) : Int) = room := by unfold clampR; rw [if_pos hri]; omega
      refine C_region ?_
      refine O_p (.i .i64 room) (r_mv rfl) ?_
      refine O_p (.b false) (by exact (by rw [r_lss rfl rfl, decide_eq_false (by omega)])) ?_
      refine O_p (.b false) (r_mv rfl) ?_
      refine O_gk rfl ?_
      refine O_p (.i .i64 room) (r_mv rfl) ?_
      refine O_gk rfl ?_
      refine O_p (.b false) (by exact (by rw [r_gtr rfl rfl, decide_eq_false (by omega)])) ?_
      refine O_p (.b false) (r_pick_f rfl rfl) ?_
      refine O_nil ?_
      refine C_cond (x := false) rfl (fun h => by cases h) (fun _ => ?_)
      refine C_skip ?_
      refine C_seq ?_
      refine C_region ?_
      refine O_p (.i .i64 ((((clampP pn) : Nat)) : Int)) (by exact (r_mv (by rw [hcp]; rfl))) ?_
      refine O_mks (n := clampP pn) rfl rfl (by have := (clampP_le pn).2; omega) (by have := (clampP_le pn).2; omega) fun m1 H2 hN3 => ?_
      have hH4 := hH0.new hN3
      refine O_p (.i .i64 ((((clampR room) : Nat)) : Int)) (by exact (r_mv (by rw [hcr]; rfl))) ?_
      refine O_p (.agg [(.sl (some (m1, 0)) (clampP pn) (clampP pn) 0), (.i .i64 ((((clampR room) : Nat)) : Int)), (.sl none 0 0 0)]) (r_build rfl) ?_
      refine O_box (z := [(.sl (some (m1, 0)) (clampP pn) (clampP pn) 0), (.i .i64 ((((clampR room) : Nat)) : Int)), (.sl none 0 0 0)]) rfl fun n5 H6 hN7 => ?_
      have hH8 := hH4.new hN7
      refine O_p (.p (some (n5, 0))) (r_mv rfl) ?_
      refine O_nil ?_
      refine C_ret ?_
      have hH9 := ((hH8.top1).top1)
      exact ⟨.inr rfl, _, resL_one (r_tmp (v := (.p (some (n5, 0)))) rfl), n5, m1, rfl, hH9⟩
    ·
      have hcr : ((clampR room : Nat) : Int) = 64 := by unfold clampR; rw [if_neg hri]; rfl
      refine C_region ?_
      refine O_p (.i .i64 room) (r_mv rfl) ?_
      refine O_p (.b (decide (room < 1))) (r_lss rfl rfl) ?_
      refine O_p (.b (decide (room < 1))) (r_mv rfl) ?_
      refine O_gx (e := (!(decide (room < 1)))) (v := (.i .i64 room)) (wf rfl) (fun he => (r_mv rfl)) ?_
      refine O_gx (e := (!(decide (room < 1)))) (v := (.b (decide (64 < room)))) (wf rfl) (fun he => (r_gtr (cond_pos he) rfl)) ?_
      refine O_p (.b ((decide (room < 1)) || (decide (64 < room)))) (r_pick_or rfl rfl rfl rfl) ?_
      refine O_nil ?_
      refine C_cond (x := ((decide (room < 1)) || (decide (64 < room)))) rfl (fun hc10 => ?_) (fun hc10 => ?_)
      ·
        try simp only [decide_eq_true_eq, decide_eq_false_iff_not, Bool.not_eq_true', Bool.not_eq_false', Bool.and_eq_true, Bool.or_eq_true, Bool.or_eq_false_iff, Bool.not_not, Bool.and_eq_false_iff] at hc10
        refine C_region ?_
        refine O_p (.i .i64 64) (r_mv rfl) ?_
        refine O_nil ?_
        refine C_seq ?_
        refine C_region ?_
        refine O_p (.i .i64 ((((clampP pn) : Nat)) : Int)) (by exact (r_mv (by rw [hcp]; rfl))) ?_
        refine O_mks (n := clampP pn) rfl rfl (by have := (clampP_le pn).2; omega) (by have := (clampP_le pn).2; omega) fun m11 H12 hN13 => ?_
        have hH14 := hH0.new hN13
        refine O_p (.i .i64 ((((clampR room) : Nat)) : Int)) (by exact (r_mv (by rw [hcr]; rfl))) ?_
        refine O_p (.agg [(.sl (some (m11, 0)) (clampP pn) (clampP pn) 0), (.i .i64 ((((clampR room) : Nat)) : Int)), (.sl none 0 0 0)]) (r_build rfl) ?_
        refine O_box (z := [(.sl (some (m11, 0)) (clampP pn) (clampP pn) 0), (.i .i64 ((((clampR room) : Nat)) : Int)), (.sl none 0 0 0)]) rfl fun n15 H16 hN17 => ?_
        have hH18 := hH14.new hN17
        refine O_p (.p (some (n15, 0))) (r_mv rfl) ?_
        refine O_nil ?_
        refine C_ret ?_
        have hH19 := ((hH18.top1).top1)
        exact ⟨.inr rfl, _, resL_one (r_tmp (v := (.p (some (n15, 0)))) rfl), n15, m11, rfl, hH19⟩
      ·
        try simp only [decide_eq_true_eq, decide_eq_false_iff_not, Bool.not_eq_true', Bool.not_eq_false', Bool.and_eq_true, Bool.or_eq_true, Bool.or_eq_false_iff, Bool.not_not, Bool.and_eq_false_iff] at hc10
        exfalso; omega
  ·
    have hcp : ((clampP pn : Nat) : Int) = 16 := by unfold clampP; rw [if_neg hpi]; rfl
    refine C_region ?_
    refine O_p (.i .i64 pn) (r_mv rfl) ?_
    refine O_p (.b (decide (pn < 1))) (r_lss rfl rfl) ?_
    refine O_p (.b (decide (pn < 1))) (r_mv rfl) ?_
    refine O_gx (e := (!(decide (pn < 1)))) (v := (.i .i64 pn)) (wf rfl) (fun he => (r_mv rfl)) ?_
    refine O_gx (e := (!(decide (pn < 1)))) (v := (.b (decide (16 < pn)))) (wf rfl) (fun he => (r_gtr (cond_pos he) rfl)) ?_
    refine O_p (.b ((decide (pn < 1)) || (decide (16 < pn)))) (r_pick_or rfl rfl rfl rfl) ?_
    refine O_nil ?_
    refine C_cond (x := ((decide (pn < 1)) || (decide (16 < pn)))) rfl (fun hc20 => ?_) (fun hc20 => ?_)
    ·
      try simp only [decide_eq_true_eq, decide_eq_false_iff_not, Bool.not_eq_true', Bool.not_eq_false', Bool.and_eq_true, Bool.or_eq_true, Bool.or_eq_false_iff, Bool.not_not, Bool.and_eq_false_iff] at hc20
      refine C_region ?_
      refine O_p (.i .i64 16) (r_mv rfl) ?_
      refine O_nil ?_
      refine C_seq ?_
      refine C_seq ?_
      by_cases hri : 1 ≤ room ∧ room ≤ 64
      ·
        have hcr : ((clampR room : Nat) : Int) = room := by unfold clampR; rw [if_pos hri]; omega
        refine C_region ?_
        refine O_p (.i .i64 room) (r_mv rfl) ?_
        refine O_p (.b false) (by exact (by rw [r_lss rfl rfl, decide_eq_false (by omega)])) ?_
        refine O_p (.b false) (r_mv rfl) ?_
        refine O_gk rfl ?_
        refine O_p (.i .i64 room) (r_mv rfl) ?_
        refine O_gk rfl ?_
        refine O_p (.b false) (by exact (by rw [r_gtr rfl rfl, decide_eq_false (by omega)])) ?_
        refine O_p (.b false) (r_pick_f rfl rfl) ?_
        refine O_nil ?_
        refine C_cond (x := false) rfl (fun h => by cases h) (fun _ => ?_)
        refine C_skip ?_
        refine C_seq ?_
        refine C_region ?_
        refine O_p (.i .i64 ((((clampP pn) : Nat)) : Int)) (by exact (r_mv (by rw [hcp]; rfl))) ?_
        refine O_mks (n := clampP pn) rfl rfl (by have := (clampP_le pn).2; omega) (by have := (clampP_le pn).2; omega) fun m21 H22 hN23 => ?_
        have hH24 := hH0.new hN23
        refine O_p (.i .i64 ((((clampR room) : Nat)) : Int)) (by exact (r_mv (by rw [hcr]; rfl))) ?_
        refine O_p (.agg [(.sl (some (m21, 0)) (clampP pn) (clampP pn) 0), (.i .i64 ((((clampR room) : Nat)) : Int)), (.sl none 0 0 0)]) (r_build rfl) ?_
        refine O_box (z := [(.sl (some (m21, 0)) (clampP pn) (clampP pn) 0), (.i .i64 ((((clampR room) : Nat)) : Int)), (.sl none 0 0 0)]) rfl fun n25 H26 hN27 => ?_
        have hH28 := hH24.new hN27
        refine O_p (.p (some (n25, 0))) (r_mv rfl) ?_
        refine O_nil ?_
        refine C_ret ?_
        have hH29 := ((hH28.top1).top1)
        exact ⟨.inr rfl, _, resL_one (r_tmp (v := (.p (some (n25, 0)))) rfl), n25, m21, rfl, hH29⟩
      ·
        have hcr : ((clampR room : Nat) : Int) = 64 := by unfold clampR; rw [if_neg hri]; rfl
        refine C_region ?_
        refine O_p (.i .i64 room) (r_mv rfl) ?_
        refine O_p (.b (decide (room < 1))) (r_lss rfl rfl) ?_
        refine O_p (.b (decide (room < 1))) (r_mv rfl) ?_
        refine O_gx (e := (!(decide (room < 1)))) (v := (.i .i64 room)) (wf rfl) (fun he => (r_mv rfl)) ?_
        refine O_gx (e := (!(decide (room < 1)))) (v := (.b (decide (64 < room)))) (wf rfl) (fun he => (r_gtr (cond_pos he) rfl)) ?_
        refine O_p (.b ((decide (room < 1)) || (decide (64 < room)))) (r_pick_or rfl rfl rfl rfl) ?_
        refine O_nil ?_
        refine C_cond (x := ((decide (room < 1)) || (decide (64 < room)))) rfl (fun hc30 => ?_) (fun hc30 => ?_)
        ·
          try simp only [decide_eq_true_eq, decide_eq_false_iff_not, Bool.not_eq_true', Bool.not_eq_false', Bool.and_eq_true, Bool.or_eq_true, Bool.or_eq_false_iff, Bool.not_not, Bool.and_eq_false_iff] at hc30
          refine C_region ?_
          refine O_p (.i .i64 64) (r_mv rfl) ?_
          refine O_nil ?_
          refine C_seq ?_
          refine C_region ?_
          refine O_p (.i .i64 ((((clampP pn) : Nat)) : Int)) (by exact (r_mv (by rw [hcp]; rfl))) ?_
          refine O_mks (n := clampP pn) rfl rfl (by have := (clampP_le pn).2; omega) (by have := (clampP_le pn).2; omega) fun m31 H32 hN33 => ?_
          have hH34 := hH0.new hN33
          refine O_p (.i .i64 ((((clampR room) : Nat)) : Int)) (by exact (r_mv (by rw [hcr]; rfl))) ?_
          refine O_p (.agg [(.sl (some (m31, 0)) (clampP pn) (clampP pn) 0), (.i .i64 ((((clampR room) : Nat)) : Int)), (.sl none 0 0 0)]) (r_build rfl) ?_
          refine O_box (z := [(.sl (some (m31, 0)) (clampP pn) (clampP pn) 0), (.i .i64 ((((clampR room) : Nat)) : Int)), (.sl none 0 0 0)]) rfl fun n35 H36 hN37 => ?_
          have hH38 := hH34.new hN37
          refine O_p (.p (some (n35, 0))) (r_mv rfl) ?_
          refine O_nil ?_
          refine C_ret ?_
          have hH39 := ((hH38.top1).top1)
          exact ⟨.inr rfl, _, resL_one (r_tmp (v := (.p (some (n35, 0)))) rfl), n35, m31, rfl, hH39⟩
        ·
          try simp only [decide_eq_true_eq, decide_eq_false_iff_not, Bool.not_eq_true', Bool.not_eq_false', Bool.and_eq_true, Bool.or_eq_true, Bool.or_eq_false_iff, Bool.not_not, Bool.and_eq_false_iff] at hc30
          exfalso; omega
    ·
      try simp only [decide_eq_true_eq, decide_eq_false_iff_not, Bool.not_eq_true', Bool.not_eq_false', Bool.and_eq_true, Bool.or_eq_true, Bool.or_eq_false_iff, Bool.not_not, Bool.and_eq_false_iff] at hc20
      exfalso; omega
theorem newg_ev {H : AH} {R : HL} {pn room : Int} (hH0 : Hs H R) : Ev tabA spA (.fn (.func 11) [] []) [.i .i64 pn, .i .i64 room] H (fun r H' => ∃ F Lb cm, r = .p (some (F, 0)) ∧ Hs H' ([(F, some (.cells [.sl (some (Lb, 0)) (clampP pn) (clampP pn) 0, .i .i64 ((clampR room : Nat) : Int), .m (some cm)] true))] ++ ([(Lb, some (.cells (List.replicate (clampP pn) zrow).flatten true))] ++ ([(cm, some (.map [] 0))] ++ R)))) := by
  refine Ev_C (F := x11) rfl ?_
  refine C_seq ?_
  refine C_region ?_
  refine O_p (.p none) (r_mv rfl) ?_
  refine O_nil ?_
  refine C_seq ?_
  refine C_draw fun b1 H2 hbase3 hA4 => ?_
  have hH5 : Hs H2 (asideL b1 [2, 5, 7] ++ _) := hH0.aside hA4 [2, 5, 7] hbase3 rfl (by decide)
  have hH6 : Hs H2 ([(b1 + 2, none)] ++ ([(b1 + 5, none)] ++ ([(b1 + 7, none)] ++ _))) := hH5
  refine D_l (v := (.i .i64 pn)) rfl rfl rfl (r_mv rfl) ?_
  refine D_l (v := (.i .i64 room)) rfl rfl rfl (r_mv rfl) ?_
  refine D_call (Ev.mono (clamp_pn (n := pn) hH6) fun v7 H8 hq9 => ?_)
  obtain ⟨rfl, hH10⟩ := hq9
  refine And.intro True.intro ?_
  refine D_call (Ev.mono (clamp_room (n := room) hH10) fun v11 H12 hq13 => ?_)
  obtain ⟨rfl, hH14⟩ := hq13
  refine And.intro True.intro ?_
  refine D_m (f := fun n => (.sl (some (n, 0)) (clampP pn) (clampP pn) 0, .cells (List.replicate (clampP pn) zrow).flatten true)) rfl (make_mks rfl rfl (by have := (clampP_le pn).2; omega) (by have := (clampP_le pn).2; omega)) fun H16 hW17 => ?_
  have hH19 := hH14.wr0 hW17
  generalize hn18 : b1 + 2 = n15 at hW17 hH19 ⊢
  refine And.intro True.intro ?_
  refine D_m (f := fun n => ((.m (some n)), .map [] 0)) rfl rfl fun H21 hW22 => ?_
  have hH24 := hH19.wr1 hW22
  generalize hn23 : b1 + 5 = n20 at hW22 hH24 ⊢
  refine And.intro True.intro ?_
  refine D_l (v := (.agg [(.sl (some (n15, 0)) (clampP pn) (clampP pn) 0), (.i .i64 ((((clampR room) : Nat)) : Int)), (.m (some n20))])) rfl rfl rfl (r_build rfl) ?_
  refine D_m (f := fun n => ((.p (some (n, 0))), .cells [(.sl (some (n15, 0)) (clampP pn) (clampP pn) 0), (.i .i64 ((((clampR room) : Nat)) : Int)), (.m (some n20))] true)) rfl rfl fun H26 hW27 => ?_
  have hH29 := hH24.wr2 hW27
  generalize hn28 : b1 + 7 = n25 at hW27 hH29 ⊢
  refine And.intro True.intro ?_
  refine D_l (v := (.p (some (n25, 0)))) rfl rfl rfl (r_mv rfl) ?_
  refine D_nil ?_
  refine C_ret ?_
  have hH30 := (((hH29.top1).top1).top2)
  exact ⟨.inr rfl, _, resL_one (r_tmp (v := (.p (some (n25, 0)))) rfl), n25, n15, n20, rfl, hH30⟩


set_option linter.unusedVariables false
set_option linter.unusedSimpArgs false
theorem su_set {sb : List Su} {k : Nat} {x : Su} : (sb.set k x).map suRow = (sb.map suRow).set k (suRow x) := by rw [List.map_set]

set_option maxHeartbeats 1000000 in
theorem rhand_no {H : AH} {R D : HL} {Pb i room k0 k : Nat} {rws rows : List (List AV)} {on : Bool} {sv wv : AV} {sc wc : List AV} {sb : List Su} {w : List It} {lost md : Int} {tp : List UInt8} {frm num : Int} {tx : Bool} {dv : AV} (hrw : ∀ x ∈ rws, x.length = 4) (hi : i < rws.length) (hss : Sq 3 sv sc (sb.map suRow).flatten) (hsl : sb.length ≤ 1000000) (hsq : Sq 5 wv wc rows.flatten) (hl5 : ∀ x ∈ rows, x.length = 5) (hir : ItsR D rows w) (hfitw : rows.length ≤ 1000000) (hlost : 0 ≤ lost ∧ lost < 4611686018427387904) (hg : sget sb tp = none) (hH0 : Hs H ([(Pb, some (.cells (((rws).set i (rrow on sv wv lost)).flatten) true))] ++ ((qseg sv sc) ++ ((qseg wv wc) ++ (R))))) : Ev tabA spA (.fn (.func 46) [] []) [.p (some (Pb, i * 4 + 0)), .agg [(.s (txt tp)), (.i .i64 frm), (.i .i64 num), (.b tx), dv], .i .i64 room] H (fun r H' => r = .b false ∧ Hs H' ([(Pb, some (.cells (((rws).set i (rrow on sv wv lost)).flatten) true))] ++ ((qseg sv sc) ++ ((qseg wv wc) ++ (R))))) := by
  refine Ev_C (F := x46) rfl ?_
  have hrl := hir.1
  refine C_seq ?_
  refine C_region ?_
  refine O_box (z := [(.s (txt tp)), (.i .i64 frm), (.i .i64 num), (.b tx), dv]) rfl fun n1 H2 hN3 => ?_
  have hH4 := hH0.new hN3
  refine O_p (.b false) (r_mv rfl) ?_
  refine O_nil ?_
  refine C_seq ?_
  refine C_region ?_
  refine O_p (.p (some (Pb, (i * 4 + 0)))) (r_mv rfl) ?_
  refine O_p (.p (some (n1, 0))) (r_fadd' rfl rfl) ?_
  refine O_p (.s (txt tp)) (r_ld rfl hH4.get0 rfl) ?_
  have hH5 := ((hH4.top2).top2)
  refine O_call (Ev.mono (sat_ev (tp := tp) hrw hi hss hsl hH5) fun v6 H7 hq8 => ?_)
  rw [fxI_none (sget_none hg)] at hq8
  obtain ⟨rfl, hH9⟩ := hq8
  refine O_p (.i .i64 (-1)) (r_mv rfl) ?_
  refine O_nil ?_
  refine C_seq ?_
  refine C_seq ?_
  refine C_region ?_
  refine O_p (.i .i64 (-1)) (r_mv rfl) ?_
  refine O_p (.b true) (by exact (by rw [r_lss rfl rfl, decide_eq_true (by decide)])) ?_
  refine O_p (.b true) (r_mv rfl) ?_
  refine O_gf rfl ?_
  refine O_gf rfl ?_
  refine O_gf rfl ?_
  refine O_gf rfl ?_
  refine O_gf rfl ?_
  refine O_gf rfl ?_
  refine O_gf rfl ?_
  refine O_gf rfl ?_
  refine O_p (.b true) (r_pick_t rfl rfl) ?_
  refine O_nil ?_
  refine C_cond (x := true) rfl (fun _ => ?_) (fun h => by cases h)
  refine C_seq ?_
  refine C_region ?_
  refine O_p (.b false) (r_mv rfl) ?_
  refine O_nil ?_
  refine C_ret ?_
  refine nx_ret ?_
  have hH10 := (hH9.sub2)
  have hH11 := (((hH10.top2).top2).top2)
  exact ⟨.inr rfl, _, resL_one (r_tmp (v := .b false) rfl), rfl, hH11⟩
set_option maxHeartbeats 1000000 in
theorem rhand_failed {H : AH} {R D : HL} {Pb i room k0 k : Nat} {rws rows : List (List AV)} {on : Bool} {sv wv : AV} {sc wc : List AV} {sb : List Su} {w : List It} {lost md : Int} {tp : List UInt8} {frm num : Int} {tx : Bool} {dv : AV} (hrw : ∀ x ∈ rws, x.length = 4) (hi : i < rws.length) (hss : Sq 3 sv sc (sb.map suRow).flatten) (hsl : sb.length ≤ 1000000) (hsq : Sq 5 wv wc rows.flatten) (hl5 : ∀ x ∈ rows, x.length = 5) (hir : ItsR D rows w) (hfitw : rows.length ≤ 1000000) (hlost : 0 ≤ lost ∧ lost < 4611686018427387904) (hfs : sb.findIdx (sfP tp) = k0) (hsi : sb[k0]? = some ⟨tp, md, true⟩) (hH0 : Hs H ([(Pb, some (.cells (((rws).set i (rrow on sv wv lost)).flatten) true))] ++ ((qseg sv sc) ++ ((qseg wv wc) ++ (R))))) : Ev tabA spA (.fn (.func 46) [] []) [.p (some (Pb, i * 4 + 0)), .agg [(.s (txt tp)), (.i .i64 frm), (.i .i64 num), (.b tx), dv], .i .i64 room] H (fun r H' => r = .b false ∧ Hs H' ([(Pb, some (.cells (((rws).set i (rrow on sv wv lost)).flatten) true))] ++ ((qseg sv sc) ++ ((qseg wv wc) ++ (R))))) := by
  refine Ev_C (F := x46) rfl ?_
  have hrl := hir.1
  have hkl : k0 < sb.length := (List.getElem?_eq_some_iff.1 hsi).1
  refine C_seq ?_
  refine C_region ?_
  refine O_box (z := [(.s (txt tp)), (.i .i64 frm), (.i .i64 num), (.b tx), dv]) rfl fun n1 H2 hN3 => ?_
  have hH4 := hH0.new hN3
  refine O_p (.b false) (r_mv rfl) ?_
  refine O_nil ?_
  refine C_seq ?_
  refine C_region ?_
  refine O_p (.p (some (Pb, (i * 4 + 0)))) (r_mv rfl) ?_
  refine O_p (.p (some (n1, 0))) (r_fadd' rfl rfl) ?_
  refine O_p (.s (txt tp)) (r_ld rfl hH4.get0 rfl) ?_
  have hH5 := ((hH4.top2).top2)
  refine O_call (Ev.mono (sat_ev (tp := tp) hrw hi hss hsl hH5) fun v6 H7 hq8 => ?_)
  rw [show fxI (sfP tp) sb = ((k0 : Nat) : Int) from by unfold fxI; rw [hfs, if_pos hkl]] at hq8
  obtain ⟨rfl, hH9⟩ := hq8
  refine O_p (.i .i64 (((k0 : Nat)) : Int)) (r_mv rfl) ?_
  refine O_nil ?_
  refine C_seq ?_
  refine C_seq ?_
  refine C_region ?_
  refine O_p (.i .i64 (((k0 : Nat)) : Int)) (r_mv rfl) ?_
  refine O_p (.b false) (by exact (by rw [r_lss rfl rfl, decide_eq_false (by omega)])) ?_
  refine O_p (.b false) (r_mv rfl) ?_
  refine O_gk rfl ?_
  refine O_p (.p (some (Pb, (i * 4 + 0)))) (r_mv rfl) ?_
  refine O_gk rfl ?_
  refine O_p (.p (some (Pb, (i * 4 + 0)))) (r_nilc rfl) ?_
  refine O_gk rfl ?_
  refine O_p (.p (some (Pb, (i * 4 + 1)))) (r_fadd' rfl rfl) ?_
  refine O_gk rfl ?_
  refine O_p sv (by exact (r_ld rfl hH9.get0 ((foc_get hrw hi rfl (by decide)).trans rfl))) ?_
  refine O_gk rfl ?_
  refine O_p (.i .i64 (((k0 : Nat)) : Int)) (r_mv rfl) ?_
  refine O_gk rfl ?_
  refine O_q (by exact Sq.cell hss (su_lens sb) hH9.top1 rfl (i := k0) rfl (r := [(.s (txt tp)), (.i .i64 md), (.b true)]) (su_get hsi) (by decide)) fun v11 hv10 => ?_
  obtain ⟨rb12, ro13, rfl, hrg14, hrt15, hrb16, hput17, hqs18⟩ := hv10
  refine O_gk rfl ?_
  refine O_p (.p (some (rb12, (ro13 + 2)))) (r_fadd' rfl rfl) ?_
  refine O_gk rfl ?_
  refine O_p (.b true) (r_ldR (q := 2) rfl ⟨_, _, hrg14, hrt15⟩ rfl) ?_
  refine O_p (.b true) (r_pick_f rfl rfl) ?_
  refine O_nil ?_
  refine C_cond (x := true) rfl (fun _ => ?_) (fun h => by cases h)
  refine C_seq ?_
  refine C_region ?_
  refine O_p (.b false) (r_mv rfl) ?_
  refine O_nil ?_
  refine C_ret ?_
  refine nx_ret ?_
  have hH19 := (hH9.sub2)
  have hH20 := (((hH19.top2).top2).top2)
  exact ⟨.inr rfl, _, resL_one (r_tmp (v := .b false) rfl), rfl, hH20⟩
set_option maxHeartbeats 1000000 in
theorem rhand_room {H : AH} {R D : HL} {Pb i room k0 k : Nat} {rws rows : List (List AV)} {on : Bool} {sv wv : AV} {sc wc : List AV} {sb : List Su} {w : List It} {lost md : Int} {tp : List UInt8} {frm num : Int} {tx : Bool} {dv : AV} (hrw : ∀ x ∈ rws, x.length = 4) (hi : i < rws.length) (hss : Sq 3 sv sc (sb.map suRow).flatten) (hsl : sb.length ≤ 1000000) (hsq : Sq 5 wv wc rows.flatten) (hl5 : ∀ x ∈ rows, x.length = 5) (hir : ItsR D rows w) (hfitw : rows.length ≤ 1000000) (hlost : 0 ≤ lost ∧ lost < 4611686018427387904) (hfs : sb.findIdx (sfP tp) = k0) (hsi : sb[k0]? = some ⟨tp, md, false⟩) (hroom : rows.length < room) (hH0 : Hs H ([(Pb, some (.cells (((rws).set i (rrow on sv wv lost)).flatten) true))] ++ ((qseg sv sc) ++ ((qseg wv wc) ++ (R))))) : Ev tabA spA (.fn (.func 46) [] []) [.p (some (Pb, i * 4 + 0)), .agg [(.s (txt tp)), (.i .i64 frm), (.i .i64 num), (.b tx), dv], .i .i64 room] H (fun r H' => r = .b true ∧ ∃ v' c', Sq 5 v' c' (rows ++ [[(.s (txt tp)), (.i .i64 frm), (.i .i64 num), (.b tx), dv]]).flatten ∧ Hs H' ([(Pb, some (.cells (((rws).set i (rrow on sv v' lost)).flatten) true))] ++ ((qseg sv sc) ++ ((qseg v' c') ++ (R))))) := by
  refine Ev_C (F := x46) rfl ?_
  have hrl := hir.1
  have hkl : k0 < sb.length := (List.getElem?_eq_some_iff.1 hsi).1
  refine C_seq ?_
  refine C_region ?_
  refine O_box (z := [(.s (txt tp)), (.i .i64 frm), (.i .i64 num), (.b tx), dv]) rfl fun n1 H2 hN3 => ?_
  have hH4 := hH0.new hN3
  refine O_p (.b false) (r_mv rfl) ?_
  refine O_nil ?_
  refine C_seq ?_
  refine C_region ?_
  refine O_p (.p (some (Pb, (i * 4 + 0)))) (r_mv rfl) ?_
  refine O_p (.p (some (n1, 0))) (r_fadd' rfl rfl) ?_
  refine O_p (.s (txt tp)) (r_ld rfl hH4.get0 rfl) ?_
  have hH5 := ((hH4.top2).top2)
  refine O_call (Ev.mono (sat_ev (tp := tp) hrw hi hss hsl hH5) fun v6 H7 hq8 => ?_)
  rw [show fxI (sfP tp) sb = ((k0 : Nat) : Int) from by unfold fxI; rw [hfs, if_pos hkl]] at hq8
  obtain ⟨rfl, hH9⟩ := hq8
  refine O_p (.i .i64 (((k0 : Nat)) : Int)) (r_mv rfl) ?_
  refine O_nil ?_
  refine C_seq ?_
  refine C_seq ?_
  refine C_region ?_
  refine O_p (.i .i64 (((k0 : Nat)) : Int)) (r_mv rfl) ?_
  refine O_p (.b false) (by exact (by rw [r_lss rfl rfl, decide_eq_false (by omega)])) ?_
  refine O_p (.b false) (r_mv rfl) ?_
  refine O_gk rfl ?_
  refine O_p (.p (some (Pb, (i * 4 + 0)))) (r_mv rfl) ?_
  refine O_gk rfl ?_
  refine O_p (.p (some (Pb, (i * 4 + 0)))) (r_nilc rfl) ?_
  refine O_gk rfl ?_
  refine O_p (.p (some (Pb, (i * 4 + 1)))) (r_fadd' rfl rfl) ?_
  refine O_gk rfl ?_
  refine O_p sv (by exact (r_ld rfl hH9.get0 ((foc_get hrw hi rfl (by decide)).trans rfl))) ?_
  refine O_gk rfl ?_
  refine O_p (.i .i64 (((k0 : Nat)) : Int)) (r_mv rfl) ?_
  refine O_gk rfl ?_
  refine O_q (by exact Sq.cell hss (su_lens sb) hH9.top1 rfl (i := k0) rfl (r := [(.s (txt tp)), (.i .i64 md), (.b false)]) (su_get hsi) (by decide)) fun v11 hv10 => ?_
  obtain ⟨rb12, ro13, rfl, hrg14, hrt15, hrb16, hput17, hqs18⟩ := hv10
  refine O_gk rfl ?_
  refine O_p (.p (some (rb12, (ro13 + 2)))) (r_fadd' rfl rfl) ?_
  refine O_gk rfl ?_
  refine O_p (.b false) (r_ldR (q := 2) rfl ⟨_, _, hrg14, hrt15⟩ rfl) ?_
  refine O_p (.b false) (r_pick_f rfl rfl) ?_
  refine O_nil ?_
  refine C_cond (x := false) rfl (fun h => by cases h) (fun _ => ?_)
  refine C_skip ?_
  refine C_seq ?_
  refine C_seq ?_
  refine C_region ?_
  refine O_p (.p (some (Pb, (i * 4 + 0)))) (r_mv rfl) ?_
  refine O_p (.p (some (Pb, (i * 4 + 0)))) (r_nilc rfl) ?_
  refine O_p (.p (some (Pb, (i * 4 + 2)))) (r_fadd' rfl rfl) ?_
  refine O_p wv (by exact (r_ld rfl hH9.get0 ((foc_get hrw hi rfl (by decide)).trans rfl))) ?_
  refine O_p (.i .i64 (((rows.length : Nat)) : Int)) (by exact (by exact r_lenOf rfl (hsq.lenOf (flat_len hl5) (by decide)) hsq.isSl)) ?_
  refine O_p (.i .i64 ((room : Nat) : Int)) (r_mv rfl) ?_
  refine O_p (.b true) (by exact (by rw [r_lss rfl rfl, decide_eq_true (by omega)])) ?_
  refine O_nil ?_
  refine C_cond (x := true) rfl (fun _ => ?_) (fun h => by cases h)
  refine C_seq ?_
  refine C_draw fun b19 H20 hbase21 hA22 => ?_
  have hH23 : Hs H20 (asideL b19 [6] ++ _) := hH9.aside hA22 [6] hbase21 rfl (by decide)
  have hH24 : Hs H20 ([(b19 + 6, none)] ++ _) := hH23
  refine D_l (v := (.p (some (Pb, (i * 4 + 0))))) rfl rfl rfl (r_mv rfl) ?_
  refine D_l (v := (.p (some (Pb, (i * 4 + 0))))) rfl rfl rfl (r_mv rfl) ?_
  refine D_l (v := (.p (some (Pb, (i * 4 + 0))))) rfl rfl rfl (r_nilc rfl) ?_
  refine D_l (v := (.p (some (Pb, (i * 4 + 2))))) rfl rfl rfl (r_fadd' rfl rfl) ?_
  refine D_r (v := wv) rfl rfl rfl (by exact (r_ld rfl hH24.get1 ((foc_get hrw hi rfl (by decide)).trans rfl))) ?_
  refine D_r (v := (.agg [(.s (txt tp)), (.i .i64 frm), (.i .i64 num), (.b tx), dv])) rfl rfl rfl (r_ldA rfl hH24.get3 rfl) ?_
  refine D_m (f := fun n => ((.sl (some (n, 0)) 1 1 0), .cells [(.s (txt tp)), (.i .i64 frm), (.i .i64 num), (.b tx), dv] true)) rfl rfl fun H26 hW27 => ?_
  have hH29 := hH24.wr0 hW27
  generalize hn28 : b19 + 6 = n25 at hW27 hH29 ⊢
  refine And.intro (And.intro (Or.inl rfl) (And.intro (Or.inr (look_run rfl rfl (r_ld rfl hH29.get1 ((foc_get hrw hi rfl (by decide)).trans rfl)))) True.intro)) ?_
  refine D_qh rfl rfl (by exact r_appq (n := rows.length) (k := 1) (new := [(.s (txt tp)), (.i .i64 frm), (.i .i64 num), (.b tx), dv]) hH29.top4 hsq rfl rfl rfl (src_blk hH29.get0 (by rfl)) rfl (by decide) (by decide) (flat_len hl5) (by first | omega | (simp only [List.length_take, List.length_drop, List.length_append, List.length_cons, List.length_nil, beN_len] <;> omega))) fun o30 H31 hA33 => ?_
  obtain ⟨c32, hA33, hH34⟩ := hA33
  refine And.intro (And.intro (Or.inl rfl) True.intro) ?_
  obtain ⟨qa35, ql36, qc37, qg38, rfl⟩ := hA33.isSl
  refine D_l (v := (.p (some (Pb, (i * 4 + 0))))) rfl rfl rfl (r_nilc rfl) ?_
  refine D_l (v := (.p (some (Pb, (i * 4 + 2))))) rfl rfl rfl (r_fadd' rfl rfl) ?_
  refine D_store (vs := [(.sl qa35 ql36 qc37 qg38)]) (c' := ((rws).set i (rrow on sv (.sl qa35 ql36 qc37 qg38) lost)).flatten) rfl (by rfl) hH34.get2 rfl (List.cons_ne_nil _ _) (foc_len (n := 1) hrw hi rfl (Nat.le_of_ble_eq_true rfl)) (foc_put hrw hi rfl (Nat.le_of_ble_eq_true rfl) rfl) fun H39 hW40 => ?_
  have hH41 := hH34.wr2 hW40
  refine And.intro True.intro ?_
  refine D_nil ?_
  refine C_seq ?_
  refine C_region ?_
  refine O_p (.b true) (r_mv rfl) ?_
  refine O_nil ?_
  refine C_ret ?_
  refine nx_ret ?_
  have hH42 := ((hH41.sub1).sub3)
  have hH43 := ((hH42.top2).top2)
  exact ⟨.inr rfl, _, resL_one (r_tmp (v := .b true) rfl), rfl, (.sl qa35 ql36 qc37 qg38), c32, by have h := hA33; rw [flat_snoc] at h; exact h, hH43⟩
set_option maxHeartbeats 1000000 in
theorem rhand_ord {H : AH} {R D : HL} {Pb i room k0 k : Nat} {rws rows : List (List AV)} {on : Bool} {sv wv : AV} {sc wc : List AV} {sb : List Su} {w : List It} {lost md : Int} {tp : List UInt8} {frm num : Int} {tx : Bool} {dv : AV} (hrw : ∀ x ∈ rws, x.length = 4) (hi : i < rws.length) (hss : Sq 3 sv sc (sb.map suRow).flatten) (hsl : sb.length ≤ 1000000) (hsq : Sq 5 wv wc rows.flatten) (hl5 : ∀ x ∈ rows, x.length = 5) (hir : ItsR D rows w) (hfitw : rows.length ≤ 1000000) (hlost : 0 ≤ lost ∧ lost < 4611686018427387904) (hfs : sb.findIdx (sfP tp) = k0) (hsi : sb[k0]? = some ⟨tp, 0, false⟩) (hroom : room ≤ rows.length) (hH0 : Hs H ([(Pb, some (.cells (((rws).set i (rrow on sv wv lost)).flatten) true))] ++ ((qseg sv sc) ++ ((qseg wv wc) ++ (R))))) : Ev tabA spA (.fn (.func 46) [] []) [.p (some (Pb, i * 4 + 0)), .agg [(.s (txt tp)), (.i .i64 frm), (.i .i64 num), (.b tx), dv], .i .i64 room] H (fun r H' => r = .b false ∧ ∃ c', Sq 3 sv c' ((sb.set k0 ⟨tp, 0, true⟩).map suRow).flatten ∧ Hs H' ([(Pb, some (.cells (((rws).set i (rrow on sv wv lost)).flatten) true))] ++ ((qseg sv c') ++ ((qseg wv wc) ++ (R))))) := by
  refine Ev_C (F := x46) rfl ?_
  have hrl := hir.1
  have hkl : k0 < sb.length := (List.getElem?_eq_some_iff.1 hsi).1
  refine C_seq ?_
  refine C_region ?_
  refine O_box (z := [(.s (txt tp)), (.i .i64 frm), (.i .i64 num), (.b tx), dv]) rfl fun n1 H2 hN3 => ?_
  have hH4 := hH0.new hN3
  refine O_p (.b false) (r_mv rfl) ?_
  refine O_nil ?_
  refine C_seq ?_
  refine C_region ?_
  refine O_p (.p (some (Pb, (i * 4 + 0)))) (r_mv rfl) ?_
  refine O_p (.p (some (n1, 0))) (r_fadd' rfl rfl) ?_
  refine O_p (.s (txt tp)) (r_ld rfl hH4.get0 rfl) ?_
  have hH5 := ((hH4.top2).top2)
  refine O_call (Ev.mono (sat_ev (tp := tp) hrw hi hss hsl hH5) fun v6 H7 hq8 => ?_)
  rw [show fxI (sfP tp) sb = ((k0 : Nat) : Int) from by unfold fxI; rw [hfs, if_pos hkl]] at hq8
  obtain ⟨rfl, hH9⟩ := hq8
  refine O_p (.i .i64 (((k0 : Nat)) : Int)) (r_mv rfl) ?_
  refine O_nil ?_
  refine C_seq ?_
  refine C_seq ?_
  refine C_region ?_
  refine O_p (.i .i64 (((k0 : Nat)) : Int)) (r_mv rfl) ?_
  refine O_p (.b false) (by exact (by rw [r_lss rfl rfl, decide_eq_false (by omega)])) ?_
  refine O_p (.b false) (r_mv rfl) ?_
  refine O_gk rfl ?_
  refine O_p (.p (some (Pb, (i * 4 + 0)))) (r_mv rfl) ?_
  refine O_gk rfl ?_
  refine O_p (.p (some (Pb, (i * 4 + 0)))) (r_nilc rfl) ?_
  refine O_gk rfl ?_
  refine O_p (.p (some (Pb, (i * 4 + 1)))) (r_fadd' rfl rfl) ?_
  refine O_gk rfl ?_
  refine O_p sv (by exact (r_ld rfl hH9.get0 ((foc_get hrw hi rfl (by decide)).trans rfl))) ?_
  refine O_gk rfl ?_
  refine O_p (.i .i64 (((k0 : Nat)) : Int)) (r_mv rfl) ?_
  refine O_gk rfl ?_
  refine O_q (by exact Sq.cell hss (su_lens sb) hH9.top1 rfl (i := k0) rfl (r := [(.s (txt tp)), (.i .i64 0), (.b false)]) (su_get hsi) (by decide)) fun v11 hv10 => ?_
  obtain ⟨rb12, ro13, rfl, hrg14, hrt15, hrb16, hput17, hqs18⟩ := hv10
  refine O_gk rfl ?_
  refine O_p (.p (some (rb12, (ro13 + 2)))) (r_fadd' rfl rfl) ?_
  refine O_gk rfl ?_
  refine O_p (.b false) (r_ldR (q := 2) rfl ⟨_, _, hrg14, hrt15⟩ rfl) ?_
  refine O_p (.b false) (r_pick_f rfl rfl) ?_
  refine O_nil ?_
  refine C_cond (x := false) rfl (fun h => by cases h) (fun _ => ?_)
  refine C_skip ?_
  refine C_seq ?_
  refine C_seq ?_
  refine C_region ?_
  refine O_p (.p (some (Pb, (i * 4 + 0)))) (r_mv rfl) ?_
  refine O_p (.p (some (Pb, (i * 4 + 0)))) (r_nilc rfl) ?_
  refine O_p (.p (some (Pb, (i * 4 + 2)))) (r_fadd' rfl rfl) ?_
  refine O_p wv (by exact (r_ld rfl hH9.get0 ((foc_get hrw hi rfl (by decide)).trans rfl))) ?_
  refine O_p (.i .i64 (((rows.length : Nat)) : Int)) (by exact (by exact r_lenOf rfl (hsq.lenOf (flat_len hl5) (by decide)) hsq.isSl)) ?_
  refine O_p (.i .i64 ((room : Nat) : Int)) (r_mv rfl) ?_
  refine O_p (.b false) (by exact (by rw [r_lss rfl rfl, decide_eq_false (by omega)])) ?_
  refine O_nil ?_
  refine C_cond (x := false) rfl (fun h => by cases h) (fun _ => ?_)
  refine C_skip ?_
  refine C_seq ?_
  refine C_seq ?_
  refine C_region ?_
  refine O_p (.p (some (Pb, (i * 4 + 0)))) (r_mv rfl) ?_
  refine O_p (.p (some (Pb, (i * 4 + 0)))) (r_nilc rfl) ?_
  refine O_p (.p (some (Pb, (i * 4 + 1)))) (r_fadd' rfl rfl) ?_
  refine O_p sv (by exact (r_ld rfl hH9.get0 ((foc_get hrw hi rfl (by decide)).trans rfl))) ?_
  refine O_p (.i .i64 (((k0 : Nat)) : Int)) (r_mv rfl) ?_
  refine O_q (by exact Sq.cell hss (su_lens sb) hH9.top1 rfl (i := k0) rfl (r := [(.s (txt tp)), (.i .i64 0), (.b false)]) (su_get hsi) (by decide)) fun v20 hv19 => ?_
  obtain ⟨rb21, ro22, rfl, hrg23, hrt24, hrb25, hput26, hqs27⟩ := hv19
  refine O_p (.p (some (rb21, (ro22 + 1)))) (r_fadd' rfl rfl) ?_
  refine O_p (.i .i64 0) (r_ldR (q := 1) rfl ⟨_, _, hrg23, hrt24⟩ rfl) ?_
  refine O_p (.b true) (r_bin rfl rfl rfl) ?_
  refine O_nil ?_
  refine C_cond (x := true) rfl (fun _ => ?_) (fun h => by cases h)
  refine C_seq ?_
  refine C_region ?_
  refine O_p (.p (some (Pb, (i * 4 + 0)))) (r_mv rfl) ?_
  refine O_p (.p (some (Pb, (i * 4 + 0)))) (r_nilc rfl) ?_
  refine O_p (.p (some (Pb, (i * 4 + 1)))) (r_fadd' rfl rfl) ?_
  refine O_p sv (by exact (r_ld rfl hH9.get0 ((foc_get hrw hi rfl (by decide)).trans rfl))) ?_
  refine O_p (.i .i64 (((k0 : Nat)) : Int)) (r_mv rfl) ?_
  refine O_q (by exact Sq.cell hss (su_lens sb) hH9.top1 rfl (i := k0) rfl (r := [(.s (txt tp)), (.i .i64 0), (.b false)]) (su_get hsi) (by decide)) fun v29 hv28 => ?_
  obtain ⟨rb30, ro31, rfl, hrg32, hrt33, hrb34, hput35, hqs36⟩ := hv28
  refine O_p (.p (some (rb30, (ro31 + 2)))) (r_fadd' rfl rfl) ?_
  refine O_store (vs := [(.b true)]) (c' := (putAt sc (ro31 + 2) [(.b true)])) rfl (by rfl) hrg32 rfl (List.cons_ne_nil _ _) (by have := hrb34; show _ + 1 ≤ _; omega) rfl fun H37 hW38 => ?_
  have hH40 := Hs.cong1 (Hs.wr1 (Hs.cong1 hH9 (hqs36 _)) hW38) (hqs36 _).symm
  have hSq39 := hput35 2 [(.b true)] [(.s (txt tp)), (.i .i64 0), (.b true)] (Nat.le_of_ble_eq_true rfl) rfl
  refine O_nil ?_
  refine C_seq ?_
  refine C_region ?_
  refine O_p (.b false) (r_mv rfl) ?_
  refine O_nil ?_
  refine C_ret ?_
  refine nx_ret ?_
  have hH41 := (hH40.sub2)
  have hH42 := (((hH41.top2).top2).top2)
  exact ⟨.inr rfl, _, resL_one (r_tmp (v := .b false) rfl), rfl, (putAt sc (ro31 + 2) [(.b true)]), by rw [su_set]; exact hSq39, hH42⟩
set_option maxHeartbeats 1000000 in
theorem rhand_new {H : AH} {R D : HL} {Pb i room k0 k : Nat} {rws rows : List (List AV)} {on : Bool} {sv wv : AV} {sc wc : List AV} {sb : List Su} {w : List It} {lost md : Int} {tp : List UInt8} {frm num : Int} {tx : Bool} {dv : AV} (hrw : ∀ x ∈ rws, x.length = 4) (hi : i < rws.length) (hss : Sq 3 sv sc (sb.map suRow).flatten) (hsl : sb.length ≤ 1000000) (hsq : Sq 5 wv wc rows.flatten) (hl5 : ∀ x ∈ rows, x.length = 5) (hir : ItsR D rows w) (hfitw : rows.length ≤ 1000000) (hlost : 0 ≤ lost ∧ lost < 4611686018427387904) (hfs : sb.findIdx (sfP tp) = k0) (hsi : sb[k0]? = some ⟨tp, 1, false⟩) (hroom : room ≤ rows.length) (hr1 : 1 ≤ room) (hH0 : Hs H ([(Pb, some (.cells (((rws).set i (rrow on sv wv lost)).flatten) true))] ++ ((qseg sv sc) ++ ((qseg wv wc) ++ (R))))) : Ev tabA spA (.fn (.func 46) [] []) [.p (some (Pb, i * 4 + 0)), .agg [(.s (txt tp)), (.i .i64 frm), (.i .i64 num), (.b tx), dv], .i .i64 room] H (fun r H' => r = .b false ∧ Hs H' ([(Pb, some (.cells (((rws).set i (rrow on sv wv (lost + 1))).flatten) true))] ++ ((qseg sv sc) ++ ((qseg wv wc) ++ (R))))) := by
  refine Ev_C (F := x46) rfl ?_
  have hrl := hir.1
  have hkl : k0 < sb.length := (List.getElem?_eq_some_iff.1 hsi).1
  refine C_seq ?_
  refine C_region ?_
  refine O_box (z := [(.s (txt tp)), (.i .i64 frm), (.i .i64 num), (.b tx), dv]) rfl fun n1 H2 hN3 => ?_
  have hH4 := hH0.new hN3
  refine O_p (.b false) (r_mv rfl) ?_
  refine O_nil ?_
  refine C_seq ?_
  refine C_region ?_
  refine O_p (.p (some (Pb, (i * 4 + 0)))) (r_mv rfl) ?_
  refine O_p (.p (some (n1, 0))) (r_fadd' rfl rfl) ?_
  refine O_p (.s (txt tp)) (r_ld rfl hH4.get0 rfl) ?_
  have hH5 := ((hH4.top2).top2)
  refine O_call (Ev.mono (sat_ev (tp := tp) hrw hi hss hsl hH5) fun v6 H7 hq8 => ?_)
  rw [show fxI (sfP tp) sb = ((k0 : Nat) : Int) from by unfold fxI; rw [hfs, if_pos hkl]] at hq8
  obtain ⟨rfl, hH9⟩ := hq8
  refine O_p (.i .i64 (((k0 : Nat)) : Int)) (r_mv rfl) ?_
  refine O_nil ?_
  refine C_seq ?_
  refine C_seq ?_
  refine C_region ?_
  refine O_p (.i .i64 (((k0 : Nat)) : Int)) (r_mv rfl) ?_
  refine O_p (.b false) (by exact (by rw [r_lss rfl rfl, decide_eq_false (by omega)])) ?_
  refine O_p (.b false) (r_mv rfl) ?_
  refine O_gk rfl ?_
  refine O_p (.p (some (Pb, (i * 4 + 0)))) (r_mv rfl) ?_
  refine O_gk rfl ?_
  refine O_p (.p (some (Pb, (i * 4 + 0)))) (r_nilc rfl) ?_
  refine O_gk rfl ?_
  refine O_p (.p (some (Pb, (i * 4 + 1)))) (r_fadd' rfl rfl) ?_
  refine O_gk rfl ?_
  refine O_p sv (by exact (r_ld rfl hH9.get0 ((foc_get hrw hi rfl (by decide)).trans rfl))) ?_
  refine O_gk rfl ?_
  refine O_p (.i .i64 (((k0 : Nat)) : Int)) (r_mv rfl) ?_
  refine O_gk rfl ?_
  refine O_q (by exact Sq.cell hss (su_lens sb) hH9.top1 rfl (i := k0) rfl (r := [(.s (txt tp)), (.i .i64 1), (.b false)]) (su_get hsi) (by decide)) fun v11 hv10 => ?_
  obtain ⟨rb12, ro13, rfl, hrg14, hrt15, hrb16, hput17, hqs18⟩ := hv10
  refine O_gk rfl ?_
  refine O_p (.p (some (rb12, (ro13 + 2)))) (r_fadd' rfl rfl) ?_
  refine O_gk rfl ?_
  refine O_p (.b false) (r_ldR (q := 2) rfl ⟨_, _, hrg14, hrt15⟩ rfl) ?_
  refine O_p (.b false) (r_pick_f rfl rfl) ?_
  refine O_nil ?_
  refine C_cond (x := false) rfl (fun h => by cases h) (fun _ => ?_)
  refine C_skip ?_
  refine C_seq ?_
  refine C_seq ?_
  refine C_region ?_
  refine O_p (.p (some (Pb, (i * 4 + 0)))) (r_mv rfl) ?_
  refine O_p (.p (some (Pb, (i * 4 + 0)))) (r_nilc rfl) ?_
  refine O_p (.p (some (Pb, (i * 4 + 2)))) (r_fadd' rfl rfl) ?_
  refine O_p wv (by exact (r_ld rfl hH9.get0 ((foc_get hrw hi rfl (by decide)).trans rfl))) ?_
  refine O_p (.i .i64 (((rows.length : Nat)) : Int)) (by exact (by exact r_lenOf rfl (hsq.lenOf (flat_len hl5) (by decide)) hsq.isSl)) ?_
  refine O_p (.i .i64 ((room : Nat) : Int)) (r_mv rfl) ?_
  refine O_p (.b false) (by exact (by rw [r_lss rfl rfl, decide_eq_false (by omega)])) ?_
  refine O_nil ?_
  refine C_cond (x := false) rfl (fun h => by cases h) (fun _ => ?_)
  refine C_skip ?_
  refine C_seq ?_
  refine C_seq ?_
  refine C_region ?_
  refine O_p (.p (some (Pb, (i * 4 + 0)))) (r_mv rfl) ?_
  refine O_p (.p (some (Pb, (i * 4 + 0)))) (r_nilc rfl) ?_
  refine O_p (.p (some (Pb, (i * 4 + 1)))) (r_fadd' rfl rfl) ?_
  refine O_p sv (by exact (r_ld rfl hH9.get0 ((foc_get hrw hi rfl (by decide)).trans rfl))) ?_
  refine O_p (.i .i64 (((k0 : Nat)) : Int)) (r_mv rfl) ?_
  refine O_q (by exact Sq.cell hss (su_lens sb) hH9.top1 rfl (i := k0) rfl (r := [(.s (txt tp)), (.i .i64 1), (.b false)]) (su_get hsi) (by decide)) fun v20 hv19 => ?_
  obtain ⟨rb21, ro22, rfl, hrg23, hrt24, hrb25, hput26, hqs27⟩ := hv19
  refine O_p (.p (some (rb21, (ro22 + 1)))) (r_fadd' rfl rfl) ?_
  refine O_p (.i .i64 1) (r_ldR (q := 1) rfl ⟨_, _, hrg23, hrt24⟩ rfl) ?_
  refine O_p (.b false) (r_bin rfl rfl rfl) ?_
  refine O_nil ?_
  refine C_cond (x := false) rfl (fun h => by cases h) (fun _ => ?_)
  refine C_skip ?_
  refine C_seq ?_
  refine C_region ?_
  refine O_p (.p (some (Pb, (i * 4 + 0)))) (r_mv rfl) ?_
  refine O_p (.p (some (Pb, (i * 4 + 0)))) (r_nilc rfl) ?_
  refine O_p (.p (some (Pb, (i * 4 + 3)))) (r_fadd' rfl rfl) ?_
  refine O_p (.i .i64 lost) (by exact (r_ld rfl hH9.get0 ((foc_get hrw hi rfl (by decide)).trans rfl))) ?_
  refine O_p (.i .i64 (lost + 1)) (by exact (r_addi rfl rfl (wrap_i64 (by omega) (by omega)))) ?_
  refine O_p (.p (some (Pb, (i * 4 + 0)))) (r_nilc rfl) ?_
  refine O_p (.p (some (Pb, (i * 4 + 3)))) (r_fadd' rfl rfl) ?_
  refine O_store (vs := [(.i .i64 (lost + 1))]) (c' := ((rws).set i (rrow on sv wv (lost + 1))).flatten) rfl (by rfl) hH9.get0 rfl (List.cons_ne_nil _ _) (foc_len (n := 1) hrw hi rfl (Nat.le_of_ble_eq_true rfl)) (foc_put hrw hi rfl (Nat.le_of_ble_eq_true rfl) rfl) fun H28 hW29 => ?_
  have hH30 := hH9.wr0 hW29
  refine O_nil ?_
  refine C_seq ?_
  refine C_seq ?_
  refine C_region ?_
  refine O_p (.i .i64 0) (r_mv rfl) ?_
  refine O_nil ?_
  refine C_block ?_
  refine C_loop ?_
  refine C_seq ?_
  refine C_seq ?_
  refine C_region ?_
  refine O_p (.i .i64 0) (r_mv rfl) ?_
  refine O_p (.p (some (Pb, (i * 4 + 0)))) (r_mv rfl) ?_
  refine O_p (.p (some (Pb, (i * 4 + 0)))) (r_nilc rfl) ?_
  refine O_p (.p (some (Pb, (i * 4 + 2)))) (r_fadd' rfl rfl) ?_
  refine O_p wv (by exact (r_ld rfl hH30.get0 ((foc_get hrw hi rfl (by decide)).trans rfl))) ?_
  refine O_p (.i .i64 (((rows.length : Nat)) : Int)) (by exact (by exact r_lenOf rfl (hsq.lenOf (flat_len hl5) (by decide)) hsq.isSl)) ?_
  refine O_p (.b true) (by exact (by rw [r_lss rfl rfl, decide_eq_true (by show (0 : Int) < ((rows.length : Nat) : Int); omega)])) ?_
  refine O_p (.b true) (r_mv rfl) ?_
  refine O_gk rfl ?_
  refine O_p (.p (some (Pb, (i * 4 + 0)))) (r_mv rfl) ?_
  refine O_gk rfl ?_
  refine O_p (.p (some (Pb, (i * 4 + 0)))) (r_nilc rfl) ?_
  refine O_gk rfl ?_
  refine O_p (.p (some (Pb, (i * 4 + 1)))) (r_fadd' rfl rfl) ?_
  refine O_gk rfl ?_
  refine O_p sv (by exact (r_ld rfl hH30.get0 ((foc_get hrw hi rfl (by decide)).trans rfl))) ?_
  refine O_gk rfl ?_
  refine O_p (.i .i64 (((k0 : Nat)) : Int)) (r_mv rfl) ?_
  refine O_gk rfl ?_
  refine O_q (by exact Sq.cell hss (su_lens sb) hH30.top1 rfl (i := k0) rfl (r := [(.s (txt tp)), (.i .i64 1), (.b false)]) (su_get hsi) (by decide)) fun v32 hv31 => ?_
  obtain ⟨rb33, ro34, rfl, hrg35, hrt36, hrb37, hput38, hqs39⟩ := hv31
  refine O_gk rfl ?_
  refine O_p (.p (some (rb33, (ro34 + 1)))) (r_fadd' rfl rfl) ?_
  refine O_gk rfl ?_
  refine O_p (.i .i64 1) (r_ldR (q := 1) rfl ⟨_, _, hrg35, hrt36⟩ rfl) ?_
  refine O_gk rfl ?_
  refine O_p (.b false) (r_bin rfl rfl rfl) ?_
  refine O_p (.b false) (r_pick_t rfl rfl) ?_
  refine O_nil ?_
  refine C_cond (x := false) rfl (fun h => by cases h) (fun _ => ?_)
  refine C_exit ?_
  refine nx_exit ?_
  refine nx_exit ?_
  refine bk_hit ?_
  refine C_seq ?_
  refine C_region ?_
  refine O_p (.b false) (r_mv rfl) ?_
  refine O_nil ?_
  refine C_ret ?_
  have hH40 := (hH30.sub2)
  have hH41 := (((hH40.top2).top2).top2)
  exact ⟨.inr rfl, _, resL_one (r_tmp (v := .b false) rfl), rfl, hH41⟩
set_option maxHeartbeats 1000000 in
theorem rhand_nf {H : AH} {R D : HL} {Pb i room k0 k : Nat} {rws rows : List (List AV)} {on : Bool} {sv wv : AV} {sc wc : List AV} {sb : List Su} {w : List It} {lost md : Int} {tp : List UInt8} {frm num : Int} {tx : Bool} {dv : AV} (hrw : ∀ x ∈ rws, x.length = 4) (hi : i < rws.length) (hss : Sq 3 sv sc (sb.map suRow).flatten) (hsl : sb.length ≤ 1000000) (hsq : Sq 5 wv wc rows.flatten) (hl5 : ∀ x ∈ rows, x.length = 5) (hir : ItsR D rows w) (hfitw : rows.length ≤ 1000000) (hlost : 0 ≤ lost ∧ lost < 4611686018427387904) (hfs : sb.findIdx (sfP tp) = k0) (hsi : sb[k0]? = some ⟨tp, 2, false⟩) (hroom : room ≤ rows.length) (hk : w.length ≤ w.findIdx (fun y => decide (y.tp = tp))) (hH0 : Hs H ([(Pb, some (.cells (((rws).set i (rrow on sv wv lost)).flatten) true))] ++ ((qseg sv sc) ++ ((qseg wv wc) ++ (R))))) : Ev tabA spA (.fn (.func 46) [] []) [.p (some (Pb, i * 4 + 0)), .agg [(.s (txt tp)), (.i .i64 frm), (.i .i64 num), (.b tx), dv], .i .i64 room] H (fun r H' => r = .b false ∧ Hs H' ([(Pb, some (.cells (((rws).set i (rrow on sv wv (lost + 1))).flatten) true))] ++ ((qseg sv sc) ++ ((qseg wv wc) ++ (R))))) := by
  refine Ev_C (F := x46) rfl ?_
  have hrl := hir.1
  have hkl : k0 < sb.length := (List.getElem?_eq_some_iff.1 hsi).1
  refine C_seq ?_
  refine C_region ?_
  refine O_box (z := [(.s (txt tp)), (.i .i64 frm), (.i .i64 num), (.b tx), dv]) rfl fun n1 H2 hN3 => ?_
  have hH4 := hH0.new hN3
  refine O_p (.b false) (r_mv rfl) ?_
  refine O_nil ?_
  refine C_seq ?_
  refine C_region ?_
  refine O_p (.p (some (Pb, (i * 4 + 0)))) (r_mv rfl) ?_
  refine O_p (.p (some (n1, 0))) (r_fadd' rfl rfl) ?_
  refine O_p (.s (txt tp)) (r_ld rfl hH4.get0 rfl) ?_
  have hH5 := ((hH4.top2).top2)
  refine O_call (Ev.mono (sat_ev (tp := tp) hrw hi hss hsl hH5) fun v6 H7 hq8 => ?_)
  rw [show fxI (sfP tp) sb = ((k0 : Nat) : Int) from by unfold fxI; rw [hfs, if_pos hkl]] at hq8
  obtain ⟨rfl, hH9⟩ := hq8
  refine O_p (.i .i64 (((k0 : Nat)) : Int)) (r_mv rfl) ?_
  refine O_nil ?_
  refine C_seq ?_
  refine C_seq ?_
  refine C_region ?_
  refine O_p (.i .i64 (((k0 : Nat)) : Int)) (r_mv rfl) ?_
  refine O_p (.b false) (by exact (by rw [r_lss rfl rfl, decide_eq_false (by omega)])) ?_
  refine O_p (.b false) (r_mv rfl) ?_
  refine O_gk rfl ?_
  refine O_p (.p (some (Pb, (i * 4 + 0)))) (r_mv rfl) ?_
  refine O_gk rfl ?_
  refine O_p (.p (some (Pb, (i * 4 + 0)))) (r_nilc rfl) ?_
  refine O_gk rfl ?_
  refine O_p (.p (some (Pb, (i * 4 + 1)))) (r_fadd' rfl rfl) ?_
  refine O_gk rfl ?_
  refine O_p sv (by exact (r_ld rfl hH9.get0 ((foc_get hrw hi rfl (by decide)).trans rfl))) ?_
  refine O_gk rfl ?_
  refine O_p (.i .i64 (((k0 : Nat)) : Int)) (r_mv rfl) ?_
  refine O_gk rfl ?_
  refine O_q (by exact Sq.cell hss (su_lens sb) hH9.top1 rfl (i := k0) rfl (r := [(.s (txt tp)), (.i .i64 2), (.b false)]) (su_get hsi) (by decide)) fun v11 hv10 => ?_
  obtain ⟨rb12, ro13, rfl, hrg14, hrt15, hrb16, hput17, hqs18⟩ := hv10
  refine O_gk rfl ?_
  refine O_p (.p (some (rb12, (ro13 + 2)))) (r_fadd' rfl rfl) ?_
  refine O_gk rfl ?_
  refine O_p (.b false) (r_ldR (q := 2) rfl ⟨_, _, hrg14, hrt15⟩ rfl) ?_
  refine O_p (.b false) (r_pick_f rfl rfl) ?_
  refine O_nil ?_
  refine C_cond (x := false) rfl (fun h => by cases h) (fun _ => ?_)
  refine C_skip ?_
  refine C_seq ?_
  refine C_seq ?_
  refine C_region ?_
  refine O_p (.p (some (Pb, (i * 4 + 0)))) (r_mv rfl) ?_
  refine O_p (.p (some (Pb, (i * 4 + 0)))) (r_nilc rfl) ?_
  refine O_p (.p (some (Pb, (i * 4 + 2)))) (r_fadd' rfl rfl) ?_
  refine O_p wv (by exact (r_ld rfl hH9.get0 ((foc_get hrw hi rfl (by decide)).trans rfl))) ?_
  refine O_p (.i .i64 (((rows.length : Nat)) : Int)) (by exact (by exact r_lenOf rfl (hsq.lenOf (flat_len hl5) (by decide)) hsq.isSl)) ?_
  refine O_p (.i .i64 ((room : Nat) : Int)) (r_mv rfl) ?_
  refine O_p (.b false) (by exact (by rw [r_lss rfl rfl, decide_eq_false (by omega)])) ?_
  refine O_nil ?_
  refine C_cond (x := false) rfl (fun h => by cases h) (fun _ => ?_)
  refine C_skip ?_
  refine C_seq ?_
  refine C_seq ?_
  refine C_region ?_
  refine O_p (.p (some (Pb, (i * 4 + 0)))) (r_mv rfl) ?_
  refine O_p (.p (some (Pb, (i * 4 + 0)))) (r_nilc rfl) ?_
  refine O_p (.p (some (Pb, (i * 4 + 1)))) (r_fadd' rfl rfl) ?_
  refine O_p sv (by exact (r_ld rfl hH9.get0 ((foc_get hrw hi rfl (by decide)).trans rfl))) ?_
  refine O_p (.i .i64 (((k0 : Nat)) : Int)) (r_mv rfl) ?_
  refine O_q (by exact Sq.cell hss (su_lens sb) hH9.top1 rfl (i := k0) rfl (r := [(.s (txt tp)), (.i .i64 2), (.b false)]) (su_get hsi) (by decide)) fun v20 hv19 => ?_
  obtain ⟨rb21, ro22, rfl, hrg23, hrt24, hrb25, hput26, hqs27⟩ := hv19
  refine O_p (.p (some (rb21, (ro22 + 1)))) (r_fadd' rfl rfl) ?_
  refine O_p (.i .i64 2) (r_ldR (q := 1) rfl ⟨_, _, hrg23, hrt24⟩ rfl) ?_
  refine O_p (.b false) (r_bin rfl rfl rfl) ?_
  refine O_nil ?_
  refine C_cond (x := false) rfl (fun h => by cases h) (fun _ => ?_)
  refine C_skip ?_
  refine C_seq ?_
  refine C_region ?_
  refine O_p (.p (some (Pb, (i * 4 + 0)))) (r_mv rfl) ?_
  refine O_p (.p (some (Pb, (i * 4 + 0)))) (r_nilc rfl) ?_
  refine O_p (.p (some (Pb, (i * 4 + 3)))) (r_fadd' rfl rfl) ?_
  refine O_p (.i .i64 lost) (by exact (r_ld rfl hH9.get0 ((foc_get hrw hi rfl (by decide)).trans rfl))) ?_
  refine O_p (.i .i64 (lost + 1)) (by exact (r_addi rfl rfl (wrap_i64 (by omega) (by omega)))) ?_
  refine O_p (.p (some (Pb, (i * 4 + 0)))) (r_nilc rfl) ?_
  refine O_p (.p (some (Pb, (i * 4 + 3)))) (r_fadd' rfl rfl) ?_
  refine O_store (vs := [(.i .i64 (lost + 1))]) (c' := ((rws).set i (rrow on sv wv (lost + 1))).flatten) rfl (by rfl) hH9.get0 rfl (List.cons_ne_nil _ _) (foc_len (n := 1) hrw hi rfl (Nat.le_of_ble_eq_true rfl)) (foc_put hrw hi rfl (Nat.le_of_ble_eq_true rfl) rfl) fun H28 hW29 => ?_
  have hH30 := hH9.wr0 hW29
  refine O_nil ?_
  refine C_seq ?_
  refine C_seq ?_
  refine C_region ?_
  refine O_p (.i .i64 0) (r_mv rfl) ?_
  refine O_nil ?_
  refine C_block ?_
  refine C_while (fun m31 T32 H33 => ∃ j : Nat, m31 = rows.length - j ∧ j ≤ rows.length ∧ Hs H33 ([(Pb, some (.cells (((rws).set i (rrow on sv wv (lost + 1))).flatten) true))] ++ ((qseg sv sc) ++ ([(n1, some (.cells ([(.s (txt tp)), (.i .i64 frm), (.i .i64 num), (.b tx), dv]) true))] ++ ((qseg wv wc) ++ (R))))) ∧ T32.get 0 = (.p (some (Pb, (i * 4 + 0)))) ∧ T32.get 4 = (.p (some (n1, 0))) ∧ T32.get 7 = (.i .i64 (((k0 : Nat)) : Int)) ∧ T32.get 8 = (.i .i64 (((j : Nat)) : Int))) (fun m31 T32 H33 hI34 => ?_) rows.length _ _ ⟨0, rfl, Nat.zero_le _, hH30, rfl, rfl, rfl, rfl⟩
  obtain ⟨j, hm35, hp36, hH41, hT37, hT38, hT39, hT40⟩ := hI34
  refine C_seq ?_
  refine C_seq ?_
  by_cases hjl : j < rows.length
  ·
    refine C_region ?_
    refine O_p (.i .i64 (((j : Nat)) : Int)) (r_mv hT40) ?_
    refine O_p (.p (some (Pb, (i * 4 + 0)))) (r_mv hT37) ?_
    refine O_p (.p (some (Pb, (i * 4 + 0)))) (r_nilc rfl) ?_
    refine O_p (.p (some (Pb, (i * 4 + 2)))) (r_fadd' rfl rfl) ?_
    refine O_p wv (by exact (r_ld rfl hH41.get0 ((foc_get hrw hi rfl (by decide)).trans rfl))) ?_
    refine O_p (.i .i64 (((rows.length : Nat)) : Int)) (by exact (by exact r_lenOf rfl (hsq.lenOf (flat_len hl5) (by decide)) hsq.isSl)) ?_
    refine O_p (.b true) (by exact (by rw [r_lss rfl rfl, decide_eq_true (by omega)])) ?_
    refine O_p (.b true) (r_mv rfl) ?_
    refine O_gk rfl ?_
    refine O_p (.p (some (Pb, (i * 4 + 0)))) (r_mv hT37) ?_
    refine O_gk rfl ?_
    refine O_p (.p (some (Pb, (i * 4 + 0)))) (r_nilc rfl) ?_
    refine O_gk rfl ?_
    refine O_p (.p (some (Pb, (i * 4 + 1)))) (r_fadd' rfl rfl) ?_
    refine O_gk rfl ?_
    refine O_p sv (by exact (r_ld rfl hH41.get0 ((foc_get hrw hi rfl (by decide)).trans rfl))) ?_
    refine O_gk rfl ?_
    refine O_p (.i .i64 (((k0 : Nat)) : Int)) (r_mv hT39) ?_
    refine O_gk rfl ?_
    refine O_q (by exact Sq.cell hss (su_lens sb) hH41.top1 rfl (i := k0) rfl (r := [(.s (txt tp)), (.i .i64 2), (.b false)]) (su_get hsi) (by decide)) fun v43 hv42 => ?_
    obtain ⟨rb44, ro45, rfl, hrg46, hrt47, hrb48, hput49, hqs50⟩ := hv42
    refine O_gk rfl ?_
    refine O_p (.p (some (rb44, (ro45 + 1)))) (r_fadd' rfl rfl) ?_
    refine O_gk rfl ?_
    refine O_p (.i .i64 2) (r_ldR (q := 1) rfl ⟨_, _, hrg46, hrt47⟩ rfl) ?_
    refine O_gk rfl ?_
    refine O_p (.b true) (r_bin rfl rfl rfl) ?_
    refine O_p (.b true) (r_pick_t rfl rfl) ?_
    refine O_nil ?_
    refine C_cond (x := true) rfl (fun _ => ?_) (fun h => by cases h)
    refine C_skip ?_
    refine C_seq ?_
    refine C_block ?_
    refine C_seq ?_
    refine C_draw fun b51 H52 hbase53 hA54 => ?_
    have hH55 := hH41.keep (by have := hA54.1; omega) (fun q _ => hA54.2 q) ((hH41.old).aside hA54).ok
    have hjw : j < w.length := by omega
    obtain ⟨x, ri, hxi, hri, hit⟩ := hir.get hjw
    have hit2 := hit
    obtain ⟨ka, kc, kg, rfl, _⟩ := hit2
    have hP : x.tp ≠ tp := of_decide_eq_false (fx_ne (P := (fun y => decide (y.tp = tp))) (by omega) hxi)
    refine D_l (v := (.p (some (Pb, (i * 4 + 0))))) rfl rfl rfl (r_mv hT37) ?_
    refine D_l (v := (.p (some (Pb, (i * 4 + 0))))) rfl rfl rfl (r_nilc rfl) ?_
    refine D_l (v := (.p (some (Pb, (i * 4 + 2))))) rfl rfl rfl (r_fadd' rfl rfl) ?_
    refine D_l (v := (.i .i64 (((j : Nat)) : Int))) rfl rfl rfl (r_mv hT40) ?_
    refine D_l (v := (.p (some (n1, 0)))) rfl rfl rfl (r_fadd' hT38 rfl) ?_
    refine D_r (v := wv) rfl rfl rfl (by exact (r_ld rfl hH55.get0 ((foc_get hrw hi rfl (by decide)).trans rfl))) ?_
    refine D_q rfl rfl rfl (by exact Sq.cell hsq hl5 hH55.top3 rfl (i := j) rfl (r := [(.s (txt x.tp)), (.i .i64 x.frm), (.i .i64 x.num), (.b x.tx), (.sl ka x.d.length kc kg)]) hri (by decide)) fun v57 hv56 => ?_
    obtain ⟨rb58, ro59, rfl, hrg60, hrt61, hrb62, hput63, hqs64⟩ := hv56
    refine D_l (v := (.p (some (rb58, (ro59 + 0))))) rfl rfl rfl (r_fadd' rfl rfl) ?_
    refine D_r (v := (.s (txt x.tp))) rfl rfl rfl (r_ldR (q := 0) rfl ⟨_, _, hrg60, hrt61⟩ rfl) ?_
    refine D_r (v := (.s (txt tp))) rfl rfl rfl (r_ld rfl hH55.get2 rfl) ?_
    refine D_l (v := (.b false)) rfl rfl rfl (by exact (by rw [r_eqt rfl rfl, decide_eq_false hP])) ?_
    refine D_nil ?_
    refine C_cond (x := false) rfl (fun h => by cases h) (fun _ => ?_)
    refine C_skip ?_
    refine C_region ?_
    refine O_p (.i .i64 (((j : Nat)) : Int)) (r_mv hT40) ?_
    refine O_p (.i .i64 ((((j : Nat)) : Int) + 1)) (by exact (r_addi rfl rfl (wrap_i64 (by omega) (by omega)))) ?_
    refine O_p (.i .i64 ((((j : Nat)) : Int) + 1)) (r_mv rfl) ?_
    refine O_nil ?_
    exact ⟨rows.length - (j + 1), by omega, (j + 1), rfl, by omega, hH55, hT37, hT38, hT39, rfl⟩
  ·
    refine C_region ?_
    refine O_p (.i .i64 (((j : Nat)) : Int)) (r_mv hT40) ?_
    refine O_p (.p (some (Pb, (i * 4 + 0)))) (r_mv hT37) ?_
    refine O_p (.p (some (Pb, (i * 4 + 0)))) (r_nilc rfl) ?_
    refine O_p (.p (some (Pb, (i * 4 + 2)))) (r_fadd' rfl rfl) ?_
    refine O_p wv (by exact (r_ld rfl hH41.get0 ((foc_get hrw hi rfl (by decide)).trans rfl))) ?_
    refine O_p (.i .i64 (((rows.length : Nat)) : Int)) (by exact (by exact r_lenOf rfl (hsq.lenOf (flat_len hl5) (by decide)) hsq.isSl)) ?_
    refine O_p (.b false) (by exact (by rw [r_lss rfl rfl, decide_eq_false (by omega)])) ?_
    refine O_p (.b false) (r_mv rfl) ?_
    refine O_gf rfl ?_
    refine O_gf rfl ?_
    refine O_gf rfl ?_
    refine O_gf rfl ?_
    refine O_gf rfl ?_
    refine O_gf rfl ?_
    refine O_gf rfl ?_
    refine O_gf rfl ?_
    refine O_gf rfl ?_
    refine O_p (.b false) (r_pick_f rfl rfl) ?_
    refine O_nil ?_
    refine C_cond (x := false) rfl (fun h => by cases h) (fun _ => ?_)
    refine C_exit ?_
    refine nx_exit ?_
    refine nx_exit ?_
    refine bk_hit ?_
    refine C_seq ?_
    refine C_region ?_
    refine O_p (.b false) (r_mv rfl) ?_
    refine O_nil ?_
    refine C_ret ?_
    have hH65 := (hH41.sub2)
    have hH66 := (((hH65.top2).top2).top2)
    exact ⟨.inr rfl, _, resL_one (r_tmp (v := .b false) rfl), rfl, hH66⟩
set_option maxHeartbeats 1000000 in
theorem rhand_old {H : AH} {R D : HL} {Pb i room k0 k : Nat} {rws rows : List (List AV)} {on : Bool} {sv wv : AV} {sc wc : List AV} {sb : List Su} {w : List It} {lost md : Int} {tp : List UInt8} {frm num : Int} {tx : Bool} {dv : AV} (hrw : ∀ x ∈ rws, x.length = 4) (hi : i < rws.length) (hss : Sq 3 sv sc (sb.map suRow).flatten) (hsl : sb.length ≤ 1000000) (hsq : Sq 5 wv wc rows.flatten) (hl5 : ∀ x ∈ rows, x.length = 5) (hir : ItsR D rows w) (hfitw : rows.length ≤ 1000000) (hlost : 0 ≤ lost ∧ lost < 4611686018427387904) (hfs : sb.findIdx (sfP tp) = k0) (hsi : sb[k0]? = some ⟨tp, 2, false⟩) (hroom : room ≤ rows.length) (hfi : w.findIdx (fun y => decide (y.tp = tp)) = k) (hk : k < rows.length) (hH0 : Hs H ([(Pb, some (.cells (((rws).set i (rrow on sv wv lost)).flatten) true))] ++ ((qseg sv sc) ++ ((qseg wv wc) ++ (R))))) : Ev tabA spA (.fn (.func 46) [] []) [.p (some (Pb, i * 4 + 0)), .agg [(.s (txt tp)), (.i .i64 frm), (.i .i64 num), (.b tx), dv], .i .i64 room] H (fun r H' => r = .b true ∧ ∃ v' c', Sq 5 v' c' (rows.eraseIdx k ++ [[(.s (txt tp)), (.i .i64 frm), (.i .i64 num), (.b tx), dv]]).flatten ∧ Hs H' ([(Pb, some (.cells (((rws).set i (rrow on sv v' (lost + 1))).flatten) true))] ++ ((qseg sv sc) ++ ((qseg v' c') ++ (R))))) := by
  refine Ev_C (F := x46) rfl ?_
  have hrl := hir.1
  have hkl : k0 < sb.length := (List.getElem?_eq_some_iff.1 hsi).1
  refine C_seq ?_
  refine C_region ?_
  refine O_box (z := [(.s (txt tp)), (.i .i64 frm), (.i .i64 num), (.b tx), dv]) rfl fun n1 H2 hN3 => ?_
  have hH4 := hH0.new hN3
  refine O_p (.b false) (r_mv rfl) ?_
  refine O_nil ?_
  refine C_seq ?_
  refine C_region ?_
  refine O_p (.p (some (Pb, (i * 4 + 0)))) (r_mv rfl) ?_
  refine O_p (.p (some (n1, 0))) (r_fadd' rfl rfl) ?_
  refine O_p (.s (txt tp)) (r_ld rfl hH4.get0 rfl) ?_
  have hH5 := ((hH4.top2).top2)
  refine O_call (Ev.mono (sat_ev (tp := tp) hrw hi hss hsl hH5) fun v6 H7 hq8 => ?_)
  rw [show fxI (sfP tp) sb = ((k0 : Nat) : Int) from by unfold fxI; rw [hfs, if_pos hkl]] at hq8
  obtain ⟨rfl, hH9⟩ := hq8
  refine O_p (.i .i64 (((k0 : Nat)) : Int)) (r_mv rfl) ?_
  refine O_nil ?_
  refine C_seq ?_
  refine C_seq ?_
  refine C_region ?_
  refine O_p (.i .i64 (((k0 : Nat)) : Int)) (r_mv rfl) ?_
  refine O_p (.b false) (by exact (by rw [r_lss rfl rfl, decide_eq_false (by omega)])) ?_
  refine O_p (.b false) (r_mv rfl) ?_
  refine O_gk rfl ?_
  refine O_p (.p (some (Pb, (i * 4 + 0)))) (r_mv rfl) ?_
  refine O_gk rfl ?_
  refine O_p (.p (some (Pb, (i * 4 + 0)))) (r_nilc rfl) ?_
  refine O_gk rfl ?_
  refine O_p (.p (some (Pb, (i * 4 + 1)))) (r_fadd' rfl rfl) ?_
  refine O_gk rfl ?_
  refine O_p sv (by exact (r_ld rfl hH9.get0 ((foc_get hrw hi rfl (by decide)).trans rfl))) ?_
  refine O_gk rfl ?_
  refine O_p (.i .i64 (((k0 : Nat)) : Int)) (r_mv rfl) ?_
  refine O_gk rfl ?_
  refine O_q (by exact Sq.cell hss (su_lens sb) hH9.top1 rfl (i := k0) rfl (r := [(.s (txt tp)), (.i .i64 2), (.b false)]) (su_get hsi) (by decide)) fun v11 hv10 => ?_
  obtain ⟨rb12, ro13, rfl, hrg14, hrt15, hrb16, hput17, hqs18⟩ := hv10
  refine O_gk rfl ?_
  refine O_p (.p (some (rb12, (ro13 + 2)))) (r_fadd' rfl rfl) ?_
  refine O_gk rfl ?_
  refine O_p (.b false) (r_ldR (q := 2) rfl ⟨_, _, hrg14, hrt15⟩ rfl) ?_
  refine O_p (.b false) (r_pick_f rfl rfl) ?_
  refine O_nil ?_
  refine C_cond (x := false) rfl (fun h => by cases h) (fun _ => ?_)
  refine C_skip ?_
  refine C_seq ?_
  refine C_seq ?_
  refine C_region ?_
  refine O_p (.p (some (Pb, (i * 4 + 0)))) (r_mv rfl) ?_
  refine O_p (.p (some (Pb, (i * 4 + 0)))) (r_nilc rfl) ?_
  refine O_p (.p (some (Pb, (i * 4 + 2)))) (r_fadd' rfl rfl) ?_
  refine O_p wv (by exact (r_ld rfl hH9.get0 ((foc_get hrw hi rfl (by decide)).trans rfl))) ?_
  refine O_p (.i .i64 (((rows.length : Nat)) : Int)) (by exact (by exact r_lenOf rfl (hsq.lenOf (flat_len hl5) (by decide)) hsq.isSl)) ?_
  refine O_p (.i .i64 ((room : Nat) : Int)) (r_mv rfl) ?_
  refine O_p (.b false) (by exact (by rw [r_lss rfl rfl, decide_eq_false (by omega)])) ?_
  refine O_nil ?_
  refine C_cond (x := false) rfl (fun h => by cases h) (fun _ => ?_)
  refine C_skip ?_
  refine C_seq ?_
  refine C_seq ?_
  refine C_region ?_
  refine O_p (.p (some (Pb, (i * 4 + 0)))) (r_mv rfl) ?_
  refine O_p (.p (some (Pb, (i * 4 + 0)))) (r_nilc rfl) ?_
  refine O_p (.p (some (Pb, (i * 4 + 1)))) (r_fadd' rfl rfl) ?_
  refine O_p sv (by exact (r_ld rfl hH9.get0 ((foc_get hrw hi rfl (by decide)).trans rfl))) ?_
  refine O_p (.i .i64 (((k0 : Nat)) : Int)) (r_mv rfl) ?_
  refine O_q (by exact Sq.cell hss (su_lens sb) hH9.top1 rfl (i := k0) rfl (r := [(.s (txt tp)), (.i .i64 2), (.b false)]) (su_get hsi) (by decide)) fun v20 hv19 => ?_
  obtain ⟨rb21, ro22, rfl, hrg23, hrt24, hrb25, hput26, hqs27⟩ := hv19
  refine O_p (.p (some (rb21, (ro22 + 1)))) (r_fadd' rfl rfl) ?_
  refine O_p (.i .i64 2) (r_ldR (q := 1) rfl ⟨_, _, hrg23, hrt24⟩ rfl) ?_
  refine O_p (.b false) (r_bin rfl rfl rfl) ?_
  refine O_nil ?_
  refine C_cond (x := false) rfl (fun h => by cases h) (fun _ => ?_)
  refine C_skip ?_
  refine C_seq ?_
  refine C_region ?_
  refine O_p (.p (some (Pb, (i * 4 + 0)))) (r_mv rfl) ?_
  refine O_p (.p (some (Pb, (i * 4 + 0)))) (r_nilc rfl) ?_
  refine O_p (.p (some (Pb, (i * 4 + 3)))) (r_fadd' rfl rfl) ?_
  refine O_p (.i .i64 lost) (by exact (r_ld rfl hH9.get0 ((foc_get hrw hi rfl (by decide)).trans rfl))) ?_
  refine O_p (.i .i64 (lost + 1)) (by exact (r_addi rfl rfl (wrap_i64 (by omega) (by omega)))) ?_
  refine O_p (.p (some (Pb, (i * 4 + 0)))) (r_nilc rfl) ?_
  refine O_p (.p (some (Pb, (i * 4 + 3)))) (r_fadd' rfl rfl) ?_
  refine O_store (vs := [(.i .i64 (lost + 1))]) (c' := ((rws).set i (rrow on sv wv (lost + 1))).flatten) rfl (by rfl) hH9.get0 rfl (List.cons_ne_nil _ _) (foc_len (n := 1) hrw hi rfl (Nat.le_of_ble_eq_true rfl)) (foc_put hrw hi rfl (Nat.le_of_ble_eq_true rfl) rfl) fun H28 hW29 => ?_
  have hH30 := hH9.wr0 hW29
  refine O_nil ?_
  refine C_seq ?_
  refine C_seq ?_
  refine C_region ?_
  refine O_p (.i .i64 0) (r_mv rfl) ?_
  refine O_nil ?_
  refine C_block ?_
  refine C_while (fun m31 T32 H33 => ∃ j : Nat, m31 = k - j ∧ j ≤ k ∧ Hs H33 ([(Pb, some (.cells (((rws).set i (rrow on sv wv (lost + 1))).flatten) true))] ++ ((qseg sv sc) ++ ([(n1, some (.cells ([(.s (txt tp)), (.i .i64 frm), (.i .i64 num), (.b tx), dv]) true))] ++ ((qseg wv wc) ++ (R))))) ∧ T32.get 0 = (.p (some (Pb, (i * 4 + 0)))) ∧ T32.get 4 = (.p (some (n1, 0))) ∧ T32.get 7 = (.i .i64 (((k0 : Nat)) : Int)) ∧ T32.get 8 = (.i .i64 (((j : Nat)) : Int))) (fun m31 T32 H33 hI34 => ?_) k _ _ ⟨0, rfl, Nat.zero_le _, hH30, rfl, rfl, rfl, rfl⟩
  obtain ⟨j, hm35, hp36, hH41, hT37, hT38, hT39, hT40⟩ := hI34
  refine C_seq ?_
  refine C_seq ?_
  refine C_region ?_
  refine O_p (.i .i64 (((j : Nat)) : Int)) (r_mv hT40) ?_
  refine O_p (.p (some (Pb, (i * 4 + 0)))) (r_mv hT37) ?_
  refine O_p (.p (some (Pb, (i * 4 + 0)))) (r_nilc rfl) ?_
  refine O_p (.p (some (Pb, (i * 4 + 2)))) (r_fadd' rfl rfl) ?_
  refine O_p wv (by exact (r_ld rfl hH41.get0 ((foc_get hrw hi rfl (by decide)).trans rfl))) ?_
  refine O_p (.i .i64 (((rows.length : Nat)) : Int)) (by exact (by exact r_lenOf rfl (hsq.lenOf (flat_len hl5) (by decide)) hsq.isSl)) ?_
  refine O_p (.b true) (by exact (by rw [r_lss rfl rfl, decide_eq_true (by omega)])) ?_
  refine O_p (.b true) (r_mv rfl) ?_
  refine O_gk rfl ?_
  refine O_p (.p (some (Pb, (i * 4 + 0)))) (r_mv hT37) ?_
  refine O_gk rfl ?_
  refine O_p (.p (some (Pb, (i * 4 + 0)))) (r_nilc rfl) ?_
  refine O_gk rfl ?_
  refine O_p (.p (some (Pb, (i * 4 + 1)))) (r_fadd' rfl rfl) ?_
  refine O_gk rfl ?_
  refine O_p sv (by exact (r_ld rfl hH41.get0 ((foc_get hrw hi rfl (by decide)).trans rfl))) ?_
  refine O_gk rfl ?_
  refine O_p (.i .i64 (((k0 : Nat)) : Int)) (r_mv hT39) ?_
  refine O_gk rfl ?_
  refine O_q (by exact Sq.cell hss (su_lens sb) hH41.top1 rfl (i := k0) rfl (r := [(.s (txt tp)), (.i .i64 2), (.b false)]) (su_get hsi) (by decide)) fun v43 hv42 => ?_
  obtain ⟨rb44, ro45, rfl, hrg46, hrt47, hrb48, hput49, hqs50⟩ := hv42
  refine O_gk rfl ?_
  refine O_p (.p (some (rb44, (ro45 + 1)))) (r_fadd' rfl rfl) ?_
  refine O_gk rfl ?_
  refine O_p (.i .i64 2) (r_ldR (q := 1) rfl ⟨_, _, hrg46, hrt47⟩ rfl) ?_
  refine O_gk rfl ?_
  refine O_p (.b true) (r_bin rfl rfl rfl) ?_
  refine O_p (.b true) (r_pick_t rfl rfl) ?_
  refine O_nil ?_
  refine C_cond (x := true) rfl (fun _ => ?_) (fun h => by cases h)
  refine C_skip ?_
  refine C_seq ?_
  refine C_block ?_
  refine C_seq ?_
  by_cases hjk : j = k
  ·
    refine C_draw fun b51 H52 hbase53 hA54 => ?_
    have hH55 := hH41.keep (by have := hA54.1; omega) (fun q _ => hA54.2 q) ((hH41.old).aside hA54).ok
    have hjw : j < w.length := by omega
    obtain ⟨x, ri, hxi, hri, hit⟩ := hir.get hjw
    have hit2 := hit
    obtain ⟨ka, kc, kg, rfl, _⟩ := hit2
    have hP : x.tp = tp := of_decide_eq_true (fx_yes (P := (fun y => decide (y.tp = tp))) (by omega) hxi)
    refine D_l (v := (.p (some (Pb, (i * 4 + 0))))) rfl rfl rfl (r_mv hT37) ?_
    refine D_l (v := (.p (some (Pb, (i * 4 + 0))))) rfl rfl rfl (r_nilc rfl) ?_
    refine D_l (v := (.p (some (Pb, (i * 4 + 2))))) rfl rfl rfl (r_fadd' rfl rfl) ?_
    refine D_l (v := (.i .i64 (((j : Nat)) : Int))) rfl rfl rfl (r_mv hT40) ?_
    refine D_l (v := (.p (some (n1, 0)))) rfl rfl rfl (r_fadd' hT38 rfl) ?_
    refine D_r (v := wv) rfl rfl rfl (by exact (r_ld rfl hH55.get0 ((foc_get hrw hi rfl (by decide)).trans rfl))) ?_
    refine D_q rfl rfl rfl (by exact Sq.cell hsq hl5 hH55.top3 rfl (i := j) rfl (r := [(.s (txt x.tp)), (.i .i64 x.frm), (.i .i64 x.num), (.b x.tx), (.sl ka x.d.length kc kg)]) hri (by decide)) fun v57 hv56 => ?_
    obtain ⟨rb58, ro59, rfl, hrg60, hrt61, hrb62, hput63, hqs64⟩ := hv56
    refine D_l (v := (.p (some (rb58, (ro59 + 0))))) rfl rfl rfl (r_fadd' rfl rfl) ?_
    refine D_r (v := (.s (txt x.tp))) rfl rfl rfl (r_ldR (q := 0) rfl ⟨_, _, hrg60, hrt61⟩ rfl) ?_
    refine D_r (v := (.s (txt tp))) rfl rfl rfl (r_ld rfl hH55.get2 rfl) ?_
    refine D_l (v := (.b true)) rfl rfl rfl (by exact (by rw [r_eqt rfl rfl, decide_eq_true hP])) ?_
    refine D_nil ?_
    refine C_cond (x := true) rfl (fun _ => ?_) (fun h => by cases h)
    refine C_seq ?_
    refine C_draw fun b65 H66 hbase67 hA68 => ?_
    have hH69 : Hs H66 (asideL b65 [1, 18] ++ _) := hH55.aside hA68 [1, 18] hbase67 rfl (by decide)
    have hH70 : Hs H66 ([(b65 + 1, none)] ++ ([(b65 + 18, none)] ++ _)) := hH69
    refine D_l (v := (.p (some (Pb, (i * 4 + 0))))) rfl rfl rfl (r_mv hT37) ?_
    refine D_l (v := (.p (some (Pb, (i * 4 + 0))))) rfl rfl rfl (r_mv hT37) ?_
    refine D_l (v := (.p (some (Pb, (i * 4 + 0))))) rfl rfl rfl (r_nilc rfl) ?_
    refine D_l (v := (.p (some (Pb, (i * 4 + 2))))) rfl rfl rfl (r_fadd' rfl rfl) ?_
    refine D_l (v := (.i .i64 (((j : Nat)) : Int))) rfl rfl rfl (r_mv hT40) ?_
    refine D_l (v := (.p (some (Pb, (i * 4 + 0))))) rfl rfl rfl (r_mv hT37) ?_
    refine D_l (v := (.p (some (Pb, (i * 4 + 0))))) rfl rfl rfl (r_nilc rfl) ?_
    refine D_l (v := (.p (some (Pb, (i * 4 + 2))))) rfl rfl rfl (r_fadd' rfl rfl) ?_
    refine D_l (v := (.i .i64 (((j : Nat)) : Int))) rfl rfl rfl (r_mv hT40) ?_
    refine D_l (v := (.i .i64 ((((j : Nat)) : Int) + 1))) rfl rfl rfl (by exact (r_addi rfl rfl (wrap_i64 (by omega) (by omega)))) ?_
    refine D_r (v := wv) rfl rfl rfl (by exact (r_ld rfl hH70.get2 ((foc_get hrw hi rfl (by decide)).trans rfl))) ?_
    refine D_q rfl rfl rfl (by exact Sq.rdHi hsq hl5 (by decide) hH70.top5 rfl (i := j) rfl (by omega)) fun v72 hv71 => ?_
    obtain ⟨hl73, hs74⟩ := hv71
    refine D_r (v := wv) rfl rfl rfl (by exact (r_ld rfl hH70.get2 ((foc_get hrw hi rfl (by decide)).trans rfl))) ?_
    refine D_q rfl rfl rfl (by exact Sq.rdLo hsq hl5 (by decide) hH70.top5 rfl (i := (j + 1)) rfl (by omega)) fun v76 hv75 => ?_
    obtain ⟨hl77, hs78⟩ := hv75
    refine D_r (v := (.agg [(.s (txt tp)), (.i .i64 frm), (.i .i64 num), (.b tx), dv])) rfl rfl rfl (r_ldA hT38 hH70.get4 rfl) ?_
    refine D_m (f := fun n => ((.sl (some (n, 0)) 0 0 0), .cells [] true)) rfl rfl fun H80 hW81 => ?_
    have hH83 := hH70.wr0 hW81
    generalize hn82 : b65 + 1 = n79 at hW81 hH83 ⊢
    refine And.intro (And.intro (Or.inr (look_run rfl rfl (r_ldA hT38 hH83.get4 rfl))) (And.intro (Or.inr (look_run rfl rfl (r_ld rfl hH83.get2 ((foc_get hrw hi rfl (by decide)).trans rfl)))) (And.intro (Or.inr (look_run rfl rfl (r_ld rfl hH83.get2 ((foc_get hrw hi rfl (by decide)).trans rfl)))) True.intro))) ?_
    refine D_qh rfl rfl (by exact r_appq (n := 0) (k := j) (new := (rows.take j).flatten) hH83.top0 (Sq.full (b := n79) (n := 0) (g := 0) (sz := 5) (l := []) (.inl rfl) rfl) rfl rfl hl73 (hs74 _ _ hH83.top5) (tk_len hl5 (by omega)) (by decide) (by decide) rfl (by first | omega | (simp only [List.length_take, List.length_drop, List.length_append, List.length_cons, List.length_nil, beN_len] <;> omega))) fun o84 H85 hA87 => ?_
    obtain ⟨c86, hA87, hH88⟩ := hA87
    refine And.intro (And.intro (Or.inr (look_run rfl rfl (r_ldA hT38 hH88.get4 rfl))) (And.intro (Or.inr (look_run rfl rfl (r_ld rfl hH88.get2 ((foc_get hrw hi rfl (by decide)).trans rfl)))) (And.intro (Or.inl rfl) True.intro))) ?_
    refine D_qh rfl rfl (by exact r_appq (n := (0 + j)) (k := (rows.length - (j + 1))) (new := (rows.drop (j + 1)).flatten) hH88.top0 hA87 rfl rfl hl77 (hs78 _ _ hH88.top5) (dr_len hl5) (by decide) (by decide) (len_app rfl (tk_len hl5 (by omega))) (by first | omega | (simp only [List.length_take, List.length_drop, List.length_append, List.length_cons, List.length_nil, beN_len] <;> omega))) fun o89 H90 hA92 => ?_
    obtain ⟨c91, hA92, hH93⟩ := hA92
    refine And.intro (And.intro (Or.inr (look_run rfl rfl (r_ldA hT38 hH93.get4 rfl))) (And.intro (Or.inl rfl) True.intro)) ?_
    refine D_m (f := fun n => ((.sl (some (n, 0)) 1 1 0), .cells [(.s (txt tp)), (.i .i64 frm), (.i .i64 num), (.b tx), dv] true)) rfl rfl fun H95 hW96 => ?_
    have hH98 := hH93.wr1 hW96
    generalize hn97 : b65 + 18 = n94 at hW96 hH98 ⊢
    refine And.intro (And.intro (Or.inl rfl) True.intro) ?_
    refine D_qh rfl rfl (by exact r_appq (n := ((0 + j) + (rows.length - (j + 1)))) (k := 1) (new := [(.s (txt tp)), (.i .i64 frm), (.i .i64 num), (.b tx), dv]) hH98.top0 hA92 rfl rfl rfl (src_blk hH98.get1 (by rfl)) rfl (by decide) (by decide) (len_app (len_app rfl (tk_len hl5 (by omega))) (dr_len hl5)) (by first | omega | (simp only [List.length_take, List.length_drop, List.length_append, List.length_cons, List.length_nil, beN_len] <;> omega))) fun o99 H100 hA102 => ?_
    obtain ⟨c101, hA102, hH103⟩ := hA102
    refine And.intro True.intro ?_
    obtain ⟨qa104, ql105, qc106, qg107, rfl⟩ := hA102.isSl
    refine D_l (v := (.p (some (Pb, (i * 4 + 0))))) rfl rfl rfl (r_nilc rfl) ?_
    refine D_l (v := (.p (some (Pb, (i * 4 + 2))))) rfl rfl rfl (r_fadd' rfl rfl) ?_
    refine D_store (vs := [(.sl qa104 ql105 qc106 qg107)]) (c' := ((rws).set i (rrow on sv (.sl qa104 ql105 qc106 qg107) (lost + 1))).flatten) rfl (by rfl) hH103.get2 rfl (List.cons_ne_nil _ _) (foc_len (n := 1) hrw hi rfl (Nat.le_of_ble_eq_true rfl)) (foc_put hrw hi rfl (Nat.le_of_ble_eq_true rfl) rfl) fun H108 hW109 => ?_
    have hH110 := hH103.wr2 hW109
    refine And.intro True.intro ?_
    refine D_nil ?_
    refine C_seq ?_
    refine C_region ?_
    refine O_p (.b true) (r_mv rfl) ?_
    refine O_nil ?_
    refine C_ret ?_
    refine bk_ret ?_
    refine nx_ret ?_
    refine nx_ret ?_
    refine bk_ret ?_
    refine nx_ret ?_
    have hH111 := (((hH110.sub1).sub3).sub3)
    have hH112 := ((hH111.top2).top2)
    exact ⟨.inr rfl, _, resL_one (r_tmp (v := .b true) rfl), rfl, (.sl qa104 ql105 qc106 qg107), c101, by have h := hA102; rw [flat_era, flat_snoc, hjk] at h; exact h, hH112⟩
  ·
    refine C_draw fun b113 H114 hbase115 hA116 => ?_
    have hH117 := hH41.keep (by have := hA116.1; omega) (fun q _ => hA116.2 q) ((hH41.old).aside hA116).ok
    have hjw : j < w.length := by omega
    obtain ⟨x, ri, hxi, hri, hit⟩ := hir.get hjw
    have hit2 := hit
    obtain ⟨ka, kc, kg, rfl, _⟩ := hit2
    have hP : x.tp ≠ tp := of_decide_eq_false (fx_ne (P := (fun y => decide (y.tp = tp))) (by omega) hxi)
    refine D_l (v := (.p (some (Pb, (i * 4 + 0))))) rfl rfl rfl (r_mv hT37) ?_
    refine D_l (v := (.p (some (Pb, (i * 4 + 0))))) rfl rfl rfl (r_nilc rfl) ?_
    refine D_l (v := (.p (some (Pb, (i * 4 + 2))))) rfl rfl rfl (r_fadd' rfl rfl) ?_
    refine D_l (v := (.i .i64 (((j : Nat)) : Int))) rfl rfl rfl (r_mv hT40) ?_
    refine D_l (v := (.p (some (n1, 0)))) rfl rfl rfl (r_fadd' hT38 rfl) ?_
    refine D_r (v := wv) rfl rfl rfl (by exact (r_ld rfl hH117.get0 ((foc_get hrw hi rfl (by decide)).trans rfl))) ?_
    refine D_q rfl rfl rfl (by exact Sq.cell hsq hl5 hH117.top3 rfl (i := j) rfl (r := [(.s (txt x.tp)), (.i .i64 x.frm), (.i .i64 x.num), (.b x.tx), (.sl ka x.d.length kc kg)]) hri (by decide)) fun v119 hv118 => ?_
    obtain ⟨rb120, ro121, rfl, hrg122, hrt123, hrb124, hput125, hqs126⟩ := hv118
    refine D_l (v := (.p (some (rb120, (ro121 + 0))))) rfl rfl rfl (r_fadd' rfl rfl) ?_
    refine D_r (v := (.s (txt x.tp))) rfl rfl rfl (r_ldR (q := 0) rfl ⟨_, _, hrg122, hrt123⟩ rfl) ?_
    refine D_r (v := (.s (txt tp))) rfl rfl rfl (r_ld rfl hH117.get2 rfl) ?_
    refine D_l (v := (.b false)) rfl rfl rfl (by exact (by rw [r_eqt rfl rfl, decide_eq_false hP])) ?_
    refine D_nil ?_
    refine C_cond (x := false) rfl (fun h => by cases h) (fun _ => ?_)
    refine C_skip ?_
    refine C_region ?_
    refine O_p (.i .i64 (((j : Nat)) : Int)) (r_mv hT40) ?_
    refine O_p (.i .i64 ((((j : Nat)) : Int) + 1)) (by exact (r_addi rfl rfl (wrap_i64 (by omega) (by omega)))) ?_
    refine O_p (.i .i64 ((((j : Nat)) : Int) + 1)) (r_mv rfl) ?_
    refine O_nil ?_
    exact ⟨k - (j + 1), by omega, (j + 1), rfl, by omega, hH117, hT37, hT38, hT39, rfl⟩
end Go.Proofs.Ytnkpmidfefilbaa.E
