/- Topics: the state in general; IndexFunc, Delete. It bears no condition. -/
import Derived.Test.YtnkpmidfefilbaaE45
import Derived.Test.YtnkpmidfefilbaaH2
namespace Go.Proofs.Ytnkpmidfefilbaa.E

set_option linter.unusedVariables false
set_option linter.unusedSimpArgs false
/-! ### The state of a relay -/
abbrev subO (g : Option (Int × Bool)) : Option AV := g.map fun q => sub q.1 q.2
structure Su where
  tp : List UInt8
  mode : Int
  fl : Bool
structure Pa where
  on : Bool
  sb : List Su
  w : List It
  lost : Nat
def pa0 : Pa := ⟨false, [], [], 0⟩
abbrev mlS (l : List Su) : ML := l.map fun x => (x.tp, sub x.mode x.fl)
def sget : List Su → List UInt8 → Option (Int × Bool)
  | [], _ => none
  | x :: l, tp => if x.tp = tp then some (x.mode, x.fl) else sget l tp
def sdel : List Su → List UInt8 → List Su
  | [], _ => []
  | x :: l, tp => if x.tp = tp then l else x :: sdel l tp
def sset : List Su → List UInt8 → Int → Bool → List Su
  | [], tp, m, f => [⟨tp, m, f⟩]
  | x :: l, tp, m, f => if x.tp = tp then ⟨tp, m, f⟩ :: l else x :: sset l tp m f
theorem mget_mlS (tp : List UInt8) : ∀ l : List Su, mget (mlS l) tp = subO (sget l tp)
  | [] => rfl
  | x :: l => by
    show mget ((x.tp, sub x.mode x.fl) :: mlS l) tp = _
    unfold mget sget
    by_cases h : x.tp = tp
    · rw [if_pos h, if_pos h]; rfl
    · rw [if_neg h, if_neg h]; exact mget_mlS tp l
theorem mdel_mlS (tp : List UInt8) : ∀ l : List Su, mdel (mlS l) tp = mlS (sdel l tp)
  | [] => rfl
  | x :: l => by
    show mdel ((x.tp, sub x.mode x.fl) :: mlS l) tp = _
    unfold mdel sdel
    by_cases h : x.tp = tp
    · rw [if_pos h, if_pos h]
    · rw [if_neg h, if_neg h, mdel_mlS tp l]; rfl
theorem mset_mlS (tp : List UInt8) (m : Int) (f : Bool) : ∀ l : List Su, mset (mlS l) tp (sub m f) = mlS (sset l tp m f)
  | [] => rfl
  | x :: l => by
    show mset ((x.tp, sub x.mode x.fl) :: mlS l) tp (sub m f) = _
    unfold mset sset
    by_cases h : x.tp = tp
    · rw [if_pos h, if_pos h]; rfl
    · rw [if_neg h, if_neg h, mset_mlS tp m f l]; rfl
abbrev mlC (l : List (List UInt8 × Nat)) : ML := l.map fun x => (x.1, .i .i64 ((x.2 : Nat) : Int))
def cget : List (List UInt8 × Nat) → List UInt8 → Option Nat
  | [], _ => none
  | x :: l, tp => if x.1 = tp then some x.2 else cget l tp
def cset : List (List UInt8 × Nat) → List UInt8 → Nat → List (List UInt8 × Nat)
  | [], tp, n => [(tp, n)]
  | x :: l, tp, n => if x.1 = tp then (tp, n) :: l else x :: cset l tp n
theorem mget_mlC (tp : List UInt8) : ∀ l : List (List UInt8 × Nat), mget (mlC l) tp = (cget l tp).map fun n => .i .i64 ((n : Nat) : Int)
  | [] => rfl
  | x :: l => by
    show mget ((x.1, _) :: mlC l) tp = _
    unfold mget cget
    by_cases h : x.1 = tp
    · rw [if_pos h, if_pos h]; rfl
    · rw [if_neg h, if_neg h]; exact mget_mlC tp l
theorem mset_mlC (tp : List UInt8) (n : Nat) : ∀ l : List (List UInt8 × Nat), mset (mlC l) tp (.i .i64 ((n : Nat) : Int)) = mlC (cset l tp n)
  | [] => rfl
  | x :: l => by
    show mset ((x.1, _) :: mlC l) tp _ = _
    unfold mset cset
    by_cases h : x.1 = tp
    · rw [if_pos h, if_pos h]; rfl
    · rw [if_neg h, if_neg h, mset_mlC tp n l]; rfl
/-- An item is handed to a party; is it taken? -/
def Pa.hand (p : Pa) (room : Nat) (x : It) : Pa × Bool :=
  match (if p.on then sget p.sb x.tp else none) with
  | none => (p, false)
  | some (_, true) => (p, false)
  | some (mode, false) =>
    if p.w.length < room then (⟨p.on, p.sb, p.w ++ [x], p.lost⟩, true)
    else if mode = 0 then (⟨p.on, sset p.sb x.tp 0 true, p.w, p.lost⟩, false)
    else if mode = 1 ∨ p.w.length ≤ p.w.findIdx (fun y => decide (y.tp = x.tp)) then (⟨p.on, p.sb, p.w, p.lost + 1⟩, false)
    else (⟨p.on, p.sb, p.w.eraseIdx (p.w.findIdx fun y => decide (y.tp = x.tp)) ++ [x], p.lost + 1⟩, true)
/-! ### IndexFunc -/
def fiI (P : It → Bool) (w : List It) : Int := if w.findIdx P < w.length then ((w.findIdx P : Nat) : Int) else -1
theorem fi_next {P : It → Bool} : ∀ {w : List It} {i : Nat} {x : It}, i ≤ w.findIdx P → w[i]? = some x → P x = false → i + 1 ≤ w.findIdx P
  | [], i, x, _, h, _ => by simp at h
  | y :: w, 0, x, _, h, hp => by
    simp only [List.getElem?_cons_zero, Option.some.injEq] at h
    subst h
    rw [List.findIdx_cons, hp]; simp
  | y :: w, i + 1, x, hi, h, hp => by
    rw [List.findIdx_cons] at hi ⊢
    cases hy : P y with
    | true => rw [hy] at hi; simp at hi
    | false =>
      rw [hy] at hi
      simp only [cond_false] at hi ⊢
      have := fi_next (w := w) (i := i) (by omega) (by simpa using h) hp
      omega
theorem fi_at {P : It → Bool} {w : List It} {i : Nat} {x : It} (hi : i ≤ w.findIdx P) (h : w[i]? = some x) (hp : P x = true) : w.findIdx P = i := by
  have hlt := (List.getElem?_eq_some_iff.1 h).1
  by_cases he : w.findIdx P = i
  · exact he
  · have hn := List.not_of_lt_findIdx (xs := w) (p := P) (i := i) (by omega)
    have e := (List.getElem?_eq_some_iff.1 h).2
    rw [e, hp] at hn; simp at hn
theorem fiI_at {P : It → Bool} {w : List It} {i : Nat} {x : It} (hi : i ≤ w.findIdx P) (h : w[i]? = some x) (hp : P x = true) : fiI P w = ((i : Nat) : Int) := by
  unfold fiI
  rw [fi_at hi h hp, if_pos (List.getElem?_eq_some_iff.1 h).1]
theorem fiI_none {P : It → Bool} {w : List It} (h : w.length ≤ w.findIdx P) : fiI P w = -1 := by unfold fiI; rw [if_neg (by omega)]
/-- A test of items. -/
def Tst (f : AV) (S : HL) (P : It → Bool) : Prop := ∀ (H : AH) (R D : HL) (r : List AV) (x : It), ItRow D r x → Hs H (S ++ R) → Ev tabA spA f [.agg r] H (fun q H' => q = .b (P x) ∧ Hs H' (S ++ R))
theorem ItsR.eraseIdx {B : HL} : ∀ {rows : List (List AV)} {w : List It} {k : Nat}, ItsR B rows w → ItsR B (rows.eraseIdx k) (w.eraseIdx k)
  | [], [], k, h => by simpa using h
  | [], _ :: _, k, h => by have := h.1; simp at this
  | _ :: _, [], k, h => by have := h.1; simp at this
  | r :: rows, x :: w, 0, h => by simpa using h.tail
  | r :: rows, x :: w, k + 1, h => by
    rw [List.eraseIdx_cons_succ, List.eraseIdx_cons_succ]
    have h2 := h.tail.eraseIdx (k := k)
    refine ⟨by have := h2.1; simp only [List.length_cons]; omega, fun i y hy => ?_⟩
    cases i with
    | zero => simp only [List.getElem?_cons_zero] at hy ⊢; exact h.2 0 y (by simpa using hy)
    | succ i => simp only [List.getElem?_cons_succ] at hy ⊢; exact h2.2 i y hy
theorem ItsR.get {B : HL} {rows : List (List AV)} {w : List It} (h : ItsR B rows w) {i : Nat} (hi : i < w.length) : ∃ x r, w[i]? = some x ∧ rows[i]? = some r ∧ ItRow B r x := by
  obtain ⟨r, h1, h2⟩ := h.2 i _ (List.getElem?_eq_getElem hi)
  exact ⟨_, r, List.getElem?_eq_getElem hi, h1, h2⟩
/-! ### DeleteFunc -/
theorem df_skip {P : It → Bool} {w : List It} {j : Nat} {x : It} (h : w[j]? = some x) (hp : P x = true) : (w.take (j + 1)).filter (fun y => !P y) = (w.take j).filter (fun y => !P y) := by
  obtain ⟨hj, rfl⟩ := List.getElem?_eq_some_iff.1 h
  rw [List.take_succ_eq_append_getElem hj, List.filter_append]
  simp [hp]
theorem df_keep {P : It → Bool} {w : List It} {j : Nat} {x : It} (h : w[j]? = some x) (hp : P x = false) : (w.take (j + 1)).filter (fun y => !P y) = (w.take j).filter (fun y => !P y) ++ [x] := by
  obtain ⟨hj, rfl⟩ := List.getElem?_eq_some_iff.1 h
  rw [List.take_succ_eq_append_getElem hj, List.filter_append]
  simp [hp]
theorem df_first {P : It → Bool} : ∀ {w : List It} {i : Nat}, i ≤ w.findIdx P → (w.take i).filter (fun y => !P y) = w.take i
  | [], i, _ => by simp
  | y :: w, 0, _ => by simp
  | y :: w, i + 1, hi => by
    rw [List.findIdx_cons] at hi
    cases hy : P y with
    | true => rw [hy] at hi; simp at hi
    | false =>
      rw [hy] at hi
      simp only [cond_false] at hi
      rw [List.take_succ_cons, List.filter_cons, hy]
      simp only [Bool.not_false, if_true]
      rw [df_first (w := w) (i := i) (by omega)]
theorem take_set_snoc {rows : List (List AV)} {i : Nat} {r : List AV} (h : i < rows.length) : (rows.set i r).take (i + 1) = rows.take i ++ [r] := by
  rw [List.take_succ_eq_append_getElem (by rw [List.length_set]; exact h), List.getElem_set_self, List.take_set, List.set_eq_of_length_le (by rw [List.length_take]; omega)]
theorem ItsR.take {B : HL} {rows : List (List AV)} {w : List It} (h : ItsR B rows w) (k : Nat) : ItsR B (rows.take k) (w.take k) := ⟨by rw [List.length_take, List.length_take, h.1], fun i x hx => by
  rw [List.getElem?_take] at hx
  split at hx
  · obtain ⟨r, h1, h2⟩ := h.2 i x hx
    exact ⟨r, by rw [List.getElem?_take, if_pos (by assumption)]; exact h1, h2⟩
  · cases hx⟩
theorem five {r : List AV} (h : r.length = 5) : ∃ a b c d e, r = [a, b, c, d, e] := by
  match r, h with
  | [a, b, c, d, e], _ => exact ⟨a, b, c, d, e, rfl⟩
theorem eq47g {H : AH} {R : HL} {Q : Nat} {f2 n2 : Int} {x2 : Bool} {d2 : AV} {tq : List UInt8} {tp : List UInt8} {frm num : Int} {tx : Bool} {dv : AV} (hH0 : Hs H ([(Q, some (.cells [.s (txt tq), .i .i64 f2, .i .i64 n2, .b x2, d2] true))] ++ R)) : Ev tabA spA (.fn (.func 47) [] [.p (some (Q, 0))]) [.agg [(.s (txt tp)), (.i .i64 frm), (.i .i64 num), (.b tx), dv]] H (fun r H' => r = .b (decide (tp = tq)) ∧ Hs H' ([(Q, some (.cells [.s (txt tq), .i .i64 f2, .i .i64 n2, .b x2, d2] true))] ++ R)) := by
  refine Ev_C (F := x47) rfl ?_
  refine C_seq ?_
  refine C_region ?_
  refine O_box (z := [(.s (txt tp)), (.i .i64 frm), (.i .i64 num), (.b tx), dv]) rfl fun n1 H2 hN3 => ?_
  have hH4 := hH0.new hN3
  refine O_p (.b false) (r_mv rfl) ?_
  refine O_nil ?_
  refine C_seq ?_
  refine C_region ?_
  refine O_p (.p (some (n1, 0))) (r_fadd' rfl rfl) ?_
  refine O_p (.s (txt tp)) (r_ld rfl hH4.get0 rfl) ?_
  refine O_p (.p (some (Q, 0))) (r_fadd' rfl rfl) ?_
  refine O_p (.s (txt tq)) (r_ld rfl hH4.get1 rfl) ?_
  refine O_p (.b (decide (tp = tq))) (r_eqt rfl rfl) ?_
  refine O_p (.b (decide (tp = tq))) (r_mv rfl) ?_
  refine O_nil ?_
  refine C_ret ?_
  have hH5 := (hH4.sub0)
  exact ⟨.inr rfl, _, resL_one (r_tmp (v := (.b (decide (tp = tq)))) rfl), rfl, hH5⟩
theorem tst47 {Q : Nat} {f2 n2 : Int} {x2 : Bool} {d2 : AV} {tq : List UInt8} : Tst (.fn (.func 47) [] [.p (some (Q, 0))]) [(Q, some (.cells [.s (txt tq), .i .i64 f2, .i .i64 n2, .b x2, d2] true))] (fun y => decide (y.tp = tq)) := fun H R D r x h hH => by
  obtain ⟨a, cap, g, rfl, _⟩ := h
  exact eq47g hH

theorem eq34g {H : AH} {R : HL} {Q : Nat} {tq : List UInt8} {tp : List UInt8} {frm num : Int} {tx : Bool} {dv : AV} (hH0 : Hs H ([(Q, some (.cells [.s (txt tq)] true))] ++ R)) : Ev tabA spA (.fn (.func 34) [] [.p (some (Q, 0))]) [.agg [(.s (txt tp)), (.i .i64 frm), (.i .i64 num), (.b tx), dv]] H (fun r H' => r = .b (decide (tp = tq)) ∧ Hs H' ([(Q, some (.cells [.s (txt tq)] true))] ++ R)) := by
  refine Ev_C (F := x34) rfl ?_
  refine C_seq ?_
  refine C_region ?_
  refine O_box (z := [(.s (txt tp)), (.i .i64 frm), (.i .i64 num), (.b tx), dv]) rfl fun n1 H2 hN3 => ?_
  have hH4 := hH0.new hN3
  refine O_p (.b false) (r_mv rfl) ?_
  refine O_nil ?_
  refine C_seq ?_
  refine C_region ?_
  refine O_p (.p (some (n1, 0))) (r_fadd' rfl rfl) ?_
  refine O_p (.s (txt tp)) (r_ld rfl hH4.get0 rfl) ?_
  refine O_p (.s (txt tq)) (r_ld rfl hH4.get1 rfl) ?_
  refine O_p (.b (decide (tp = tq))) (r_eqt rfl rfl) ?_
  refine O_p (.b (decide (tp = tq))) (r_mv rfl) ?_
  refine O_nil ?_
  refine C_ret ?_
  have hH5 := (hH4.sub0)
  exact ⟨.inr rfl, _, resL_one (r_tmp (v := (.b (decide (tp = tq)))) rfl), rfl, hH5⟩
theorem tst34 {Q : Nat} {tq : List UInt8} : Tst (.fn (.func 34) [] [.p (some (Q, 0))]) [(Q, some (.cells [.s (txt tq)] true))] (fun y => decide (y.tp = tq)) := fun H R D r x h hH => by
  obtain ⟨a, cap, g, rfl, _⟩ := h
  exact eq34g hH

theorem idxg_ev {H : AH} {R S D : HL} {v f : AV} {c : List AV} {rows : List (List AV)} {w : List It} {P : It → Bool} (hsq : Sq 5 v c rows.flatten) (hl5 : ∀ x ∈ rows, x.length = 5) (hir : ItsR D rows w) (hT : Tst f S P) (hwl : w.length ≤ 1000000) (hH0 : Hs H (qseg v c ++ (S ++ R))) : Ev tabA spA (.fn (.func 45) [] []) [v, f] H (fun r H' => r = .i .i64 (fiI P w) ∧ Hs H' (qseg v c ++ (S ++ R))) := by
  refine Ev_C (F := x45) rfl ?_
  refine C_seq ?_
  refine C_region ?_
  refine O_p (.i .i64 0) (r_mv rfl) ?_
  refine O_nil ?_
  refine C_seq ?_
  refine C_seq ?_
  refine C_region ?_
  refine O_p v (r_mv rfl) ?_
  refine O_p (.i .i64 (((w.length : Nat)) : Int)) (by exact (by exact r_lenOf rfl (hsq.lenOf ((flat_len hl5).trans (by rw [hir.1])) (by decide)) hsq.isSl)) ?_
  refine O_p (.i .i64 0) (r_mv rfl) ?_
  refine O_nil ?_
  refine C_block ?_
  refine C_while (fun m1 T2 H3 => ∃ i : Nat, m1 = w.length - i ∧ i ≤ w.length ∧ i ≤ w.findIdx P ∧ w.length ≤ 1000000 ∧ Hs H3 ((qseg v c) ++ (S ++ (R))) ∧ T2.get 0 = v ∧ T2.get 1 = f ∧ T2.get 7 = (.i .i64 (((w.length : Nat)) : Int)) ∧ T2.get 8 = (.i .i64 (((i : Nat)) : Int))) (fun m1 T2 H3 hI4 => ?_) w.length _ _ ⟨0, rfl, by omega, Nat.zero_le _, hwl, hH0, rfl, rfl, rfl, rfl⟩
  obtain ⟨i, hm5, hp6, hp7, hp8, hH13, hT9, hT10, hT11, hT12⟩ := hI4
  refine C_seq ?_
  refine C_region ?_
  refine O_p (.b (decide ((((i : Nat)) : Int) < (((w.length : Nat)) : Int)))) (r_lss hT12 hT11) ?_
  refine O_nil ?_
  refine C_seq ?_
  refine C_cond (x := (decide ((((i : Nat)) : Int) < (((w.length : Nat)) : Int)))) rfl (fun hc14 => ?_) (fun hc14 => ?_)
  ·
    try simp only [decide_eq_true_eq, decide_eq_false_iff_not, Bool.not_eq_true', Bool.not_eq_false', Bool.and_eq_true, Bool.or_eq_true, Bool.or_eq_false_iff, Bool.not_not, Bool.and_eq_false_iff] at hc14
    refine C_skip ?_
    refine C_seq ?_
    refine C_block ?_
    refine C_seq ?_
    refine C_region ?_
    refine O_p (.i .i64 (((i : Nat)) : Int)) (r_mv hT12) ?_
    refine O_p (.i .i64 (((i : Nat)) : Int)) (r_mv rfl) ?_
    refine O_nil ?_
    refine C_seq ?_
    refine C_region ?_
    refine O_p f (r_mv hT10) ?_
    refine O_p v (r_mv hT9) ?_
    refine O_p (.i .i64 (((i : Nat)) : Int)) (r_mv rfl) ?_
    have hiw : i < w.length := by omega
    obtain ⟨x, ri, hxi, hri, hit⟩ := hir.get hiw
    have hit2 := hit
    obtain ⟨ka, kc, kg, rfl, _⟩ := hit2
    refine O_q (by exact Sq.cell hsq hl5 hH13.top0 rfl (i := i) rfl (r := [(.s (txt x.tp)), (.i .i64 x.frm), (.i .i64 x.num), (.b x.tx), (.sl ka x.d.length kc kg)]) hri (by decide)) fun v16 hv15 => ?_
    obtain ⟨rb17, ro18, rfl, hrg19, hrt20, hrb21, hput22, hqs23⟩ := hv15
    refine O_p (.agg [(.s (txt x.tp)), (.i .i64 x.frm), (.i .i64 x.num), (.b x.tx), (.sl ka x.d.length kc kg)]) (r_ldRA (q := 0) rfl ⟨_, _, hrg19, hrt20⟩ rfl) ?_
    have hH24 := (hH13.top1)
    refine O_call (Ev.mono (hT _ _ _ _ x hit hH24) fun v25 H26 hq27 => ?_)
    obtain ⟨rfl, hH28⟩ := hq27
    refine O_nil ?_
    refine C_cond (x := (P x)) rfl (fun hc29 => ?_) (fun hc29 => ?_)
    ·
      try simp only [decide_eq_true_eq, decide_eq_false_iff_not, Bool.not_eq_true', Bool.not_eq_false', Bool.and_eq_true, Bool.or_eq_true, Bool.or_eq_false_iff, Bool.not_not, Bool.and_eq_false_iff] at hc29
      have hP : P x = true := by simpa using hc29
      refine C_seq ?_
      refine C_region ?_
      refine O_p (.i .i64 (((i : Nat)) : Int)) (r_mv rfl) ?_
      refine O_p (.i .i64 (((i : Nat)) : Int)) (r_mv rfl) ?_
      refine O_nil ?_
      refine C_ret ?_
      refine bk_ret ?_
      refine nx_ret ?_
      refine nx_ret ?_
      refine bk_ret ?_
      refine nx_ret ?_
      have hH30 := (hH28.top1)
      exact ⟨.inr rfl, _, resL_one (r_tmp (v := (.i .i64 (((i : Nat)) : Int))) rfl), by rw [fiI_at hp7 hxi hP]; rfl, hH30⟩
    ·
      try simp only [decide_eq_true_eq, decide_eq_false_iff_not, Bool.not_eq_true', Bool.not_eq_false', Bool.and_eq_true, Bool.or_eq_true, Bool.or_eq_false_iff, Bool.not_not, Bool.and_eq_false_iff] at hc29
      have hP : P x = false := by simpa using hc29
      refine C_skip ?_
      refine C_region ?_
      refine O_p (.i .i64 ((((i : Nat)) : Int) + 1)) (by exact (r_addi hT12 rfl (wrap_i64 (by omega) (by omega)))) ?_
      refine O_p (.i .i64 ((((i : Nat)) : Int) + 1)) (r_mv rfl) ?_
      refine O_nil ?_
      have hH31 := (hH28.top1)
      exact ⟨w.length - (i + 1), by omega, (i + 1), rfl, by omega, fi_next hp7 hxi hP, by omega, hH31, hT9, hT10, hT11, rfl⟩
  ·
    try simp only [decide_eq_true_eq, decide_eq_false_iff_not, Bool.not_eq_true', Bool.not_eq_false', Bool.and_eq_true, Bool.or_eq_true, Bool.or_eq_false_iff, Bool.not_not, Bool.and_eq_false_iff] at hc14
    refine C_exit ?_
    refine nx_exit ?_
    refine nx_exit ?_
    refine bk_hit ?_
    refine C_seq ?_
    refine C_region ?_
    refine O_p (.i .i64 (-1)) (r_mv rfl) ?_
    refine O_nil ?_
    refine C_ret ?_
    have hH32 := ((hH13.top1).top1)
    exact ⟨.inr rfl, _, resL_one (r_tmp (v := (.i .i64 (-1))) rfl), by rw [fiI_none (by omega)]; rfl, hH32⟩
set_option maxHeartbeats 1000000 in
theorem deletek_ev {H : AH} {R : HL} {v : AV} {c : List AV} {rows : List (List AV)} {i : Nat} (hsq : Sq 5 v c rows.flatten) (hr6 : ∀ x ∈ rows, x.length = 5) (hi : i < rows.length) (hrl : rows.length ≤ 1000000) (hH0 : Hs H (qseg v c ++ R)) : Ev tabA spA (.fn (.func 32) [] []) [v, .i .i64 ((i : Nat) : Int), .i .i64 ((i + 1 : Nat) : Int)] H (fun q H' => ∃ c', Sq 5 q c' (rows.eraseIdx i).flatten ∧ Hs H' (qseg q c' ++ R)) := by
  refine Ev_C (F := x32) rfl ?_
  obtain ⟨b, o, cap, g, rfl, hg, hl, hnc, hc⟩ := hsq.open (n := rows.length) (flat_len hr6) (by decide) (by omega)
  have hH1 : Hs H ([(b, some (.cells c true))] ++ R) := hH0
  refine C_seq ?_
  refine C_region ?_
  refine O_p (.sl none 0 0 0) (r_mv rfl) ?_
  refine O_nil ?_
  refine C_seq ?_
  refine C_region ?_
  refine O_p (.sl (some (b, o)) rows.length cap g) (r_mv rfl) ?_
  refine O_p (.i .i64 ((i : Nat) : Int)) (r_mv rfl) ?_
  refine O_p (.i .i64 ((i + 1 : Nat) : Int)) (r_mv rfl) ?_
  refine O_p (.sl (some (b, o)) rows.length cap g) (r_mv rfl) ?_
  refine O_p (.i .i64 (((rows.length : Nat)) : Int)) (r_len rfl) ?_
  refine O_q (by exact sl_tri (i := i) (j := i + 1) (m := rows.length) rfl hg rfl rfl rfl (by omega) (by omega) hnc) fun v2 hv1 => ?_
  refine O_nil ?_
  refine C_seq ?_
  refine C_seq ?_
  refine C_region ?_
  refine O_p (.i .i64 ((i : Nat) : Int)) (r_mv rfl) ?_
  refine O_p (.i .i64 ((i + 1 : Nat) : Int)) (r_mv rfl) ?_
  refine O_p (.b false) (by exact (by rw [r_eql rfl rfl, decide_eq_false (by omega)])) ?_
  refine O_nil ?_
  refine C_cond (x := false) rfl (fun h => by cases h) (fun _ => ?_)
  refine C_skip ?_
  refine C_seq ?_
  refine C_region ?_
  refine O_p (.sl (some (b, o)) rows.length cap g) (r_mv rfl) ?_
  refine O_p (.i .i64 (((rows.length : Nat)) : Int)) (r_len rfl) ?_
  refine O_p (.i .i64 (((rows.length : Nat)) : Int)) (r_mv rfl) ?_
  refine O_nil ?_
  refine C_seq ?_
  refine C_draw fun b3 H4 hbase5 hA6 => ?_
  have hH7 := hH1.keep (by have := hA6.1; omega) (fun q _ => hA6.2 q) ((hH1.old).aside hA6).ok
  refine D_l (v := (.sl (some (b, o)) rows.length cap g)) rfl rfl rfl (r_mv rfl) ?_
  refine D_l (v := (.i .i64 ((i : Nat) : Int))) rfl rfl rfl (r_mv rfl) ?_
  refine D_l (v := (.sl (some (b, o)) i cap g)) rfl rfl rfl (by exact (sl_pre (i := i) rfl rfl hg (by omega))) ?_
  refine D_l (v := (.sl (some (b, o)) rows.length cap g)) rfl rfl rfl (r_mv rfl) ?_
  refine D_l (v := (.i .i64 ((i + 1 : Nat) : Int))) rfl rfl rfl (r_mv rfl) ?_
  refine D_l (v := (.sl (if cap = i + 1 ∧ g = 0 then some (b, o) else some (b, o + (i + 1) * 5)) (rows.length - (i + 1)) (cap - (i + 1)) g)) rfl rfl rfl (by exact (sl_suf (i := i + 1) rfl rfl hg (by omega))) ?_
  refine D_qh rfl rfl (by exact del_appk hH7 hr6 hl hi hnc hc rfl rfl) fun o8 H9 hA10 => ?_
  obtain ⟨rfl, c2, hH11, hl2, hcl⟩ := hA10
  refine And.intro True.intro ?_
  refine D_l (v := (.sl (some (b, o)) (rows.length - 1) cap g)) rfl rfl rfl (r_mv rfl) ?_
  refine D_nil ?_
  refine C_seq ?_
  refine C_region ?_
  refine O_p (.sl (some (b, o)) (rows.length - 1) cap g) (r_mv rfl) ?_
  refine O_p (.sl (some (b, o)) (rows.length - 1) cap g) (r_mv rfl) ?_
  refine O_p (.i .i64 ((((rows.length - 1) : Nat)) : Int)) (r_len rfl) ?_
  refine O_p (.i .i64 (((rows.length : Nat)) : Int)) (r_mv rfl) ?_
  refine O_p (.sl (some (b, o + (rows.length - 1) * 5)) 1 (cap - (rows.length - 1)) g) (by exact (sl_last rfl rfl rfl hg (by omega) hnc)) ?_
  have hle : rows.length * 5 ≤ cap * 5 := Nat.mul_le_mul_right 5 hnc
  have hle2 : (rows.length - 1) * 5 + 5 = rows.length * 5 := by omega
  refine O_nh (by exact del_clr (zs := [(.s ⟨#[]⟩), (.i .i64 0), (.i .i64 0), (.b false), (.sl none 0 0 0)]) hH11 rfl (by rw [hcl]; show _ + 5 ≤ _; omega)) fun H12 hH13 => ?_
  refine O_nil ?_
  refine C_seq ?_
  refine C_region ?_
  refine O_p (.sl (some (b, o)) (rows.length - 1) cap g) (r_mv rfl) ?_
  refine O_p (.sl (some (b, o)) (rows.length - 1) cap g) (r_mv rfl) ?_
  refine O_nil ?_
  refine C_ret ?_
  have hl3 := take_out (vs := [(.s ⟨#[]⟩), (.i .i64 0), (.i .i64 0), (.b false), (.sl none 0 0 0)]) (q := o + (rows.length - 1) * 5) hl2 (by omega) (by rw [hcl]; show _ + 5 ≤ _; omega)
  exact ⟨.inr rfl, _, resL_one (r_tmp (v := (.sl (some (b, o)) (rows.length - 1) cap g)) rfl), _, .mk hg hl3 (by omega) (by rw [putAt_len, hcl]; exact hc), hH13⟩


set_option linter.unusedVariables false
set_option linter.unusedSimpArgs false
/-! ### A party, and what lies in the heap of it -/
structure Pc where
  mo : Option (Nat × Blk)
  v : AV
  c : List AV
  rows : List (List AV)
  a : Pa
def mseg (mo : Option (Nat × Blk)) : HL := match mo with
  | none => []
  | some q => [(q.1, some q.2)]
def Pc.seg (p : Pc) : HL := mseg p.mo ++ qseg p.v p.c
def Pc.row (p : Pc) : List AV := prow p.a.on (p.mo.map (·.1)) p.v ((p.a.lost : Nat) : Int)
structure Pc.ok (D : HL) (p : Pc) : Prop where
  sq : Sq 5 p.v p.c p.rows.flatten
  ir : ItsR D p.rows p.a.w
  mo : (p.mo = none ∧ p.a = pa0 ∧ p.v = .sl none 0 0 0 ∧ p.c = [] ∧ p.rows = []) ∨ (p.a.on = true ∧ ∃ mr mb, p.mo = some (mr, mb) ∧ Mb (mlS p.a.sb) mb)
theorem Pc.ok.mono {A B : HL} {p : Pc} (h : p.ok A) (hs : ∀ H', Hs H' B → Hs H' A) : p.ok B := ⟨h.sq, h.ir.mono hs, h.mo⟩
def pc0 : Pc := ⟨none, .sl none 0 0 0, [], [], pa0⟩
theorem pc0_ok (D : HL) : pc0.ok D := ⟨Sq.nil, ItsR.nil, .inl ⟨rfl, rfl, rfl, rfl, rfl⟩⟩
/-- What holds of any party behind n steps. -/
structure Pa.inv (room n : Nat) (p : Pa) : Prop where
  w : p.w.length ≤ room
  lost : p.lost ≤ n
  mode : ∀ x ∈ p.sb, 0 ≤ x.mode ∧ x.mode ≤ 2
theorem sget_mode {l : List Su} (h : ∀ x ∈ l, 0 ≤ x.mode ∧ x.mode ≤ 2) {tp : List UInt8} {m : Int} {f : Bool} (hg : sget l tp = some (m, f)) : 0 ≤ m ∧ m ≤ 2 := by
  induction l with
  | nil => cases hg
  | cons x l ih =>
    unfold sget at hg
    split at hg
    · cases hg; exact h x (List.mem_cons_self ..)
    · exact ih (fun y hy => h y (List.mem_cons_of_mem _ hy)) hg
theorem sset_mode {l : List Su} (h : ∀ x ∈ l, 0 ≤ x.mode ∧ x.mode ≤ 2) {tp : List UInt8} {m : Int} {f : Bool} (hm : 0 ≤ m ∧ m ≤ 2) : ∀ x ∈ sset l tp m f, 0 ≤ x.mode ∧ x.mode ≤ 2 := by
  induction l with
  | nil => intro x hx; unfold sset at hx; rw [List.mem_singleton] at hx; subst hx; exact hm
  | cons y l ih =>
    intro x hx
    unfold sset at hx
    split at hx
    · rcases List.mem_cons.1 hx with rfl | hx
      · exact hm
      · exact h x (List.mem_cons_of_mem _ hx)
    · rcases List.mem_cons.1 hx with rfl | hx
      · exact h _ (List.mem_cons_self ..)
      · exact ih (fun z hz => h z (List.mem_cons_of_mem _ hz)) x hx
theorem sdel_mode {l : List Su} (h : ∀ x ∈ l, 0 ≤ x.mode ∧ x.mode ≤ 2) {tp : List UInt8} : ∀ x ∈ sdel l tp, 0 ≤ x.mode ∧ x.mode ≤ 2 := by
  induction l with
  | nil => exact h
  | cons y l ih =>
    intro x hx
    unfold sdel at hx
    split at hx
    · exact h x (List.mem_cons_of_mem _ hx)
    · rcases List.mem_cons.1 hx with rfl | hx
      · exact h _ (List.mem_cons_self ..)
      · exact ih (fun z hz => h z (List.mem_cons_of_mem _ hz)) x hx
theorem Pa.inv.hand {room n : Nat} {p : Pa} (h : p.inv room n) (hr : 1 ≤ room) (x : It) : (p.hand room x).1.inv room (n + 1) := by
  unfold Pa.hand
  have hl := h.lost
  split
  · exact ⟨h.w, by show p.lost ≤ n + 1; omega, h.mode⟩
  · exact ⟨h.w, by show p.lost ≤ n + 1; omega, h.mode⟩
  · rename_i mode he
    split
    · refine ⟨?_, by show p.lost ≤ n + 1; omega, h.mode⟩
      show (p.w ++ [x]).length ≤ room
      rw [List.length_append]; simp only [List.length_cons, List.length_nil]; omega
    · split
      · exact ⟨h.w, by show p.lost ≤ n + 1; omega, sset_mode h.mode ⟨by omega, by omega⟩⟩
      · split
        · exact ⟨h.w, by show p.lost + 1 ≤ n + 1; omega, h.mode⟩
        · rename_i hk
          have hk2 := fun e => hk (.inr e)
          refine ⟨?_, by show p.lost + 1 ≤ n + 1; omega, h.mode⟩
          show (p.w.eraseIdx _ ++ [x]).length ≤ room
          have hw := h.w
          rw [List.length_append, List.length_eraseIdx_of_lt (by omega)]
          simp only [List.length_cons, List.length_nil]; omega
set_option maxHeartbeats 1000000 in
theorem fullg_new {H : AH} {R : HL} {Lb i mr : Nat} {rws rows : List (List AV)} {v : AV} {c : List AV} {mb : Blk} {m : ML} {lost : Int} {tp : List UInt8} {frm num : Int} {tx : Bool} {dv : AV} {D : HL} {w : List It} {k : Nat} (hrw : ∀ x ∈ rws, x.length = 4) (hi : i < rws.length) (hsq : Sq 5 v c rows.flatten) (hl5 : ∀ x ∈ rows, x.length = 5) (hir : ItsR D rows w) (hmb : Mb m mb) (hlost : 0 ≤ lost ∧ lost < 4611686018427387904) (hfitw : rows.length ≤ 1000000)  (hH0 : Hs H ([(Lb, some (.cells (rws.set i (prow true (some mr) v lost)).flatten true))] ++ ([(mr, some mb)] ++ (qseg v c ++ R)))) : Ev tabA spA (.fn (.func 44) [] []) [.p (some (Lb, i * 4 + 0)), .agg [(.s (txt tp)), (.i .i64 frm), (.i .i64 num), (.b tx), dv], .agg [.i .i64 1, .b false]] H (fun r H' => r = .b false ∧ Hs H' ([(Lb, some (.cells (rws.set i (prow true (some mr) v (lost + 1))).flatten true))] ++ ([(mr, some mb)] ++ (qseg v c ++ R)))) := by
  refine Ev_C (F := x44) rfl ?_
  refine C_seq ?_
  refine C_region ?_
  refine O_box (z := [(.s (txt tp)), (.i .i64 frm), (.i .i64 num), (.b tx), dv]) rfl fun n1 H2 hN3 => ?_
  have hH4 := hH0.new hN3
  refine O_box (z := [(.i .i64 1), (.b false)]) rfl fun n5 H6 hN7 => ?_
  have hH8 := hH4.new hN7
  refine O_p (.b false) (r_mv rfl) ?_
  refine O_nil ?_
  refine C_seq ?_
  refine C_seq ?_
  refine C_region ?_
  refine O_p (.p (some (n5, 0))) (r_fadd' rfl rfl) ?_
  refine O_p (.i .i64 1) (r_ld rfl hH8.get0 rfl) ?_
  refine O_p (.b false) (r_bin rfl rfl rfl) ?_
  refine O_nil ?_
  refine C_cond (x := false) rfl (fun h => by cases h) (fun _ => ?_)
  refine C_skip ?_
  refine C_seq ?_
  refine C_region ?_
  refine O_p (.p (some (Lb, (i * 4 + 0)))) (r_mv rfl) ?_
  refine O_p (.p (some (Lb, (i * 4 + 0)))) (r_nilc rfl) ?_
  refine O_p (.p (some (Lb, (i * 4 + 3)))) (r_fadd' rfl rfl) ?_
  refine O_p (.i .i64 lost) (by exact (r_ld rfl hH8.get2 ((foc_get hrw hi rfl (by decide)).trans rfl))) ?_
  refine O_p (.i .i64 (lost + 1)) (by exact (r_addi rfl rfl (wrap_i64 (by omega) (by omega)))) ?_
  refine O_p (.p (some (Lb, (i * 4 + 0)))) (r_nilc rfl) ?_
  refine O_p (.p (some (Lb, (i * 4 + 3)))) (r_fadd' rfl rfl) ?_
  refine O_store (vs := [(.i .i64 (lost + 1))]) (c' := ((rws).set i (prow true (some mr) v (lost + 1))).flatten) rfl (by rfl) hH8.get2 rfl (List.cons_ne_nil _ _) (foc_len (n := 1) hrw hi rfl (Nat.le_of_ble_eq_true rfl)) (foc_put hrw hi rfl (Nat.le_of_ble_eq_true rfl) rfl) fun H9 hW10 => ?_
  have hH11 := hH8.wr2 hW10
  refine O_nil ?_
  refine C_seq ?_
  refine C_region ?_
  refine O_p (.p (some (Lb, (i * 4 + 0)))) (r_mv rfl) ?_
  refine O_p (.p (some (Lb, (i * 4 + 0)))) (r_nilc rfl) ?_
  refine O_p (.p (some (Lb, (i * 4 + 2)))) (r_fadd' rfl rfl) ?_
  refine O_p v (by exact (r_ld rfl hH11.get2 ((foc_get hrw hi rfl (by decide)).trans rfl))) ?_
  refine O_p (.fn (.func 47) [] [(.p (some (n1, 0)))]) rfl ?_
  have hH12 := ((hH11.top1).top4)
  refine O_call (Ev.mono (idxg_ev hsq hl5 hir tst47 (by rw [← hir.1]; exact hfitw) hH12) fun v13 H14 hq15 => ?_)
  obtain ⟨rfl, hH16⟩ := hq15
  refine O_p (.i .i64 (fiI (fun y => decide (y.tp = tp)) w)) (r_mv rfl) ?_
  refine O_nil ?_
  refine C_seq ?_
  refine C_seq ?_
  refine C_region ?_
  refine O_p (.p (some (n5, 0))) (r_fadd' rfl rfl) ?_
  refine O_p (.i .i64 1) (r_ld rfl hH16.get2 rfl) ?_
  refine O_p (.b true) (r_bin rfl rfl rfl) ?_
  refine O_p (.b true) (r_mv rfl) ?_
  refine O_gf rfl ?_
  refine O_gf rfl ?_
  refine O_p (.b true) (r_pick_t rfl rfl) ?_
  refine O_nil ?_
  refine C_cond (x := true) rfl (fun _ => ?_) (fun h => by cases h)
  refine C_seq ?_
  refine C_region ?_
  refine O_p (.b false) (r_mv rfl) ?_
  refine O_nil ?_
  refine C_ret ?_
  refine nx_ret ?_
  have hH17 := ((hH16.sub1).sub1)
  have hH18 := ((hH17.top2).top2)
  exact ⟨.inr rfl, _, resL_one (r_tmp (v := .b false) rfl), rfl, hH18⟩
set_option maxHeartbeats 1000000 in
theorem fullg_nf {H : AH} {R : HL} {Lb i mr : Nat} {rws rows : List (List AV)} {v : AV} {c : List AV} {mb : Blk} {m : ML} {lost : Int} {tp : List UInt8} {frm num : Int} {tx : Bool} {dv : AV} {D : HL} {w : List It} {k : Nat} (hrw : ∀ x ∈ rws, x.length = 4) (hi : i < rws.length) (hsq : Sq 5 v c rows.flatten) (hl5 : ∀ x ∈ rows, x.length = 5) (hir : ItsR D rows w) (hmb : Mb m mb) (hlost : 0 ≤ lost ∧ lost < 4611686018427387904) (hfitw : rows.length ≤ 1000000) (hk : w.length ≤ w.findIdx (fun y => decide (y.tp = tp))) (hH0 : Hs H ([(Lb, some (.cells (rws.set i (prow true (some mr) v lost)).flatten true))] ++ ([(mr, some mb)] ++ (qseg v c ++ R)))) : Ev tabA spA (.fn (.func 44) [] []) [.p (some (Lb, i * 4 + 0)), .agg [(.s (txt tp)), (.i .i64 frm), (.i .i64 num), (.b tx), dv], .agg [.i .i64 2, .b false]] H (fun r H' => r = .b false ∧ Hs H' ([(Lb, some (.cells (rws.set i (prow true (some mr) v (lost + 1))).flatten true))] ++ ([(mr, some mb)] ++ (qseg v c ++ R)))) := by
  refine Ev_C (F := x44) rfl ?_
  refine C_seq ?_
  refine C_region ?_
  refine O_box (z := [(.s (txt tp)), (.i .i64 frm), (.i .i64 num), (.b tx), dv]) rfl fun n1 H2 hN3 => ?_
  have hH4 := hH0.new hN3
  refine O_box (z := [(.i .i64 2), (.b false)]) rfl fun n5 H6 hN7 => ?_
  have hH8 := hH4.new hN7
  refine O_p (.b false) (r_mv rfl) ?_
  refine O_nil ?_
  refine C_seq ?_
  refine C_seq ?_
  refine C_region ?_
  refine O_p (.p (some (n5, 0))) (r_fadd' rfl rfl) ?_
  refine O_p (.i .i64 2) (r_ld rfl hH8.get0 rfl) ?_
  refine O_p (.b false) (r_bin rfl rfl rfl) ?_
  refine O_nil ?_
  refine C_cond (x := false) rfl (fun h => by cases h) (fun _ => ?_)
  refine C_skip ?_
  refine C_seq ?_
  refine C_region ?_
  refine O_p (.p (some (Lb, (i * 4 + 0)))) (r_mv rfl) ?_
  refine O_p (.p (some (Lb, (i * 4 + 0)))) (r_nilc rfl) ?_
  refine O_p (.p (some (Lb, (i * 4 + 3)))) (r_fadd' rfl rfl) ?_
  refine O_p (.i .i64 lost) (by exact (r_ld rfl hH8.get2 ((foc_get hrw hi rfl (by decide)).trans rfl))) ?_
  refine O_p (.i .i64 (lost + 1)) (by exact (r_addi rfl rfl (wrap_i64 (by omega) (by omega)))) ?_
  refine O_p (.p (some (Lb, (i * 4 + 0)))) (r_nilc rfl) ?_
  refine O_p (.p (some (Lb, (i * 4 + 3)))) (r_fadd' rfl rfl) ?_
  refine O_store (vs := [(.i .i64 (lost + 1))]) (c' := ((rws).set i (prow true (some mr) v (lost + 1))).flatten) rfl (by rfl) hH8.get2 rfl (List.cons_ne_nil _ _) (foc_len (n := 1) hrw hi rfl (Nat.le_of_ble_eq_true rfl)) (foc_put hrw hi rfl (Nat.le_of_ble_eq_true rfl) rfl) fun H9 hW10 => ?_
  have hH11 := hH8.wr2 hW10
  refine O_nil ?_
  refine C_seq ?_
  refine C_region ?_
  refine O_p (.p (some (Lb, (i * 4 + 0)))) (r_mv rfl) ?_
  refine O_p (.p (some (Lb, (i * 4 + 0)))) (r_nilc rfl) ?_
  refine O_p (.p (some (Lb, (i * 4 + 2)))) (r_fadd' rfl rfl) ?_
  refine O_p v (by exact (r_ld rfl hH11.get2 ((foc_get hrw hi rfl (by decide)).trans rfl))) ?_
  refine O_p (.fn (.func 47) [] [(.p (some (n1, 0)))]) rfl ?_
  have hH12 := ((hH11.top1).top4)
  refine O_call (Ev.mono (idxg_ev hsq hl5 hir tst47 (by rw [← hir.1]; exact hfitw) hH12) fun v13 H14 hq15 => ?_)
  rw [fiI_none hk] at hq15
  obtain ⟨rfl, hH16⟩ := hq15
  refine O_p (.i .i64 (-1)) (r_mv rfl) ?_
  refine O_nil ?_
  refine C_seq ?_
  refine C_seq ?_
  refine C_region ?_
  refine O_p (.p (some (n5, 0))) (r_fadd' rfl rfl) ?_
  refine O_p (.i .i64 2) (r_ld rfl hH16.get2 rfl) ?_
  refine O_p (.b false) (r_bin rfl rfl rfl) ?_
  refine O_p (.b false) (r_mv rfl) ?_
  refine O_gk rfl ?_
  refine O_p (.i .i64 (-1)) (r_mv rfl) ?_
  refine O_gk rfl ?_
  refine O_p (.b true) (by exact (by rw [r_lss rfl rfl, decide_eq_true (by decide)])) ?_
  refine O_p (.b true) (r_pick_f rfl rfl) ?_
  refine O_nil ?_
  refine C_cond (x := true) rfl (fun _ => ?_) (fun h => by cases h)
  refine C_seq ?_
  refine C_region ?_
  refine O_p (.b false) (r_mv rfl) ?_
  refine O_nil ?_
  refine C_ret ?_
  refine nx_ret ?_
  have hH17 := ((hH16.sub1).sub1)
  have hH18 := ((hH17.top2).top2)
  exact ⟨.inr rfl, _, resL_one (r_tmp (v := .b false) rfl), rfl, hH18⟩
set_option maxHeartbeats 1000000 in
theorem fullg_old {H : AH} {R : HL} {Lb i mr : Nat} {rws rows : List (List AV)} {v : AV} {c : List AV} {mb : Blk} {m : ML} {lost : Int} {tp : List UInt8} {frm num : Int} {tx : Bool} {dv : AV} {D : HL} {w : List It} {k : Nat} (hrw : ∀ x ∈ rws, x.length = 4) (hi : i < rws.length) (hsq : Sq 5 v c rows.flatten) (hl5 : ∀ x ∈ rows, x.length = 5) (hir : ItsR D rows w) (hmb : Mb m mb) (hlost : 0 ≤ lost ∧ lost < 4611686018427387904) (hfitw : rows.length ≤ 1000000) (hfi : w.findIdx (fun y => decide (y.tp = tp)) = k) (hk : k < rows.length) (hH0 : Hs H ([(Lb, some (.cells (rws.set i (prow true (some mr) v lost)).flatten true))] ++ ([(mr, some mb)] ++ (qseg v c ++ R)))) : Ev tabA spA (.fn (.func 44) [] []) [.p (some (Lb, i * 4 + 0)), .agg [(.s (txt tp)), (.i .i64 frm), (.i .i64 num), (.b tx), dv], .agg [.i .i64 2, .b false]] H (fun r H' => r = .b true ∧ ∃ v' c', Sq 5 v' c' (rows.eraseIdx k ++ [[(.s (txt tp)), (.i .i64 frm), (.i .i64 num), (.b tx), dv]]).flatten ∧ Hs H' ([(Lb, some (.cells (rws.set i (prow true (some mr) v' (lost + 1))).flatten true))] ++ ([(mr, some mb)] ++ (qseg v' c' ++ R)))) := by
  refine Ev_C (F := x44) rfl ?_
  refine C_seq ?_
  refine C_region ?_
  refine O_box (z := [(.s (txt tp)), (.i .i64 frm), (.i .i64 num), (.b tx), dv]) rfl fun n1 H2 hN3 => ?_
  have hH4 := hH0.new hN3
  refine O_box (z := [(.i .i64 2), (.b false)]) rfl fun n5 H6 hN7 => ?_
  have hH8 := hH4.new hN7
  refine O_p (.b false) (r_mv rfl) ?_
  refine O_nil ?_
  refine C_seq ?_
  refine C_seq ?_
  refine C_region ?_
  refine O_p (.p (some (n5, 0))) (r_fadd' rfl rfl) ?_
  refine O_p (.i .i64 2) (r_ld rfl hH8.get0 rfl) ?_
  refine O_p (.b false) (r_bin rfl rfl rfl) ?_
  refine O_nil ?_
  refine C_cond (x := false) rfl (fun h => by cases h) (fun _ => ?_)
  refine C_skip ?_
  refine C_seq ?_
  refine C_region ?_
  refine O_p (.p (some (Lb, (i * 4 + 0)))) (r_mv rfl) ?_
  refine O_p (.p (some (Lb, (i * 4 + 0)))) (r_nilc rfl) ?_
  refine O_p (.p (some (Lb, (i * 4 + 3)))) (r_fadd' rfl rfl) ?_
  refine O_p (.i .i64 lost) (by exact (r_ld rfl hH8.get2 ((foc_get hrw hi rfl (by decide)).trans rfl))) ?_
  refine O_p (.i .i64 (lost + 1)) (by exact (r_addi rfl rfl (wrap_i64 (by omega) (by omega)))) ?_
  refine O_p (.p (some (Lb, (i * 4 + 0)))) (r_nilc rfl) ?_
  refine O_p (.p (some (Lb, (i * 4 + 3)))) (r_fadd' rfl rfl) ?_
  refine O_store (vs := [(.i .i64 (lost + 1))]) (c' := ((rws).set i (prow true (some mr) v (lost + 1))).flatten) rfl (by rfl) hH8.get2 rfl (List.cons_ne_nil _ _) (foc_len (n := 1) hrw hi rfl (Nat.le_of_ble_eq_true rfl)) (foc_put hrw hi rfl (Nat.le_of_ble_eq_true rfl) rfl) fun H9 hW10 => ?_
  have hH11 := hH8.wr2 hW10
  refine O_nil ?_
  refine C_seq ?_
  refine C_region ?_
  refine O_p (.p (some (Lb, (i * 4 + 0)))) (r_mv rfl) ?_
  refine O_p (.p (some (Lb, (i * 4 + 0)))) (r_nilc rfl) ?_
  refine O_p (.p (some (Lb, (i * 4 + 2)))) (r_fadd' rfl rfl) ?_
  refine O_p v (by exact (r_ld rfl hH11.get2 ((foc_get hrw hi rfl (by decide)).trans rfl))) ?_
  refine O_p (.fn (.func 47) [] [(.p (some (n1, 0)))]) rfl ?_
  have hH12 := ((hH11.top1).top4)
  refine O_call (Ev.mono (idxg_ev hsq hl5 hir tst47 (by rw [← hir.1]; exact hfitw) hH12) fun v13 H14 hq15 => ?_)
  rw [show fiI (fun y => decide (y.tp = tp)) w = ((k : Nat) : Int) from by unfold fiI; rw [hfi, if_pos (by rw [← hir.1]; exact hk)]] at hq15
  obtain ⟨rfl, hH16⟩ := hq15
  refine O_p (.i .i64 (((k : Nat)) : Int)) (r_mv rfl) ?_
  refine O_nil ?_
  refine C_seq ?_
  refine C_seq ?_
  refine C_region ?_
  refine O_p (.p (some (n5, 0))) (r_fadd' rfl rfl) ?_
  refine O_p (.i .i64 2) (r_ld rfl hH16.get2 rfl) ?_
  refine O_p (.b false) (r_bin rfl rfl rfl) ?_
  refine O_p (.b false) (r_mv rfl) ?_
  refine O_gk rfl ?_
  refine O_p (.i .i64 (((k : Nat)) : Int)) (r_mv rfl) ?_
  refine O_gk rfl ?_
  refine O_p (.b false) (by exact (by rw [r_lss rfl rfl, decide_eq_false (by omega)])) ?_
  refine O_p (.b false) (r_pick_f rfl rfl) ?_
  refine O_nil ?_
  refine C_cond (x := false) rfl (fun h => by cases h) (fun _ => ?_)
  refine C_skip ?_
  refine C_seq ?_
  refine C_draw fun b17 H18 hbase19 hA20 => ?_
  have hH21 : Hs H18 (asideL b17 [10] ++ _) := hH16.aside hA20 [10] hbase19 rfl (by decide)
  have hH22 : Hs H18 ([(b17 + 10, none)] ++ _) := hH21
  refine D_l (v := (.p (some (Lb, (i * 4 + 0))))) rfl rfl rfl (r_mv rfl) ?_
  refine D_l (v := (.p (some (Lb, (i * 4 + 0))))) rfl rfl rfl (r_mv rfl) ?_
  refine D_l (v := (.p (some (Lb, (i * 4 + 0))))) rfl rfl rfl (r_nilc rfl) ?_
  refine D_l (v := (.p (some (Lb, (i * 4 + 2))))) rfl rfl rfl (r_fadd' rfl rfl) ?_
  refine D_l (v := (.i .i64 (((k : Nat)) : Int))) rfl rfl rfl (r_mv rfl) ?_
  refine D_l (v := (.i .i64 (((k : Nat)) : Int))) rfl rfl rfl (r_mv rfl) ?_
  refine D_l (v := (.i .i64 ((((k : Nat)) : Int) + 1))) rfl rfl rfl (by exact (r_addi rfl rfl (wrap_i64 (by omega) (by omega)))) ?_
  refine D_r (v := v) rfl rfl rfl (by exact (r_ld rfl hH22.get4 ((foc_get hrw hi rfl (by decide)).trans rfl))) ?_
  refine D_r (v := (.agg [(.s (txt tp)), (.i .i64 frm), (.i .i64 num), (.b tx), dv])) rfl rfl rfl (r_ldA rfl hH22.get2 rfl) ?_
  have hH23 := (hH22.top1)
  refine D_call (Ev.mono (deletek_ev (i := k) hsq hl5 hk hfitw hH23) fun v24 H25 hq26 => ?_)
  obtain ⟨c27, hSq28, hH29⟩ := hq26
  have hel : (rows.eraseIdx k).length = rows.length - 1 := List.length_eraseIdx_of_lt hk
  refine And.intro (And.intro (Or.inr (look_run rfl rfl (r_ldA rfl hH29.get2 rfl))) (And.intro (Or.inl rfl) True.intro)) ?_
  refine D_m (f := fun n => ((.sl (some (n, 0)) 1 1 0), .cells [(.s (txt tp)), (.i .i64 frm), (.i .i64 num), (.b tx), dv] true)) rfl rfl fun H31 hW32 => ?_
  have hH34 := hH29.wr1 hW32
  generalize hn33 : b17 + 10 = n30 at hW32 hH34 ⊢
  refine And.intro (And.intro (Or.inl rfl) True.intro) ?_
  refine D_qh rfl rfl (by exact r_appq (n := (rows.eraseIdx k).length) (k := 1) (new := [(.s (txt tp)), (.i .i64 frm), (.i .i64 num), (.b tx), dv]) hH34.top0 hSq28 rfl rfl rfl (src_blk hH34.get1 (by rfl)) rfl (by decide) (by decide) (flat_len fun x hx => hl5 x (List.mem_of_mem_eraseIdx hx)) (by first | omega | (simp only [List.length_take, List.length_drop, List.length_append, List.length_cons, List.length_nil, beN_len] <;> omega))) fun o35 H36 hA38 => ?_
  obtain ⟨c37, hA38, hH39⟩ := hA38
  refine And.intro True.intro ?_
  obtain ⟨qa40, ql41, qc42, qg43, rfl⟩ := hA38.isSl
  refine D_l (v := (.p (some (Lb, (i * 4 + 0))))) rfl rfl rfl (r_nilc rfl) ?_
  refine D_l (v := (.p (some (Lb, (i * 4 + 2))))) rfl rfl rfl (r_fadd' rfl rfl) ?_
  refine D_store (vs := [(.sl qa40 ql41 qc42 qg43)]) (c' := ((rws).set i (prow true (some mr) (.sl qa40 ql41 qc42 qg43) (lost + 1))).flatten) rfl (by rfl) hH39.get4 rfl (List.cons_ne_nil _ _) (foc_len (n := 1) hrw hi rfl (Nat.le_of_ble_eq_true rfl)) (foc_put hrw hi rfl (Nat.le_of_ble_eq_true rfl) rfl) fun H44 hW45 => ?_
  have hH46 := hH39.wr4 hW45
  refine And.intro True.intro ?_
  refine D_nil ?_
  refine C_seq ?_
  refine C_region ?_
  refine O_p (.b true) (r_mv rfl) ?_
  refine O_nil ?_
  refine C_ret ?_
  have hH47 := (((hH46.sub1).sub1).sub1)
  have hH48 := ((hH47.top2).top2)
  exact ⟨.inr rfl, _, resL_one (r_tmp (v := .b true) rfl), rfl, (.sl qa40 ql41 qc42 qg43), c37, by have h := hA38; rw [flat_snoc] at h; exact h, hH48⟩
set_option maxHeartbeats 1000000 in
theorem handg_new {H : AH} {R : HL} {Lb i mr : Nat} {rws rows : List (List AV)} {v : AV} {c : List AV} {mb : Blk} {m : ML} {lost : Int} {room : Nat} {mode : Int} {tp : List UInt8} {frm num : Int} {tx : Bool} {dv : AV} {D : HL} {w : List It} {k : Nat} (hrw : ∀ x ∈ rws, x.length = 4) (hi : i < rws.length) (hsq : Sq 5 v c rows.flatten) (hl5 : ∀ x ∈ rows, x.length = 5) (hir : ItsR D rows w) (hmb : Mb m mb) (hlost : 0 ≤ lost ∧ lost < 4611686018427387904) (hfitw : rows.length ≤ 1000000) (hget : mget m tp = some (sub 1 false)) (hroom : room ≤ rows.length)  (hH0 : Hs H ([(Lb, some (.cells (rws.set i (prow true (some mr) v lost)).flatten true))] ++ ([(mr, some mb)] ++ (qseg v c ++ R)))) : Ev tabA spA (.fn (.func 31) [] []) [.p (some (Lb, i * 4 + 0)), .agg [(.s (txt tp)), (.i .i64 frm), (.i .i64 num), (.b tx), dv], .i .i64 room] H (fun r H' => r = .b false ∧ Hs H' ([(Lb, some (.cells (rws.set i (prow true (some mr) v (lost + 1))).flatten true))] ++ ([(mr, some mb)] ++ (qseg v c ++ R)))) := by
  refine Ev_C (F := x31) rfl ?_
  refine C_seq ?_
  refine C_region ?_
  refine O_box (z := [(.s (txt tp)), (.i .i64 frm), (.i .i64 num), (.b tx), dv]) rfl fun n1 H2 hN3 => ?_
  have hH4 := hH0.new hN3
  refine O_p (.b false) (r_mv rfl) ?_
  refine O_nil ?_
  refine C_seq ?_
  refine C_draw fun b5 H6 hbase7 hA8 => ?_
  have hH9 : Hs H6 (asideL b5 [10] ++ _) := hH4.aside hA8 [10] hbase7 rfl (by decide)
  have hH10 : Hs H6 ([(b5 + 10, none)] ++ _) := hH9
  refine D_l (v := (.p (some (Lb, (i * 4 + 0))))) rfl rfl rfl (r_mv rfl) ?_
  refine D_l (v := (.p (some (Lb, (i * 4 + 0))))) rfl rfl rfl (r_nilc rfl) ?_
  refine D_l (v := (.p (some (Lb, (i * 4 + 1))))) rfl rfl rfl (r_fadd' rfl rfl) ?_
  refine D_l (v := (.p (some (n1, 0)))) rfl rfl rfl (r_fadd' rfl rfl) ?_
  refine D_r (v := (.m (some mr))) rfl rfl rfl (by exact (r_ld rfl hH10.get2 ((foc_get hrw hi rfl (by decide)).trans rfl))) ?_
  refine D_r (v := (.s (txt tp))) rfl rfl rfl (r_ld rfl hH10.get1 rfl) ?_
  refine D_r (v := (.tup [(.agg [(.i .i64 1), (.b false)]), (.b true)])) rfl rfl rfl (by exact ((r_mget (m := m) (k := tp) hH10.get3 hmb rfl rfl true).trans (by first | (rw [hget]; rfl) | rw [hget]))) ?_
  refine D_l (v := (.tup [(.agg [(.i .i64 1), (.b false)]), (.b true)])) rfl rfl rfl (r_mv rfl) ?_
  refine D_l (v := (.agg [(.i .i64 1), (.b false)])) rfl rfl rfl (r_ext rfl rfl) ?_
  refine D_l (v := (.b true)) rfl rfl rfl (r_ext rfl rfl) ?_
  refine D_m (f := fun n => ((.p (some (n, 0))), .cells [(.i .i64 0), (.b false)] true)) rfl rfl fun H12 hW13 => ?_
  have hH15 := hH10.wr0 hW13
  generalize hn14 : b5 + 10 = n11 at hW13 hH15 ⊢
  refine And.intro (And.intro (Or.inr (look_run rfl rfl ((r_mget (m := m) (k := tp) hH15.get3 hmb rfl rfl true).trans (by first | (rw [hget]; rfl) | rw [hget])))) (And.intro (Or.inr (look_run rfl rfl (r_ld rfl hH15.get1 rfl))) (And.intro (Or.inr (look_run rfl rfl (r_ld rfl hH15.get2 ((foc_get hrw hi rfl (by decide)).trans rfl)))) True.intro))) ?_
  refine D_store (vs := [(.i .i64 1), (.b false)]) (c' := [(.i .i64 1), (.b false)]) rfl (by rfl) hH15.get0 rfl (List.cons_ne_nil _ _) (Nat.le_of_ble_eq_true rfl) rfl fun H16 hW17 => ?_
  have hH18 := hH15.wr0 hW17
  refine And.intro (And.intro (Or.inl rfl) (And.intro (Or.inl rfl) (And.intro (Or.inl rfl) True.intro))) ?_
  refine D_l (v := (.b true)) rfl rfl rfl (r_mv rfl) ?_
  refine D_nil ?_
  refine C_seq ?_
  refine C_block ?_
  refine C_seq ?_
  refine C_region ?_
  refine O_p (.p (some (Lb, (i * 4 + 0)))) (r_mv rfl) ?_
  refine O_p (.p (some (Lb, (i * 4 + 0)))) (r_nilc rfl) ?_
  refine O_p (.p (some (Lb, (i * 4 + 0)))) (r_fadd' rfl rfl) ?_
  refine O_p (.b true) (by exact (r_ld rfl hH18.get2 ((foc_get hrw hi rfl (by decide)).trans rfl))) ?_
  refine O_p (.b false) (r_un rfl rfl) ?_
  refine O_p (.b false) (r_mv rfl) ?_
  refine O_gk rfl ?_
  refine O_p (.b true) (r_mv rfl) ?_
  refine O_gk rfl ?_
  refine O_p (.b false) (r_un rfl rfl) ?_
  refine O_p (.b false) (r_pick_f rfl rfl) ?_
  refine O_p (.b false) (r_mv rfl) ?_
  refine O_gk rfl ?_
  refine O_p (.p (some (n11, 1))) (r_fadd' rfl rfl) ?_
  refine O_gk rfl ?_
  refine O_p (.b false) (r_ld rfl hH18.get0 rfl) ?_
  refine O_p (.b false) (r_pick_f rfl rfl) ?_
  refine O_p (.b false) (r_mv rfl) ?_
  refine O_nil ?_
  refine C_cond (x := false) rfl (fun h => by cases h) (fun _ => ?_)
  refine C_seq ?_
  refine C_region ?_
  refine O_p (.p (some (Lb, (i * 4 + 0)))) (r_mv rfl) ?_
  refine O_p (.p (some (Lb, (i * 4 + 0)))) (r_nilc rfl) ?_
  refine O_p (.p (some (Lb, (i * 4 + 2)))) (r_fadd' rfl rfl) ?_
  refine O_p v (by exact (r_ld rfl hH18.get2 ((foc_get hrw hi rfl (by decide)).trans rfl))) ?_
  refine O_p (.i .i64 (((rows.length : Nat)) : Int)) (by exact (by exact r_lenOf rfl (hsq.lenOf (flat_len hl5) (by decide)) hsq.isSl)) ?_
  refine O_p (.i .i64 ((room : Nat) : Int)) (r_mv rfl) ?_
  refine O_p (.b true) (by exact (by rw [r_geq rfl rfl, decide_eq_true (by omega)])) ?_
  refine O_p (.b true) (r_mv rfl) ?_
  refine O_nil ?_
  refine C_cond (x := true) rfl (fun _ => ?_) (fun h => by cases h)
  refine C_seq ?_
  refine C_region ?_
  refine O_p (.p (some (Lb, (i * 4 + 0)))) (r_mv rfl) ?_
  refine O_p (.agg [(.s (txt tp)), (.i .i64 frm), (.i .i64 num), (.b tx), dv]) (r_ldA rfl hH18.get1 rfl) ?_
  refine O_p (.agg [(.i .i64 1), (.b false)]) (r_ldA rfl hH18.get0 rfl) ?_
  have hH19 := (((hH18.top4).top4).top4)
  have hH20 := (((hH19.top2).top2).top2)
  refine O_call (Ev.mono (fullg_new (k := k) hrw hi hsq hl5 hir hmb hlost hfitw  hH20) fun v21 H22 hq23 => ?_)
  obtain ⟨rfl, hH24⟩ := hq23
  refine O_p (.b false) (r_mv rfl) ?_
  refine O_nil ?_
  refine C_ret ?_
  refine bk_ret ?_
  refine nx_ret ?_
  have hH25 := ((hH24.sub3).sub3)
  have hH26 := (((hH25.top2).top2).top2)
  exact ⟨.inr rfl, _, resL_one (r_tmp (v := .b false) rfl), rfl, hH26⟩
set_option maxHeartbeats 1000000 in
theorem handg_nf {H : AH} {R : HL} {Lb i mr : Nat} {rws rows : List (List AV)} {v : AV} {c : List AV} {mb : Blk} {m : ML} {lost : Int} {room : Nat} {mode : Int} {tp : List UInt8} {frm num : Int} {tx : Bool} {dv : AV} {D : HL} {w : List It} {k : Nat} (hrw : ∀ x ∈ rws, x.length = 4) (hi : i < rws.length) (hsq : Sq 5 v c rows.flatten) (hl5 : ∀ x ∈ rows, x.length = 5) (hir : ItsR D rows w) (hmb : Mb m mb) (hlost : 0 ≤ lost ∧ lost < 4611686018427387904) (hfitw : rows.length ≤ 1000000) (hget : mget m tp = some (sub 2 false)) (hroom : room ≤ rows.length) (hk : w.length ≤ w.findIdx (fun y => decide (y.tp = tp))) (hH0 : Hs H ([(Lb, some (.cells (rws.set i (prow true (some mr) v lost)).flatten true))] ++ ([(mr, some mb)] ++ (qseg v c ++ R)))) : Ev tabA spA (.fn (.func 31) [] []) [.p (some (Lb, i * 4 + 0)), .agg [(.s (txt tp)), (.i .i64 frm), (.i .i64 num), (.b tx), dv], .i .i64 room] H (fun r H' => r = .b false ∧ Hs H' ([(Lb, some (.cells (rws.set i (prow true (some mr) v (lost + 1))).flatten true))] ++ ([(mr, some mb)] ++ (qseg v c ++ R)))) := by
  refine Ev_C (F := x31) rfl ?_
  refine C_seq ?_
  refine C_region ?_
  refine O_box (z := [(.s (txt tp)), (.i .i64 frm), (.i .i64 num), (.b tx), dv]) rfl fun n1 H2 hN3 => ?_
  have hH4 := hH0.new hN3
  refine O_p (.b false) (r_mv rfl) ?_
  refine O_nil ?_
  refine C_seq ?_
  refine C_draw fun b5 H6 hbase7 hA8 => ?_
  have hH9 : Hs H6 (asideL b5 [10] ++ _) := hH4.aside hA8 [10] hbase7 rfl (by decide)
  have hH10 : Hs H6 ([(b5 + 10, none)] ++ _) := hH9
  refine D_l (v := (.p (some (Lb, (i * 4 + 0))))) rfl rfl rfl (r_mv rfl) ?_
  refine D_l (v := (.p (some (Lb, (i * 4 + 0))))) rfl rfl rfl (r_nilc rfl) ?_
  refine D_l (v := (.p (some (Lb, (i * 4 + 1))))) rfl rfl rfl (r_fadd' rfl rfl) ?_
  refine D_l (v := (.p (some (n1, 0)))) rfl rfl rfl (r_fadd' rfl rfl) ?_
  refine D_r (v := (.m (some mr))) rfl rfl rfl (by exact (r_ld rfl hH10.get2 ((foc_get hrw hi rfl (by decide)).trans rfl))) ?_
  refine D_r (v := (.s (txt tp))) rfl rfl rfl (r_ld rfl hH10.get1 rfl) ?_
  refine D_r (v := (.tup [(.agg [(.i .i64 2), (.b false)]), (.b true)])) rfl rfl rfl (by exact ((r_mget (m := m) (k := tp) hH10.get3 hmb rfl rfl true).trans (by first | (rw [hget]; rfl) | rw [hget]))) ?_
  refine D_l (v := (.tup [(.agg [(.i .i64 2), (.b false)]), (.b true)])) rfl rfl rfl (r_mv rfl) ?_
  refine D_l (v := (.agg [(.i .i64 2), (.b false)])) rfl rfl rfl (r_ext rfl rfl) ?_
  refine D_l (v := (.b true)) rfl rfl rfl (r_ext rfl rfl) ?_
  refine D_m (f := fun n => ((.p (some (n, 0))), .cells [(.i .i64 0), (.b false)] true)) rfl rfl fun H12 hW13 => ?_
  have hH15 := hH10.wr0 hW13
  generalize hn14 : b5 + 10 = n11 at hW13 hH15 ⊢
  refine And.intro (And.intro (Or.inr (look_run rfl rfl ((r_mget (m := m) (k := tp) hH15.get3 hmb rfl rfl true).trans (by first | (rw [hget]; rfl) | rw [hget])))) (And.intro (Or.inr (look_run rfl rfl (r_ld rfl hH15.get1 rfl))) (And.intro (Or.inr (look_run rfl rfl (r_ld rfl hH15.get2 ((foc_get hrw hi rfl (by decide)).trans rfl)))) True.intro))) ?_
  refine D_store (vs := [(.i .i64 2), (.b false)]) (c' := [(.i .i64 2), (.b false)]) rfl (by rfl) hH15.get0 rfl (List.cons_ne_nil _ _) (Nat.le_of_ble_eq_true rfl) rfl fun H16 hW17 => ?_
  have hH18 := hH15.wr0 hW17
  refine And.intro (And.intro (Or.inl rfl) (And.intro (Or.inl rfl) (And.intro (Or.inl rfl) True.intro))) ?_
  refine D_l (v := (.b true)) rfl rfl rfl (r_mv rfl) ?_
  refine D_nil ?_
  refine C_seq ?_
  refine C_block ?_
  refine C_seq ?_
  refine C_region ?_
  refine O_p (.p (some (Lb, (i * 4 + 0)))) (r_mv rfl) ?_
  refine O_p (.p (some (Lb, (i * 4 + 0)))) (r_nilc rfl) ?_
  refine O_p (.p (some (Lb, (i * 4 + 0)))) (r_fadd' rfl rfl) ?_
  refine O_p (.b true) (by exact (r_ld rfl hH18.get2 ((foc_get hrw hi rfl (by decide)).trans rfl))) ?_
  refine O_p (.b false) (r_un rfl rfl) ?_
  refine O_p (.b false) (r_mv rfl) ?_
  refine O_gk rfl ?_
  refine O_p (.b true) (r_mv rfl) ?_
  refine O_gk rfl ?_
  refine O_p (.b false) (r_un rfl rfl) ?_
  refine O_p (.b false) (r_pick_f rfl rfl) ?_
  refine O_p (.b false) (r_mv rfl) ?_
  refine O_gk rfl ?_
  refine O_p (.p (some (n11, 1))) (r_fadd' rfl rfl) ?_
  refine O_gk rfl ?_
  refine O_p (.b false) (r_ld rfl hH18.get0 rfl) ?_
  refine O_p (.b false) (r_pick_f rfl rfl) ?_
  refine O_p (.b false) (r_mv rfl) ?_
  refine O_nil ?_
  refine C_cond (x := false) rfl (fun h => by cases h) (fun _ => ?_)
  refine C_seq ?_
  refine C_region ?_
  refine O_p (.p (some (Lb, (i * 4 + 0)))) (r_mv rfl) ?_
  refine O_p (.p (some (Lb, (i * 4 + 0)))) (r_nilc rfl) ?_
  refine O_p (.p (some (Lb, (i * 4 + 2)))) (r_fadd' rfl rfl) ?_
  refine O_p v (by exact (r_ld rfl hH18.get2 ((foc_get hrw hi rfl (by decide)).trans rfl))) ?_
  refine O_p (.i .i64 (((rows.length : Nat)) : Int)) (by exact (by exact r_lenOf rfl (hsq.lenOf (flat_len hl5) (by decide)) hsq.isSl)) ?_
  refine O_p (.i .i64 ((room : Nat) : Int)) (r_mv rfl) ?_
  refine O_p (.b true) (by exact (by rw [r_geq rfl rfl, decide_eq_true (by omega)])) ?_
  refine O_p (.b true) (r_mv rfl) ?_
  refine O_nil ?_
  refine C_cond (x := true) rfl (fun _ => ?_) (fun h => by cases h)
  refine C_seq ?_
  refine C_region ?_
  refine O_p (.p (some (Lb, (i * 4 + 0)))) (r_mv rfl) ?_
  refine O_p (.agg [(.s (txt tp)), (.i .i64 frm), (.i .i64 num), (.b tx), dv]) (r_ldA rfl hH18.get1 rfl) ?_
  refine O_p (.agg [(.i .i64 2), (.b false)]) (r_ldA rfl hH18.get0 rfl) ?_
  have hH19 := (((hH18.top4).top4).top4)
  have hH20 := (((hH19.top2).top2).top2)
  refine O_call (Ev.mono (fullg_nf (k := k) hrw hi hsq hl5 hir hmb hlost hfitw hk hH20) fun v21 H22 hq23 => ?_)
  obtain ⟨rfl, hH24⟩ := hq23
  refine O_p (.b false) (r_mv rfl) ?_
  refine O_nil ?_
  refine C_ret ?_
  refine bk_ret ?_
  refine nx_ret ?_
  have hH25 := ((hH24.sub3).sub3)
  have hH26 := (((hH25.top2).top2).top2)
  exact ⟨.inr rfl, _, resL_one (r_tmp (v := .b false) rfl), rfl, hH26⟩
set_option maxHeartbeats 1000000 in
theorem handg_old {H : AH} {R : HL} {Lb i mr : Nat} {rws rows : List (List AV)} {v : AV} {c : List AV} {mb : Blk} {m : ML} {lost : Int} {room : Nat} {mode : Int} {tp : List UInt8} {frm num : Int} {tx : Bool} {dv : AV} {D : HL} {w : List It} {k : Nat} (hrw : ∀ x ∈ rws, x.length = 4) (hi : i < rws.length) (hsq : Sq 5 v c rows.flatten) (hl5 : ∀ x ∈ rows, x.length = 5) (hir : ItsR D rows w) (hmb : Mb m mb) (hlost : 0 ≤ lost ∧ lost < 4611686018427387904) (hfitw : rows.length ≤ 1000000) (hget : mget m tp = some (sub 2 false)) (hroom : room ≤ rows.length) (hfi : w.findIdx (fun y => decide (y.tp = tp)) = k) (hk : k < rows.length) (hH0 : Hs H ([(Lb, some (.cells (rws.set i (prow true (some mr) v lost)).flatten true))] ++ ([(mr, some mb)] ++ (qseg v c ++ R)))) : Ev tabA spA (.fn (.func 31) [] []) [.p (some (Lb, i * 4 + 0)), .agg [(.s (txt tp)), (.i .i64 frm), (.i .i64 num), (.b tx), dv], .i .i64 room] H (fun r H' => r = .b true ∧ ∃ v' c', Sq 5 v' c' (rows.eraseIdx k ++ [[(.s (txt tp)), (.i .i64 frm), (.i .i64 num), (.b tx), dv]]).flatten ∧ Hs H' ([(Lb, some (.cells (rws.set i (prow true (some mr) v' (lost + 1))).flatten true))] ++ ([(mr, some mb)] ++ (qseg v' c' ++ R)))) := by
  refine Ev_C (F := x31) rfl ?_
  refine C_seq ?_
  refine C_region ?_
  refine O_box (z := [(.s (txt tp)), (.i .i64 frm), (.i .i64 num), (.b tx), dv]) rfl fun n1 H2 hN3 => ?_
  have hH4 := hH0.new hN3
  refine O_p (.b false) (r_mv rfl) ?_
  refine O_nil ?_
  refine C_seq ?_
  refine C_draw fun b5 H6 hbase7 hA8 => ?_
  have hH9 : Hs H6 (asideL b5 [10] ++ _) := hH4.aside hA8 [10] hbase7 rfl (by decide)
  have hH10 : Hs H6 ([(b5 + 10, none)] ++ _) := hH9
  refine D_l (v := (.p (some (Lb, (i * 4 + 0))))) rfl rfl rfl (r_mv rfl) ?_
  refine D_l (v := (.p (some (Lb, (i * 4 + 0))))) rfl rfl rfl (r_nilc rfl) ?_
  refine D_l (v := (.p (some (Lb, (i * 4 + 1))))) rfl rfl rfl (r_fadd' rfl rfl) ?_
  refine D_l (v := (.p (some (n1, 0)))) rfl rfl rfl (r_fadd' rfl rfl) ?_
  refine D_r (v := (.m (some mr))) rfl rfl rfl (by exact (r_ld rfl hH10.get2 ((foc_get hrw hi rfl (by decide)).trans rfl))) ?_
  refine D_r (v := (.s (txt tp))) rfl rfl rfl (r_ld rfl hH10.get1 rfl) ?_
  refine D_r (v := (.tup [(.agg [(.i .i64 2), (.b false)]), (.b true)])) rfl rfl rfl (by exact ((r_mget (m := m) (k := tp) hH10.get3 hmb rfl rfl true).trans (by first | (rw [hget]; rfl) | rw [hget]))) ?_
  refine D_l (v := (.tup [(.agg [(.i .i64 2), (.b false)]), (.b true)])) rfl rfl rfl (r_mv rfl) ?_
  refine D_l (v := (.agg [(.i .i64 2), (.b false)])) rfl rfl rfl (r_ext rfl rfl) ?_
  refine D_l (v := (.b true)) rfl rfl rfl (r_ext rfl rfl) ?_
  refine D_m (f := fun n => ((.p (some (n, 0))), .cells [(.i .i64 0), (.b false)] true)) rfl rfl fun H12 hW13 => ?_
  have hH15 := hH10.wr0 hW13
  generalize hn14 : b5 + 10 = n11 at hW13 hH15 ⊢
  refine And.intro (And.intro (Or.inr (look_run rfl rfl ((r_mget (m := m) (k := tp) hH15.get3 hmb rfl rfl true).trans (by first | (rw [hget]; rfl) | rw [hget])))) (And.intro (Or.inr (look_run rfl rfl (r_ld rfl hH15.get1 rfl))) (And.intro (Or.inr (look_run rfl rfl (r_ld rfl hH15.get2 ((foc_get hrw hi rfl (by decide)).trans rfl)))) True.intro))) ?_
  refine D_store (vs := [(.i .i64 2), (.b false)]) (c' := [(.i .i64 2), (.b false)]) rfl (by rfl) hH15.get0 rfl (List.cons_ne_nil _ _) (Nat.le_of_ble_eq_true rfl) rfl fun H16 hW17 => ?_
  have hH18 := hH15.wr0 hW17
  refine And.intro (And.intro (Or.inl rfl) (And.intro (Or.inl rfl) (And.intro (Or.inl rfl) True.intro))) ?_
  refine D_l (v := (.b true)) rfl rfl rfl (r_mv rfl) ?_
  refine D_nil ?_
  refine C_seq ?_
  refine C_block ?_
  refine C_seq ?_
  refine C_region ?_
  refine O_p (.p (some (Lb, (i * 4 + 0)))) (r_mv rfl) ?_
  refine O_p (.p (some (Lb, (i * 4 + 0)))) (r_nilc rfl) ?_
  refine O_p (.p (some (Lb, (i * 4 + 0)))) (r_fadd' rfl rfl) ?_
  refine O_p (.b true) (by exact (r_ld rfl hH18.get2 ((foc_get hrw hi rfl (by decide)).trans rfl))) ?_
  refine O_p (.b false) (r_un rfl rfl) ?_
  refine O_p (.b false) (r_mv rfl) ?_
  refine O_gk rfl ?_
  refine O_p (.b true) (r_mv rfl) ?_
  refine O_gk rfl ?_
  refine O_p (.b false) (r_un rfl rfl) ?_
  refine O_p (.b false) (r_pick_f rfl rfl) ?_
  refine O_p (.b false) (r_mv rfl) ?_
  refine O_gk rfl ?_
  refine O_p (.p (some (n11, 1))) (r_fadd' rfl rfl) ?_
  refine O_gk rfl ?_
  refine O_p (.b false) (r_ld rfl hH18.get0 rfl) ?_
  refine O_p (.b false) (r_pick_f rfl rfl) ?_
  refine O_p (.b false) (r_mv rfl) ?_
  refine O_nil ?_
  refine C_cond (x := false) rfl (fun h => by cases h) (fun _ => ?_)
  refine C_seq ?_
  refine C_region ?_
  refine O_p (.p (some (Lb, (i * 4 + 0)))) (r_mv rfl) ?_
  refine O_p (.p (some (Lb, (i * 4 + 0)))) (r_nilc rfl) ?_
  refine O_p (.p (some (Lb, (i * 4 + 2)))) (r_fadd' rfl rfl) ?_
  refine O_p v (by exact (r_ld rfl hH18.get2 ((foc_get hrw hi rfl (by decide)).trans rfl))) ?_
  refine O_p (.i .i64 (((rows.length : Nat)) : Int)) (by exact (by exact r_lenOf rfl (hsq.lenOf (flat_len hl5) (by decide)) hsq.isSl)) ?_
  refine O_p (.i .i64 ((room : Nat) : Int)) (r_mv rfl) ?_
  refine O_p (.b true) (by exact (by rw [r_geq rfl rfl, decide_eq_true (by omega)])) ?_
  refine O_p (.b true) (r_mv rfl) ?_
  refine O_nil ?_
  refine C_cond (x := true) rfl (fun _ => ?_) (fun h => by cases h)
  refine C_seq ?_
  refine C_region ?_
  refine O_p (.p (some (Lb, (i * 4 + 0)))) (r_mv rfl) ?_
  refine O_p (.agg [(.s (txt tp)), (.i .i64 frm), (.i .i64 num), (.b tx), dv]) (r_ldA rfl hH18.get1 rfl) ?_
  refine O_p (.agg [(.i .i64 2), (.b false)]) (r_ldA rfl hH18.get0 rfl) ?_
  have hH19 := (((hH18.top4).top4).top4)
  have hH20 := (((hH19.top2).top2).top2)
  refine O_call (Ev.mono (fullg_old (k := k) hrw hi hsq hl5 hir hmb hlost hfitw hfi hk hH20) fun v21 H22 hq23 => ?_)
  obtain ⟨rfl, v2, c2, hs2, hH24⟩ := hq23
  refine O_p (.b true) (r_mv rfl) ?_
  refine O_nil ?_
  refine C_ret ?_
  refine bk_ret ?_
  refine nx_ret ?_
  have hH25 := ((hH24.sub3).sub3)
  have hH26 := (((hH25.top2).top2).top2)
  exact ⟨.inr rfl, _, resL_one (r_tmp (v := .b true) rfl), rfl, v2, c2, hs2, hH26⟩
/-- One theorem for hand. -/
theorem handP_ev {H : AH} {R D : HL} {Lb i room n : Nat} {rws : List (List AV)} {p : Pc} {x : It} {dv : AV} (hrw : ∀ x ∈ rws, x.length = 4) (hi : i < rws.length) (hok : p.ok D) (hinv : p.a.inv room n) (hroom : 1 ≤ room ∧ room ≤ 64) (hn : n ≤ 1000000) (hx : ItRow D [.s (txt x.tp), .i .i64 x.frm, .i .i64 x.num, .b x.tx, dv] x) (hH0 : Hs H ([(Lb, some (.cells (rws.set i p.row).flatten true))] ++ (p.seg ++ R))) :
    Ev tabA spA (.fn (.func 31) [] []) [.p (some (Lb, i * 4 + 0)), .agg [.s (txt x.tp), .i .i64 x.frm, .i .i64 x.num, .b x.tx, dv], .i .i64 room] H (fun r H' => ∃ q : Pc, r = .b (p.a.hand room x).2 ∧ q.a = (p.a.hand room x).1 ∧ q.ok D ∧ Hs H' ([(Lb, some (.cells (rws.set i q.row).flatten true))] ++ (q.seg ++ R))) := by
  obtain ⟨mo, v, c, rows, a⟩ := p
  obtain ⟨hsq, hir, hmo⟩ := hok
  simp only at hsq hir hmo hinv
  rcases hmo with ⟨rfl, rfl, rfl, rfl, rfl⟩ | ⟨hon, mr, mb, rfl, hmb⟩
  · refine Ev.mono (hand_off hrw hi (R := R) hH0) fun r H2 hq => ?_
    obtain ⟨rfl, hh⟩ := hq
    exact ⟨pc0, rfl, rfl, pc0_ok D, hh⟩
  · obtain ⟨on, sb, w, lost⟩ := a
    simp only at hon hir hmb
    subst hon
    have hl5 := hir.lens
    have hrl := hir.1
    have hw : w.length ≤ room := hinv.w
    have hlo : lost ≤ n := hinv.lost
    have hlost : (0 : Int) ≤ ((lost : Nat) : Int) ∧ ((lost : Nat) : Int) < 4611686018427387904 := ⟨by omega, by omega⟩
    have hH1 : Hs H ([(Lb, some (.cells (rws.set i (prow true (some mr) v ((lost : Nat) : Int))).flatten true))] ++ ([(mr, some mb)] ++ (qseg v c ++ R))) := hH0
    have hgm := mget_mlS x.tp sb
    cases hg : sget sb x.tp with
    | none =>
      rw [hg] at hgm
      have e : Pa.hand ⟨true, sb, w, lost⟩ room x = (⟨true, sb, w, lost⟩, false) := by unfold Pa.hand; simp only [if_true, hg]
      rw [e]
      refine Ev.mono (hand_no (mode := 0) hrw hi hsq hl5 hmb hlost (by omega) hgm hH1) fun r H2 hq => ?_
      obtain ⟨rfl, hh⟩ := hq
      exact ⟨⟨some (mr, mb), v, c, rows, ⟨true, sb, w, lost⟩⟩, rfl, rfl, ⟨hsq, hir, .inr ⟨rfl, mr, mb, rfl, hmb⟩⟩, hh⟩
    | some q =>
      obtain ⟨mode, f⟩ := q
      rw [hg] at hgm
      have hmo := sget_mode hinv.mode hg
      cases f with
      | true =>
        have e : Pa.hand ⟨true, sb, w, lost⟩ room x = (⟨true, sb, w, lost⟩, false) := by unfold Pa.hand; simp only [if_true, hg]
        rw [e]
        refine Ev.mono (hand_failed (mode := mode) hrw hi hsq hl5 hmb hlost (by omega) hgm hH1) fun r H2 hq => ?_
        obtain ⟨rfl, hh⟩ := hq
        exact ⟨⟨some (mr, mb), v, c, rows, ⟨true, sb, w, lost⟩⟩, rfl, rfl, ⟨hsq, hir, .inr ⟨rfl, mr, mb, rfl, hmb⟩⟩, hh⟩
      | false =>
        by_cases hr : w.length < room
        · have e : Pa.hand ⟨true, sb, w, lost⟩ room x = (⟨true, sb, w ++ [x], lost⟩, true) := by unfold Pa.hand; simp only [if_true, hg, if_pos hr]
          rw [e]
          refine Ev.mono (hand_room (mode := mode) hrw hi hsq hl5 hmb hlost (by omega) hgm (by omega) hH1) fun r H2 hq => ?_
          obtain ⟨rfl, v2, c2, hs2, hh⟩ := hq
          exact ⟨⟨some (mr, mb), v2, c2, _, ⟨true, sb, w ++ [x], lost⟩⟩, rfl, rfl, ⟨hs2, hir.snoc hx, .inr ⟨rfl, mr, mb, rfl, hmb⟩⟩, hh⟩
        · by_cases h0 : mode = 0
          · subst h0
            have e : Pa.hand ⟨true, sb, w, lost⟩ room x = (⟨true, sset sb x.tp 0 true, w, lost⟩, false) := by unfold Pa.hand; simp only [if_true, hg, if_neg hr]
            rw [e]
            refine Ev.mono (hand_ord (mode := 0) hrw hi hsq hl5 hmb hlost (by omega) hgm (by omega) hH1) fun r H2 hq => ?_
            obtain ⟨rfl, mb2, hm2, hh⟩ := hq
            rw [mset_mlS] at hm2
            exact ⟨⟨some (mr, mb2), v, c, rows, ⟨true, sset sb x.tp 0 true, w, lost⟩⟩, rfl, rfl, ⟨hsq, hir, .inr ⟨rfl, mr, mb2, rfl, hm2⟩⟩, hh⟩
          · have hcast : ((lost : Nat) : Int) + 1 = ((lost + 1 : Nat) : Int) := rfl
            by_cases h1 : mode = 1
            · subst h1
              have e : Pa.hand ⟨true, sb, w, lost⟩ room x = (⟨true, sb, w, lost + 1⟩, false) := by unfold Pa.hand; simp only [if_true, hg, if_neg hr]; rw [if_neg (by decide), if_pos (by first | exact .inl trivial | exact .inl rfl)]
              rw [e]
              refine Ev.mono (handg_new (mode := 1) (k := 0) hrw hi hsq hl5 hir hmb hlost (by omega) hgm (by omega) hH1) fun r H2 hq => ?_
              obtain ⟨rfl, hh⟩ := hq
              exact ⟨⟨some (mr, mb), v, c, rows, ⟨true, sb, w, lost + 1⟩⟩, rfl, rfl, ⟨hsq, hir, .inr ⟨rfl, mr, mb, rfl, hmb⟩⟩, hh⟩
            · have h2 : mode = 2 := by omega
              subst h2
              by_cases hk : w.length ≤ w.findIdx (fun y => decide (y.tp = x.tp))
              · have e : Pa.hand ⟨true, sb, w, lost⟩ room x = (⟨true, sb, w, lost + 1⟩, false) := by unfold Pa.hand; simp only [if_true, hg, if_neg hr]; rw [if_neg (by decide), if_pos (.inr hk)]
                rw [e]
                refine Ev.mono (handg_nf (mode := 2) (k := 0) hrw hi hsq hl5 hir hmb hlost (by omega) hgm (by omega) hk hH1) fun r H2 hq => ?_
                obtain ⟨rfl, hh⟩ := hq
                exact ⟨⟨some (mr, mb), v, c, rows, ⟨true, sb, w, lost + 1⟩⟩, rfl, rfl, ⟨hsq, hir, .inr ⟨rfl, mr, mb, rfl, hmb⟩⟩, hh⟩
              · have e : Pa.hand ⟨true, sb, w, lost⟩ room x = (⟨true, sb, w.eraseIdx (w.findIdx fun y => decide (y.tp = x.tp)) ++ [x], lost + 1⟩, true) := by unfold Pa.hand; simp only [if_true, hg, if_neg hr]; rw [if_neg (by decide), if_neg (fun h => by rcases h with h | h; exact absurd h (by decide); exact hk h)]
                rw [e]
                refine Ev.mono (handg_old (mode := 2) hrw hi hsq hl5 hir hmb hlost (by omega) hgm (by omega) rfl (by omega) hH1) fun r H2 hq => ?_
                obtain ⟨rfl, v2, c2, hs2, hh⟩ := hq
                exact ⟨⟨some (mr, mb), v2, c2, _, ⟨true, sb, w.eraseIdx (w.findIdx fun y => decide (y.tp = x.tp)) ++ [x], lost + 1⟩⟩, rfl, rfl, ⟨hs2, hir.eraseIdx.snoc hx, .inr ⟨rfl, mr, mb, rfl, hmb⟩⟩, hh⟩



set_option linter.unusedVariables false
set_option linter.unusedSimpArgs false
/-- An item that is published goes to all parties but the n-th: the first k of them. -/
def pubN (n room : Nat) (x : It) (ps : List Pa) : Nat → List Pa × Nat
  | 0 => (ps, 0)
  | k + 1 => if k = n then pubN n room x ps k else match (pubN n room x ps k).1[k]? with
    | none => pubN n room x ps k
    | some p => ((pubN n room x ps k).1.set k (p.hand room x).1, (pubN n room x ps k).2 + if (p.hand room x).2 then 1 else 0)
section
variable {n room : Nat} {x : It} {ps : List Pa} {k : Nat}
theorem pubN_eq (h : k = n) : pubN n room x ps (k + 1) = pubN n room x ps k := by show (if k = n then _ else _) = _; rw [if_pos h]
theorem pubN_ne {p : Pa} (h : k ≠ n) (hp : (pubN n room x ps k).1[k]? = some p) : pubN n room x ps (k + 1) = ((pubN n room x ps k).1.set k (p.hand room x).1, (pubN n room x ps k).2 + if (p.hand room x).2 then 1 else 0) := by
  show (if k = n then _ else _) = _
  rw [if_neg h, hp]
theorem pubN_len : ∀ k, (pubN n room x ps k).1.length = ps.length
  | 0 => rfl
  | k + 1 => by
    show (if k = n then _ else _ : List Pa × Nat).1.length = _
    split
    · exact pubN_len k
    · split
      · exact pubN_len k
      · show (List.set _ _ _).length = _
        rw [List.length_set]; exact pubN_len k
theorem pubN_get : ∀ {k j : Nat}, k ≤ j → (pubN n room x ps k).1[j]? = ps[j]?
  | 0, j, _ => rfl
  | k + 1, j, h => by
    show (if k = n then _ else _ : List Pa × Nat).1[j]? = _
    split
    · exact pubN_get (by omega)
    · split
      · exact pubN_get (by omega)
      · show (List.set _ _ _)[j]? = _
        rw [List.getElem?_set_ne (by omega)]; exact pubN_get (by omega)
end
theorem erase_perm {α β : Type} (f : α → List β) : ∀ {l : List α} {k : Nat} {p : α}, l[k]? = some p → (l.flatMap f).Perm (f p ++ (l.eraseIdx k).flatMap f)
  | [], k, p, h => by simp at h
  | a :: l, 0, p, h => by
    simp only [List.getElem?_cons_zero, Option.some.injEq] at h
    subst h
    rw [List.flatMap_cons]; exact List.Perm.refl _
  | a :: l, k + 1, p, h => by
    have h1 := erase_perm f (l := l) (k := k) (p := p) (by simpa using h)
    rw [List.eraseIdx_cons_succ, List.flatMap_cons, List.flatMap_cons]
    refine (List.Perm.append_left _ h1).trans ?_
    rw [← List.append_assoc, ← List.append_assoc]
    exact List.Perm.append_right _ List.perm_append_comm
theorem erase_set {α : Type} : ∀ {l : List α} {k : Nat} {p : α}, (l.set k p).eraseIdx k = l.eraseIdx k
  | [], _, _ => rfl
  | a :: l, 0, p => rfl
  | a :: l, k + 1, p => by rw [List.set_cons_succ, List.eraseIdx_cons_succ, List.eraseIdx_cons_succ, erase_set]
theorem getElem_map_a {qs : List Pc} {aL : List Pa} {k : Nat} {p : Pc} (h : qs.map Pc.a = aL) (hp : qs[k]? = some p) : aL[k]? = some p.a := by rw [← h, List.getElem?_map, hp]; rfl
section
variable {H : AH} {Lb k : Nat} {ps : List Pc} {p q : Pc} {R : HL}
theorem Pc.row_len (p : Pc) : p.row.length = 4 := rfl
theorem rows_pc (ps : List Pc) : ∀ r ∈ ps.map Pc.row, r.length = 4 := fun r hr => by obtain ⟨p, _, rfl⟩ := List.mem_map.1 hr; exact p.row_len
theorem row_pc (h : ps[k]? = some p) : (ps.map Pc.row)[k]? = some p.row := by rw [List.getElem?_map, h]; rfl
theorem Pc.foc (h : ps[k]? = some p) : (ps.map Pc.row).set k p.row = ps.map Pc.row := (rows_foc (row_pc h)).symm
theorem Pc.out (h : ps[k]? = some p) (hH : Hs H ([(Lb, some (.cells (ps.map Pc.row).flatten true))] ++ (ps.flatMap Pc.seg ++ R))) : Hs H ([(Lb, some (.cells ((ps.map Pc.row).set k p.row).flatten true))] ++ (p.seg ++ ((ps.eraseIdx k).flatMap Pc.seg ++ R))) := by
  rw [Pc.foc h]
  refine Hs.perm hH (List.Perm.append_left _ ?_)
  refine (List.Perm.append_right R (erase_perm Pc.seg h)).trans ?_
  rw [List.append_assoc]
theorem Pc.back (h : ps[k]? = some p) (hH : Hs H ([(Lb, some (.cells ((ps.map Pc.row).set k q.row).flatten true))] ++ (q.seg ++ ((ps.eraseIdx k).flatMap Pc.seg ++ R)))) : Hs H ([(Lb, some (.cells ((ps.set k q).map Pc.row).flatten true))] ++ ((ps.set k q).flatMap Pc.seg ++ R)) := by
  have hk := (List.getElem?_eq_some_iff.1 h).1
  rw [← List.map_set] at hH
  refine Hs.perm hH (List.Perm.append_left _ ?_)
  have h2 : (ps.set k q)[k]? = some q := List.getElem?_set_self hk
  refine List.Perm.trans ?_ (List.Perm.append_right R (erase_perm Pc.seg h2)).symm
  rw [erase_set, List.append_assoc]
theorem Pc.rd (h : ps[k]? = some p) (hH : Hs H ([(Lb, some (.cells (ps.map Pc.row).flatten true))] ++ R)) : ∃ c mu, H.get Lb = some (.cells c mu) ∧ takeAt c (k * 4) 4 = some p.row := by
  have hlt := (List.getElem?_eq_some_iff.1 (row_pc h)).1
  refine ⟨_, _, hH.get, ?_⟩
  rw [rows_foc (row_pc h)]
  have := foc_take (sz := 4) (n := 4) (j := 0) (rows_pc ps) hlt p.row_len (by omega)
  rw [Nat.add_zero] at this
  rw [this]; rfl
theorem pc_set {P : Pc → Prop} (h : ∀ p ∈ ps, P p) (hq : P q) : ∀ p ∈ ps.set k q, P p := fun p hp => by
  rcases List.mem_or_eq_of_mem_set hp with h1 | rfl
  · exact h p h1
  · exact hq
end
set_option maxHeartbeats 1000000 in
theorem delf_no {H : AH} {R S D : HL} {v f : AV} {c : List AV} {rows : List (List AV)} {w : List It} {P : It → Bool} (hsq : Sq 5 v c rows.flatten) (hl5 : ∀ x ∈ rows, x.length = 5) (hir : ItsR D rows w) (hT : Tst f S P) (hwl : w.length ≤ 1000000) (hk : w.length ≤ w.findIdx P) (hH0 : Hs H (qseg v c ++ (S ++ R))) : Ev tabA spA (.fn (.func 33) [] []) [v, f] H (fun q H' => ∃ c' rows', Sq 5 q c' rows'.flatten ∧ ItsR D rows' (w.filter fun y => !P y) ∧ Hs H' (qseg q c' ++ (S ++ R))) := by
  refine Ev_C (F := x33) rfl ?_
  refine C_seq ?_
  refine C_region ?_
  refine O_p (.sl none 0 0 0) (r_mv rfl) ?_
  refine O_nil ?_
  refine C_seq ?_
  refine C_region ?_
  refine O_p v (r_mv rfl) ?_
  refine O_p f (r_mv rfl) ?_
  have hH1 := ((hH0.top1).top1)
  refine O_call (Ev.mono (idxg_ev hsq hl5 hir hT hwl hH1) fun v2 H3 hq4 => ?_)
  rw [fiI_none hk] at hq4
  obtain ⟨rfl, hH5⟩ := hq4
  refine O_p (.i .i64 (-1)) (r_mv rfl) ?_
  refine O_nil ?_
  refine C_seq ?_
  refine C_seq ?_
  refine C_region ?_
  refine O_p (.i .i64 (-1)) (r_mv rfl) ?_
  refine O_p (.b true) (by exact (by rw [r_eql rfl rfl, decide_eq_true rfl])) ?_
  refine O_nil ?_
  refine C_cond (x := true) rfl (fun _ => ?_) (fun h => by cases h)
  refine C_seq ?_
  refine C_region ?_
  refine O_p v (r_mv rfl) ?_
  refine O_p v (r_mv rfl) ?_
  refine O_nil ?_
  refine C_ret ?_
  refine nx_ret ?_
  have hH6 := ((hH5.top1).top1)
  exact ⟨.inr rfl, _, resL_one (r_tmp (v := v) rfl), c, rows, hsq, by rw [show w.filter (fun y => !P y) = w from by have h := df_first (i := w.length) hk; rwa [List.take_length] at h]; exact hir, hH6⟩
set_option maxHeartbeats 1000000 in
theorem delf_yes {H : AH} {R S D : HL} {v f : AV} {c : List AV} {rows : List (List AV)} {w : List It} {P : It → Bool} (hsq : Sq 5 v c rows.flatten) (hl5 : ∀ x ∈ rows, x.length = 5) (hir : ItsR D rows w) (hT : Tst f S P) (hwl : w.length ≤ 1000000) {k : Nat} (hfi : w.findIdx P = k) (hk : k < w.length) (hH0 : Hs H (qseg v c ++ (S ++ R))) : Ev tabA spA (.fn (.func 33) [] []) [v, f] H (fun q H' => ∃ c' rows', Sq 5 q c' rows'.flatten ∧ ItsR D rows' (w.filter fun y => !P y) ∧ Hs H' (qseg q c' ++ (S ++ R))) := by
  refine Ev_C (F := x33) rfl ?_
  refine C_seq ?_
  refine C_region ?_
  refine O_p (.sl none 0 0 0) (r_mv rfl) ?_
  refine O_nil ?_
  refine C_seq ?_
  refine C_region ?_
  refine O_p v (r_mv rfl) ?_
  refine O_p f (r_mv rfl) ?_
  have hH1 := ((hH0.top1).top1)
  refine O_call (Ev.mono (idxg_ev hsq hl5 hir hT hwl hH1) fun v2 H3 hq4 => ?_)
  rw [show fiI P w = ((k : Nat) : Int) from by unfold fiI; rw [hfi, if_pos hk]] at hq4
  obtain ⟨rfl, hH5⟩ := hq4
  refine O_p (.i .i64 (((k : Nat)) : Int)) (r_mv rfl) ?_
  refine O_nil ?_
  refine C_seq ?_
  refine C_seq ?_
  refine C_region ?_
  obtain ⟨x0, r0, hx0, _, _⟩ := hir.get hk
  have hP0 : P x0 = true := by have h := List.findIdx_getElem (xs := w) (p := P) (w := by rw [hfi]; exact hk); simp only [hfi] at h; rw [(List.getElem?_eq_some_iff.1 hx0).2] at h; exact h
  have hinit : ItsR D (rows.take k) ((w.take (k + 1)).filter fun y => !P y) := by rw [df_skip hx0 hP0, df_first (by omega)]; exact hir.take k
  refine O_p (.i .i64 (((k : Nat)) : Int)) (r_mv rfl) ?_
  refine O_p (.b false) (by exact (by rw [r_eql rfl rfl, decide_eq_false (by omega)])) ?_
  refine O_nil ?_
  refine C_cond (x := false) rfl (fun h => by cases h) (fun _ => ?_)
  refine C_skip ?_
  refine C_seq ?_
  refine C_seq ?_
  refine C_region ?_
  refine O_p (.i .i64 (((k : Nat)) : Int)) (r_mv rfl) ?_
  refine O_p (.i .i64 ((((k : Nat)) : Int) + 1)) (by exact (r_addi rfl rfl (wrap_i64 (by omega) (by omega)))) ?_
  refine O_p (.i .i64 ((((k : Nat)) : Int) + 1)) (r_mv rfl) ?_
  refine O_nil ?_
  refine C_block ?_
  have hH6 := ((hH5.top1).top1)
  refine C_while (fun m7 T8 H9 => ∃ rs : List (List AV), ∃ c2 : List AV, ∃ ii : Nat, ∃ j : Nat, m7 = w.length - j ∧ ii < j ∧ j ≤ w.length ∧ rs.length = w.length ∧ (∀ x ∈ rs, x.length = 5) ∧ Sq 5 v c2 rs.flatten ∧ ItsR D (rs.take ii) ((w.take j).filter fun y => !P y) ∧ (∀ m, j ≤ m → rs[m]? = rows[m]?) ∧ w.length ≤ 1000000 ∧ Hs H9 ((qseg v c2) ++ (S ++ (R))) ∧ T8.get 0 = v ∧ T8.get 1 = f ∧ T8.get 5 = (.i .i64 (((ii : Nat)) : Int)) ∧ T8.get 6 = (.i .i64 (((j : Nat)) : Int))) (fun m7 T8 H9 hI10 => ?_) (w.length - (k + 1)) _ _ ⟨rows, c, k, (k + 1), rfl, by omega, by omega, hir.1, hl5, hsq, hinit, fun _ _ => rfl, hwl, hH6, rfl, rfl, rfl, rfl⟩
  obtain ⟨rs, c2, ii, j, hm11, hp12, hp13, hp14, hp15, hp16, hp17, hp18, hp19, hH24, hT20, hT21, hT22, hT23⟩ := hI10
  refine C_seq ?_
  refine C_seq ?_
  refine C_region ?_
  refine O_p (.i .i64 (((j : Nat)) : Int)) (r_mv hT23) ?_
  refine O_p v (r_mv hT20) ?_
  refine O_p (.i .i64 (((w.length : Nat)) : Int)) (by exact (by exact r_lenOf rfl (hp16.lenOf ((flat_len hp15).trans (by rw [hp14])) (by decide)) hp16.isSl)) ?_
  refine O_p (.b (decide ((((j : Nat)) : Int) < (((w.length : Nat)) : Int)))) (r_lss rfl rfl) ?_
  refine O_nil ?_
  refine C_cond (x := (decide ((((j : Nat)) : Int) < (((w.length : Nat)) : Int)))) rfl (fun hc25 => ?_) (fun hc25 => ?_)
  ·
    try simp only [decide_eq_true_eq, decide_eq_false_iff_not, Bool.not_eq_true', Bool.not_eq_false', Bool.and_eq_true, Bool.or_eq_true, Bool.or_eq_false_iff, Bool.not_not, Bool.and_eq_false_iff] at hc25
    refine C_skip ?_
    refine C_seq ?_
    refine C_block ?_
    refine C_seq ?_
    refine C_region ?_
    refine O_p v (r_mv hT20) ?_
    refine O_p (.i .i64 (((j : Nat)) : Int)) (r_mv hT23) ?_
    have hjw : j < w.length := by omega
    obtain ⟨x, ri, hxi, hri0, hit⟩ := hir.get hjw
    have hri := (hp18 j (Nat.le_refl _)).trans hri0
    have hit2 := hit
    obtain ⟨ka, kc, kg, rfl, _⟩ := hit2
    obtain ⟨y0, y1, y2, y3, y4, hy⟩ := five (hp15 _ (List.getElem_mem (l := rs) (n := ii) (by omega)))
    have hyr : rs[ii]? = some [y0, y1, y2, y3, y4] := by rw [List.getElem?_eq_getElem (by omega), hy]
    refine O_q (by exact Sq.cell hp16 hp15 hH24.top0 rfl (i := j) rfl (r := [(.s (txt x.tp)), (.i .i64 x.frm), (.i .i64 x.num), (.b x.tx), (.sl ka x.d.length kc kg)]) hri (by decide)) fun v27 hv26 => ?_
    obtain ⟨rb28, ro29, rfl, hrg30, hrt31, hrb32, hput33, hqs34⟩ := hv26
    refine O_p (.agg [(.s (txt x.tp)), (.i .i64 x.frm), (.i .i64 x.num), (.b x.tx), (.sl ka x.d.length kc kg)]) (r_ldRA (q := 0) rfl ⟨_, _, hrg30, hrt31⟩ rfl) ?_
    refine O_alloc fun n35 H36 hN37 => ?_
    have hH38 := hH24.new hN37
    refine O_store (vs := [(.s (txt x.tp)), (.i .i64 x.frm), (.i .i64 x.num), (.b x.tx), (.sl ka x.d.length kc kg)]) (c' := [(.s (txt x.tp)), (.i .i64 x.frm), (.i .i64 x.num), (.b x.tx), (.sl ka x.d.length kc kg)]) rfl (by rfl) hH38.get0 rfl (List.cons_ne_nil _ _) (Nat.le_of_ble_eq_true rfl) rfl fun H39 hW40 => ?_
    have hH41 := hH38.wr0 hW40
    refine O_nil ?_
    refine C_seq ?_
    refine C_region ?_
    refine O_p f (r_mv hT21) ?_
    refine O_p (.agg [(.s (txt x.tp)), (.i .i64 x.frm), (.i .i64 x.num), (.b x.tx), (.sl ka x.d.length kc kg)]) (r_ldA rfl hH41.get0 rfl) ?_
    have hH42 := (hH41.top2)
    refine O_call (Ev.mono (hT _ _ _ _ x hit hH42) fun v43 H44 hq45 => ?_)
    obtain ⟨rfl, hH46⟩ := hq45
    refine O_p (.b (!(P x))) (r_not rfl) ?_
    refine O_nil ?_
    refine C_cond (x := (!(P x))) rfl (fun hc47 => ?_) (fun hc47 => ?_)
    ·
      try simp only [decide_eq_true_eq, decide_eq_false_iff_not, Bool.not_eq_true', Bool.not_eq_false', Bool.and_eq_true, Bool.or_eq_true, Bool.or_eq_false_iff, Bool.not_not, Bool.and_eq_false_iff] at hc47
      have hP : P x = false := by simpa using hc47
      refine C_seq ?_
      refine C_region ?_
      refine O_p v (r_mv hT20) ?_
      refine O_p (.i .i64 (((ii : Nat)) : Int)) (r_mv hT22) ?_
      refine O_p (.agg [(.s (txt x.tp)), (.i .i64 x.frm), (.i .i64 x.num), (.b x.tx), (.sl ka x.d.length kc kg)]) (r_ldA rfl hH46.get1 rfl) ?_
      refine O_q (by exact Sq.cell hp16 hp15 hH46.top2 rfl (i := ii) rfl (r := [y0, y1, y2, y3, y4]) hyr (by decide)) fun v49 hv48 => ?_
      obtain ⟨rb50, ro51, rfl, hrg52, hrt53, hrb54, hput55, hqs56⟩ := hv48
      refine O_store (vs := [(.s (txt x.tp)), (.i .i64 x.frm), (.i .i64 x.num), (.b x.tx), (.sl ka x.d.length kc kg)]) (c' := (putAt c2 (ro51 + 0) [(.s (txt x.tp)), (.i .i64 x.frm), (.i .i64 x.num), (.b x.tx), (.sl ka x.d.length kc kg)])) rfl (by rfl) hrg52 rfl (List.cons_ne_nil _ _) (by have := hrb54; show _ + 5 ≤ _; omega) rfl fun H57 hW58 => ?_
      have hH60 := Hs.cong2 (Hs.wr2 (Hs.cong2 hH46 (hqs56 _)) hW58) (hqs56 _).symm
      have hSq59 := hput55 0 [(.s (txt x.tp)), (.i .i64 x.frm), (.i .i64 x.num), (.b x.tx), (.sl ka x.d.length kc kg)] [(.s (txt x.tp)), (.i .i64 x.frm), (.i .i64 x.num), (.b x.tx), (.sl ka x.d.length kc kg)] (Nat.le_of_ble_eq_true rfl) rfl
      refine O_nil ?_
      refine C_region ?_
      refine O_p (.i .i64 (((ii : Nat)) : Int)) (r_mv hT22) ?_
      refine O_p (.i .i64 ((((ii : Nat)) : Int) + 1)) (by exact (r_addi rfl rfl (wrap_i64 (by omega) (by omega)))) ?_
      refine O_p (.i .i64 ((((ii : Nat)) : Int) + 1)) (r_mv rfl) ?_
      refine O_nil ?_
      refine C_region ?_
      refine O_p (.i .i64 (((j : Nat)) : Int)) (r_mv hT23) ?_
      refine O_p (.i .i64 ((((j : Nat)) : Int) + 1)) (by exact (r_addi rfl rfl (wrap_i64 (by omega) (by omega)))) ?_
      refine O_p (.i .i64 ((((j : Nat)) : Int) + 1)) (r_mv rfl) ?_
      refine O_nil ?_
      have hH61 := (hH60.sub1)
      have hH62 := (hH61.top1)
      exact ⟨w.length - (j + 1), by omega, (rs.set ii [(.s (txt x.tp)), (.i .i64 x.frm), (.i .i64 x.num), (.b x.tx), (.sl ka x.d.length kc kg)]), (putAt c2 (ro51 + 0) [(.s (txt x.tp)), (.i .i64 x.frm), (.i .i64 x.num), (.b x.tx), (.sl ka x.d.length kc kg)]), (ii + 1), (j + 1), rfl, by omega, by omega, by rw [List.length_set]; exact hp14, rows_all hp15 rfl, hSq59, by rw [df_keep hxi hP, take_set_snoc (by omega)]; exact ItsR.snoc hp17 hit, fun m hm => by rw [List.getElem?_set_ne (by omega)]; exact hp18 m (by omega), hp19, hH62, hT20, hT21, rfl, rfl⟩
    ·
      try simp only [decide_eq_true_eq, decide_eq_false_iff_not, Bool.not_eq_true', Bool.not_eq_false', Bool.and_eq_true, Bool.or_eq_true, Bool.or_eq_false_iff, Bool.not_not, Bool.and_eq_false_iff] at hc47
      have hP : P x = true := by simpa using hc47
      refine C_skip ?_
      refine C_region ?_
      refine O_p (.i .i64 (((j : Nat)) : Int)) (r_mv hT23) ?_
      refine O_p (.i .i64 ((((j : Nat)) : Int) + 1)) (by exact (r_addi rfl rfl (wrap_i64 (by omega) (by omega)))) ?_
      refine O_p (.i .i64 ((((j : Nat)) : Int) + 1)) (r_mv rfl) ?_
      refine O_nil ?_
      have hH63 := (hH46.sub1)
      have hH64 := (hH63.top1)
      exact ⟨w.length - (j + 1), by omega, rs, c2, ii, (j + 1), rfl, by omega, by omega, hp14, hp15, hp16, by rw [df_skip hxi hP]; exact hp17, fun m hm => hp18 m (by omega), hp19, hH64, hT20, hT21, hT22, rfl⟩
  ·
    try simp only [decide_eq_true_eq, decide_eq_false_iff_not, Bool.not_eq_true', Bool.not_eq_false', Bool.and_eq_true, Bool.or_eq_true, Bool.or_eq_false_iff, Bool.not_not, Bool.and_eq_false_iff] at hc25
    refine C_exit ?_
    refine nx_exit ?_
    refine nx_exit ?_
    refine bk_hit ?_
    refine C_seq ?_
    refine C_region ?_
    have hjn : j = w.length := by omega
    have hH65 := ((hH24.top1).top1)
    obtain ⟨b, o, cap, g, rfl, hg, hl, hnc, hc⟩ := hp16.open (n := w.length) ((flat_len hp15).trans (by rw [hp14])) (by decide) (by omega)
    have hH66 : Hs H9 ([(b, some (.cells c2 true))] ++ (S ++ (R))) := hH65
    refine O_p (.sl (some (b, o)) w.length cap g) (r_mv hT20) ?_
    refine O_p (.i .i64 (((ii : Nat)) : Int)) (r_mv hT22) ?_
    refine O_p (.sl (if cap = ii ∧ g = 0 then some (b, o) else some (b, o + ii * 5)) (w.length - ii) (cap - ii) g) (by exact (sl_suf (i := ii) rfl rfl hg (by omega))) ?_
    have hle : w.length * 5 ≤ cap * 5 := Nat.mul_le_mul_right 5 hnc
    refine O_nh (by exact del_clrs (zs := [(.s ⟨#[]⟩), (.i .i64 0), (.i .i64 0), (.b false), (.sl none 0 0 0)]) (b := b) (q := o + ii * 5) hH66 rfl (by by_cases h : w.length - ii = 0; exact .inl h; exact .inr (if_neg (by omega))) (fun _ => by show o + ii * 5 + (w.length - ii) * 5 ≤ _; omega)) fun H67 hH68 => ?_
    obtain ⟨c3, hH68, hcl, hkp⟩ := hH68
    refine O_nil ?_
    refine C_seq ?_
    refine C_region ?_
    refine O_p (.sl (some (b, o)) w.length cap g) (r_mv hT20) ?_
    refine O_p (.i .i64 (((ii : Nat)) : Int)) (r_mv hT22) ?_
    refine O_p (.sl (some (b, o)) ii cap g) (by exact (sl_pre (i := ii) rfl rfl hg (by omega))) ?_
    refine O_p (.sl (some (b, o)) ii cap g) (r_mv rfl) ?_
    refine O_nil ?_
    refine C_ret ?_
    have hH69 := ((hH68.top1).top1)
    have hpre := rows_pre (i := ii) hp15 (by rw [hp14]; omega) (by rw [hp14]; exact hl)
    exact ⟨.inr rfl, _, resL_one (r_tmp (v := (.sl (some (b, o)) ii cap g)) rfl), c3, rs.take ii, .mk hg (hkp _ _ _ (fun _ => Nat.le_refl _) hpre) (by omega) (by rw [hcl]; exact hc), by have h := hp17; rw [hjn, List.take_length] at h; exact h, hH69⟩
theorem delf_ev {H : AH} {R S D : HL} {v f : AV} {c : List AV} {rows : List (List AV)} {w : List It} {P : It → Bool} (hsq : Sq 5 v c rows.flatten) (hl5 : ∀ x ∈ rows, x.length = 5) (hir : ItsR D rows w) (hT : Tst f S P) (hwl : w.length ≤ 1000000) (hH0 : Hs H (qseg v c ++ (S ++ R))) : Ev tabA spA (.fn (.func 33) [] []) [v, f] H (fun q H' => ∃ c' rows', Sq 5 q c' rows'.flatten ∧ ItsR D rows' (w.filter fun y => !P y) ∧ Hs H' (qseg q c' ++ (S ++ R))) := by
  by_cases h : w.length ≤ w.findIdx P
  · exact delf_no hsq hl5 hir hT hwl h hH0
  · exact delf_yes hsq hl5 hir hT hwl rfl (by omega) hH0



set_option linter.unusedVariables false
set_option linter.unusedSimpArgs false
theorem at_nil {H : AH} {R : HL} {F Lb cm np room : Nat} {n : Int} (hk : ¬ (0 ≤ n ∧ n < ((np : Nat) : Int))) (hH0 : Hs H ([(F, some (.cells [.sl (some (Lb, 0)) np np 0, .i .i64 ((room : Nat) : Int), .m (some cm)] true))] ++ R)) : Ev tabA spA (.fn (.func 29) [] []) [.p (some (F, 0)), .i .i64 n] H (fun r H' => r = .p none ∧ Hs H' ([(F, some (.cells [.sl (some (Lb, 0)) np np 0, .i .i64 ((room : Nat) : Int), .m (some cm)] true))] ++ R)) := by
  refine Ev_C (F := x29) rfl ?_
  refine C_seq ?_
  refine C_region ?_
  refine O_p (.p none) (r_mv rfl) ?_
  refine O_nil ?_
  refine C_seq ?_
  refine C_seq ?_
  refine C_region ?_
  refine O_p (.p (some (F, 0))) (r_mv rfl) ?_
  refine O_p (.b false) (r_nilq_s rfl) ?_
  refine O_p (.b false) (r_mv rfl) ?_
  refine O_gk rfl ?_
  refine O_p (.i .i64 n) (r_mv rfl) ?_
  refine O_gk rfl ?_
  refine O_p (.b (decide (n < 0))) (r_lss rfl rfl) ?_
  refine O_p (.b (decide (n < 0))) (r_pick_f rfl rfl) ?_
  refine O_p (.b (decide (n < 0))) (r_mv rfl) ?_
  refine O_gx (e := (!(decide (n < 0)))) (v := (.i .i64 n)) (wf rfl) (fun he => (r_mv rfl)) ?_
  refine O_gx (e := (!(decide (n < 0)))) (v := (.p (some (F, 0)))) (wf rfl) (fun he => (r_mv rfl)) ?_
  refine O_gx (e := (!(decide (n < 0)))) (v := (.p (some (F, 0)))) (wf rfl) (fun he => (r_nilc (cond_pos he))) ?_
  refine O_gx (e := (!(decide (n < 0)))) (v := (.p (some (F, 0)))) (wf rfl) (fun he => (r_fadd' (cond_pos he) rfl)) ?_
  refine O_gx (e := (!(decide (n < 0)))) (v := (.sl (some (Lb, 0)) np np 0)) (wf rfl) (fun he => (r_ld (cond_pos he) hH0.get0 rfl)) ?_
  refine O_gx (e := (!(decide (n < 0)))) (v := (.i .i64 (((np : Nat)) : Int))) (wf rfl) (fun he => (r_len (cond_pos he))) ?_
  refine O_gx (e := (!(decide (n < 0)))) (v := (.b (decide ((((np : Nat)) : Int) ≤ n)))) (wf rfl) (fun he => (r_geq (cond_pos he) (cond_pos he))) ?_
  refine O_p (.b ((decide (n < 0)) || (decide ((((np : Nat)) : Int) ≤ n)))) (r_pick_or rfl rfl rfl rfl) ?_
  refine O_nil ?_
  refine C_cond (x := ((decide (n < 0)) || (decide ((((np : Nat)) : Int) ≤ n)))) rfl (fun hc1 => ?_) (fun hc1 => ?_)
  ·
    try simp only [decide_eq_true_eq, decide_eq_false_iff_not, Bool.not_eq_true', Bool.not_eq_false', Bool.and_eq_true, Bool.or_eq_true, Bool.or_eq_false_iff, Bool.not_not, Bool.and_eq_false_iff] at hc1
    refine C_seq ?_
    refine C_region ?_
    refine O_p (.p none) (r_mv rfl) ?_
    refine O_nil ?_
    refine C_ret ?_
    refine nx_ret ?_
    exact ⟨.inr rfl, _, resL_one (r_tmp (v := (.p none)) rfl), rfl, hH0⟩
  ·
    try simp only [decide_eq_true_eq, decide_eq_false_iff_not, Bool.not_eq_true', Bool.not_eq_false', Bool.and_eq_true, Bool.or_eq_true, Bool.or_eq_false_iff, Bool.not_not, Bool.and_eq_false_iff] at hc1
    exfalso; omega
theorem join_nil {H : AH} {R : HL} {F Lb cm np room : Nat} {n : Int} (hk : ¬ (0 ≤ n ∧ n < ((np : Nat) : Int)))  (hH0 : Hs H ([(F, some (.cells [.sl (some (Lb, 0)) np np 0, .i .i64 ((room : Nat) : Int), .m (some cm)] true))] ++ R)) : Ev tabA spA (.fn (.func 12) [] []) [.p (some (F, 0)), .i .i64 n] H (fun r H' => r = .i .i64 1 ∧ Hs H' ([(F, some (.cells [.sl (some (Lb, 0)) np np 0, .i .i64 ((room : Nat) : Int), .m (some cm)] true))] ++ R)) := by
  refine Ev_C (F := x12) rfl ?_
  refine C_seq ?_
  refine C_region ?_
  refine O_p (.i .i64 0) (r_mv rfl) ?_
  refine O_nil ?_
  refine C_seq ?_
  refine C_region ?_
  refine O_p (.p (some (F, 0))) (r_mv rfl) ?_
  refine O_p (.i .i64 n) (r_mv rfl) ?_
  refine O_call (Ev.mono (at_nil hk hH0) fun v1 H2 hq3 => ?_)
  obtain ⟨rfl, hH4⟩ := hq3
  refine O_p (.p none) (r_mv rfl) ?_
  refine O_nil ?_
  refine C_seq ?_
  refine C_block ?_
  refine C_seq ?_
  refine C_region ?_
  refine O_p (.p none) (r_mv rfl) ?_
  refine O_p (.b true) (r_nilq_n rfl) ?_
  refine O_p (.b true) (r_mv rfl) ?_
  refine O_nil ?_
  refine C_cond (x := true) rfl (fun _ => ?_) (fun h => by cases h)
  refine C_seq ?_
  refine C_region ?_
  refine O_p (.i .i64 1) (r_mv rfl) ?_
  refine O_nil ?_
  refine C_ret ?_
  refine bk_ret ?_
  refine nx_ret ?_
  exact ⟨.inr rfl, _, resL_one (r_tmp (v := (.i .i64 1)) rfl), rfl, hH4⟩
theorem leave_nil {H : AH} {R : HL} {F Lb cm np room : Nat} {n : Int} (hk : ¬ (0 ≤ n ∧ n < ((np : Nat) : Int)))  (hH0 : Hs H ([(F, some (.cells [.sl (some (Lb, 0)) np np 0, .i .i64 ((room : Nat) : Int), .m (some cm)] true))] ++ R)) : Ev tabA spA (.fn (.func 21) [] []) [.p (some (F, 0)), .i .i64 n] H (fun r H' => r = .i .i64 1 ∧ Hs H' ([(F, some (.cells [.sl (some (Lb, 0)) np np 0, .i .i64 ((room : Nat) : Int), .m (some cm)] true))] ++ R)) := by
  refine Ev_C (F := x21) rfl ?_
  refine C_seq ?_
  refine C_region ?_
  refine O_p (.i .i64 0) (r_mv rfl) ?_
  refine O_nil ?_
  refine C_seq ?_
  refine C_region ?_
  refine O_p (.p (some (F, 0))) (r_mv rfl) ?_
  refine O_p (.i .i64 n) (r_mv rfl) ?_
  refine O_call (Ev.mono (at_nil hk hH0) fun v1 H2 hq3 => ?_)
  obtain ⟨rfl, hH4⟩ := hq3
  refine O_p (.p none) (r_mv rfl) ?_
  refine O_nil ?_
  refine C_seq ?_
  refine C_block ?_
  refine C_seq ?_
  refine C_region ?_
  refine O_p (.p none) (r_mv rfl) ?_
  refine O_p (.b true) (r_nilq_n rfl) ?_
  refine O_p (.b true) (r_mv rfl) ?_
  refine O_nil ?_
  refine C_cond (x := true) rfl (fun _ => ?_) (fun h => by cases h)
  refine C_seq ?_
  refine C_region ?_
  refine O_p (.i .i64 1) (r_mv rfl) ?_
  refine O_nil ?_
  refine C_ret ?_
  refine bk_ret ?_
  refine nx_ret ?_
  exact ⟨.inr rfl, _, resL_one (r_tmp (v := (.i .i64 1)) rfl), rfl, hH4⟩
theorem drop_nil {H : AH} {R : HL} {F Lb cm np room : Nat} {n : Int} {tp : List UInt8} (hk : ¬ (0 ≤ n ∧ n < ((np : Nat) : Int)))  (hH0 : Hs H ([(F, some (.cells [.sl (some (Lb, 0)) np np 0, .i .i64 ((room : Nat) : Int), .m (some cm)] true))] ++ R)) : Ev tabA spA (.fn (.func 20) [] []) [.p (some (F, 0)), .i .i64 n, .s (txt tp)] H (fun r H' => r = .i .i64 1 ∧ Hs H' ([(F, some (.cells [.sl (some (Lb, 0)) np np 0, .i .i64 ((room : Nat) : Int), .m (some cm)] true))] ++ R)) := by
  refine Ev_C (F := x20) rfl ?_
  refine C_seq ?_
  refine C_region ?_
  refine O_box (z := [(.s (txt tp))]) rfl fun n1 H2 hN3 => ?_
  have hH4 := hH0.new hN3
  refine O_p (.i .i64 0) (r_mv rfl) ?_
  refine O_nil ?_
  refine C_seq ?_
  refine C_region ?_
  refine O_p (.p (some (F, 0))) (r_mv rfl) ?_
  refine O_p (.i .i64 n) (r_mv rfl) ?_
  have hH5 := (hH4.top1)
  refine O_call (Ev.mono (at_nil hk hH5) fun v6 H7 hq8 => ?_)
  obtain ⟨rfl, hH9⟩ := hq8
  refine O_p (.p none) (r_mv rfl) ?_
  refine O_nil ?_
  refine C_seq ?_
  refine C_block ?_
  refine C_seq ?_
  refine C_region ?_
  refine O_p (.p none) (r_mv rfl) ?_
  refine O_p (.b true) (r_nilq_n rfl) ?_
  refine O_p (.b true) (r_mv rfl) ?_
  refine O_nil ?_
  refine C_cond (x := true) rfl (fun _ => ?_) (fun h => by cases h)
  refine C_seq ?_
  refine C_region ?_
  refine O_p (.i .i64 1) (r_mv rfl) ?_
  refine O_nil ?_
  refine C_ret ?_
  refine bk_ret ?_
  refine nx_ret ?_
  have hH10 := (hH9.sub1)
  exact ⟨.inr rfl, _, resL_one (r_tmp (v := (.i .i64 1)) rfl), rfl, hH10⟩
theorem sub_nil {H : AH} {R : HL} {F Lb cm np room : Nat} {n : Int} {tp : List UInt8} {mode : Int} (hk : ¬ (0 ≤ n ∧ n < ((np : Nat) : Int)))  (hH0 : Hs H ([(F, some (.cells [.sl (some (Lb, 0)) np np 0, .i .i64 ((room : Nat) : Int), .m (some cm)] true))] ++ R)) : Ev tabA spA (.fn (.func 14) [] []) [.p (some (F, 0)), .i .i64 n, .s (txt tp), .i .i64 mode] H (fun r H' => r = .i .i64 1 ∧ Hs H' ([(F, some (.cells [.sl (some (Lb, 0)) np np 0, .i .i64 ((room : Nat) : Int), .m (some cm)] true))] ++ R)) := by
  refine Ev_C (F := x14) rfl ?_
  refine C_seq ?_
  refine C_region ?_
  refine O_p (.i .i64 0) (r_mv rfl) ?_
  refine O_nil ?_
  refine C_seq ?_
  refine C_region ?_
  refine O_p (.p (some (F, 0))) (r_mv rfl) ?_
  refine O_p (.i .i64 n) (r_mv rfl) ?_
  refine O_call (Ev.mono (at_nil hk hH0) fun v1 H2 hq3 => ?_)
  obtain ⟨rfl, hH4⟩ := hq3
  refine O_p (.p none) (r_mv rfl) ?_
  refine O_nil ?_
  refine C_seq ?_
  refine C_block ?_
  refine C_seq ?_
  refine C_region ?_
  refine O_p (.p none) (r_mv rfl) ?_
  refine O_p (.b true) (r_nilq_n rfl) ?_
  refine O_p (.b true) (r_mv rfl) ?_
  refine O_gf rfl ?_
  refine O_gf rfl ?_
  refine O_p (.b true) (r_pick_t rfl rfl) ?_
  refine O_p (.b true) (r_mv rfl) ?_
  refine O_gf rfl ?_
  refine O_gf rfl ?_
  refine O_p (.b true) (r_pick_t rfl rfl) ?_
  refine O_p (.b true) (r_mv rfl) ?_
  refine O_gf rfl ?_
  refine O_gf rfl ?_
  refine O_p (.b true) (r_pick_t rfl rfl) ?_
  refine O_p (.b true) (r_mv rfl) ?_
  refine O_nil ?_
  refine C_cond (x := true) rfl (fun _ => ?_) (fun h => by cases h)
  refine C_seq ?_
  refine C_region ?_
  refine O_p (.i .i64 1) (r_mv rfl) ?_
  refine O_nil ?_
  refine C_ret ?_
  refine bk_ret ?_
  refine nx_ret ?_
  exact ⟨.inr rfl, _, resL_one (r_tmp (v := (.i .i64 1)) rfl), rfl, hH4⟩
theorem waiting_nil {H : AH} {R : HL} {F Lb cm np room : Nat} {n : Int} (hk : ¬ (0 ≤ n ∧ n < ((np : Nat) : Int)))  (hH0 : Hs H ([(F, some (.cells [.sl (some (Lb, 0)) np np 0, .i .i64 ((room : Nat) : Int), .m (some cm)] true))] ++ R)) : Ev tabA spA (.fn (.func 18) [] []) [.p (some (F, 0)), .i .i64 n] H (fun r H' => r = .i .i64 0 ∧ Hs H' ([(F, some (.cells [.sl (some (Lb, 0)) np np 0, .i .i64 ((room : Nat) : Int), .m (some cm)] true))] ++ R)) := by
  refine Ev_C (F := x18) rfl ?_
  refine C_seq ?_
  refine C_region ?_
  refine O_p (.i .i64 0) (r_mv rfl) ?_
  refine O_nil ?_
  refine C_seq ?_
  refine C_seq ?_
  refine C_region ?_
  refine O_p (.p (some (F, 0))) (r_mv rfl) ?_
  refine O_p (.i .i64 n) (r_mv rfl) ?_
  refine O_call (Ev.mono (at_nil hk hH0) fun v1 H2 hq3 => ?_)
  obtain ⟨rfl, hH4⟩ := hq3
  refine O_p (.p none) (r_mv rfl) ?_
  refine O_nil ?_
  refine C_seq ?_
  refine C_region ?_
  refine O_p (.p none) (r_mv rfl) ?_
  refine O_p (.b false) (r_nilq_n rfl) ?_
  refine O_nil ?_
  refine C_cond (x := false) rfl (fun h => by cases h) (fun _ => ?_)
  refine C_skip ?_
  refine C_seq ?_
  refine C_region ?_
  refine O_p (.i .i64 0) (r_mv rfl) ?_
  refine O_nil ?_
  refine C_ret ?_
  exact ⟨.inr rfl, _, resL_one (r_tmp (v := (.i .i64 0)) rfl), rfl, hH4⟩
theorem lost_nil {H : AH} {R : HL} {F Lb cm np room : Nat} {n : Int} (hk : ¬ (0 ≤ n ∧ n < ((np : Nat) : Int)))  (hH0 : Hs H ([(F, some (.cells [.sl (some (Lb, 0)) np np 0, .i .i64 ((room : Nat) : Int), .m (some cm)] true))] ++ R)) : Ev tabA spA (.fn (.func 19) [] []) [.p (some (F, 0)), .i .i64 n] H (fun r H' => r = .i .i64 0 ∧ Hs H' ([(F, some (.cells [.sl (some (Lb, 0)) np np 0, .i .i64 ((room : Nat) : Int), .m (some cm)] true))] ++ R)) := by
  refine Ev_C (F := x19) rfl ?_
  refine C_seq ?_
  refine C_region ?_
  refine O_p (.i .i64 0) (r_mv rfl) ?_
  refine O_nil ?_
  refine C_seq ?_
  refine C_seq ?_
  refine C_region ?_
  refine O_p (.p (some (F, 0))) (r_mv rfl) ?_
  refine O_p (.i .i64 n) (r_mv rfl) ?_
  refine O_call (Ev.mono (at_nil hk hH0) fun v1 H2 hq3 => ?_)
  obtain ⟨rfl, hH4⟩ := hq3
  refine O_p (.p none) (r_mv rfl) ?_
  refine O_nil ?_
  refine C_seq ?_
  refine C_region ?_
  refine O_p (.p none) (r_mv rfl) ?_
  refine O_p (.b false) (r_nilq_n rfl) ?_
  refine O_nil ?_
  refine C_cond (x := false) rfl (fun h => by cases h) (fun _ => ?_)
  refine C_skip ?_
  refine C_seq ?_
  refine C_region ?_
  refine O_p (.i .i64 0) (r_mv rfl) ?_
  refine O_nil ?_
  refine C_ret ?_
  exact ⟨.inr rfl, _, resL_one (r_tmp (v := (.i .i64 0)) rfl), rfl, hH4⟩
theorem failed_nil {H : AH} {R : HL} {F Lb cm np room : Nat} {n : Int} {tp : List UInt8} (hk : ¬ (0 ≤ n ∧ n < ((np : Nat) : Int)))  (hH0 : Hs H ([(F, some (.cells [.sl (some (Lb, 0)) np np 0, .i .i64 ((room : Nat) : Int), .m (some cm)] true))] ++ R)) : Ev tabA spA (.fn (.func 15) [] []) [.p (some (F, 0)), .i .i64 n, .s (txt tp)] H (fun r H' => r = .b false ∧ Hs H' ([(F, some (.cells [.sl (some (Lb, 0)) np np 0, .i .i64 ((room : Nat) : Int), .m (some cm)] true))] ++ R)) := by
  refine Ev_C (F := x15) rfl ?_
  refine C_seq ?_
  refine C_region ?_
  refine O_p (.b false) (r_mv rfl) ?_
  refine O_nil ?_
  refine C_seq ?_
  refine C_region ?_
  refine O_p (.p (some (F, 0))) (r_mv rfl) ?_
  refine O_p (.i .i64 n) (r_mv rfl) ?_
  refine O_call (Ev.mono (at_nil hk hH0) fun v1 H2 hq3 => ?_)
  obtain ⟨rfl, hH4⟩ := hq3
  refine O_p (.p none) (r_mv rfl) ?_
  refine O_nil ?_
  refine C_seq ?_
  refine C_region ?_
  refine O_p (.p none) (r_mv rfl) ?_
  refine O_p (.b false) (r_nilq_n rfl) ?_
  refine O_p (.b false) (r_mv rfl) ?_
  refine O_gf rfl ?_
  refine O_gf rfl ?_
  refine O_gf rfl ?_
  refine O_gf rfl ?_
  refine O_gf rfl ?_
  refine O_gf rfl ?_
  refine O_gf rfl ?_
  refine O_p (.b false) (r_pick_f rfl rfl) ?_
  refine O_p (.b false) (r_mv rfl) ?_
  refine O_nil ?_
  refine C_ret ?_
  exact ⟨.inr rfl, _, resL_one (r_tmp (v := (.b false)) rfl), rfl, hH4⟩
theorem pull_nil {H : AH} {R : HL} {F Lb cm np room : Nat} {n : Int} (hk : ¬ (0 ≤ n ∧ n < ((np : Nat) : Int))) (hH0 : Hs H ([(F, some (.cells [.sl (some (Lb, 0)) np np 0, .i .i64 ((room : Nat) : Int), .m (some cm)] true))] ++ R)) : Ev tabA spA (.fn (.func 16) [] []) [.p (some (F, 0)), .i .i64 n] H (fun r H' => r = .tup [.agg [.s (txt []), .i .i64 0, .i .i64 0, .b false, .sl none 0 0 0], .b false] ∧ Hs H' ([(F, some (.cells [.sl (some (Lb, 0)) np np 0, .i .i64 ((room : Nat) : Int), .m (some cm)] true))] ++ R)) := by
  refine Ev_C (F := x16) rfl ?_
  refine C_seq ?_
  refine C_region ?_
  refine O_alloc fun n1 H2 hN3 => ?_
  have hH4 := hH0.new hN3
  refine O_p (.b false) (r_mv rfl) ?_
  refine O_nil ?_
  refine C_seq ?_
  refine C_region ?_
  refine O_p (.p (some (F, 0))) (r_mv rfl) ?_
  refine O_p (.i .i64 n) (r_mv rfl) ?_
  have hH5 := (hH4.top1)
  refine O_call (Ev.mono (at_nil hk hH5) fun v6 H7 hq8 => ?_)
  obtain ⟨rfl, hH9⟩ := hq8
  refine O_p (.p none) (r_mv rfl) ?_
  refine O_nil ?_
  refine C_seq ?_
  refine C_seq ?_
  refine C_region ?_
  refine O_p (.p none) (r_mv rfl) ?_
  refine O_p (.b true) (r_nilq_n rfl) ?_
  refine O_p (.b true) (r_mv rfl) ?_
  refine O_gf rfl ?_
  refine O_gf rfl ?_
  refine O_gf rfl ?_
  refine O_gf rfl ?_
  refine O_gf rfl ?_
  refine O_gf rfl ?_
  refine O_p (.b true) (r_pick_t rfl rfl) ?_
  refine O_nil ?_
  refine C_cond (x := true) rfl (fun _ => ?_) (fun h => by cases h)
  refine C_seq ?_
  refine C_region ?_
  refine O_p (.agg [(.s ⟨#[]⟩), (.i .i64 0), (.i .i64 0), (.b false), (.sl none 0 0 0)]) (r_build rfl) ?_
  refine O_store (vs := [(.s ⟨#[]⟩), (.i .i64 0), (.i .i64 0), (.b false), (.sl none 0 0 0)]) (c' := [(.s ⟨#[]⟩), (.i .i64 0), (.i .i64 0), (.b false), (.sl none 0 0 0)]) rfl (by rfl) hH9.get1 rfl (List.cons_ne_nil _ _) (Nat.le_of_ble_eq_true rfl) rfl fun H10 hW11 => ?_
  have hH12 := hH9.wr1 hW11
  refine O_p (.b false) (r_mv rfl) ?_
  refine O_nil ?_
  refine C_ret ?_
  refine nx_ret ?_
  have hcell := hH12.get1
  have hH13 := (hH12.sub1)
  exact ⟨.inr rfl, _, resL_cons (r_cellA (l := [(.s ⟨#[]⟩), (.i .i64 0), (.i .i64 0), (.b false), (.sl none 0 0 0)]) rfl hcell rfl) (resL_one (r_tmp (v := .b false) rfl)), rfl, hH13⟩
theorem pub_nil {H : AH} {R : HL} {F Lb cm np room : Nat} {n : Int} {tp dd : List UInt8} {tx : Bool} {da : Option (Nat × Nat)} {dc dg : Nat} (hk : ¬ (0 ≤ n ∧ n < ((np : Nat) : Int)))  (hH0 : Hs H ([(F, some (.cells [.sl (some (Lb, 0)) np np 0, .i .i64 ((room : Nat) : Int), .m (some cm)] true))] ++ R)) : Ev tabA spA (.fn (.func 13) [] []) [.p (some (F, 0)), .i .i64 n, .s (txt tp), .b tx, .sl da dd.length dc dg] H (fun r H' => r = .tup [.i .i64 0, .i .i64 1] ∧ Hs H' ([(F, some (.cells [.sl (some (Lb, 0)) np np 0, .i .i64 ((room : Nat) : Int), .m (some cm)] true))] ++ R)) := by
  refine Ev_C (F := x13) rfl ?_
  refine C_seq ?_
  refine C_region ?_
  refine O_p (.i .i64 0) (r_mv rfl) ?_
  refine O_p (.i .i64 0) (r_mv rfl) ?_
  refine O_nil ?_
  refine C_seq ?_
  refine C_region ?_
  refine O_p (.p (some (F, 0))) (r_mv rfl) ?_
  refine O_p (.i .i64 n) (r_mv rfl) ?_
  refine O_call (Ev.mono (at_nil hk hH0) fun v1 H2 hq3 => ?_)
  obtain ⟨rfl, hH4⟩ := hq3
  refine O_p (.p none) (r_mv rfl) ?_
  refine O_nil ?_
  refine C_seq ?_
  refine C_block ?_
  refine C_seq ?_
  refine C_region ?_
  refine O_p (.p none) (r_mv rfl) ?_
  refine O_p (.b true) (r_nilq_n rfl) ?_
  refine O_p (.b true) (r_mv rfl) ?_
  refine O_gf rfl ?_
  refine O_gf rfl ?_
  refine O_p (.b true) (r_pick_t rfl rfl) ?_
  refine O_p (.b true) (r_mv rfl) ?_
  refine O_nil ?_
  refine C_cond (x := true) rfl (fun _ => ?_) (fun h => by cases h)
  refine C_seq ?_
  refine C_region ?_
  refine O_p (.i .i64 0) (r_mv rfl) ?_
  refine O_p (.i .i64 1) (r_mv rfl) ?_
  refine O_nil ?_
  refine C_ret ?_
  refine bk_ret ?_
  refine nx_ret ?_
  exact ⟨.inr rfl, _, resL_cons (r_tmp (v := (.i .i64 0)) rfl) (resL_one (r_tmp (v := (.i .i64 1)) rfl)), rfl, hH4⟩
set_option maxHeartbeats 1000000 in
theorem join_on {H : AH} {R : HL} {F Lb cm np i room : Nat} {rws : List (List AV)} {mr : Nat} {v : AV} {lost : Int} (hk : i < np) (hrw : ∀ x ∈ rws, x.length = 4) (hi : i < rws.length)  (hH0 : Hs H ([(F, some (.cells ([(.sl (some (Lb, 0)) np np 0), (.i .i64 ((room : Nat) : Int)), (.m (some cm))]) true))] ++ ([(Lb, some (.cells (((rws).set i (prow true (some mr) v lost)).flatten) true))] ++ (R)))) : Ev tabA spA (.fn (.func 12) [] []) [.p (some (F, 0)), .i .i64 i] H (fun r H' => r = .i .i64 8 ∧ Hs H' ([(F, some (.cells ([(.sl (some (Lb, 0)) np np 0), (.i .i64 ((room : Nat) : Int)), (.m (some cm))]) true))] ++ ([(Lb, some (.cells (((rws).set i (prow true (some mr) v lost)).flatten) true))] ++ (R)))) := by
  refine Ev_C (F := x12) rfl ?_
  refine C_seq ?_
  refine C_region ?_
  refine O_p (.i .i64 0) (r_mv rfl) ?_
  refine O_nil ?_
  refine C_seq ?_
  refine C_region ?_
  refine O_p (.p (some (F, 0))) (r_mv rfl) ?_
  refine O_p (.i .i64 ((i : Nat) : Int)) (r_mv rfl) ?_
  refine O_call (Ev.mono (at_ev (k := i) hk hH0) fun v1 H2 hq3 => ?_)
  obtain ⟨rfl, hH4⟩ := hq3
  refine O_p (.p (some (Lb, (i * 4 + 0)))) (r_mv rfl) ?_
  refine O_nil ?_
  refine C_seq ?_
  refine C_block ?_
  refine C_seq ?_
  refine C_region ?_
  refine O_p (.p (some (Lb, (i * 4 + 0)))) (r_mv rfl) ?_
  refine O_p (.b false) (r_nilq_s rfl) ?_
  refine O_p (.b false) (r_mv rfl) ?_
  refine O_nil ?_
  refine C_cond (x := false) rfl (fun h => by cases h) (fun _ => ?_)
  refine C_seq ?_
  refine C_region ?_
  refine O_p (.p (some (Lb, (i * 4 + 0)))) (r_mv rfl) ?_
  refine O_p (.p (some (Lb, (i * 4 + 0)))) (r_nilc rfl) ?_
  refine O_p (.p (some (Lb, (i * 4 + 0)))) (r_fadd' rfl rfl) ?_
  refine O_p (.b true) (by exact (r_ld rfl hH4.get1 ((foc_get hrw hi rfl (by decide)).trans rfl))) ?_
  refine O_p (.b true) (r_mv rfl) ?_
  refine O_nil ?_
  refine C_cond (x := true) rfl (fun _ => ?_) (fun h => by cases h)
  refine C_seq ?_
  refine C_region ?_
  refine O_p (.i .i64 8) (r_mv rfl) ?_
  refine O_nil ?_
  refine C_ret ?_
  refine bk_ret ?_
  refine nx_ret ?_
  have hH5 := ((hH4.top1).top1)
  exact ⟨.inr rfl, _, resL_one (r_tmp (v := (.i .i64 8)) rfl), rfl, hH5⟩
set_option maxHeartbeats 1000000 in
theorem leave_off {H : AH} {R : HL} {F Lb cm np i room : Nat} {rws : List (List AV)} (hk : i < np) (hrw : ∀ x ∈ rws, x.length = 4) (hi : i < rws.length)  (hH0 : Hs H ([(F, some (.cells ([(.sl (some (Lb, 0)) np np 0), (.i .i64 ((room : Nat) : Int)), (.m (some cm))]) true))] ++ ([(Lb, some (.cells (((rws).set i (prow false none (.sl none 0 0 0) 0)).flatten) true))] ++ (R)))) : Ev tabA spA (.fn (.func 21) [] []) [.p (some (F, 0)), .i .i64 i] H (fun r H' => r = .i .i64 11 ∧ Hs H' ([(F, some (.cells ([(.sl (some (Lb, 0)) np np 0), (.i .i64 ((room : Nat) : Int)), (.m (some cm))]) true))] ++ ([(Lb, some (.cells (((rws).set i (prow false none (.sl none 0 0 0) 0)).flatten) true))] ++ (R)))) := by
  refine Ev_C (F := x21) rfl ?_
  refine C_seq ?_
  refine C_region ?_
  refine O_p (.i .i64 0) (r_mv rfl) ?_
  refine O_nil ?_
  refine C_seq ?_
  refine C_region ?_
  refine O_p (.p (some (F, 0))) (r_mv rfl) ?_
  refine O_p (.i .i64 ((i : Nat) : Int)) (r_mv rfl) ?_
  refine O_call (Ev.mono (at_ev (k := i) hk hH0) fun v1 H2 hq3 => ?_)
  obtain ⟨rfl, hH4⟩ := hq3
  refine O_p (.p (some (Lb, (i * 4 + 0)))) (r_mv rfl) ?_
  refine O_nil ?_
  refine C_seq ?_
  refine C_block ?_
  refine C_seq ?_
  refine C_region ?_
  refine O_p (.p (some (Lb, (i * 4 + 0)))) (r_mv rfl) ?_
  refine O_p (.b false) (r_nilq_s rfl) ?_
  refine O_p (.b false) (r_mv rfl) ?_
  refine O_nil ?_
  refine C_cond (x := false) rfl (fun h => by cases h) (fun _ => ?_)
  refine C_seq ?_
  refine C_region ?_
  refine O_p (.p (some (Lb, (i * 4 + 0)))) (r_mv rfl) ?_
  refine O_p (.p (some (Lb, (i * 4 + 0)))) (r_nilc rfl) ?_
  refine O_p (.p (some (Lb, (i * 4 + 0)))) (r_fadd' rfl rfl) ?_
  refine O_p (.b false) (by exact (r_ld rfl hH4.get1 ((foc_get hrw hi rfl (by decide)).trans rfl))) ?_
  refine O_p (.b true) (r_un rfl rfl) ?_
  refine O_p (.b true) (r_mv rfl) ?_
  refine O_nil ?_
  refine C_cond (x := true) rfl (fun _ => ?_) (fun h => by cases h)
  refine C_seq ?_
  refine C_region ?_
  refine O_p (.i .i64 11) (r_mv rfl) ?_
  refine O_nil ?_
  refine C_ret ?_
  refine bk_ret ?_
  refine nx_ret ?_
  have hH5 := ((hH4.top1).top1)
  exact ⟨.inr rfl, _, resL_one (r_tmp (v := (.i .i64 11)) rfl), rfl, hH5⟩
set_option maxHeartbeats 1000000 in
theorem drop_off {H : AH} {R : HL} {F Lb cm np i room : Nat} {rws : List (List AV)} {tp : List UInt8} (hk : i < np) (hrw : ∀ x ∈ rws, x.length = 4) (hi : i < rws.length)  (hH0 : Hs H ([(F, some (.cells ([(.sl (some (Lb, 0)) np np 0), (.i .i64 ((room : Nat) : Int)), (.m (some cm))]) true))] ++ ([(Lb, some (.cells (((rws).set i (prow false none (.sl none 0 0 0) 0)).flatten) true))] ++ (R)))) : Ev tabA spA (.fn (.func 20) [] []) [.p (some (F, 0)), .i .i64 i, .s (txt tp)] H (fun r H' => r = .i .i64 11 ∧ Hs H' ([(F, some (.cells ([(.sl (some (Lb, 0)) np np 0), (.i .i64 ((room : Nat) : Int)), (.m (some cm))]) true))] ++ ([(Lb, some (.cells (((rws).set i (prow false none (.sl none 0 0 0) 0)).flatten) true))] ++ (R)))) := by
  refine Ev_C (F := x20) rfl ?_
  refine C_seq ?_
  refine C_region ?_
  refine O_box (z := [(.s (txt tp))]) rfl fun n1 H2 hN3 => ?_
  have hH4 := hH0.new hN3
  refine O_p (.i .i64 0) (r_mv rfl) ?_
  refine O_nil ?_
  refine C_seq ?_
  refine C_region ?_
  refine O_p (.p (some (F, 0))) (r_mv rfl) ?_
  refine O_p (.i .i64 ((i : Nat) : Int)) (r_mv rfl) ?_
  have hH5 := (hH4.top1)
  refine O_call (Ev.mono (at_ev (k := i) hk hH5) fun v6 H7 hq8 => ?_)
  obtain ⟨rfl, hH9⟩ := hq8
  refine O_p (.p (some (Lb, (i * 4 + 0)))) (r_mv rfl) ?_
  refine O_nil ?_
  refine C_seq ?_
  refine C_block ?_
  refine C_seq ?_
  refine C_region ?_
  refine O_p (.p (some (Lb, (i * 4 + 0)))) (r_mv rfl) ?_
  refine O_p (.b false) (r_nilq_s rfl) ?_
  refine O_p (.b false) (r_mv rfl) ?_
  refine O_nil ?_
  refine C_cond (x := false) rfl (fun h => by cases h) (fun _ => ?_)
  refine C_seq ?_
  refine C_region ?_
  refine O_p (.p (some (Lb, (i * 4 + 0)))) (r_mv rfl) ?_
  refine O_p (.p (some (Lb, (i * 4 + 0)))) (r_nilc rfl) ?_
  refine O_p (.p (some (Lb, (i * 4 + 0)))) (r_fadd' rfl rfl) ?_
  refine O_p (.b false) (by exact (r_ld rfl hH9.get2 ((foc_get hrw hi rfl (by decide)).trans rfl))) ?_
  refine O_p (.b true) (r_un rfl rfl) ?_
  refine O_p (.b true) (r_mv rfl) ?_
  refine O_nil ?_
  refine C_cond (x := true) rfl (fun _ => ?_) (fun h => by cases h)
  refine C_seq ?_
  refine C_region ?_
  refine O_p (.i .i64 11) (r_mv rfl) ?_
  refine O_nil ?_
  refine C_ret ?_
  refine bk_ret ?_
  refine nx_ret ?_
  have hH10 := (hH9.sub1)
  have hH11 := ((hH10.top1).top1)
  exact ⟨.inr rfl, _, resL_one (r_tmp (v := (.i .i64 11)) rfl), rfl, hH11⟩
set_option maxHeartbeats 1000000 in
theorem sub_neg {H : AH} {R : HL} {F Lb cm np i room : Nat} {rws : List (List AV)} {tp : List UInt8} {mode : Int} {on : Bool} {mo : Option Nat} {v : AV} {lost : Int} (hk : i < np) (hrw : ∀ x ∈ rws, x.length = 4) (hi : i < rws.length) (hm : mode < 0) (hH0 : Hs H ([(F, some (.cells ([(.sl (some (Lb, 0)) np np 0), (.i .i64 ((room : Nat) : Int)), (.m (some cm))]) true))] ++ ([(Lb, some (.cells (((rws).set i (prow on mo v lost)).flatten) true))] ++ (R)))) : Ev tabA spA (.fn (.func 14) [] []) [.p (some (F, 0)), .i .i64 i, .s (txt tp), .i .i64 mode] H (fun r H' => r = .i .i64 1 ∧ Hs H' ([(F, some (.cells ([(.sl (some (Lb, 0)) np np 0), (.i .i64 ((room : Nat) : Int)), (.m (some cm))]) true))] ++ ([(Lb, some (.cells (((rws).set i (prow on mo v lost)).flatten) true))] ++ (R)))) := by
  refine Ev_C (F := x14) rfl ?_
  refine C_seq ?_
  refine C_region ?_
  refine O_p (.i .i64 0) (r_mv rfl) ?_
  refine O_nil ?_
  refine C_seq ?_
  refine C_region ?_
  refine O_p (.p (some (F, 0))) (r_mv rfl) ?_
  refine O_p (.i .i64 ((i : Nat) : Int)) (r_mv rfl) ?_
  refine O_call (Ev.mono (at_ev (k := i) hk hH0) fun v1 H2 hq3 => ?_)
  obtain ⟨rfl, hH4⟩ := hq3
  refine O_p (.p (some (Lb, (i * 4 + 0)))) (r_mv rfl) ?_
  refine O_nil ?_
  refine C_seq ?_
  refine C_block ?_
  refine C_seq ?_
  refine C_region ?_
  refine O_p (.p (some (Lb, (i * 4 + 0)))) (r_mv rfl) ?_
  refine O_p (.b false) (r_nilq_s rfl) ?_
  refine O_p (.b false) (r_mv rfl) ?_
  refine O_gk rfl ?_
  refine O_p (.i .i64 mode) (r_mv rfl) ?_
  refine O_gk rfl ?_
  refine O_p (.b true) (by exact (by rw [r_lss rfl rfl, decide_eq_true hm])) ?_
  refine O_p (.b true) (r_pick_f rfl rfl) ?_
  refine O_p (.b true) (r_mv rfl) ?_
  refine O_gf rfl ?_
  refine O_gf rfl ?_
  refine O_p (.b true) (r_pick_t rfl rfl) ?_
  refine O_p (.b true) (r_mv rfl) ?_
  refine O_gf rfl ?_
  refine O_gf rfl ?_
  refine O_p (.b true) (r_pick_t rfl rfl) ?_
  refine O_p (.b true) (r_mv rfl) ?_
  refine O_nil ?_
  refine C_cond (x := true) rfl (fun _ => ?_) (fun h => by cases h)
  refine C_seq ?_
  refine C_region ?_
  refine O_p (.i .i64 1) (r_mv rfl) ?_
  refine O_nil ?_
  refine C_ret ?_
  refine bk_ret ?_
  refine nx_ret ?_
  have hH5 := ((hH4.top1).top1)
  exact ⟨.inr rfl, _, resL_one (r_tmp (v := (.i .i64 1)) rfl), rfl, hH5⟩
set_option maxHeartbeats 1000000 in
theorem sub_pos {H : AH} {R : HL} {F Lb cm np i room : Nat} {rws : List (List AV)} {tp : List UInt8} {mode : Int} {on : Bool} {mo : Option Nat} {v : AV} {lost : Int} (hk : i < np) (hrw : ∀ x ∈ rws, x.length = 4) (hi : i < rws.length) (hm : 2 < mode) (hH0 : Hs H ([(F, some (.cells ([(.sl (some (Lb, 0)) np np 0), (.i .i64 ((room : Nat) : Int)), (.m (some cm))]) true))] ++ ([(Lb, some (.cells (((rws).set i (prow on mo v lost)).flatten) true))] ++ (R)))) : Ev tabA spA (.fn (.func 14) [] []) [.p (some (F, 0)), .i .i64 i, .s (txt tp), .i .i64 mode] H (fun r H' => r = .i .i64 1 ∧ Hs H' ([(F, some (.cells ([(.sl (some (Lb, 0)) np np 0), (.i .i64 ((room : Nat) : Int)), (.m (some cm))]) true))] ++ ([(Lb, some (.cells (((rws).set i (prow on mo v lost)).flatten) true))] ++ (R)))) := by
  refine Ev_C (F := x14) rfl ?_
  refine C_seq ?_
  refine C_region ?_
  refine O_p (.i .i64 0) (r_mv rfl) ?_
  refine O_nil ?_
  refine C_seq ?_
  refine C_region ?_
  refine O_p (.p (some (F, 0))) (r_mv rfl) ?_
  refine O_p (.i .i64 ((i : Nat) : Int)) (r_mv rfl) ?_
  refine O_call (Ev.mono (at_ev (k := i) hk hH0) fun v1 H2 hq3 => ?_)
  obtain ⟨rfl, hH4⟩ := hq3
  refine O_p (.p (some (Lb, (i * 4 + 0)))) (r_mv rfl) ?_
  refine O_nil ?_
  refine C_seq ?_
  refine C_block ?_
  refine C_seq ?_
  refine C_region ?_
  refine O_p (.p (some (Lb, (i * 4 + 0)))) (r_mv rfl) ?_
  refine O_p (.b false) (r_nilq_s rfl) ?_
  refine O_p (.b false) (r_mv rfl) ?_
  refine O_gk rfl ?_
  refine O_p (.i .i64 mode) (r_mv rfl) ?_
  refine O_gk rfl ?_
  refine O_p (.b false) (by exact (by rw [r_lss rfl rfl, decide_eq_false (by omega)])) ?_
  refine O_p (.b false) (r_pick_f rfl rfl) ?_
  refine O_p (.b false) (r_mv rfl) ?_
  refine O_gk rfl ?_
  refine O_p (.i .i64 mode) (r_mv rfl) ?_
  refine O_gk rfl ?_
  refine O_p (.b true) (by exact (by rw [r_gtr rfl rfl, decide_eq_true (by omega)])) ?_
  refine O_p (.b true) (r_pick_f rfl rfl) ?_
  refine O_p (.b true) (r_mv rfl) ?_
  refine O_gf rfl ?_
  refine O_gf rfl ?_
  refine O_p (.b true) (r_pick_t rfl rfl) ?_
  refine O_p (.b true) (r_mv rfl) ?_
  refine O_nil ?_
  refine C_cond (x := true) rfl (fun _ => ?_) (fun h => by cases h)
  refine C_seq ?_
  refine C_region ?_
  refine O_p (.i .i64 1) (r_mv rfl) ?_
  refine O_nil ?_
  refine C_ret ?_
  refine bk_ret ?_
  refine nx_ret ?_
  have hH5 := ((hH4.top1).top1)
  exact ⟨.inr rfl, _, resL_one (r_tmp (v := (.i .i64 1)) rfl), rfl, hH5⟩
set_option maxHeartbeats 1000000 in
theorem sub_emp {H : AH} {R : HL} {F Lb cm np i room : Nat} {rws : List (List AV)} {tp : List UInt8} {mode : Int} {on : Bool} {mo : Option Nat} {v : AV} {lost : Int} (hk : i < np) (hrw : ∀ x ∈ rws, x.length = 4) (hi : i < rws.length) (hm : 0 ≤ mode ∧ mode ≤ 2) (htp : tp = []) (hH0 : Hs H ([(F, some (.cells ([(.sl (some (Lb, 0)) np np 0), (.i .i64 ((room : Nat) : Int)), (.m (some cm))]) true))] ++ ([(Lb, some (.cells (((rws).set i (prow on mo v lost)).flatten) true))] ++ (R)))) : Ev tabA spA (.fn (.func 14) [] []) [.p (some (F, 0)), .i .i64 i, .s (txt tp), .i .i64 mode] H (fun r H' => r = .i .i64 1 ∧ Hs H' ([(F, some (.cells ([(.sl (some (Lb, 0)) np np 0), (.i .i64 ((room : Nat) : Int)), (.m (some cm))]) true))] ++ ([(Lb, some (.cells (((rws).set i (prow on mo v lost)).flatten) true))] ++ (R)))) := by
  refine Ev_C (F := x14) rfl ?_
  refine C_seq ?_
  refine C_region ?_
  refine O_p (.i .i64 0) (r_mv rfl) ?_
  refine O_nil ?_
  refine C_seq ?_
  refine C_region ?_
  refine O_p (.p (some (F, 0))) (r_mv rfl) ?_
  refine O_p (.i .i64 ((i : Nat) : Int)) (r_mv rfl) ?_
  refine O_call (Ev.mono (at_ev (k := i) hk hH0) fun v1 H2 hq3 => ?_)
  obtain ⟨rfl, hH4⟩ := hq3
  refine O_p (.p (some (Lb, (i * 4 + 0)))) (r_mv rfl) ?_
  refine O_nil ?_
  refine C_seq ?_
  refine C_block ?_
  refine C_seq ?_
  refine C_region ?_
  refine O_p (.p (some (Lb, (i * 4 + 0)))) (r_mv rfl) ?_
  refine O_p (.b false) (r_nilq_s rfl) ?_
  refine O_p (.b false) (r_mv rfl) ?_
  refine O_gk rfl ?_
  refine O_p (.i .i64 mode) (r_mv rfl) ?_
  refine O_gk rfl ?_
  refine O_p (.b false) (by exact (by rw [r_lss rfl rfl, decide_eq_false (by omega)])) ?_
  refine O_p (.b false) (r_pick_f rfl rfl) ?_
  refine O_p (.b false) (r_mv rfl) ?_
  refine O_gk rfl ?_
  refine O_p (.i .i64 mode) (r_mv rfl) ?_
  refine O_gk rfl ?_
  refine O_p (.b false) (by exact (by rw [r_gtr rfl rfl, decide_eq_false (by omega)])) ?_
  refine O_p (.b false) (r_pick_f rfl rfl) ?_
  refine O_p (.b false) (r_mv rfl) ?_
  refine O_gk rfl ?_
  refine O_p (.s (txt tp)) (r_mv rfl) ?_
  refine O_gk rfl ?_
  refine O_p (.b true) (by exact (by rw [r_eqt (b := ([] : List UInt8)) rfl rfl, decide_eq_true htp])) ?_
  refine O_p (.b true) (r_pick_f rfl rfl) ?_
  refine O_p (.b true) (r_mv rfl) ?_
  refine O_nil ?_
  refine C_cond (x := true) rfl (fun _ => ?_) (fun h => by cases h)
  refine C_seq ?_
  refine C_region ?_
  refine O_p (.i .i64 1) (r_mv rfl) ?_
  refine O_nil ?_
  refine C_ret ?_
  refine bk_ret ?_
  refine nx_ret ?_
  have hH5 := ((hH4.top1).top1)
  exact ⟨.inr rfl, _, resL_one (r_tmp (v := (.i .i64 1)) rfl), rfl, hH5⟩
set_option maxHeartbeats 1000000 in
theorem sub_big {H : AH} {R : HL} {F Lb cm np i room : Nat} {rws : List (List AV)} {tp : List UInt8} {mode : Int} {on : Bool} {mo : Option Nat} {v : AV} {lost : Int} (hk : i < np) (hrw : ∀ x ∈ rws, x.length = 4) (hi : i < rws.length) (hm : 0 ≤ mode ∧ mode ≤ 2) (htp : 0 < tp.length ∧ 256 < tp.length) (hH0 : Hs H ([(F, some (.cells ([(.sl (some (Lb, 0)) np np 0), (.i .i64 ((room : Nat) : Int)), (.m (some cm))]) true))] ++ ([(Lb, some (.cells (((rws).set i (prow on mo v lost)).flatten) true))] ++ (R)))) : Ev tabA spA (.fn (.func 14) [] []) [.p (some (F, 0)), .i .i64 i, .s (txt tp), .i .i64 mode] H (fun r H' => r = .i .i64 10 ∧ Hs H' ([(F, some (.cells ([(.sl (some (Lb, 0)) np np 0), (.i .i64 ((room : Nat) : Int)), (.m (some cm))]) true))] ++ ([(Lb, some (.cells (((rws).set i (prow on mo v lost)).flatten) true))] ++ (R)))) := by
  refine Ev_C (F := x14) rfl ?_
  refine C_seq ?_
  refine C_region ?_
  refine O_p (.i .i64 0) (r_mv rfl) ?_
  refine O_nil ?_
  refine C_seq ?_
  refine C_region ?_
  refine O_p (.p (some (F, 0))) (r_mv rfl) ?_
  refine O_p (.i .i64 ((i : Nat) : Int)) (r_mv rfl) ?_
  refine O_call (Ev.mono (at_ev (k := i) hk hH0) fun v1 H2 hq3 => ?_)
  obtain ⟨rfl, hH4⟩ := hq3
  refine O_p (.p (some (Lb, (i * 4 + 0)))) (r_mv rfl) ?_
  refine O_nil ?_
  refine C_seq ?_
  refine C_block ?_
  refine C_seq ?_
  refine C_region ?_
  refine O_p (.p (some (Lb, (i * 4 + 0)))) (r_mv rfl) ?_
  refine O_p (.b false) (r_nilq_s rfl) ?_
  refine O_p (.b false) (r_mv rfl) ?_
  refine O_gk rfl ?_
  refine O_p (.i .i64 mode) (r_mv rfl) ?_
  refine O_gk rfl ?_
  refine O_p (.b false) (by exact (by rw [r_lss rfl rfl, decide_eq_false (by omega)])) ?_
  refine O_p (.b false) (r_pick_f rfl rfl) ?_
  refine O_p (.b false) (r_mv rfl) ?_
  refine O_gk rfl ?_
  refine O_p (.i .i64 mode) (r_mv rfl) ?_
  refine O_gk rfl ?_
  refine O_p (.b false) (by exact (by rw [r_gtr rfl rfl, decide_eq_false (by omega)])) ?_
  refine O_p (.b false) (r_pick_f rfl rfl) ?_
  refine O_p (.b false) (r_mv rfl) ?_
  refine O_gk rfl ?_
  refine O_p (.s (txt tp)) (r_mv rfl) ?_
  refine O_gk rfl ?_
  refine O_p (.b false) (by exact (by rw [r_eqt (b := ([] : List UInt8)) rfl rfl, decide_eq_false (by intro h; rw [h] at htp; exact absurd htp.1 (by decide))])) ?_
  refine O_p (.b false) (r_pick_f rfl rfl) ?_
  refine O_p (.b false) (r_mv rfl) ?_
  refine O_nil ?_
  refine C_cond (x := false) rfl (fun h => by cases h) (fun _ => ?_)
  refine C_seq ?_
  refine C_region ?_
  refine O_p (.s (txt tp)) (r_mv rfl) ?_
  refine O_p (.i .i64 ((((tp).length : Nat)) : Int)) (r_lent (l := tp) rfl) ?_
  refine O_p (.b true) (by exact (by rw [r_gtr rfl rfl, decide_eq_true (by omega)])) ?_
  refine O_p (.b true) (r_mv rfl) ?_
  refine O_nil ?_
  refine C_cond (x := true) rfl (fun _ => ?_) (fun h => by cases h)
  refine C_seq ?_
  refine C_region ?_
  refine O_p (.i .i64 10) (r_mv rfl) ?_
  refine O_nil ?_
  refine C_ret ?_
  refine bk_ret ?_
  refine nx_ret ?_
  have hH5 := ((hH4.top1).top1)
  exact ⟨.inr rfl, _, resL_one (r_tmp (v := (.i .i64 10)) rfl), rfl, hH5⟩
set_option maxHeartbeats 1000000 in
theorem sub_off {H : AH} {R : HL} {F Lb cm np i room : Nat} {rws : List (List AV)} {tp : List UInt8} {mode : Int} (hk : i < np) (hrw : ∀ x ∈ rws, x.length = 4) (hi : i < rws.length) (hm : 0 ≤ mode ∧ mode ≤ 2) (htp : 0 < tp.length ∧ tp.length ≤ 256) (hH0 : Hs H ([(F, some (.cells ([(.sl (some (Lb, 0)) np np 0), (.i .i64 ((room : Nat) : Int)), (.m (some cm))]) true))] ++ ([(Lb, some (.cells (((rws).set i (prow false none (.sl none 0 0 0) 0)).flatten) true))] ++ (R)))) : Ev tabA spA (.fn (.func 14) [] []) [.p (some (F, 0)), .i .i64 i, .s (txt tp), .i .i64 mode] H (fun r H' => r = .i .i64 11 ∧ Hs H' ([(F, some (.cells ([(.sl (some (Lb, 0)) np np 0), (.i .i64 ((room : Nat) : Int)), (.m (some cm))]) true))] ++ ([(Lb, some (.cells (((rws).set i (prow false none (.sl none 0 0 0) 0)).flatten) true))] ++ (R)))) := by
  refine Ev_C (F := x14) rfl ?_
  refine C_seq ?_
  refine C_region ?_
  refine O_p (.i .i64 0) (r_mv rfl) ?_
  refine O_nil ?_
  refine C_seq ?_
  refine C_region ?_
  refine O_p (.p (some (F, 0))) (r_mv rfl) ?_
  refine O_p (.i .i64 ((i : Nat) : Int)) (r_mv rfl) ?_
  refine O_call (Ev.mono (at_ev (k := i) hk hH0) fun v1 H2 hq3 => ?_)
  obtain ⟨rfl, hH4⟩ := hq3
  refine O_p (.p (some (Lb, (i * 4 + 0)))) (r_mv rfl) ?_
  refine O_nil ?_
  refine C_seq ?_
  refine C_block ?_
  refine C_seq ?_
  refine C_region ?_
  refine O_p (.p (some (Lb, (i * 4 + 0)))) (r_mv rfl) ?_
  refine O_p (.b false) (r_nilq_s rfl) ?_
  refine O_p (.b false) (r_mv rfl) ?_
  refine O_gk rfl ?_
  refine O_p (.i .i64 mode) (r_mv rfl) ?_
  refine O_gk rfl ?_
  refine O_p (.b false) (by exact (by rw [r_lss rfl rfl, decide_eq_false (by omega)])) ?_
  refine O_p (.b false) (r_pick_f rfl rfl) ?_
  refine O_p (.b false) (r_mv rfl) ?_
  refine O_gk rfl ?_
  refine O_p (.i .i64 mode) (r_mv rfl) ?_
  refine O_gk rfl ?_
  refine O_p (.b false) (by exact (by rw [r_gtr rfl rfl, decide_eq_false (by omega)])) ?_
  refine O_p (.b false) (r_pick_f rfl rfl) ?_
  refine O_p (.b false) (r_mv rfl) ?_
  refine O_gk rfl ?_
  refine O_p (.s (txt tp)) (r_mv rfl) ?_
  refine O_gk rfl ?_
  refine O_p (.b false) (by exact (by rw [r_eqt (b := ([] : List UInt8)) rfl rfl, decide_eq_false (by intro h; rw [h] at htp; exact absurd htp.1 (by decide))])) ?_
  refine O_p (.b false) (r_pick_f rfl rfl) ?_
  refine O_p (.b false) (r_mv rfl) ?_
  refine O_nil ?_
  refine C_cond (x := false) rfl (fun h => by cases h) (fun _ => ?_)
  refine C_seq ?_
  refine C_region ?_
  refine O_p (.s (txt tp)) (r_mv rfl) ?_
  refine O_p (.i .i64 ((((tp).length : Nat)) : Int)) (r_lent (l := tp) rfl) ?_
  refine O_p (.b false) (by exact (by rw [r_gtr rfl rfl, decide_eq_false (by omega)])) ?_
  refine O_p (.b false) (r_mv rfl) ?_
  refine O_nil ?_
  refine C_cond (x := false) rfl (fun h => by cases h) (fun _ => ?_)
  refine C_seq ?_
  refine C_region ?_
  refine O_p (.p (some (Lb, (i * 4 + 0)))) (r_mv rfl) ?_
  refine O_p (.p (some (Lb, (i * 4 + 0)))) (r_nilc rfl) ?_
  refine O_p (.p (some (Lb, (i * 4 + 0)))) (r_fadd' rfl rfl) ?_
  refine O_p (.b false) (by exact (r_ld rfl hH4.get1 ((foc_get hrw hi rfl (by decide)).trans rfl))) ?_
  refine O_p (.b true) (r_un rfl rfl) ?_
  refine O_p (.b true) (r_mv rfl) ?_
  refine O_nil ?_
  refine C_cond (x := true) rfl (fun _ => ?_) (fun h => by cases h)
  refine C_seq ?_
  refine C_region ?_
  refine O_p (.i .i64 11) (r_mv rfl) ?_
  refine O_nil ?_
  refine C_ret ?_
  refine bk_ret ?_
  refine nx_ret ?_
  have hH5 := ((hH4.top1).top1)
  exact ⟨.inr rfl, _, resL_one (r_tmp (v := (.i .i64 11)) rfl), rfl, hH5⟩
set_option maxHeartbeats 1000000 in
theorem sub_dup {H : AH} {R : HL} {F Lb cm np i room : Nat} {rws : List (List AV)} {mr : Nat} {mb : Blk} {m : ML} {tp : List UInt8} {mode md : Int} {v : AV} {lost : Int} (hk : i < np) (hrw : ∀ x ∈ rws, x.length = 4) (hi : i < rws.length) (hmb : Mb m mb) (hget : mget m tp = some (sub md false)) (hm : 0 ≤ mode ∧ mode ≤ 2) (htp : 0 < tp.length ∧ tp.length ≤ 256) (hH0 : Hs H ([(F, some (.cells ([(.sl (some (Lb, 0)) np np 0), (.i .i64 ((room : Nat) : Int)), (.m (some cm))]) true))] ++ ([(Lb, some (.cells (((rws).set i (prow true (some mr) v lost)).flatten) true))] ++ ([(mr, some mb)] ++ (R))))) : Ev tabA spA (.fn (.func 14) [] []) [.p (some (F, 0)), .i .i64 i, .s (txt tp), .i .i64 mode] H (fun r H' => r = .i .i64 8 ∧ Hs H' ([(F, some (.cells ([(.sl (some (Lb, 0)) np np 0), (.i .i64 ((room : Nat) : Int)), (.m (some cm))]) true))] ++ ([(Lb, some (.cells (((rws).set i (prow true (some mr) v lost)).flatten) true))] ++ ([(mr, some mb)] ++ (R))))) := by
  refine Ev_C (F := x14) rfl ?_
  refine C_seq ?_
  refine C_region ?_
  refine O_p (.i .i64 0) (r_mv rfl) ?_
  refine O_nil ?_
  refine C_seq ?_
  refine C_region ?_
  refine O_p (.p (some (F, 0))) (r_mv rfl) ?_
  refine O_p (.i .i64 ((i : Nat) : Int)) (r_mv rfl) ?_
  refine O_call (Ev.mono (at_ev (k := i) hk hH0) fun v1 H2 hq3 => ?_)
  obtain ⟨rfl, hH4⟩ := hq3
  refine O_p (.p (some (Lb, (i * 4 + 0)))) (r_mv rfl) ?_
  refine O_nil ?_
  refine C_seq ?_
  refine C_block ?_
  refine C_seq ?_
  refine C_region ?_
  refine O_p (.p (some (Lb, (i * 4 + 0)))) (r_mv rfl) ?_
  refine O_p (.b false) (r_nilq_s rfl) ?_
  refine O_p (.b false) (r_mv rfl) ?_
  refine O_gk rfl ?_
  refine O_p (.i .i64 mode) (r_mv rfl) ?_
  refine O_gk rfl ?_
  refine O_p (.b false) (by exact (by rw [r_lss rfl rfl, decide_eq_false (by omega)])) ?_
  refine O_p (.b false) (r_pick_f rfl rfl) ?_
  refine O_p (.b false) (r_mv rfl) ?_
  refine O_gk rfl ?_
  refine O_p (.i .i64 mode) (r_mv rfl) ?_
  refine O_gk rfl ?_
  refine O_p (.b false) (by exact (by rw [r_gtr rfl rfl, decide_eq_false (by omega)])) ?_
  refine O_p (.b false) (r_pick_f rfl rfl) ?_
  refine O_p (.b false) (r_mv rfl) ?_
  refine O_gk rfl ?_
  refine O_p (.s (txt tp)) (r_mv rfl) ?_
  refine O_gk rfl ?_
  refine O_p (.b false) (by exact (by rw [r_eqt (b := ([] : List UInt8)) rfl rfl, decide_eq_false (by intro h; rw [h] at htp; exact absurd htp.1 (by decide))])) ?_
  refine O_p (.b false) (r_pick_f rfl rfl) ?_
  refine O_p (.b false) (r_mv rfl) ?_
  refine O_nil ?_
  refine C_cond (x := false) rfl (fun h => by cases h) (fun _ => ?_)
  refine C_seq ?_
  refine C_region ?_
  refine O_p (.s (txt tp)) (r_mv rfl) ?_
  refine O_p (.i .i64 ((((tp).length : Nat)) : Int)) (r_lent (l := tp) rfl) ?_
  refine O_p (.b false) (by exact (by rw [r_gtr rfl rfl, decide_eq_false (by omega)])) ?_
  refine O_p (.b false) (r_mv rfl) ?_
  refine O_nil ?_
  refine C_cond (x := false) rfl (fun h => by cases h) (fun _ => ?_)
  refine C_seq ?_
  refine C_region ?_
  refine O_p (.p (some (Lb, (i * 4 + 0)))) (r_mv rfl) ?_
  refine O_p (.p (some (Lb, (i * 4 + 0)))) (r_nilc rfl) ?_
  refine O_p (.p (some (Lb, (i * 4 + 0)))) (r_fadd' rfl rfl) ?_
  refine O_p (.b true) (by exact (r_ld rfl hH4.get1 ((foc_get hrw hi rfl (by decide)).trans rfl))) ?_
  refine O_p (.b false) (r_un rfl rfl) ?_
  refine O_p (.b false) (r_mv rfl) ?_
  refine O_nil ?_
  refine C_cond (x := false) rfl (fun h => by cases h) (fun _ => ?_)
  refine C_skip ?_
  refine C_seq ?_
  refine C_region ?_
  refine O_p (.p (some (Lb, (i * 4 + 0)))) (r_mv rfl) ?_
  refine O_p (.p (some (Lb, (i * 4 + 0)))) (r_nilc rfl) ?_
  refine O_p (.p (some (Lb, (i * 4 + 1)))) (r_fadd' rfl rfl) ?_
  refine O_p (.m (some mr)) (by exact (r_ld rfl hH4.get1 ((foc_get hrw hi rfl (by decide)).trans rfl))) ?_
  refine O_p (.s (txt tp)) (r_mv rfl) ?_
  refine O_p (.tup [(.agg [(.i .i64 md), (.b false)]), (.b true)]) (by exact ((r_mget (m := m) (k := tp) hH4.get2 hmb rfl rfl true).trans (by first | (rw [hget]; rfl) | rw [hget]))) ?_
  refine O_p (.tup [(.agg [(.i .i64 md), (.b false)]), (.b true)]) (r_mv rfl) ?_
  refine O_p (.agg [(.i .i64 md), (.b false)]) (r_ext rfl rfl) ?_
  refine O_p (.b true) (r_ext rfl rfl) ?_
  refine O_alloc fun n5 H6 hN7 => ?_
  have hH8 := hH4.new hN7
  refine O_store (vs := [(.i .i64 md), (.b false)]) (c' := [(.i .i64 md), (.b false)]) rfl (by rfl) hH8.get0 rfl (List.cons_ne_nil _ _) (Nat.le_of_ble_eq_true rfl) rfl fun H9 hW10 => ?_
  have hH11 := hH8.wr0 hW10
  refine O_p (.b true) (r_mv rfl) ?_
  refine O_nil ?_
  refine C_seq ?_
  refine C_seq ?_
  refine C_region ?_
  refine O_p (.b true) (r_mv rfl) ?_
  refine O_p (.b true) (r_mv rfl) ?_
  refine O_gk rfl ?_
  refine O_p (.p (some (n5, 1))) (r_fadd' rfl rfl) ?_
  refine O_gk rfl ?_
  refine O_p (.b false) (r_ld rfl hH11.get0 rfl) ?_
  refine O_gk rfl ?_
  refine O_p (.b true) (r_un rfl rfl) ?_
  refine O_p (.b true) (r_pick_t rfl rfl) ?_
  refine O_nil ?_
  refine C_cond (x := true) rfl (fun _ => ?_) (fun h => by cases h)
  refine C_seq ?_
  refine C_region ?_
  refine O_p (.i .i64 8) (r_mv rfl) ?_
  refine O_nil ?_
  refine C_ret ?_
  refine nx_ret ?_
  have hH12 := (hH11.sub0)
  have hH13 := (((hH12.top2).top2).top2)
  exact ⟨.inr rfl, _, resL_one (r_tmp (v := (.i .i64 8)) rfl), rfl, hH13⟩
set_option maxHeartbeats 1000000 in
theorem sub_none_ok {H : AH} {R : HL} {F Lb cm np i room : Nat} {rws : List (List AV)} {mr : Nat} {mb : Blk} {m : ML} {tp : List UInt8} {mode md : Int} {v : AV} {lost : Int} (hk : i < np) (hrw : ∀ x ∈ rws, x.length = 4) (hi : i < rws.length) (hmb : Mb m mb) (hget : mget m tp = none) (hml : (mdel m tp).length < 64) (hm : 0 ≤ mode ∧ mode ≤ 2) (htp : 0 < tp.length ∧ tp.length ≤ 256) (hH0 : Hs H ([(F, some (.cells ([(.sl (some (Lb, 0)) np np 0), (.i .i64 ((room : Nat) : Int)), (.m (some cm))]) true))] ++ ([(Lb, some (.cells (((rws).set i (prow true (some mr) v lost)).flatten) true))] ++ ([(mr, some mb)] ++ (R))))) : Ev tabA spA (.fn (.func 14) [] []) [.p (some (F, 0)), .i .i64 i, .s (txt tp), .i .i64 mode] H (fun r H' => ∃ mb', Mb (mset (mdel m tp) tp (sub mode false)) mb' ∧ r = .i .i64 0 ∧ Hs H' ([(F, some (.cells [.sl (some (Lb, 0)) np np 0, .i .i64 ((room : Nat) : Int), .m (some cm)] true))] ++ ([(Lb, some (.cells (rws.set i (prow true (some mr) v lost)).flatten true))] ++ ([(mr, some mb')] ++ R)))) := by
  refine Ev_C (F := x14) rfl ?_
  refine C_seq ?_
  refine C_region ?_
  refine O_p (.i .i64 0) (r_mv rfl) ?_
  refine O_nil ?_
  refine C_seq ?_
  refine C_region ?_
  refine O_p (.p (some (F, 0))) (r_mv rfl) ?_
  refine O_p (.i .i64 ((i : Nat) : Int)) (r_mv rfl) ?_
  refine O_call (Ev.mono (at_ev (k := i) hk hH0) fun v1 H2 hq3 => ?_)
  obtain ⟨rfl, hH4⟩ := hq3
  refine O_p (.p (some (Lb, (i * 4 + 0)))) (r_mv rfl) ?_
  refine O_nil ?_
  refine C_seq ?_
  refine C_block ?_
  refine C_seq ?_
  refine C_region ?_
  refine O_p (.p (some (Lb, (i * 4 + 0)))) (r_mv rfl) ?_
  refine O_p (.b false) (r_nilq_s rfl) ?_
  refine O_p (.b false) (r_mv rfl) ?_
  refine O_gk rfl ?_
  refine O_p (.i .i64 mode) (r_mv rfl) ?_
  refine O_gk rfl ?_
  refine O_p (.b false) (by exact (by rw [r_lss rfl rfl, decide_eq_false (by omega)])) ?_
  refine O_p (.b false) (r_pick_f rfl rfl) ?_
  refine O_p (.b false) (r_mv rfl) ?_
  refine O_gk rfl ?_
  refine O_p (.i .i64 mode) (r_mv rfl) ?_
  refine O_gk rfl ?_
  refine O_p (.b false) (by exact (by rw [r_gtr rfl rfl, decide_eq_false (by omega)])) ?_
  refine O_p (.b false) (r_pick_f rfl rfl) ?_
  refine O_p (.b false) (r_mv rfl) ?_
  refine O_gk rfl ?_
  refine O_p (.s (txt tp)) (r_mv rfl) ?_
  refine O_gk rfl ?_
  refine O_p (.b false) (by exact (by rw [r_eqt (b := ([] : List UInt8)) rfl rfl, decide_eq_false (by intro h; rw [h] at htp; exact absurd htp.1 (by decide))])) ?_
  refine O_p (.b false) (r_pick_f rfl rfl) ?_
  refine O_p (.b false) (r_mv rfl) ?_
  refine O_nil ?_
  refine C_cond (x := false) rfl (fun h => by cases h) (fun _ => ?_)
  refine C_seq ?_
  refine C_region ?_
  refine O_p (.s (txt tp)) (r_mv rfl) ?_
  refine O_p (.i .i64 ((((tp).length : Nat)) : Int)) (r_lent (l := tp) rfl) ?_
  refine O_p (.b false) (by exact (by rw [r_gtr rfl rfl, decide_eq_false (by omega)])) ?_
  refine O_p (.b false) (r_mv rfl) ?_
  refine O_nil ?_
  refine C_cond (x := false) rfl (fun h => by cases h) (fun _ => ?_)
  refine C_seq ?_
  refine C_region ?_
  refine O_p (.p (some (Lb, (i * 4 + 0)))) (r_mv rfl) ?_
  refine O_p (.p (some (Lb, (i * 4 + 0)))) (r_nilc rfl) ?_
  refine O_p (.p (some (Lb, (i * 4 + 0)))) (r_fadd' rfl rfl) ?_
  refine O_p (.b true) (by exact (r_ld rfl hH4.get1 ((foc_get hrw hi rfl (by decide)).trans rfl))) ?_
  refine O_p (.b false) (r_un rfl rfl) ?_
  refine O_p (.b false) (r_mv rfl) ?_
  refine O_nil ?_
  refine C_cond (x := false) rfl (fun h => by cases h) (fun _ => ?_)
  refine C_skip ?_
  refine C_seq ?_
  refine C_region ?_
  refine O_p (.p (some (Lb, (i * 4 + 0)))) (r_mv rfl) ?_
  refine O_p (.p (some (Lb, (i * 4 + 0)))) (r_nilc rfl) ?_
  refine O_p (.p (some (Lb, (i * 4 + 1)))) (r_fadd' rfl rfl) ?_
  refine O_p (.m (some mr)) (by exact (r_ld rfl hH4.get1 ((foc_get hrw hi rfl (by decide)).trans rfl))) ?_
  refine O_p (.s (txt tp)) (r_mv rfl) ?_
  refine O_p (.tup [(.agg [(.i .i64 0), (.b false)]), (.b false)]) (by exact ((r_mget (m := m) (k := tp) hH4.get2 hmb rfl rfl true).trans (by first | (rw [hget]; rfl) | rw [hget]))) ?_
  refine O_p (.tup [(.agg [(.i .i64 0), (.b false)]), (.b false)]) (r_mv rfl) ?_
  refine O_p (.agg [(.i .i64 0), (.b false)]) (r_ext rfl rfl) ?_
  refine O_p (.b false) (r_ext rfl rfl) ?_
  refine O_alloc fun n5 H6 hN7 => ?_
  have hH8 := hH4.new hN7
  refine O_store (vs := [(.i .i64 0), (.b false)]) (c' := [(.i .i64 0), (.b false)]) rfl (by rfl) hH8.get0 rfl (List.cons_ne_nil _ _) (Nat.le_of_ble_eq_true rfl) rfl fun H9 hW10 => ?_
  have hH11 := hH8.wr0 hW10
  refine O_p (.b false) (r_mv rfl) ?_
  refine O_nil ?_
  refine C_seq ?_
  refine C_seq ?_
  refine C_region ?_
  refine O_p (.b false) (r_mv rfl) ?_
  refine O_p (.b false) (r_mv rfl) ?_
  refine O_gf rfl ?_
  refine O_gf rfl ?_
  refine O_gf rfl ?_
  refine O_p (.b false) (r_pick_f rfl rfl) ?_
  refine O_nil ?_
  refine C_cond (x := false) rfl (fun h => by cases h) (fun _ => ?_)
  refine C_skip ?_
  refine C_seq ?_
  refine C_region ?_
  refine O_p (.p (some (Lb, (i * 4 + 0)))) (r_mv rfl) ?_
  refine O_p (.p (some (Lb, (i * 4 + 0)))) (r_nilc rfl) ?_
  refine O_p (.p (some (Lb, (i * 4 + 1)))) (r_fadd' rfl rfl) ?_
  refine O_p (.m (some mr)) (by exact (r_ld rfl hH11.get2 ((foc_get hrw hi rfl (by decide)).trans rfl))) ?_
  refine O_p (.s (txt tp)) (r_mv rfl) ?_
  refine O_nh (by exact r_mdel (k := tp) hH11.top3 hmb rfl rfl) fun H12 hA13 => ?_
  obtain ⟨bm14, hMb15, hH16⟩ := hA13
  refine O_nil ?_
  refine C_seq ?_
  refine C_seq ?_
  refine C_region ?_
  refine O_p (.p (some (Lb, (i * 4 + 0)))) (r_mv rfl) ?_
  refine O_p (.p (some (Lb, (i * 4 + 0)))) (r_nilc rfl) ?_
  refine O_p (.p (some (Lb, (i * 4 + 1)))) (r_fadd' rfl rfl) ?_
  refine O_p (.m (some mr)) (by exact (r_ld rfl hH16.get3 ((foc_get hrw hi rfl (by decide)).trans rfl))) ?_
  refine O_p (.i .i64 (((((mdel m tp)).length : Nat)) : Int)) (r_mlen hH16.get0 hMb15 rfl) ?_
  refine O_p (.b false) (by exact (by rw [r_geq rfl rfl, decide_eq_false (by omega)])) ?_
  refine O_nil ?_
  refine C_cond (x := false) rfl (fun h => by cases h) (fun _ => ?_)
  refine C_skip ?_
  refine C_seq ?_
  refine C_region ?_
  refine O_p (.p (some (Lb, (i * 4 + 0)))) (r_mv rfl) ?_
  refine O_p (.p (some (Lb, (i * 4 + 0)))) (r_nilc rfl) ?_
  refine O_p (.p (some (Lb, (i * 4 + 1)))) (r_fadd' rfl rfl) ?_
  refine O_p (.m (some mr)) (by exact (r_ld rfl hH16.get3 ((foc_get hrw hi rfl (by decide)).trans rfl))) ?_
  refine O_p (.s (txt tp)) (r_mv rfl) ?_
  refine O_p (.i .i64 mode) (r_mv rfl) ?_
  refine O_p (.agg [(.i .i64 mode), (.b false)]) (r_build rfl) ?_
  refine O_nh (by exact r_mput (k := tp) (v := (.agg [(.i .i64 mode), (.b false)])) hH16.top0 hMb15 rfl rfl rfl) fun H17 hA18 => ?_
  obtain ⟨bm19, hMb20, hH21⟩ := hA18
  refine O_nil ?_
  refine C_seq ?_
  refine C_region ?_
  refine O_p (.i .i64 0) (r_mv rfl) ?_
  refine O_nil ?_
  refine C_ret ?_
  have hH22 := (hH21.sub1)
  have hH23 := ((hH22.top2).top2)
  exact ⟨.inr rfl, _, resL_one (r_tmp (v := (.i .i64 0)) rfl), bm19, hMb20, rfl, hH23⟩
set_option maxHeartbeats 1000000 in
theorem sub_none_full {H : AH} {R : HL} {F Lb cm np i room : Nat} {rws : List (List AV)} {mr : Nat} {mb : Blk} {m : ML} {tp : List UInt8} {mode md : Int} {v : AV} {lost : Int} (hk : i < np) (hrw : ∀ x ∈ rws, x.length = 4) (hi : i < rws.length) (hmb : Mb m mb) (hget : mget m tp = none) (hml : 64 ≤ (mdel m tp).length) (hm : 0 ≤ mode ∧ mode ≤ 2) (htp : 0 < tp.length ∧ tp.length ≤ 256) (hH0 : Hs H ([(F, some (.cells ([(.sl (some (Lb, 0)) np np 0), (.i .i64 ((room : Nat) : Int)), (.m (some cm))]) true))] ++ ([(Lb, some (.cells (((rws).set i (prow true (some mr) v lost)).flatten) true))] ++ ([(mr, some mb)] ++ (R))))) : Ev tabA spA (.fn (.func 14) [] []) [.p (some (F, 0)), .i .i64 i, .s (txt tp), .i .i64 mode] H (fun r H' => ∃ mb', Mb (mdel m tp) mb' ∧ r = .i .i64 9 ∧ Hs H' ([(F, some (.cells [.sl (some (Lb, 0)) np np 0, .i .i64 ((room : Nat) : Int), .m (some cm)] true))] ++ ([(Lb, some (.cells (rws.set i (prow true (some mr) v lost)).flatten true))] ++ ([(mr, some mb')] ++ R)))) := by
  refine Ev_C (F := x14) rfl ?_
  refine C_seq ?_
  refine C_region ?_
  refine O_p (.i .i64 0) (r_mv rfl) ?_
  refine O_nil ?_
  refine C_seq ?_
  refine C_region ?_
  refine O_p (.p (some (F, 0))) (r_mv rfl) ?_
  refine O_p (.i .i64 ((i : Nat) : Int)) (r_mv rfl) ?_
  refine O_call (Ev.mono (at_ev (k := i) hk hH0) fun v1 H2 hq3 => ?_)
  obtain ⟨rfl, hH4⟩ := hq3
  refine O_p (.p (some (Lb, (i * 4 + 0)))) (r_mv rfl) ?_
  refine O_nil ?_
  refine C_seq ?_
  refine C_block ?_
  refine C_seq ?_
  refine C_region ?_
  refine O_p (.p (some (Lb, (i * 4 + 0)))) (r_mv rfl) ?_
  refine O_p (.b false) (r_nilq_s rfl) ?_
  refine O_p (.b false) (r_mv rfl) ?_
  refine O_gk rfl ?_
  refine O_p (.i .i64 mode) (r_mv rfl) ?_
  refine O_gk rfl ?_
  refine O_p (.b false) (by exact (by rw [r_lss rfl rfl, decide_eq_false (by omega)])) ?_
  refine O_p (.b false) (r_pick_f rfl rfl) ?_
  refine O_p (.b false) (r_mv rfl) ?_
  refine O_gk rfl ?_
  refine O_p (.i .i64 mode) (r_mv rfl) ?_
  refine O_gk rfl ?_
  refine O_p (.b false) (by exact (by rw [r_gtr rfl rfl, decide_eq_false (by omega)])) ?_
  refine O_p (.b false) (r_pick_f rfl rfl) ?_
  refine O_p (.b false) (r_mv rfl) ?_
  refine O_gk rfl ?_
  refine O_p (.s (txt tp)) (r_mv rfl) ?_
  refine O_gk rfl ?_
  refine O_p (.b false) (by exact (by rw [r_eqt (b := ([] : List UInt8)) rfl rfl, decide_eq_false (by intro h; rw [h] at htp; exact absurd htp.1 (by decide))])) ?_
  refine O_p (.b false) (r_pick_f rfl rfl) ?_
  refine O_p (.b false) (r_mv rfl) ?_
  refine O_nil ?_
  refine C_cond (x := false) rfl (fun h => by cases h) (fun _ => ?_)
  refine C_seq ?_
  refine C_region ?_
  refine O_p (.s (txt tp)) (r_mv rfl) ?_
  refine O_p (.i .i64 ((((tp).length : Nat)) : Int)) (r_lent (l := tp) rfl) ?_
  refine O_p (.b false) (by exact (by rw [r_gtr rfl rfl, decide_eq_false (by omega)])) ?_
  refine O_p (.b false) (r_mv rfl) ?_
  refine O_nil ?_
  refine C_cond (x := false) rfl (fun h => by cases h) (fun _ => ?_)
  refine C_seq ?_
  refine C_region ?_
  refine O_p (.p (some (Lb, (i * 4 + 0)))) (r_mv rfl) ?_
  refine O_p (.p (some (Lb, (i * 4 + 0)))) (r_nilc rfl) ?_
  refine O_p (.p (some (Lb, (i * 4 + 0)))) (r_fadd' rfl rfl) ?_
  refine O_p (.b true) (by exact (r_ld rfl hH4.get1 ((foc_get hrw hi rfl (by decide)).trans rfl))) ?_
  refine O_p (.b false) (r_un rfl rfl) ?_
  refine O_p (.b false) (r_mv rfl) ?_
  refine O_nil ?_
  refine C_cond (x := false) rfl (fun h => by cases h) (fun _ => ?_)
  refine C_skip ?_
  refine C_seq ?_
  refine C_region ?_
  refine O_p (.p (some (Lb, (i * 4 + 0)))) (r_mv rfl) ?_
  refine O_p (.p (some (Lb, (i * 4 + 0)))) (r_nilc rfl) ?_
  refine O_p (.p (some (Lb, (i * 4 + 1)))) (r_fadd' rfl rfl) ?_
  refine O_p (.m (some mr)) (by exact (r_ld rfl hH4.get1 ((foc_get hrw hi rfl (by decide)).trans rfl))) ?_
  refine O_p (.s (txt tp)) (r_mv rfl) ?_
  refine O_p (.tup [(.agg [(.i .i64 0), (.b false)]), (.b false)]) (by exact ((r_mget (m := m) (k := tp) hH4.get2 hmb rfl rfl true).trans (by first | (rw [hget]; rfl) | rw [hget]))) ?_
  refine O_p (.tup [(.agg [(.i .i64 0), (.b false)]), (.b false)]) (r_mv rfl) ?_
  refine O_p (.agg [(.i .i64 0), (.b false)]) (r_ext rfl rfl) ?_
  refine O_p (.b false) (r_ext rfl rfl) ?_
  refine O_alloc fun n5 H6 hN7 => ?_
  have hH8 := hH4.new hN7
  refine O_store (vs := [(.i .i64 0), (.b false)]) (c' := [(.i .i64 0), (.b false)]) rfl (by rfl) hH8.get0 rfl (List.cons_ne_nil _ _) (Nat.le_of_ble_eq_true rfl) rfl fun H9 hW10 => ?_
  have hH11 := hH8.wr0 hW10
  refine O_p (.b false) (r_mv rfl) ?_
  refine O_nil ?_
  refine C_seq ?_
  refine C_seq ?_
  refine C_region ?_
  refine O_p (.b false) (r_mv rfl) ?_
  refine O_p (.b false) (r_mv rfl) ?_
  refine O_gf rfl ?_
  refine O_gf rfl ?_
  refine O_gf rfl ?_
  refine O_p (.b false) (r_pick_f rfl rfl) ?_
  refine O_nil ?_
  refine C_cond (x := false) rfl (fun h => by cases h) (fun _ => ?_)
  refine C_skip ?_
  refine C_seq ?_
  refine C_region ?_
  refine O_p (.p (some (Lb, (i * 4 + 0)))) (r_mv rfl) ?_
  refine O_p (.p (some (Lb, (i * 4 + 0)))) (r_nilc rfl) ?_
  refine O_p (.p (some (Lb, (i * 4 + 1)))) (r_fadd' rfl rfl) ?_
  refine O_p (.m (some mr)) (by exact (r_ld rfl hH11.get2 ((foc_get hrw hi rfl (by decide)).trans rfl))) ?_
  refine O_p (.s (txt tp)) (r_mv rfl) ?_
  refine O_nh (by exact r_mdel (k := tp) hH11.top3 hmb rfl rfl) fun H12 hA13 => ?_
  obtain ⟨bm14, hMb15, hH16⟩ := hA13
  refine O_nil ?_
  refine C_seq ?_
  refine C_seq ?_
  refine C_region ?_
  refine O_p (.p (some (Lb, (i * 4 + 0)))) (r_mv rfl) ?_
  refine O_p (.p (some (Lb, (i * 4 + 0)))) (r_nilc rfl) ?_
  refine O_p (.p (some (Lb, (i * 4 + 1)))) (r_fadd' rfl rfl) ?_
  refine O_p (.m (some mr)) (by exact (r_ld rfl hH16.get3 ((foc_get hrw hi rfl (by decide)).trans rfl))) ?_
  refine O_p (.i .i64 (((((mdel m tp)).length : Nat)) : Int)) (r_mlen hH16.get0 hMb15 rfl) ?_
  refine O_p (.b true) (by exact (by rw [r_geq rfl rfl, decide_eq_true (by omega)])) ?_
  refine O_nil ?_
  refine C_cond (x := true) rfl (fun _ => ?_) (fun h => by cases h)
  refine C_seq ?_
  refine C_region ?_
  refine O_p (.i .i64 9) (r_mv rfl) ?_
  refine O_nil ?_
  refine C_ret ?_
  refine nx_ret ?_
  have hH17 := (hH16.sub1)
  have hH18 := ((hH17.top2).top2)
  exact ⟨.inr rfl, _, resL_one (r_tmp (v := (.i .i64 9)) rfl), bm14, hMb15, rfl, hH18⟩
set_option maxHeartbeats 1000000 in
theorem sub_fail_ok {H : AH} {R : HL} {F Lb cm np i room : Nat} {rws : List (List AV)} {mr : Nat} {mb : Blk} {m : ML} {tp : List UInt8} {mode md : Int} {v : AV} {lost : Int} (hk : i < np) (hrw : ∀ x ∈ rws, x.length = 4) (hi : i < rws.length) (hmb : Mb m mb) (hget : mget m tp = some (sub md true)) (hml : (mdel m tp).length < 64) (hm : 0 ≤ mode ∧ mode ≤ 2) (htp : 0 < tp.length ∧ tp.length ≤ 256) (hH0 : Hs H ([(F, some (.cells ([(.sl (some (Lb, 0)) np np 0), (.i .i64 ((room : Nat) : Int)), (.m (some cm))]) true))] ++ ([(Lb, some (.cells (((rws).set i (prow true (some mr) v lost)).flatten) true))] ++ ([(mr, some mb)] ++ (R))))) : Ev tabA spA (.fn (.func 14) [] []) [.p (some (F, 0)), .i .i64 i, .s (txt tp), .i .i64 mode] H (fun r H' => ∃ mb', Mb (mset (mdel m tp) tp (sub mode false)) mb' ∧ r = .i .i64 0 ∧ Hs H' ([(F, some (.cells [.sl (some (Lb, 0)) np np 0, .i .i64 ((room : Nat) : Int), .m (some cm)] true))] ++ ([(Lb, some (.cells (rws.set i (prow true (some mr) v lost)).flatten true))] ++ ([(mr, some mb')] ++ R)))) := by
  refine Ev_C (F := x14) rfl ?_
  refine C_seq ?_
  refine C_region ?_
  refine O_p (.i .i64 0) (r_mv rfl) ?_
  refine O_nil ?_
  refine C_seq ?_
  refine C_region ?_
  refine O_p (.p (some (F, 0))) (r_mv rfl) ?_
  refine O_p (.i .i64 ((i : Nat) : Int)) (r_mv rfl) ?_
  refine O_call (Ev.mono (at_ev (k := i) hk hH0) fun v1 H2 hq3 => ?_)
  obtain ⟨rfl, hH4⟩ := hq3
  refine O_p (.p (some (Lb, (i * 4 + 0)))) (r_mv rfl) ?_
  refine O_nil ?_
  refine C_seq ?_
  refine C_block ?_
  refine C_seq ?_
  refine C_region ?_
  refine O_p (.p (some (Lb, (i * 4 + 0)))) (r_mv rfl) ?_
  refine O_p (.b false) (r_nilq_s rfl) ?_
  refine O_p (.b false) (r_mv rfl) ?_
  refine O_gk rfl ?_
  refine O_p (.i .i64 mode) (r_mv rfl) ?_
  refine O_gk rfl ?_
  refine O_p (.b false) (by exact (by rw [r_lss rfl rfl, decide_eq_false (by omega)])) ?_
  refine O_p (.b false) (r_pick_f rfl rfl) ?_
  refine O_p (.b false) (r_mv rfl) ?_
  refine O_gk rfl ?_
  refine O_p (.i .i64 mode) (r_mv rfl) ?_
  refine O_gk rfl ?_
  refine O_p (.b false) (by exact (by rw [r_gtr rfl rfl, decide_eq_false (by omega)])) ?_
  refine O_p (.b false) (r_pick_f rfl rfl) ?_
  refine O_p (.b false) (r_mv rfl) ?_
  refine O_gk rfl ?_
  refine O_p (.s (txt tp)) (r_mv rfl) ?_
  refine O_gk rfl ?_
  refine O_p (.b false) (by exact (by rw [r_eqt (b := ([] : List UInt8)) rfl rfl, decide_eq_false (by intro h; rw [h] at htp; exact absurd htp.1 (by decide))])) ?_
  refine O_p (.b false) (r_pick_f rfl rfl) ?_
  refine O_p (.b false) (r_mv rfl) ?_
  refine O_nil ?_
  refine C_cond (x := false) rfl (fun h => by cases h) (fun _ => ?_)
  refine C_seq ?_
  refine C_region ?_
  refine O_p (.s (txt tp)) (r_mv rfl) ?_
  refine O_p (.i .i64 ((((tp).length : Nat)) : Int)) (r_lent (l := tp) rfl) ?_
  refine O_p (.b false) (by exact (by rw [r_gtr rfl rfl, decide_eq_false (by omega)])) ?_
  refine O_p (.b false) (r_mv rfl) ?_
  refine O_nil ?_
  refine C_cond (x := false) rfl (fun h => by cases h) (fun _ => ?_)
  refine C_seq ?_
  refine C_region ?_
  refine O_p (.p (some (Lb, (i * 4 + 0)))) (r_mv rfl) ?_
  refine O_p (.p (some (Lb, (i * 4 + 0)))) (r_nilc rfl) ?_
  refine O_p (.p (some (Lb, (i * 4 + 0)))) (r_fadd' rfl rfl) ?_
  refine O_p (.b true) (by exact (r_ld rfl hH4.get1 ((foc_get hrw hi rfl (by decide)).trans rfl))) ?_
  refine O_p (.b false) (r_un rfl rfl) ?_
  refine O_p (.b false) (r_mv rfl) ?_
  refine O_nil ?_
  refine C_cond (x := false) rfl (fun h => by cases h) (fun _ => ?_)
  refine C_skip ?_
  refine C_seq ?_
  refine C_region ?_
  refine O_p (.p (some (Lb, (i * 4 + 0)))) (r_mv rfl) ?_
  refine O_p (.p (some (Lb, (i * 4 + 0)))) (r_nilc rfl) ?_
  refine O_p (.p (some (Lb, (i * 4 + 1)))) (r_fadd' rfl rfl) ?_
  refine O_p (.m (some mr)) (by exact (r_ld rfl hH4.get1 ((foc_get hrw hi rfl (by decide)).trans rfl))) ?_
  refine O_p (.s (txt tp)) (r_mv rfl) ?_
  refine O_p (.tup [(.agg [(.i .i64 md), (.b true)]), (.b true)]) (by exact ((r_mget (m := m) (k := tp) hH4.get2 hmb rfl rfl true).trans (by first | (rw [hget]; rfl) | rw [hget]))) ?_
  refine O_p (.tup [(.agg [(.i .i64 md), (.b true)]), (.b true)]) (r_mv rfl) ?_
  refine O_p (.agg [(.i .i64 md), (.b true)]) (r_ext rfl rfl) ?_
  refine O_p (.b true) (r_ext rfl rfl) ?_
  refine O_alloc fun n5 H6 hN7 => ?_
  have hH8 := hH4.new hN7
  refine O_store (vs := [(.i .i64 md), (.b true)]) (c' := [(.i .i64 md), (.b true)]) rfl (by rfl) hH8.get0 rfl (List.cons_ne_nil _ _) (Nat.le_of_ble_eq_true rfl) rfl fun H9 hW10 => ?_
  have hH11 := hH8.wr0 hW10
  refine O_p (.b true) (r_mv rfl) ?_
  refine O_nil ?_
  refine C_seq ?_
  refine C_seq ?_
  refine C_region ?_
  refine O_p (.b true) (r_mv rfl) ?_
  refine O_p (.b true) (r_mv rfl) ?_
  refine O_gk rfl ?_
  refine O_p (.p (some (n5, 1))) (r_fadd' rfl rfl) ?_
  refine O_gk rfl ?_
  refine O_p (.b true) (r_ld rfl hH11.get0 rfl) ?_
  refine O_gk rfl ?_
  refine O_p (.b false) (r_un rfl rfl) ?_
  refine O_p (.b false) (r_pick_t rfl rfl) ?_
  refine O_nil ?_
  refine C_cond (x := false) rfl (fun h => by cases h) (fun _ => ?_)
  refine C_skip ?_
  refine C_seq ?_
  refine C_region ?_
  refine O_p (.p (some (Lb, (i * 4 + 0)))) (r_mv rfl) ?_
  refine O_p (.p (some (Lb, (i * 4 + 0)))) (r_nilc rfl) ?_
  refine O_p (.p (some (Lb, (i * 4 + 1)))) (r_fadd' rfl rfl) ?_
  refine O_p (.m (some mr)) (by exact (r_ld rfl hH11.get2 ((foc_get hrw hi rfl (by decide)).trans rfl))) ?_
  refine O_p (.s (txt tp)) (r_mv rfl) ?_
  refine O_nh (by exact r_mdel (k := tp) hH11.top3 hmb rfl rfl) fun H12 hA13 => ?_
  obtain ⟨bm14, hMb15, hH16⟩ := hA13
  refine O_nil ?_
  refine C_seq ?_
  refine C_seq ?_
  refine C_region ?_
  refine O_p (.p (some (Lb, (i * 4 + 0)))) (r_mv rfl) ?_
  refine O_p (.p (some (Lb, (i * 4 + 0)))) (r_nilc rfl) ?_
  refine O_p (.p (some (Lb, (i * 4 + 1)))) (r_fadd' rfl rfl) ?_
  refine O_p (.m (some mr)) (by exact (r_ld rfl hH16.get3 ((foc_get hrw hi rfl (by decide)).trans rfl))) ?_
  refine O_p (.i .i64 (((((mdel m tp)).length : Nat)) : Int)) (r_mlen hH16.get0 hMb15 rfl) ?_
  refine O_p (.b false) (by exact (by rw [r_geq rfl rfl, decide_eq_false (by omega)])) ?_
  refine O_nil ?_
  refine C_cond (x := false) rfl (fun h => by cases h) (fun _ => ?_)
  refine C_skip ?_
  refine C_seq ?_
  refine C_region ?_
  refine O_p (.p (some (Lb, (i * 4 + 0)))) (r_mv rfl) ?_
  refine O_p (.p (some (Lb, (i * 4 + 0)))) (r_nilc rfl) ?_
  refine O_p (.p (some (Lb, (i * 4 + 1)))) (r_fadd' rfl rfl) ?_
  refine O_p (.m (some mr)) (by exact (r_ld rfl hH16.get3 ((foc_get hrw hi rfl (by decide)).trans rfl))) ?_
  refine O_p (.s (txt tp)) (r_mv rfl) ?_
  refine O_p (.i .i64 mode) (r_mv rfl) ?_
  refine O_p (.agg [(.i .i64 mode), (.b false)]) (r_build rfl) ?_
  refine O_nh (by exact r_mput (k := tp) (v := (.agg [(.i .i64 mode), (.b false)])) hH16.top0 hMb15 rfl rfl rfl) fun H17 hA18 => ?_
  obtain ⟨bm19, hMb20, hH21⟩ := hA18
  refine O_nil ?_
  refine C_seq ?_
  refine C_region ?_
  refine O_p (.i .i64 0) (r_mv rfl) ?_
  refine O_nil ?_
  refine C_ret ?_
  have hH22 := (hH21.sub1)
  have hH23 := ((hH22.top2).top2)
  exact ⟨.inr rfl, _, resL_one (r_tmp (v := (.i .i64 0)) rfl), bm19, hMb20, rfl, hH23⟩
set_option maxHeartbeats 1000000 in
theorem sub_fail_full {H : AH} {R : HL} {F Lb cm np i room : Nat} {rws : List (List AV)} {mr : Nat} {mb : Blk} {m : ML} {tp : List UInt8} {mode md : Int} {v : AV} {lost : Int} (hk : i < np) (hrw : ∀ x ∈ rws, x.length = 4) (hi : i < rws.length) (hmb : Mb m mb) (hget : mget m tp = some (sub md true)) (hml : 64 ≤ (mdel m tp).length) (hm : 0 ≤ mode ∧ mode ≤ 2) (htp : 0 < tp.length ∧ tp.length ≤ 256) (hH0 : Hs H ([(F, some (.cells ([(.sl (some (Lb, 0)) np np 0), (.i .i64 ((room : Nat) : Int)), (.m (some cm))]) true))] ++ ([(Lb, some (.cells (((rws).set i (prow true (some mr) v lost)).flatten) true))] ++ ([(mr, some mb)] ++ (R))))) : Ev tabA spA (.fn (.func 14) [] []) [.p (some (F, 0)), .i .i64 i, .s (txt tp), .i .i64 mode] H (fun r H' => ∃ mb', Mb (mdel m tp) mb' ∧ r = .i .i64 9 ∧ Hs H' ([(F, some (.cells [.sl (some (Lb, 0)) np np 0, .i .i64 ((room : Nat) : Int), .m (some cm)] true))] ++ ([(Lb, some (.cells (rws.set i (prow true (some mr) v lost)).flatten true))] ++ ([(mr, some mb')] ++ R)))) := by
  refine Ev_C (F := x14) rfl ?_
  refine C_seq ?_
  refine C_region ?_
  refine O_p (.i .i64 0) (r_mv rfl) ?_
  refine O_nil ?_
  refine C_seq ?_
  refine C_region ?_
  refine O_p (.p (some (F, 0))) (r_mv rfl) ?_
  refine O_p (.i .i64 ((i : Nat) : Int)) (r_mv rfl) ?_
  refine O_call (Ev.mono (at_ev (k := i) hk hH0) fun v1 H2 hq3 => ?_)
  obtain ⟨rfl, hH4⟩ := hq3
  refine O_p (.p (some (Lb, (i * 4 + 0)))) (r_mv rfl) ?_
  refine O_nil ?_
  refine C_seq ?_
  refine C_block ?_
  refine C_seq ?_
  refine C_region ?_
  refine O_p (.p (some (Lb, (i * 4 + 0)))) (r_mv rfl) ?_
  refine O_p (.b false) (r_nilq_s rfl) ?_
  refine O_p (.b false) (r_mv rfl) ?_
  refine O_gk rfl ?_
  refine O_p (.i .i64 mode) (r_mv rfl) ?_
  refine O_gk rfl ?_
  refine O_p (.b false) (by exact (by rw [r_lss rfl rfl, decide_eq_false (by omega)])) ?_
  refine O_p (.b false) (r_pick_f rfl rfl) ?_
  refine O_p (.b false) (r_mv rfl) ?_
  refine O_gk rfl ?_
  refine O_p (.i .i64 mode) (r_mv rfl) ?_
  refine O_gk rfl ?_
  refine O_p (.b false) (by exact (by rw [r_gtr rfl rfl, decide_eq_false (by omega)])) ?_
  refine O_p (.b false) (r_pick_f rfl rfl) ?_
  refine O_p (.b false) (r_mv rfl) ?_
  refine O_gk rfl ?_
  refine O_p (.s (txt tp)) (r_mv rfl) ?_
  refine O_gk rfl ?_
  refine O_p (.b false) (by exact (by rw [r_eqt (b := ([] : List UInt8)) rfl rfl, decide_eq_false (by intro h; rw [h] at htp; exact absurd htp.1 (by decide))])) ?_
  refine O_p (.b false) (r_pick_f rfl rfl) ?_
  refine O_p (.b false) (r_mv rfl) ?_
  refine O_nil ?_
  refine C_cond (x := false) rfl (fun h => by cases h) (fun _ => ?_)
  refine C_seq ?_
  refine C_region ?_
  refine O_p (.s (txt tp)) (r_mv rfl) ?_
  refine O_p (.i .i64 ((((tp).length : Nat)) : Int)) (r_lent (l := tp) rfl) ?_
  refine O_p (.b false) (by exact (by rw [r_gtr rfl rfl, decide_eq_false (by omega)])) ?_
  refine O_p (.b false) (r_mv rfl) ?_
  refine O_nil ?_
  refine C_cond (x := false) rfl (fun h => by cases h) (fun _ => ?_)
  refine C_seq ?_
  refine C_region ?_
  refine O_p (.p (some (Lb, (i * 4 + 0)))) (r_mv rfl) ?_
  refine O_p (.p (some (Lb, (i * 4 + 0)))) (r_nilc rfl) ?_
  refine O_p (.p (some (Lb, (i * 4 + 0)))) (r_fadd' rfl rfl) ?_
  refine O_p (.b true) (by exact (r_ld rfl hH4.get1 ((foc_get hrw hi rfl (by decide)).trans rfl))) ?_
  refine O_p (.b false) (r_un rfl rfl) ?_
  refine O_p (.b false) (r_mv rfl) ?_
  refine O_nil ?_
  refine C_cond (x := false) rfl (fun h => by cases h) (fun _ => ?_)
  refine C_skip ?_
  refine C_seq ?_
  refine C_region ?_
  refine O_p (.p (some (Lb, (i * 4 + 0)))) (r_mv rfl) ?_
  refine O_p (.p (some (Lb, (i * 4 + 0)))) (r_nilc rfl) ?_
  refine O_p (.p (some (Lb, (i * 4 + 1)))) (r_fadd' rfl rfl) ?_
  refine O_p (.m (some mr)) (by exact (r_ld rfl hH4.get1 ((foc_get hrw hi rfl (by decide)).trans rfl))) ?_
  refine O_p (.s (txt tp)) (r_mv rfl) ?_
  refine O_p (.tup [(.agg [(.i .i64 md), (.b true)]), (.b true)]) (by exact ((r_mget (m := m) (k := tp) hH4.get2 hmb rfl rfl true).trans (by first | (rw [hget]; rfl) | rw [hget]))) ?_
  refine O_p (.tup [(.agg [(.i .i64 md), (.b true)]), (.b true)]) (r_mv rfl) ?_
  refine O_p (.agg [(.i .i64 md), (.b true)]) (r_ext rfl rfl) ?_
  refine O_p (.b true) (r_ext rfl rfl) ?_
  refine O_alloc fun n5 H6 hN7 => ?_
  have hH8 := hH4.new hN7
  refine O_store (vs := [(.i .i64 md), (.b true)]) (c' := [(.i .i64 md), (.b true)]) rfl (by rfl) hH8.get0 rfl (List.cons_ne_nil _ _) (Nat.le_of_ble_eq_true rfl) rfl fun H9 hW10 => ?_
  have hH11 := hH8.wr0 hW10
  refine O_p (.b true) (r_mv rfl) ?_
  refine O_nil ?_
  refine C_seq ?_
  refine C_seq ?_
  refine C_region ?_
  refine O_p (.b true) (r_mv rfl) ?_
  refine O_p (.b true) (r_mv rfl) ?_
  refine O_gk rfl ?_
  refine O_p (.p (some (n5, 1))) (r_fadd' rfl rfl) ?_
  refine O_gk rfl ?_
  refine O_p (.b true) (r_ld rfl hH11.get0 rfl) ?_
  refine O_gk rfl ?_
  refine O_p (.b false) (r_un rfl rfl) ?_
  refine O_p (.b false) (r_pick_t rfl rfl) ?_
  refine O_nil ?_
  refine C_cond (x := false) rfl (fun h => by cases h) (fun _ => ?_)
  refine C_skip ?_
  refine C_seq ?_
  refine C_region ?_
  refine O_p (.p (some (Lb, (i * 4 + 0)))) (r_mv rfl) ?_
  refine O_p (.p (some (Lb, (i * 4 + 0)))) (r_nilc rfl) ?_
  refine O_p (.p (some (Lb, (i * 4 + 1)))) (r_fadd' rfl rfl) ?_
  refine O_p (.m (some mr)) (by exact (r_ld rfl hH11.get2 ((foc_get hrw hi rfl (by decide)).trans rfl))) ?_
  refine O_p (.s (txt tp)) (r_mv rfl) ?_
  refine O_nh (by exact r_mdel (k := tp) hH11.top3 hmb rfl rfl) fun H12 hA13 => ?_
  obtain ⟨bm14, hMb15, hH16⟩ := hA13
  refine O_nil ?_
  refine C_seq ?_
  refine C_seq ?_
  refine C_region ?_
  refine O_p (.p (some (Lb, (i * 4 + 0)))) (r_mv rfl) ?_
  refine O_p (.p (some (Lb, (i * 4 + 0)))) (r_nilc rfl) ?_
  refine O_p (.p (some (Lb, (i * 4 + 1)))) (r_fadd' rfl rfl) ?_
  refine O_p (.m (some mr)) (by exact (r_ld rfl hH16.get3 ((foc_get hrw hi rfl (by decide)).trans rfl))) ?_
  refine O_p (.i .i64 (((((mdel m tp)).length : Nat)) : Int)) (r_mlen hH16.get0 hMb15 rfl) ?_
  refine O_p (.b true) (by exact (by rw [r_geq rfl rfl, decide_eq_true (by omega)])) ?_
  refine O_nil ?_
  refine C_cond (x := true) rfl (fun _ => ?_) (fun h => by cases h)
  refine C_seq ?_
  refine C_region ?_
  refine O_p (.i .i64 9) (r_mv rfl) ?_
  refine O_nil ?_
  refine C_ret ?_
  refine nx_ret ?_
  have hH17 := (hH16.sub1)
  have hH18 := ((hH17.top2).top2)
  exact ⟨.inr rfl, _, resL_one (r_tmp (v := (.i .i64 9)) rfl), bm14, hMb15, rfl, hH18⟩
set_option maxHeartbeats 1000000 in
theorem drop_none {H : AH} {R : HL} {F Lb cm np i room : Nat} {rws : List (List AV)} {mr : Nat} {mb : Blk} {m : ML} {tp : List UInt8} {v : AV} {lost : Int} (hk : i < np) (hrw : ∀ x ∈ rws, x.length = 4) (hi : i < rws.length) (hmb : Mb m mb) (hget : mget m tp = none) (hH0 : Hs H ([(F, some (.cells ([(.sl (some (Lb, 0)) np np 0), (.i .i64 ((room : Nat) : Int)), (.m (some cm))]) true))] ++ ([(Lb, some (.cells (((rws).set i (prow true (some mr) v lost)).flatten) true))] ++ ([(mr, some mb)] ++ (R))))) : Ev tabA spA (.fn (.func 20) [] []) [.p (some (F, 0)), .i .i64 i, .s (txt tp)] H (fun r H' => r = .i .i64 12 ∧ Hs H' ([(F, some (.cells ([(.sl (some (Lb, 0)) np np 0), (.i .i64 ((room : Nat) : Int)), (.m (some cm))]) true))] ++ ([(Lb, some (.cells (((rws).set i (prow true (some mr) v lost)).flatten) true))] ++ ([(mr, some mb)] ++ (R))))) := by
  refine Ev_C (F := x20) rfl ?_
  refine C_seq ?_
  refine C_region ?_
  refine O_box (z := [(.s (txt tp))]) rfl fun n1 H2 hN3 => ?_
  have hH4 := hH0.new hN3
  refine O_p (.i .i64 0) (r_mv rfl) ?_
  refine O_nil ?_
  refine C_seq ?_
  refine C_region ?_
  refine O_p (.p (some (F, 0))) (r_mv rfl) ?_
  refine O_p (.i .i64 ((i : Nat) : Int)) (r_mv rfl) ?_
  have hH5 := (hH4.top1)
  refine O_call (Ev.mono (at_ev (k := i) hk hH5) fun v6 H7 hq8 => ?_)
  obtain ⟨rfl, hH9⟩ := hq8
  refine O_p (.p (some (Lb, (i * 4 + 0)))) (r_mv rfl) ?_
  refine O_nil ?_
  refine C_seq ?_
  refine C_block ?_
  refine C_seq ?_
  refine C_region ?_
  refine O_p (.p (some (Lb, (i * 4 + 0)))) (r_mv rfl) ?_
  refine O_p (.b false) (r_nilq_s rfl) ?_
  refine O_p (.b false) (r_mv rfl) ?_
  refine O_nil ?_
  refine C_cond (x := false) rfl (fun h => by cases h) (fun _ => ?_)
  refine C_seq ?_
  refine C_region ?_
  refine O_p (.p (some (Lb, (i * 4 + 0)))) (r_mv rfl) ?_
  refine O_p (.p (some (Lb, (i * 4 + 0)))) (r_nilc rfl) ?_
  refine O_p (.p (some (Lb, (i * 4 + 0)))) (r_fadd' rfl rfl) ?_
  refine O_p (.b true) (by exact (r_ld rfl hH9.get2 ((foc_get hrw hi rfl (by decide)).trans rfl))) ?_
  refine O_p (.b false) (r_un rfl rfl) ?_
  refine O_p (.b false) (r_mv rfl) ?_
  refine O_nil ?_
  refine C_cond (x := false) rfl (fun h => by cases h) (fun _ => ?_)
  refine C_skip ?_
  refine C_seq ?_
  refine C_seq ?_
  refine C_draw fun b10 H11 hbase12 hA13 => ?_
  have hH14 : Hs H11 (asideL b10 [9] ++ _) := hH9.aside hA13 [9] hbase12 rfl (by decide)
  have hH15 : Hs H11 ([(b10 + 9, none)] ++ _) := hH14
  refine D_l (v := (.p (some (Lb, (i * 4 + 0))))) rfl rfl rfl (r_mv rfl) ?_
  refine D_l (v := (.p (some (Lb, (i * 4 + 0))))) rfl rfl rfl (r_nilc rfl) ?_
  refine D_l (v := (.p (some (Lb, (i * 4 + 1))))) rfl rfl rfl (r_fadd' rfl rfl) ?_
  refine D_r (v := (.m (some mr))) rfl rfl rfl (by exact (r_ld rfl hH15.get3 ((foc_get hrw hi rfl (by decide)).trans rfl))) ?_
  refine D_r (v := (.s (txt tp))) rfl rfl rfl (r_ld rfl hH15.get2 rfl) ?_
  refine D_r (v := (.tup [(.agg [(.i .i64 0), (.b false)]), (.b false)])) rfl rfl rfl (by exact ((r_mget (m := m) (k := tp) hH15.get4 hmb rfl rfl true).trans (by first | (rw [hget]; rfl) | rw [hget]))) ?_
  refine D_l (v := (.tup [(.agg [(.i .i64 0), (.b false)]), (.b false)])) rfl rfl rfl (r_mv rfl) ?_
  refine D_l (v := (.agg [(.i .i64 0), (.b false)])) rfl rfl rfl (r_ext rfl rfl) ?_
  refine D_l (v := (.b false)) rfl rfl rfl (r_ext rfl rfl) ?_
  refine D_m (f := fun n => ((.p (some (n, 0))), .cells [(.i .i64 0), (.b false)] true)) rfl rfl fun H17 hW18 => ?_
  have hH20 := hH15.wr0 hW18
  generalize hn19 : b10 + 9 = n16 at hW18 hH20 ⊢
  refine And.intro (And.intro (Or.inr (look_run rfl rfl ((r_mget (m := m) (k := tp) hH20.get4 hmb rfl rfl true).trans (by first | (rw [hget]; rfl) | rw [hget])))) (And.intro (Or.inr (look_run rfl rfl (r_ld rfl hH20.get2 rfl))) (And.intro (Or.inr (look_run rfl rfl (r_ld rfl hH20.get3 ((foc_get hrw hi rfl (by decide)).trans rfl)))) True.intro))) ?_
  refine D_store (vs := [(.i .i64 0), (.b false)]) (c' := [(.i .i64 0), (.b false)]) rfl (by rfl) hH20.get0 rfl (List.cons_ne_nil _ _) (Nat.le_of_ble_eq_true rfl) rfl fun H21 hW22 => ?_
  have hH23 := hH20.wr0 hW22
  refine And.intro (And.intro (Or.inl rfl) (And.intro (Or.inl rfl) (And.intro (Or.inl rfl) True.intro))) ?_
  refine D_l (v := (.b false)) rfl rfl rfl (r_mv rfl) ?_
  refine D_nil ?_
  refine C_seq ?_
  refine C_region ?_
  refine O_p (.b false) (r_mv rfl) ?_
  refine O_p (.b true) (r_un rfl rfl) ?_
  refine O_nil ?_
  refine C_cond (x := true) rfl (fun _ => ?_) (fun h => by cases h)
  refine C_seq ?_
  refine C_region ?_
  refine O_p (.i .i64 12) (r_mv rfl) ?_
  refine O_nil ?_
  refine C_ret ?_
  refine nx_ret ?_
  have hH24 := ((hH23.sub0).sub1)
  have hH25 := (((hH24.top2).top2).top2)
  exact ⟨.inr rfl, _, resL_one (r_tmp (v := (.i .i64 12)) rfl), rfl, hH25⟩
set_option maxHeartbeats 1000000 in
theorem dropg_ev {H : AH} {R : HL} {F Lb cm np i room : Nat} {rws : List (List AV)} {D : HL} {mr : Nat} {mb : Blk} {m : ML} {tp : List UInt8} {md : Int} {fl : Bool} {v : AV} {lost : Int} {c : List AV} {rows : List (List AV)} {w : List It} (hk : i < np) (hrw : ∀ x ∈ rws, x.length = 4) (hi : i < rws.length) (hmb : Mb m mb) (hget : mget m tp = some (sub md fl)) (hsq : Sq 5 v c rows.flatten) (hl5 : ∀ x ∈ rows, x.length = 5) (hir : ItsR D rows w) (hwl : w.length ≤ 1000000) (hH0 : Hs H ([(F, some (.cells ([(.sl (some (Lb, 0)) np np 0), (.i .i64 ((room : Nat) : Int)), (.m (some cm))]) true))] ++ ([(Lb, some (.cells (((rws).set i (prow true (some mr) v lost)).flatten) true))] ++ ([(mr, some mb)] ++ ((qseg v c) ++ (R)))))) : Ev tabA spA (.fn (.func 20) [] []) [.p (some (F, 0)), .i .i64 i, .s (txt tp)] H (fun r H' => ∃ mb' v' c' rows', r = .i .i64 0 ∧ Mb (mdel m tp) mb' ∧ Sq 5 v' c' rows'.flatten ∧ ItsR D rows' (w.filter fun y => !(decide (y.tp = tp))) ∧ Hs H' ([(F, some (.cells [.sl (some (Lb, 0)) np np 0, .i .i64 ((room : Nat) : Int), .m (some cm)] true))] ++ ([(Lb, some (.cells (rws.set i (prow true (some mr) v' lost)).flatten true))] ++ ([(mr, some mb')] ++ (qseg v' c' ++ R))))) := by
  refine Ev_C (F := x20) rfl ?_
  refine C_seq ?_
  refine C_region ?_
  refine O_box (z := [(.s (txt tp))]) rfl fun n1 H2 hN3 => ?_
  have hH4 := hH0.new hN3
  refine O_p (.i .i64 0) (r_mv rfl) ?_
  refine O_nil ?_
  refine C_seq ?_
  refine C_region ?_
  refine O_p (.p (some (F, 0))) (r_mv rfl) ?_
  refine O_p (.i .i64 ((i : Nat) : Int)) (r_mv rfl) ?_
  have hH5 := (hH4.top1)
  refine O_call (Ev.mono (at_ev (k := i) hk hH5) fun v6 H7 hq8 => ?_)
  obtain ⟨rfl, hH9⟩ := hq8
  refine O_p (.p (some (Lb, (i * 4 + 0)))) (r_mv rfl) ?_
  refine O_nil ?_
  refine C_seq ?_
  refine C_block ?_
  refine C_seq ?_
  refine C_region ?_
  refine O_p (.p (some (Lb, (i * 4 + 0)))) (r_mv rfl) ?_
  refine O_p (.b false) (r_nilq_s rfl) ?_
  refine O_p (.b false) (r_mv rfl) ?_
  refine O_nil ?_
  refine C_cond (x := false) rfl (fun h => by cases h) (fun _ => ?_)
  refine C_seq ?_
  refine C_region ?_
  refine O_p (.p (some (Lb, (i * 4 + 0)))) (r_mv rfl) ?_
  refine O_p (.p (some (Lb, (i * 4 + 0)))) (r_nilc rfl) ?_
  refine O_p (.p (some (Lb, (i * 4 + 0)))) (r_fadd' rfl rfl) ?_
  refine O_p (.b true) (by exact (r_ld rfl hH9.get2 ((foc_get hrw hi rfl (by decide)).trans rfl))) ?_
  refine O_p (.b false) (r_un rfl rfl) ?_
  refine O_p (.b false) (r_mv rfl) ?_
  refine O_nil ?_
  refine C_cond (x := false) rfl (fun h => by cases h) (fun _ => ?_)
  refine C_skip ?_
  refine C_seq ?_
  refine C_seq ?_
  refine C_draw fun b10 H11 hbase12 hA13 => ?_
  have hH14 : Hs H11 (asideL b10 [9] ++ _) := hH9.aside hA13 [9] hbase12 rfl (by decide)
  have hH15 : Hs H11 ([(b10 + 9, none)] ++ _) := hH14
  refine D_l (v := (.p (some (Lb, (i * 4 + 0))))) rfl rfl rfl (r_mv rfl) ?_
  refine D_l (v := (.p (some (Lb, (i * 4 + 0))))) rfl rfl rfl (r_nilc rfl) ?_
  refine D_l (v := (.p (some (Lb, (i * 4 + 1))))) rfl rfl rfl (r_fadd' rfl rfl) ?_
  refine D_r (v := (.m (some mr))) rfl rfl rfl (by exact (r_ld rfl hH15.get3 ((foc_get hrw hi rfl (by decide)).trans rfl))) ?_
  refine D_r (v := (.s (txt tp))) rfl rfl rfl (r_ld rfl hH15.get2 rfl) ?_
  refine D_r (v := (.tup [(.agg [(.i .i64 md), (.b fl)]), (.b true)])) rfl rfl rfl (by exact ((r_mget (m := m) (k := tp) hH15.get4 hmb rfl rfl true).trans (by first | (rw [hget]; rfl) | rw [hget]))) ?_
  refine D_l (v := (.tup [(.agg [(.i .i64 md), (.b fl)]), (.b true)])) rfl rfl rfl (r_mv rfl) ?_
  refine D_l (v := (.agg [(.i .i64 md), (.b fl)])) rfl rfl rfl (r_ext rfl rfl) ?_
  refine D_l (v := (.b true)) rfl rfl rfl (r_ext rfl rfl) ?_
  refine D_m (f := fun n => ((.p (some (n, 0))), .cells [(.i .i64 0), (.b false)] true)) rfl rfl fun H17 hW18 => ?_
  have hH20 := hH15.wr0 hW18
  generalize hn19 : b10 + 9 = n16 at hW18 hH20 ⊢
  refine And.intro (And.intro (Or.inr (look_run rfl rfl ((r_mget (m := m) (k := tp) hH20.get4 hmb rfl rfl true).trans (by first | (rw [hget]; rfl) | rw [hget])))) (And.intro (Or.inr (look_run rfl rfl (r_ld rfl hH20.get2 rfl))) (And.intro (Or.inr (look_run rfl rfl (r_ld rfl hH20.get3 ((foc_get hrw hi rfl (by decide)).trans rfl)))) True.intro))) ?_
  refine D_store (vs := [(.i .i64 md), (.b fl)]) (c' := [(.i .i64 md), (.b fl)]) rfl (by rfl) hH20.get0 rfl (List.cons_ne_nil _ _) (Nat.le_of_ble_eq_true rfl) rfl fun H21 hW22 => ?_
  have hH23 := hH20.wr0 hW22
  refine And.intro (And.intro (Or.inl rfl) (And.intro (Or.inl rfl) (And.intro (Or.inl rfl) True.intro))) ?_
  refine D_l (v := (.b true)) rfl rfl rfl (r_mv rfl) ?_
  refine D_nil ?_
  refine C_seq ?_
  refine C_region ?_
  refine O_p (.b true) (r_mv rfl) ?_
  refine O_p (.b false) (r_un rfl rfl) ?_
  refine O_nil ?_
  refine C_cond (x := false) rfl (fun h => by cases h) (fun _ => ?_)
  refine C_skip ?_
  refine C_seq ?_
  refine C_draw fun b24 H25 hbase26 hA27 => ?_
  have hH28 := hH23.keep (by have := hA27.1; omega) (fun q _ => hA27.2 q) ((hH23.old).aside hA27).ok
  refine D_l (v := (.p (some (Lb, (i * 4 + 0))))) rfl rfl rfl (r_mv rfl) ?_
  refine D_l (v := (.p (some (Lb, (i * 4 + 0))))) rfl rfl rfl (r_nilc rfl) ?_
  refine D_l (v := (.p (some (Lb, (i * 4 + 1))))) rfl rfl rfl (r_fadd' rfl rfl) ?_
  refine D_r (v := (.m (some mr))) rfl rfl rfl (by exact (r_ld rfl hH28.get3 ((foc_get hrw hi rfl (by decide)).trans rfl))) ?_
  refine D_r (v := (.s (txt tp))) rfl rfl rfl (r_ld rfl hH28.get2 rfl) ?_
  refine D_nh rfl rfl (by exact r_mdel (k := tp) hH28.top4 hmb rfl rfl) fun H29 hA30 => ?_
  obtain ⟨bm31, hMb32, hH33⟩ := hA30
  refine And.intro (And.intro (Or.inl rfl) (And.intro (Or.inl rfl) True.intro)) ?_
  refine D_nil ?_
  refine C_seq ?_
  refine C_region ?_
  refine O_p (.p (some (Lb, (i * 4 + 0)))) (r_mv rfl) ?_
  refine O_p (.p (some (Lb, (i * 4 + 0)))) (r_mv rfl) ?_
  refine O_p (.p (some (Lb, (i * 4 + 0)))) (r_nilc rfl) ?_
  refine O_p (.p (some (Lb, (i * 4 + 2)))) (r_fadd' rfl rfl) ?_
  refine O_p v (by exact (r_ld rfl hH33.get4 ((foc_get hrw hi rfl (by decide)).trans rfl))) ?_
  refine O_p (.fn (.func 34) [] [(.p (some (n1, 0)))]) rfl ?_
  have hH34 := ((hH33.top3).top5)
  refine O_call (Ev.mono (delf_ev hsq hl5 hir (tst34 (Q := n1) (tq := tp)) hwl hH34) fun v35 H36 hq37 => ?_)
  obtain ⟨c38, rows39, hSq40, hIr41, hH42⟩ := hq37
  obtain ⟨qa43, ql44, qc45, qg46, rfl⟩ := hSq40.isSl
  refine O_p (.p (some (Lb, (i * 4 + 0)))) (r_nilc rfl) ?_
  refine O_p (.p (some (Lb, (i * 4 + 2)))) (r_fadd' rfl rfl) ?_
  refine O_store (vs := [(.sl qa43 ql44 qc45 qg46)]) (c' := ((rws).set i (prow true (some mr) (.sl qa43 ql44 qc45 qg46) lost)).flatten) rfl (by rfl) hH42.get5 rfl (List.cons_ne_nil _ _) (foc_len (n := 1) hrw hi rfl (Nat.le_of_ble_eq_true rfl)) (foc_put hrw hi rfl (Nat.le_of_ble_eq_true rfl) rfl) fun H47 hW48 => ?_
  have hH49 := hH42.wr5 hW48
  refine O_nil ?_
  refine C_seq ?_
  refine C_region ?_
  refine O_p (.i .i64 0) (r_mv rfl) ?_
  refine O_nil ?_
  refine C_ret ?_
  have hH50 := ((hH49.sub1).sub2)
  have hH51 := (((hH50.top1).top3).top3)
  exact ⟨.inr rfl, _, resL_one (r_tmp (v := (.i .i64 0)) rfl), bm31, (.sl qa43 ql44 qc45 qg46), c38, rows39, rfl, hMb32, hSq40, hIr41, hH51⟩
set_option maxHeartbeats 1000000 in
theorem failed_off {H : AH} {R : HL} {F Lb cm np i room : Nat} {rws : List (List AV)} {tp : List UInt8} (hk : i < np) (hrw : ∀ x ∈ rws, x.length = 4) (hi : i < rws.length)  (hH0 : Hs H ([(F, some (.cells ([(.sl (some (Lb, 0)) np np 0), (.i .i64 ((room : Nat) : Int)), (.m (some cm))]) true))] ++ ([(Lb, some (.cells (((rws).set i (prow false none (.sl none 0 0 0) 0)).flatten) true))] ++ (R)))) : Ev tabA spA (.fn (.func 15) [] []) [.p (some (F, 0)), .i .i64 i, .s (txt tp)] H (fun r H' => r = .b false ∧ Hs H' ([(F, some (.cells ([(.sl (some (Lb, 0)) np np 0), (.i .i64 ((room : Nat) : Int)), (.m (some cm))]) true))] ++ ([(Lb, some (.cells (((rws).set i (prow false none (.sl none 0 0 0) 0)).flatten) true))] ++ (R)))) := by
  refine Ev_C (F := x15) rfl ?_
  refine C_seq ?_
  refine C_region ?_
  refine O_p (.b false) (r_mv rfl) ?_
  refine O_nil ?_
  refine C_seq ?_
  refine C_region ?_
  refine O_p (.p (some (F, 0))) (r_mv rfl) ?_
  refine O_p (.i .i64 ((i : Nat) : Int)) (r_mv rfl) ?_
  refine O_call (Ev.mono (at_ev (k := i) hk hH0) fun v1 H2 hq3 => ?_)
  obtain ⟨rfl, hH4⟩ := hq3
  refine O_p (.p (some (Lb, (i * 4 + 0)))) (r_mv rfl) ?_
  refine O_nil ?_
  refine C_seq ?_
  refine C_region ?_
  refine O_p (.p (some (Lb, (i * 4 + 0)))) (r_mv rfl) ?_
  refine O_p (.b true) (r_nilq_s rfl) ?_
  refine O_p (.b true) (r_mv rfl) ?_
  refine O_gk rfl ?_
  refine O_p (.p (some (Lb, (i * 4 + 0)))) (r_mv rfl) ?_
  refine O_gk rfl ?_
  refine O_p (.p (some (Lb, (i * 4 + 0)))) (r_nilc rfl) ?_
  refine O_gk rfl ?_
  refine O_p (.p (some (Lb, (i * 4 + 1)))) (r_fadd' rfl rfl) ?_
  refine O_gk rfl ?_
  refine O_p (.m none) (by exact (r_ld rfl hH4.get1 ((foc_get hrw hi rfl (by decide)).trans rfl))) ?_
  refine O_gk rfl ?_
  refine O_p (.s (txt tp)) (r_mv rfl) ?_
  refine O_gk rfl ?_
  refine O_p (.agg [(.i .i64 0), (.b false)]) (r_mget0 (k := tp) rfl rfl false) ?_
  refine O_gk rfl ?_
  refine O_p (.b false) (r_fld rfl rfl) ?_
  refine O_p (.b false) (r_pick_t rfl rfl) ?_
  refine O_p (.b false) (r_mv rfl) ?_
  refine O_nil ?_
  refine C_ret ?_
  have hH5 := ((hH4.top1).top1)
  exact ⟨.inr rfl, _, resL_one (r_tmp (v := (.b false)) rfl), rfl, hH5⟩
set_option maxHeartbeats 1000000 in
theorem leaveg_ev {H : AH} {R : HL} {F Lb cm np i room : Nat} {rws : List (List AV)} {mr : Nat} {v : AV} {lost : Int} (hk : i < np) (hrw : ∀ x ∈ rws, x.length = 4) (hi : i < rws.length)  (hH0 : Hs H ([(F, some (.cells ([(.sl (some (Lb, 0)) np np 0), (.i .i64 ((room : Nat) : Int)), (.m (some cm))]) true))] ++ ([(Lb, some (.cells (((rws).set i (prow true (some mr) v lost)).flatten) true))] ++ (R)))) : Ev tabA spA (.fn (.func 21) [] []) [.p (some (F, 0)), .i .i64 i] H (fun r H' => r = .i .i64 0 ∧ Hs H' ([(F, some (.cells ([(.sl (some (Lb, 0)) np np 0), (.i .i64 ((room : Nat) : Int)), (.m (some cm))]) true))] ++ ([(Lb, some (.cells (((rws).set i (prow false none (.sl none 0 0 0) 0)).flatten) true))] ++ (R)))) := by
  refine Ev_C (F := x21) rfl ?_
  refine C_seq ?_
  refine C_region ?_
  refine O_p (.i .i64 0) (r_mv rfl) ?_
  refine O_nil ?_
  refine C_seq ?_
  refine C_region ?_
  refine O_p (.p (some (F, 0))) (r_mv rfl) ?_
  refine O_p (.i .i64 ((i : Nat) : Int)) (r_mv rfl) ?_
  refine O_call (Ev.mono (at_ev (k := i) hk hH0) fun v1 H2 hq3 => ?_)
  obtain ⟨rfl, hH4⟩ := hq3
  refine O_p (.p (some (Lb, (i * 4 + 0)))) (r_mv rfl) ?_
  refine O_nil ?_
  refine C_seq ?_
  refine C_block ?_
  refine C_seq ?_
  refine C_region ?_
  refine O_p (.p (some (Lb, (i * 4 + 0)))) (r_mv rfl) ?_
  refine O_p (.b false) (r_nilq_s rfl) ?_
  refine O_p (.b false) (r_mv rfl) ?_
  refine O_nil ?_
  refine C_cond (x := false) rfl (fun h => by cases h) (fun _ => ?_)
  refine C_seq ?_
  refine C_region ?_
  refine O_p (.p (some (Lb, (i * 4 + 0)))) (r_mv rfl) ?_
  refine O_p (.p (some (Lb, (i * 4 + 0)))) (r_nilc rfl) ?_
  refine O_p (.p (some (Lb, (i * 4 + 0)))) (r_fadd' rfl rfl) ?_
  refine O_p (.b true) (by exact (r_ld rfl hH4.get1 ((foc_get hrw hi rfl (by decide)).trans rfl))) ?_
  refine O_p (.b false) (r_un rfl rfl) ?_
  refine O_p (.b false) (r_mv rfl) ?_
  refine O_nil ?_
  refine C_cond (x := false) rfl (fun h => by cases h) (fun _ => ?_)
  refine C_skip ?_
  refine C_seq ?_
  refine C_region ?_
  refine O_p (.p (some (Lb, (i * 4 + 0)))) (r_mv rfl) ?_
  refine O_p (.agg [(.b false), (.m none), (.sl none 0 0 0), (.i .i64 0)]) (r_build rfl) ?_
  refine O_p (.p (some (Lb, (i * 4 + 0)))) (r_nilc rfl) ?_
  refine O_store (vs := [(.b false), (.m none), (.sl none 0 0 0), (.i .i64 0)]) (c' := ((rws).set i (prow false none (.sl none 0 0 0) 0)).flatten) rfl (by rfl) hH4.get1 rfl (List.cons_ne_nil _ _) (foc_len (n := 4) hrw hi rfl (Nat.le_of_ble_eq_true rfl)) (foc_put hrw hi rfl (Nat.le_of_ble_eq_true rfl) rfl) fun H5 hW6 => ?_
  have hH7 := hH4.wr1 hW6
  refine O_nil ?_
  refine C_seq ?_
  refine C_region ?_
  refine O_p (.i .i64 0) (r_mv rfl) ?_
  refine O_nil ?_
  refine C_ret ?_
  have hH8 := ((hH7.top1).top1)
  exact ⟨.inr rfl, _, resL_one (r_tmp (v := (.i .i64 0)) rfl), rfl, hH8⟩
set_option maxHeartbeats 1000000 in
theorem pub_emp {H : AH} {R : HL} {F Lb cm np i room : Nat} {rws : List (List AV)} {on : Bool} {mo : Option Nat} {v : AV} {lost : Int} {tp dd : List UInt8} {tx : Bool} {da : Option (Nat × Nat)} {dc dg : Nat} (hk : i < np) (hrw : ∀ x ∈ rws, x.length = 4) (hi : i < rws.length) (htp : tp = []) (hH0 : Hs H ([(F, some (.cells ([(.sl (some (Lb, 0)) np np 0), (.i .i64 ((room : Nat) : Int)), (.m (some cm))]) true))] ++ ([(Lb, some (.cells (((rws).set i (prow on mo v lost)).flatten) true))] ++ (R)))) : Ev tabA spA (.fn (.func 13) [] []) [.p (some (F, 0)), .i .i64 i, .s (txt tp), .b tx, .sl da dd.length dc dg] H (fun r H' => r = .tup [.i .i64 0, .i .i64 1] ∧ Hs H' ([(F, some (.cells ([(.sl (some (Lb, 0)) np np 0), (.i .i64 ((room : Nat) : Int)), (.m (some cm))]) true))] ++ ([(Lb, some (.cells (((rws).set i (prow on mo v lost)).flatten) true))] ++ (R)))) := by
  refine Ev_C (F := x13) rfl ?_
  refine C_seq ?_
  refine C_region ?_
  refine O_p (.i .i64 0) (r_mv rfl) ?_
  refine O_p (.i .i64 0) (r_mv rfl) ?_
  refine O_nil ?_
  refine C_seq ?_
  refine C_region ?_
  refine O_p (.p (some (F, 0))) (r_mv rfl) ?_
  refine O_p (.i .i64 ((i : Nat) : Int)) (r_mv rfl) ?_
  refine O_call (Ev.mono (at_ev (k := i) hk hH0) fun v1 H2 hq3 => ?_)
  obtain ⟨rfl, hH4⟩ := hq3
  refine O_p (.p (some (Lb, (i * 4 + 0)))) (r_mv rfl) ?_
  refine O_nil ?_
  refine C_seq ?_
  refine C_block ?_
  refine C_seq ?_
  refine C_region ?_
  refine O_p (.p (some (Lb, (i * 4 + 0)))) (r_mv rfl) ?_
  refine O_p (.b false) (r_nilq_s rfl) ?_
  refine O_p (.b false) (r_mv rfl) ?_
  refine O_gk rfl ?_
  refine O_p (.s (txt tp)) (r_mv rfl) ?_
  refine O_gk rfl ?_
  refine O_p (.b true) (by exact (by rw [r_eqt (b := ([] : List UInt8)) rfl rfl, decide_eq_true htp])) ?_
  refine O_p (.b true) (r_pick_f rfl rfl) ?_
  refine O_p (.b true) (r_mv rfl) ?_
  refine O_nil ?_
  refine C_cond (x := true) rfl (fun _ => ?_) (fun h => by cases h)
  refine C_seq ?_
  refine C_region ?_
  refine O_p (.i .i64 0) (r_mv rfl) ?_
  refine O_p (.i .i64 1) (r_mv rfl) ?_
  refine O_nil ?_
  refine C_ret ?_
  refine bk_ret ?_
  refine nx_ret ?_
  have hH5 := ((hH4.top1).top1)
  exact ⟨.inr rfl, _, resL_cons (r_tmp (v := (.i .i64 0)) rfl) (resL_one (r_tmp (v := (.i .i64 1)) rfl)), rfl, hH5⟩
set_option maxHeartbeats 1000000 in
theorem pub_big {H : AH} {R : HL} {F Lb cm np i room : Nat} {rws : List (List AV)} {on : Bool} {mo : Option Nat} {v : AV} {lost : Int} {tp dd : List UInt8} {tx : Bool} {da : Option (Nat × Nat)} {dc dg : Nat} (hk : i < np) (hrw : ∀ x ∈ rws, x.length = 4) (hi : i < rws.length) (htp : 0 < tp.length ∧ 256 < tp.length) (hH0 : Hs H ([(F, some (.cells ([(.sl (some (Lb, 0)) np np 0), (.i .i64 ((room : Nat) : Int)), (.m (some cm))]) true))] ++ ([(Lb, some (.cells (((rws).set i (prow on mo v lost)).flatten) true))] ++ (R)))) : Ev tabA spA (.fn (.func 13) [] []) [.p (some (F, 0)), .i .i64 i, .s (txt tp), .b tx, .sl da dd.length dc dg] H (fun r H' => r = .tup [.i .i64 0, .i .i64 10] ∧ Hs H' ([(F, some (.cells ([(.sl (some (Lb, 0)) np np 0), (.i .i64 ((room : Nat) : Int)), (.m (some cm))]) true))] ++ ([(Lb, some (.cells (((rws).set i (prow on mo v lost)).flatten) true))] ++ (R)))) := by
  refine Ev_C (F := x13) rfl ?_
  refine C_seq ?_
  refine C_region ?_
  refine O_p (.i .i64 0) (r_mv rfl) ?_
  refine O_p (.i .i64 0) (r_mv rfl) ?_
  refine O_nil ?_
  refine C_seq ?_
  refine C_region ?_
  refine O_p (.p (some (F, 0))) (r_mv rfl) ?_
  refine O_p (.i .i64 ((i : Nat) : Int)) (r_mv rfl) ?_
  refine O_call (Ev.mono (at_ev (k := i) hk hH0) fun v1 H2 hq3 => ?_)
  obtain ⟨rfl, hH4⟩ := hq3
  refine O_p (.p (some (Lb, (i * 4 + 0)))) (r_mv rfl) ?_
  refine O_nil ?_
  refine C_seq ?_
  refine C_block ?_
  refine C_seq ?_
  refine C_region ?_
  refine O_p (.p (some (Lb, (i * 4 + 0)))) (r_mv rfl) ?_
  refine O_p (.b false) (r_nilq_s rfl) ?_
  refine O_p (.b false) (r_mv rfl) ?_
  refine O_gk rfl ?_
  refine O_p (.s (txt tp)) (r_mv rfl) ?_
  refine O_gk rfl ?_
  refine O_p (.b false) (by exact (by rw [r_eqt (b := ([] : List UInt8)) rfl rfl, decide_eq_false (by intro h; rw [h] at htp; exact absurd htp.1 (by decide))])) ?_
  refine O_p (.b false) (r_pick_f rfl rfl) ?_
  refine O_p (.b false) (r_mv rfl) ?_
  refine O_nil ?_
  refine C_cond (x := false) rfl (fun h => by cases h) (fun _ => ?_)
  refine C_seq ?_
  refine C_region ?_
  refine O_p (.s (txt tp)) (r_mv rfl) ?_
  refine O_p (.i .i64 ((((tp).length : Nat)) : Int)) (r_lent (l := tp) rfl) ?_
  refine O_p (.b true) (by exact (by rw [r_gtr rfl rfl, decide_eq_true (by omega)])) ?_
  refine O_p (.b true) (r_mv rfl) ?_
  refine O_gf rfl ?_
  refine O_gf rfl ?_
  refine O_gf rfl ?_
  refine O_p (.b true) (r_pick_t rfl rfl) ?_
  refine O_p (.b true) (r_mv rfl) ?_
  refine O_nil ?_
  refine C_cond (x := true) rfl (fun _ => ?_) (fun h => by cases h)
  refine C_seq ?_
  refine C_region ?_
  refine O_p (.i .i64 0) (r_mv rfl) ?_
  refine O_p (.i .i64 10) (r_mv rfl) ?_
  refine O_nil ?_
  refine C_ret ?_
  refine bk_ret ?_
  refine nx_ret ?_
  have hH5 := ((hH4.top1).top1)
  exact ⟨.inr rfl, _, resL_cons (r_tmp (v := (.i .i64 0)) rfl) (resL_one (r_tmp (v := (.i .i64 10)) rfl)), rfl, hH5⟩
set_option maxHeartbeats 1000000 in
theorem pub_large {H : AH} {R : HL} {F Lb cm np i room : Nat} {rws : List (List AV)} {on : Bool} {mo : Option Nat} {v : AV} {lost : Int} {tp dd : List UInt8} {tx : Bool} {da : Option (Nat × Nat)} {dc dg : Nat} (hk : i < np) (hrw : ∀ x ∈ rws, x.length = 4) (hi : i < rws.length) (htp : 0 < tp.length ∧ tp.length ≤ 256) (hdl : 16384 < dd.length) (hH0 : Hs H ([(F, some (.cells ([(.sl (some (Lb, 0)) np np 0), (.i .i64 ((room : Nat) : Int)), (.m (some cm))]) true))] ++ ([(Lb, some (.cells (((rws).set i (prow on mo v lost)).flatten) true))] ++ (R)))) : Ev tabA spA (.fn (.func 13) [] []) [.p (some (F, 0)), .i .i64 i, .s (txt tp), .b tx, .sl da dd.length dc dg] H (fun r H' => r = .tup [.i .i64 0, .i .i64 10] ∧ Hs H' ([(F, some (.cells ([(.sl (some (Lb, 0)) np np 0), (.i .i64 ((room : Nat) : Int)), (.m (some cm))]) true))] ++ ([(Lb, some (.cells (((rws).set i (prow on mo v lost)).flatten) true))] ++ (R)))) := by
  refine Ev_C (F := x13) rfl ?_
  refine C_seq ?_
  refine C_region ?_
  refine O_p (.i .i64 0) (r_mv rfl) ?_
  refine O_p (.i .i64 0) (r_mv rfl) ?_
  refine O_nil ?_
  refine C_seq ?_
  refine C_region ?_
  refine O_p (.p (some (F, 0))) (r_mv rfl) ?_
  refine O_p (.i .i64 ((i : Nat) : Int)) (r_mv rfl) ?_
  refine O_call (Ev.mono (at_ev (k := i) hk hH0) fun v1 H2 hq3 => ?_)
  obtain ⟨rfl, hH4⟩ := hq3
  refine O_p (.p (some (Lb, (i * 4 + 0)))) (r_mv rfl) ?_
  refine O_nil ?_
  refine C_seq ?_
  refine C_block ?_
  refine C_seq ?_
  refine C_region ?_
  refine O_p (.p (some (Lb, (i * 4 + 0)))) (r_mv rfl) ?_
  refine O_p (.b false) (r_nilq_s rfl) ?_
  refine O_p (.b false) (r_mv rfl) ?_
  refine O_gk rfl ?_
  refine O_p (.s (txt tp)) (r_mv rfl) ?_
  refine O_gk rfl ?_
  refine O_p (.b false) (by exact (by rw [r_eqt (b := ([] : List UInt8)) rfl rfl, decide_eq_false (by intro h; rw [h] at htp; exact absurd htp.1 (by decide))])) ?_
  refine O_p (.b false) (r_pick_f rfl rfl) ?_
  refine O_p (.b false) (r_mv rfl) ?_
  refine O_nil ?_
  refine C_cond (x := false) rfl (fun h => by cases h) (fun _ => ?_)
  refine C_seq ?_
  refine C_region ?_
  refine O_p (.s (txt tp)) (r_mv rfl) ?_
  refine O_p (.i .i64 ((((tp).length : Nat)) : Int)) (r_lent (l := tp) rfl) ?_
  refine O_p (.b false) (by exact (by rw [r_gtr rfl rfl, decide_eq_false (by omega)])) ?_
  refine O_p (.b false) (r_mv rfl) ?_
  refine O_gk rfl ?_
  refine O_p (.sl da dd.length dc dg) (r_mv rfl) ?_
  refine O_gk rfl ?_
  refine O_p (.i .i64 (((dd.length : Nat)) : Int)) (r_len rfl) ?_
  refine O_gk rfl ?_
  refine O_p (.b true) (by exact (by rw [r_gtr rfl rfl, decide_eq_true (by omega)])) ?_
  refine O_p (.b true) (r_pick_f rfl rfl) ?_
  refine O_p (.b true) (r_mv rfl) ?_
  refine O_nil ?_
  refine C_cond (x := true) rfl (fun _ => ?_) (fun h => by cases h)
  refine C_seq ?_
  refine C_region ?_
  refine O_p (.i .i64 0) (r_mv rfl) ?_
  refine O_p (.i .i64 10) (r_mv rfl) ?_
  refine O_nil ?_
  refine C_ret ?_
  refine bk_ret ?_
  refine nx_ret ?_
  have hH5 := ((hH4.top1).top1)
  exact ⟨.inr rfl, _, resL_cons (r_tmp (v := (.i .i64 0)) rfl) (resL_one (r_tmp (v := (.i .i64 10)) rfl)), rfl, hH5⟩
set_option maxHeartbeats 1000000 in
theorem pub_off {H : AH} {R : HL} {F Lb cm np i room : Nat} {rws : List (List AV)} {tp dd : List UInt8} {tx : Bool} {da : Option (Nat × Nat)} {dc dg : Nat} (hk : i < np) (hrw : ∀ x ∈ rws, x.length = 4) (hi : i < rws.length) (htp : 0 < tp.length ∧ tp.length ≤ 256) (hdl : dd.length ≤ 16384) (hH0 : Hs H ([(F, some (.cells ([(.sl (some (Lb, 0)) np np 0), (.i .i64 ((room : Nat) : Int)), (.m (some cm))]) true))] ++ ([(Lb, some (.cells (((rws).set i (prow false none (.sl none 0 0 0) 0)).flatten) true))] ++ (R)))) : Ev tabA spA (.fn (.func 13) [] []) [.p (some (F, 0)), .i .i64 i, .s (txt tp), .b tx, .sl da dd.length dc dg] H (fun r H' => r = .tup [.i .i64 0, .i .i64 11] ∧ Hs H' ([(F, some (.cells ([(.sl (some (Lb, 0)) np np 0), (.i .i64 ((room : Nat) : Int)), (.m (some cm))]) true))] ++ ([(Lb, some (.cells (((rws).set i (prow false none (.sl none 0 0 0) 0)).flatten) true))] ++ (R)))) := by
  refine Ev_C (F := x13) rfl ?_
  refine C_seq ?_
  refine C_region ?_
  refine O_p (.i .i64 0) (r_mv rfl) ?_
  refine O_p (.i .i64 0) (r_mv rfl) ?_
  refine O_nil ?_
  refine C_seq ?_
  refine C_region ?_
  refine O_p (.p (some (F, 0))) (r_mv rfl) ?_
  refine O_p (.i .i64 ((i : Nat) : Int)) (r_mv rfl) ?_
  refine O_call (Ev.mono (at_ev (k := i) hk hH0) fun v1 H2 hq3 => ?_)
  obtain ⟨rfl, hH4⟩ := hq3
  refine O_p (.p (some (Lb, (i * 4 + 0)))) (r_mv rfl) ?_
  refine O_nil ?_
  refine C_seq ?_
  refine C_block ?_
  refine C_seq ?_
  refine C_region ?_
  refine O_p (.p (some (Lb, (i * 4 + 0)))) (r_mv rfl) ?_
  refine O_p (.b false) (r_nilq_s rfl) ?_
  refine O_p (.b false) (r_mv rfl) ?_
  refine O_gk rfl ?_
  refine O_p (.s (txt tp)) (r_mv rfl) ?_
  refine O_gk rfl ?_
  refine O_p (.b false) (by exact (by rw [r_eqt (b := ([] : List UInt8)) rfl rfl, decide_eq_false (by intro h; rw [h] at htp; exact absurd htp.1 (by decide))])) ?_
  refine O_p (.b false) (r_pick_f rfl rfl) ?_
  refine O_p (.b false) (r_mv rfl) ?_
  refine O_nil ?_
  refine C_cond (x := false) rfl (fun h => by cases h) (fun _ => ?_)
  refine C_seq ?_
  refine C_region ?_
  refine O_p (.s (txt tp)) (r_mv rfl) ?_
  refine O_p (.i .i64 ((((tp).length : Nat)) : Int)) (r_lent (l := tp) rfl) ?_
  refine O_p (.b false) (by exact (by rw [r_gtr rfl rfl, decide_eq_false (by omega)])) ?_
  refine O_p (.b false) (r_mv rfl) ?_
  refine O_gk rfl ?_
  refine O_p (.sl da dd.length dc dg) (r_mv rfl) ?_
  refine O_gk rfl ?_
  refine O_p (.i .i64 (((dd.length : Nat)) : Int)) (r_len rfl) ?_
  refine O_gk rfl ?_
  refine O_p (.b false) (by exact (by rw [r_gtr rfl rfl, decide_eq_false (by omega)])) ?_
  refine O_p (.b false) (r_pick_f rfl rfl) ?_
  refine O_p (.b false) (r_mv rfl) ?_
  refine O_nil ?_
  refine C_cond (x := false) rfl (fun h => by cases h) (fun _ => ?_)
  refine C_seq ?_
  refine C_region ?_
  refine O_p (.p (some (Lb, (i * 4 + 0)))) (r_mv rfl) ?_
  refine O_p (.p (some (Lb, (i * 4 + 0)))) (r_nilc rfl) ?_
  refine O_p (.p (some (Lb, (i * 4 + 0)))) (r_fadd' rfl rfl) ?_
  refine O_p (.b false) (by exact (r_ld rfl hH4.get1 ((foc_get hrw hi rfl (by decide)).trans rfl))) ?_
  refine O_p (.b true) (r_un rfl rfl) ?_
  refine O_p (.b true) (r_mv rfl) ?_
  refine O_nil ?_
  refine C_cond (x := true) rfl (fun _ => ?_) (fun h => by cases h)
  refine C_seq ?_
  refine C_region ?_
  refine O_p (.i .i64 0) (r_mv rfl) ?_
  refine O_p (.i .i64 11) (r_mv rfl) ?_
  refine O_nil ?_
  refine C_ret ?_
  refine bk_ret ?_
  refine nx_ret ?_
  have hH5 := ((hH4.top1).top1)
  exact ⟨.inr rfl, _, resL_cons (r_tmp (v := (.i .i64 0)) rfl) (resL_one (r_tmp (v := (.i .i64 11)) rfl)), rfl, hH5⟩


set_option linter.unusedVariables false
set_option linter.unusedSimpArgs false
set_option maxRecDepth 100000 in
set_option maxHeartbeats 2000000 in
theorem pubP_none {H : AH} {R D B : HL} {F Lb cm room i n n0 : Nat} {cb : Blk} {cmL : ML} {ps : List Pc} {p0 : Pc} {tp dd : List UInt8} {tx : Bool} {da : Option (Nat × Nat)} {dc dg : Nat} (hip : i < ps.length) (hps : ps.length ≤ 16) (hrd : ∀ H' R', Hs H' ([(Lb, some (.cells ((ps.map Pc.row).flatten) true))] ++ R') → ∃ c mu, H'.get Lb = some (.cells c mu) ∧ takeAt c (i * 4) 4 = some [.b true, .m (p0.mo.map (·.1)), p0.v, .i .i64 ((p0.a.lost : Nat) : Int)]) (hok : ∀ p ∈ ps, p.ok D) (hinv : ∀ p ∈ ps, p.a.inv room n) (hroom : 1 ≤ room ∧ room ≤ 64) (hn6 : n ≤ 1000000) (hcb : Mb cmL cb) (hcg : mget cmL tp = none) (hn0 : n0 ≤ 1000000) (htp : 0 < tp.length ∧ tp.length ≤ 256) (hdl : dd.length ≤ 16384) (hdg : dg = 0 ∨ dg = 1) (hdc : dd.length ≤ dc) (hdm : dc ≤ 9223372036854775807) (hdb : ∀ H', Hs H' B → Bs H' (.sl da dd.length dc dg) dd) (hH0 : Hs H ([(F, some (.cells ([(.sl (some (Lb, 0)) ps.length ps.length 0), (.i .i64 ((room : Nat) : Int)), (.m (some cm))]) true))] ++ ([(Lb, some (.cells ((ps.map Pc.row).flatten) true))] ++ ([(cm, some cb)] ++ ((ps.flatMap Pc.seg) ++ (D ++ (B ++ (R)))))))) : Ev tabA spA (.fn (.func 13) [] []) [.p (some (F, 0)), .i .i64 ((i : Nat) : Int), .s (txt tp), .b tx, .sl da dd.length dc dg] H (fun r H' => ∃ (qs : List Pc) (D' : HL) (cb2 : Blk), r = .tup [.i .i64 (((pubN i room (⟨tp, ((i : Nat) : Int), 0, tx, dd⟩ : It) (ps.map Pc.a) ps.length).2 : Nat) : Int), .i .i64 0] ∧ qs.map Pc.a = (pubN i room (⟨tp, ((i : Nat) : Int), 0, tx, dd⟩ : It) (ps.map Pc.a) ps.length).1 ∧ (∀ p ∈ qs, p.ok D') ∧ (∀ H', Hs H' D' → Hs H' D) ∧ qs.length = ps.length ∧ Mb (mset cmL tp (.i .i64 1)) cb2 ∧ Hs H' ([(F, some (.cells ([(.sl (some (Lb, 0)) ps.length ps.length 0), (.i .i64 ((room : Nat) : Int)), (.m (some cm))]) true))] ++ ([(Lb, some (.cells ((qs.map Pc.row).flatten) true))] ++ ([(cm, some cb2)] ++ ((qs.flatMap Pc.seg) ++ (D' ++ (B ++ (R)))))))) := by
  refine Ev_C (F := x13) rfl ?_
  refine C_seq ?_
  refine C_region ?_
  refine O_p (.i .i64 0) (r_mv rfl) ?_
  refine O_p (.i .i64 0) (r_mv rfl) ?_
  refine O_nil ?_
  refine C_seq ?_
  refine C_region ?_
  refine O_p (.p (some (F, 0))) (r_mv rfl) ?_
  refine O_p (.i .i64 ((i : Nat) : Int)) (r_mv rfl) ?_
  refine O_call (Ev.mono (at_ev (k := i) (np := ps.length) hip hH0) fun v1 H2 hq3 => ?_)
  obtain ⟨rfl, hH4⟩ := hq3
  refine O_p (.p (some (Lb, (i * 4 + 0)))) (r_mv rfl) ?_
  refine O_nil ?_
  refine C_seq ?_
  refine C_block ?_
  refine C_seq ?_
  refine C_region ?_
  refine O_p (.p (some (Lb, (i * 4 + 0)))) (r_mv rfl) ?_
  refine O_p (.b false) (r_nilq_s rfl) ?_
  refine O_p (.b false) (r_mv rfl) ?_
  refine O_gk rfl ?_
  refine O_p (.s (txt tp)) (r_mv rfl) ?_
  refine O_gk rfl ?_
  refine O_p (.b false) (by exact (by rw [r_eqt (b := ([] : List UInt8)) rfl rfl, decide_eq_false (by intro h; rw [h] at htp; exact absurd htp.1 (by decide))])) ?_
  refine O_p (.b false) (r_pick_f rfl rfl) ?_
  refine O_p (.b false) (r_mv rfl) ?_
  refine O_nil ?_
  refine C_cond (x := false) rfl (fun h => by cases h) (fun _ => ?_)
  refine C_seq ?_
  refine C_region ?_
  refine O_p (.s (txt tp)) (r_mv rfl) ?_
  refine O_p (.i .i64 ((((tp).length : Nat)) : Int)) (r_lent (l := tp) rfl) ?_
  refine O_p (.b false) (by exact (by rw [r_gtr rfl rfl, decide_eq_false (by omega)])) ?_
  refine O_p (.b false) (r_mv rfl) ?_
  refine O_gk rfl ?_
  refine O_p (.sl da dd.length dc dg) (r_mv rfl) ?_
  refine O_gk rfl ?_
  refine O_p (.i .i64 (((dd.length : Nat)) : Int)) (r_len rfl) ?_
  refine O_gk rfl ?_
  refine O_p (.b false) (by exact (by rw [r_gtr rfl rfl, decide_eq_false (by omega)])) ?_
  refine O_p (.b false) (r_pick_f rfl rfl) ?_
  refine O_p (.b false) (r_mv rfl) ?_
  refine O_nil ?_
  refine C_cond (x := false) rfl (fun h => by cases h) (fun _ => ?_)
  refine C_seq ?_
  refine C_region ?_
  refine O_p (.p (some (Lb, (i * 4 + 0)))) (r_mv rfl) ?_
  refine O_p (.p (some (Lb, (i * 4 + 0)))) (r_nilc rfl) ?_
  refine O_p (.p (some (Lb, (i * 4 + 0)))) (r_fadd' rfl rfl) ?_
  refine O_p (.b true) (r_ldR (q := 0) rfl (hrd _ _ hH4.top1) rfl) ?_
  refine O_p (.b false) (r_un rfl rfl) ?_
  refine O_p (.b false) (r_mv rfl) ?_
  refine O_nil ?_
  refine C_cond (x := false) rfl (fun h => by cases h) (fun _ => ?_)
  refine C_skip ?_
  refine C_seq ?_
  refine C_region ?_
  refine O_p (.s (txt tp)) (r_mv rfl) ?_
  refine O_p (.i .i64 ((i : Nat) : Int)) (r_mv rfl) ?_
  refine O_p (.p (some (F, 0))) (r_mv rfl) ?_
  refine O_p (.p (some (F, 0))) (r_nilc rfl) ?_
  refine O_p (.p (some (F, 2))) (r_fadd' rfl rfl) ?_
  refine O_p (.m (some cm)) (r_ld rfl hH4.get0 rfl) ?_
  refine O_p (.s (txt tp)) (r_mv rfl) ?_
  refine O_p (.i .i64 0) (by exact ((r_mget (m := cmL) (k := tp) hH4.get2 hcb rfl rfl false).trans (by first | (rw [hcg]; rfl) | rw [hcg]))) ?_
  refine O_p (.b tx) (r_mv rfl) ?_
  refine O_p (.agg [(.s (txt tp)), (.i .i64 ((i : Nat) : Int)), (.i .i64 0), (.b tx), (.sl none 0 0 0)]) (r_build rfl) ?_
  refine O_alloc fun n5 H6 hN7 => ?_
  have hH8 := hH4.new hN7
  refine O_store (vs := [(.s (txt tp)), (.i .i64 ((i : Nat) : Int)), (.i .i64 0), (.b tx), (.sl none 0 0 0)]) (c' := [(.s (txt tp)), (.i .i64 ((i : Nat) : Int)), (.i .i64 0), (.b tx), (.sl none 0 0 0)]) rfl (by rfl) hH8.get0 rfl (List.cons_ne_nil _ _) (Nat.le_of_ble_eq_true rfl) rfl fun H9 hW10 => ?_
  have hH11 := hH8.wr0 hW10
  refine O_nil ?_
  refine C_seq ?_
  refine C_region ?_
  refine O_p (.p (some (F, 0))) (r_mv rfl) ?_
  refine O_p (.p (some (F, 0))) (r_nilc rfl) ?_
  refine O_p (.p (some (F, 2))) (r_fadd' rfl rfl) ?_
  refine O_p (.m (some cm)) (r_ld rfl hH11.get1 rfl) ?_
  refine O_p (.s (txt tp)) (r_mv rfl) ?_
  refine O_p (.i .i64 0) (by exact ((r_mget (m := cmL) (k := tp) hH11.get3 hcb rfl rfl false).trans (by first | (rw [hcg]; rfl) | rw [hcg]))) ?_
  refine O_p (.i .i64 1) (r_bin rfl rfl rfl) ?_
  refine O_nh (by exact r_mput (k := tp) (v := (.i .i64 1)) hH11.top3 hcb rfl rfl rfl) fun H12 hA13 => ?_
  obtain ⟨bm14, hMb15, hH16⟩ := hA13
  refine O_nil ?_
  refine C_seq ?_
  refine C_region ?_
  refine O_p (.i .i64 0) (r_mv rfl) ?_
  refine O_nil ?_
  refine C_seq ?_
  refine C_seq ?_
  refine C_region ?_
  refine O_p (.p (some (F, 0))) (r_mv rfl) ?_
  refine O_p (.p (some (F, 0))) (r_nilc rfl) ?_
  refine O_p (.p (some (F, 0))) (r_fadd' rfl rfl) ?_
  refine O_p (.sl (some (Lb, 0)) ps.length ps.length 0) (r_ld rfl hH16.get2 rfl) ?_
  refine O_p (.i .i64 (((ps.length : Nat)) : Int)) (r_len rfl) ?_
  refine O_p (.i .i64 0) (r_mv rfl) ?_
  refine O_nil ?_
  refine C_block ?_
  have hH17 := (((((((hH16.top6).top6).top3).top6).top4).top6).top6)
  refine C_while (fun m18 T19 H20 => ∃ qs : List Pc, ∃ xd : AV, ∃ Dk : HL, ∃ tk : Nat, ∃ k : Nat, m18 = ps.length - k ∧ k ≤ ps.length ∧ qs.map Pc.a = (pubN i room (⟨tp, ((i : Nat) : Int), 0, tx, dd⟩ : It) (ps.map Pc.a) k).1 ∧ tk = (pubN i room (⟨tp, ((i : Nat) : Int), 0, tx, dd⟩ : It) (ps.map Pc.a) k).2 ∧ (∀ p ∈ qs, p.ok Dk) ∧ (∀ H', Hs H' Dk → Hs H' D) ∧ qs.length = ps.length ∧ tk ≤ k ∧ Hs H20 ([(F, some (.cells ([(.sl (some (Lb, 0)) ps.length ps.length 0), (.i .i64 ((room : Nat) : Int)), (.m (some cm))]) true))] ++ ([(Lb, some (.cells ((qs.map Pc.row).flatten) true))] ++ ([(cm, some bm14)] ++ ((qs.flatMap Pc.seg) ++ ([(n5, some (.cells ([(.s (txt tp)), (.i .i64 ((i : Nat) : Int)), (.i .i64 0), (.b tx), xd]) true))] ++ (Dk ++ (B ++ (R)))))))) ∧ T19.get 0 = (.p (some (F, 0))) ∧ T19.get 1 = (.i .i64 ((i : Nat) : Int)) ∧ T19.get 2 = (.s (txt tp)) ∧ T19.get 3 = (.b tx) ∧ T19.get 4 = (.sl da dd.length dc dg) ∧ T19.get 13 = (.p (some (n5, 0))) ∧ T19.get 62 = (.i .i64 (((ps.length : Nat)) : Int)) ∧ T19.get 14 = (.i .i64 (((tk : Nat)) : Int)) ∧ T19.get 63 = (.i .i64 (((k : Nat)) : Int))) (fun m18 T19 H20 hI21 => ?_) ps.length _ _ ⟨ps, (.sl none 0 0 0), D, 0, 0, rfl, Nat.zero_le _, rfl, rfl, hok, fun _ hh => hh, rfl, Nat.le_refl _, hH17, rfl, rfl, rfl, rfl, rfl, rfl, rfl, rfl, rfl⟩
  obtain ⟨qs, xd, Dk, tk, k, hm22, hp23, hp24, hp25, hp26, hp27, hp28, hp29, hH39, hT30, hT31, hT32, hT33, hT34, hT35, hT36, hT37, hT38⟩ := hI21
  refine C_seq ?_
  refine C_region ?_
  refine O_p (.b (decide ((((k : Nat)) : Int) < (((ps.length : Nat)) : Int)))) (r_lss hT38 hT36) ?_
  refine O_nil ?_
  refine C_seq ?_
  refine C_cond (x := (decide ((((k : Nat)) : Int) < (((ps.length : Nat)) : Int)))) rfl (fun hc40 => ?_) (fun hc40 => ?_)
  ·
    try simp only [decide_eq_true_eq, decide_eq_false_iff_not, Bool.not_eq_true', Bool.not_eq_false', Bool.and_eq_true, Bool.or_eq_true, Bool.or_eq_false_iff, Bool.not_not, Bool.and_eq_false_iff] at hc40
    refine C_skip ?_
    refine C_seq ?_
    refine C_block ?_
    refine C_seq ?_
    refine C_region ?_
    refine O_p (.i .i64 (((k : Nat)) : Int)) (r_mv hT38) ?_
    refine O_p (.i .i64 (((k : Nat)) : Int)) (r_mv rfl) ?_
    refine O_nil ?_
    refine C_seq ?_
    refine C_region ?_
    refine O_p (.sl da dd.length dc dg) (r_mv hT34) ?_
    refine O_call (Ev.mono (clone_ev (tab := tabA) (sp := spA) rfl hH39.ok hdg (hdb _ hH39.top6.fst) (by first | omega | (simp only [List.length_take, List.length_drop, List.length_append, List.length_cons, List.length_nil, beN_len] <;> omega)) (by first | omega | (simp only [List.length_take, List.length_drop, List.length_append, List.length_cons, List.length_nil, beN_len] <;> omega)) (by first | omega | (simp only [List.length_take, List.length_drop, List.length_append, List.length_cons, List.length_nil, beN_len] <;> omega))) fun v41 H42 hq43 => ?_)
    obtain ⟨hM44, hK45⟩ := hq43
    obtain ⟨qa46, qg47, rfl, hqg48, _⟩ := hM44.own.bs
    have hH50 := Hs.ofMine hH39 hM44 hK45
    have hSq49 := Sq.ofMine hH39 hM44 hK45
    have hH51 := (hH50.top6)
    have hH52 := Hs.unassoc hH51
    refine O_p (.p (some (n5, 4))) (r_fadd' hT35 rfl) ?_
    refine O_store (vs := [(.sl qa46 (dd).length (dd).length qg47)]) (c' := [(.s (txt tp)), (.i .i64 ((i : Nat) : Int)), (.i .i64 0), (.b tx), (.sl qa46 (dd).length (dd).length qg47)]) rfl (by rfl) hH52.get5 rfl (List.cons_ne_nil _ _) (Nat.le_of_ble_eq_true rfl) rfl fun H53 hW54 => ?_
    have hH55 := hH52.wr5 hW54
    refine O_nil ?_
    refine C_seq ?_
    by_cases hkn : k = i
    ·
      have hkl : k < ps.length := by omega
      refine C_draw fun b56 H57 hbase58 hA59 => ?_
      have hH60 := hH55.keep (by have := hA59.1; omega) (fun q _ => hA59.2 q) ((hH55.old).aside hA59).ok
      refine D_l (v := (.i .i64 (((k : Nat)) : Int))) rfl rfl rfl (r_mv rfl) ?_
      refine D_l (v := (.i .i64 ((i : Nat) : Int))) rfl rfl rfl (r_mv hT31) ?_
      refine D_l (v := (.b false)) rfl rfl rfl (by exact (by rw [r_neq rfl rfl, decide_eq_true (by omega)]; rfl)) ?_
      refine D_l (v := (.b false)) rfl rfl rfl (r_mv rfl) ?_
      refine D_gf rfl ?_
      refine D_gf rfl ?_
      refine D_gf rfl ?_
      refine D_gf rfl ?_
      refine D_gf rfl ?_
      refine D_gf rfl ?_
      refine D_gf rfl ?_
      refine D_gf rfl ?_
      refine D_gf rfl ?_
      refine D_gf rfl ?_
      refine D_gf rfl ?_
      refine D_gf rfl ?_
      refine D_l (v := (.b false)) rfl rfl rfl (r_pick_f rfl rfl) ?_
      refine D_nil ?_
      refine C_cond (x := false) rfl (fun h => by cases h) (fun _ => ?_)
      refine C_skip ?_
      refine C_region ?_
      refine O_p (.i .i64 ((((k : Nat)) : Int) + 1)) (by exact (r_addi hT38 rfl (wrap_i64 (by omega) (by omega)))) ?_
      refine O_p (.i .i64 ((((k : Nat)) : Int) + 1)) (r_mv rfl) ?_
      refine O_nil ?_
      have hH61 := (((((((hH60.top6).top1).top6).top6).top6).top6).top6)
      exact ⟨ps.length - (k + 1), by omega, qs, (.sl qa46 (dd).length (dd).length qg47), (Dk ++ (qseg (.sl qa46 (dd).length (dd).length qg47) (bcells dd))), tk, (k + 1), rfl, by omega, by rw [pubN_eq hkn]; exact hp24, by rw [pubN_eq hkn]; exact hp25, (fun p hp => (hp26 p hp).mono fun _ hh => hh.fst), (fun H2 hh => hp27 H2 hh.fst), hp28, by omega, hH61, hT30, hT31, hT32, hT33, hT34, hT35, hT36, hT37, rfl⟩
    ·
      have hkl : k < ps.length := by omega
      obtain ⟨pk, hpk⟩ : ∃ p, qs[k]? = some p := ⟨_, List.getElem?_eq_getElem (by omega)⟩
      have hpa := getElem_map_a hp24 hpk
      have hpinv : pk.a.inv room n := by have e := hpa; rw [pubN_get (Nat.le_refl k), List.getElem?_map] at e; cases hz : ps[k]? with
        | none => rw [hz] at e; cases e
        | some z => rw [hz] at e; simp only [Option.map_some, Option.some.injEq] at e; rw [← e]; exact hinv z (List.mem_of_getElem? hz)
      refine C_draw fun b62 H63 hbase64 hA65 => ?_
      have hH66 := hH55.keep (by have := hA65.1; omega) (fun q _ => hA65.2 q) ((hH55.old).aside hA65).ok
      refine D_l (v := (.i .i64 (((k : Nat)) : Int))) rfl rfl rfl (r_mv rfl) ?_
      refine D_l (v := (.i .i64 ((i : Nat) : Int))) rfl rfl rfl (r_mv hT31) ?_
      refine D_l (v := (.b true)) rfl rfl rfl (by exact (by rw [r_neq rfl rfl, decide_eq_false (by omega)]; rfl)) ?_
      refine D_l (v := (.b true)) rfl rfl rfl (r_mv rfl) ?_
      refine D_gk rfl ?_
      refine D_l (v := (.p (some (F, 0)))) rfl rfl rfl (r_mv hT30) ?_
      refine D_gk rfl ?_
      refine D_l (v := (.p (some (F, 0)))) rfl rfl rfl (r_nilc rfl) ?_
      refine D_gk rfl ?_
      refine D_l (v := (.p (some (F, 0)))) rfl rfl rfl (r_fadd' rfl rfl) ?_
      refine D_gk rfl ?_
      refine D_l (v := (.i .i64 (((k : Nat)) : Int))) rfl rfl rfl (r_mv rfl) ?_
      refine D_gk rfl ?_
      refine D_l (v := (.p (some (F, 0)))) rfl rfl rfl (r_mv hT30) ?_
      refine D_gk rfl ?_
      refine D_l (v := (.p (some (F, 0)))) rfl rfl rfl (r_nilc rfl) ?_
      refine D_gk rfl ?_
      refine D_l (v := (.p (some (F, 1)))) rfl rfl rfl (r_fadd' rfl rfl) ?_
      refine D_gk rfl ?_
      refine D_r (v := (.sl (some (Lb, 0)) ps.length ps.length 0)) rfl rfl rfl (r_ld rfl hH66.get1 rfl) ?_
      refine D_gk rfl ?_
      refine D_l (v := (.p (some (Lb, (k * 4 + 0))))) rfl rfl rfl (by exact (r_islr (b := Lb) (k := k) (len := ps.length) (cap := ps.length) (g := 0) rfl rfl (by omega))) ?_
      refine D_gk rfl ?_
      refine D_r (v := (.agg [(.s (txt tp)), (.i .i64 ((i : Nat) : Int)), (.i .i64 0), (.b tx), (.sl qa46 (dd).length (dd).length qg47)])) rfl rfl rfl (r_ldA hT35 hH66.get5 rfl) ?_
      refine D_gk rfl ?_
      refine D_r (v := (.i .i64 ((room : Nat) : Int))) rfl rfl rfl (r_ld rfl hH66.get1 rfl) ?_
      refine D_gk rfl ?_
      have hH67 := ((hH66.top4).top3)
      have hH68 := Pc.out hpk hH67
      have hH69 := (((hH68.top2).top2).top2)
      refine D_call (Ev.mono (handP_ev (i := k) (rws := qs.map Pc.row) (D := (Dk ++ (qseg (.sl qa46 (dd).length (dd).length qg47) (bcells dd)))) (x := (⟨tp, ((i : Nat) : Int), 0, tx, dd⟩ : It)) (n := n) (rows_pc qs) (by rw [List.length_map]; omega) ((hp26 pk (List.mem_of_getElem? hpk)).mono fun _ hh => hh.fst) hpinv hroom hn6 ⟨_, _, _, rfl, hqg48, Nat.le_refl _, by omega, fun _ hh => Sq.bs (R := []) hSq49 (by rw [List.append_nil]; exact hh.sub)⟩ hH69) fun v70 H71 hq72 => ?_)
      obtain ⟨q2, rfl, hqa, hqok, hh2⟩ := hq72
      have hH73 := Pc.back hpk hh2
      refine And.intro (And.intro (Or.inl rfl) (And.intro (Or.inl rfl) (And.intro (Or.inl rfl) True.intro))) ?_
      refine D_l (v := (.b (pk.a.hand room (⟨tp, ((i : Nat) : Int), 0, tx, dd⟩ : It)).2)) rfl rfl rfl (r_pick_t rfl rfl) ?_
      refine D_nil ?_
      refine C_cond (x := (pk.a.hand room (⟨tp, ((i : Nat) : Int), 0, tx, dd⟩ : It)).2) rfl (fun hc74 => ?_) (fun hc74 => ?_)
      ·
        try simp only [decide_eq_true_eq, decide_eq_false_iff_not, Bool.not_eq_true', Bool.not_eq_false', Bool.and_eq_true, Bool.or_eq_true, Bool.or_eq_false_iff, Bool.not_not, Bool.and_eq_false_iff] at hc74
        have htk : (pk.a.hand room (⟨tp, ((i : Nat) : Int), 0, tx, dd⟩ : It)).2 = true := by simpa using hc74
        refine C_region ?_
        refine O_p (.i .i64 (((tk : Nat)) : Int)) (r_mv hT37) ?_
        refine O_p (.i .i64 ((((tk : Nat)) : Int) + 1)) (by exact (r_addi rfl rfl (wrap_i64 (by omega) (by omega)))) ?_
        refine O_p (.i .i64 ((((tk : Nat)) : Int) + 1)) (r_mv rfl) ?_
        refine O_nil ?_
        refine C_region ?_
        refine O_p (.i .i64 ((((k : Nat)) : Int) + 1)) (by exact (r_addi hT38 rfl (wrap_i64 (by omega) (by omega)))) ?_
        refine O_p (.i .i64 ((((k : Nat)) : Int) + 1)) (r_mv rfl) ?_
        refine O_nil ?_
        have hH75 := (((((((hH73.top6).top3).top6).top4).top6).top5).top6)
        exact ⟨ps.length - (k + 1), by omega, (qs.set k q2), (.sl qa46 (dd).length (dd).length qg47), (Dk ++ (qseg (.sl qa46 (dd).length (dd).length qg47) (bcells dd))), (tk + 1), (k + 1), rfl, by omega, by rw [pubN_ne hkn hpa, List.map_set, hqa, hp24], by rw [pubN_ne hkn hpa, htk, hp25]; rfl, pc_set (fun p hp => (hp26 p hp).mono fun _ hh => hh.fst) hqok, (fun H2 hh => hp27 H2 hh.fst), by rw [List.length_set]; exact hp28, by omega, hH75, hT30, hT31, hT32, hT33, hT34, hT35, hT36, rfl, rfl⟩
      ·
        try simp only [decide_eq_true_eq, decide_eq_false_iff_not, Bool.not_eq_true', Bool.not_eq_false', Bool.and_eq_true, Bool.or_eq_true, Bool.or_eq_false_iff, Bool.not_not, Bool.and_eq_false_iff] at hc74
        have htk : (pk.a.hand room (⟨tp, ((i : Nat) : Int), 0, tx, dd⟩ : It)).2 = false := by simpa using hc74
        refine C_skip ?_
        refine C_region ?_
        refine O_p (.i .i64 ((((k : Nat)) : Int) + 1)) (by exact (r_addi hT38 rfl (wrap_i64 (by omega) (by omega)))) ?_
        refine O_p (.i .i64 ((((k : Nat)) : Int) + 1)) (r_mv rfl) ?_
        refine O_nil ?_
        have hH76 := (((((((hH73.top6).top3).top6).top4).top6).top5).top6)
        exact ⟨ps.length - (k + 1), by omega, (qs.set k q2), (.sl qa46 (dd).length (dd).length qg47), (Dk ++ (qseg (.sl qa46 (dd).length (dd).length qg47) (bcells dd))), tk, (k + 1), rfl, by omega, by rw [pubN_ne hkn hpa, List.map_set, hqa, hp24], by rw [pubN_ne hkn hpa, htk, hp25]; rfl, pc_set (fun p hp => (hp26 p hp).mono fun _ hh => hh.fst) hqok, (fun H2 hh => hp27 H2 hh.fst), by rw [List.length_set]; exact hp28, by omega, hH76, hT30, hT31, hT32, hT33, hT34, hT35, hT36, hT37, rfl⟩
  ·
    try simp only [decide_eq_true_eq, decide_eq_false_iff_not, Bool.not_eq_true', Bool.not_eq_false', Bool.and_eq_true, Bool.or_eq_true, Bool.or_eq_false_iff, Bool.not_not, Bool.and_eq_false_iff] at hc40
    refine C_exit ?_
    refine nx_exit ?_
    refine nx_exit ?_
    refine bk_hit ?_
    refine C_seq ?_
    refine C_region ?_
    refine O_p (.i .i64 (((tk : Nat)) : Int)) (r_mv hT37) ?_
    refine O_p (.i .i64 (((tk : Nat)) : Int)) (r_mv rfl) ?_
    refine O_p (.i .i64 0) (r_mv rfl) ?_
    refine O_nil ?_
    refine C_ret ?_
    have hH77 := (hH39.sub4)
    have hH78 := ((((((hH77.top5).top5).top5).top5).top5).top5)
    have hkl : k = ps.length := by omega
    exact ⟨.inr rfl, _, resL_cons (r_tmp (v := (.i .i64 (((tk : Nat)) : Int))) rfl) (resL_one (r_tmp (v := .i .i64 0) rfl)), qs, Dk, bm14, by rw [hp25, hkl]; rfl, by rw [hp24, hkl], hp26, hp27, hp28, hMb15, hH78⟩
set_option maxRecDepth 100000 in
set_option maxHeartbeats 2000000 in
theorem pubP_some {H : AH} {R D B : HL} {F Lb cm room i n n0 : Nat} {cb : Blk} {cmL : ML} {ps : List Pc} {p0 : Pc} {tp dd : List UInt8} {tx : Bool} {da : Option (Nat × Nat)} {dc dg : Nat} (hip : i < ps.length) (hps : ps.length ≤ 16) (hrd : ∀ H' R', Hs H' ([(Lb, some (.cells ((ps.map Pc.row).flatten) true))] ++ R') → ∃ c mu, H'.get Lb = some (.cells c mu) ∧ takeAt c (i * 4) 4 = some [.b true, .m (p0.mo.map (·.1)), p0.v, .i .i64 ((p0.a.lost : Nat) : Int)]) (hok : ∀ p ∈ ps, p.ok D) (hinv : ∀ p ∈ ps, p.a.inv room n) (hroom : 1 ≤ room ∧ room ≤ 64) (hn6 : n ≤ 1000000) (hcb : Mb cmL cb) (hcg : mget cmL tp = some (.i .i64 ((n0 : Nat) : Int))) (hn0 : n0 ≤ 1000000) (htp : 0 < tp.length ∧ tp.length ≤ 256) (hdl : dd.length ≤ 16384) (hdg : dg = 0 ∨ dg = 1) (hdc : dd.length ≤ dc) (hdm : dc ≤ 9223372036854775807) (hdb : ∀ H', Hs H' B → Bs H' (.sl da dd.length dc dg) dd) (hH0 : Hs H ([(F, some (.cells ([(.sl (some (Lb, 0)) ps.length ps.length 0), (.i .i64 ((room : Nat) : Int)), (.m (some cm))]) true))] ++ ([(Lb, some (.cells ((ps.map Pc.row).flatten) true))] ++ ([(cm, some cb)] ++ ((ps.flatMap Pc.seg) ++ (D ++ (B ++ (R)))))))) : Ev tabA spA (.fn (.func 13) [] []) [.p (some (F, 0)), .i .i64 ((i : Nat) : Int), .s (txt tp), .b tx, .sl da dd.length dc dg] H (fun r H' => ∃ (qs : List Pc) (D' : HL) (cb2 : Blk), r = .tup [.i .i64 (((pubN i room (⟨tp, ((i : Nat) : Int), ((n0 : Nat) : Int), tx, dd⟩ : It) (ps.map Pc.a) ps.length).2 : Nat) : Int), .i .i64 0] ∧ qs.map Pc.a = (pubN i room (⟨tp, ((i : Nat) : Int), ((n0 : Nat) : Int), tx, dd⟩ : It) (ps.map Pc.a) ps.length).1 ∧ (∀ p ∈ qs, p.ok D') ∧ (∀ H', Hs H' D' → Hs H' D) ∧ qs.length = ps.length ∧ Mb (mset cmL tp (.i .i64 ((n0 + 1 : Nat) : Int))) cb2 ∧ Hs H' ([(F, some (.cells ([(.sl (some (Lb, 0)) ps.length ps.length 0), (.i .i64 ((room : Nat) : Int)), (.m (some cm))]) true))] ++ ([(Lb, some (.cells ((qs.map Pc.row).flatten) true))] ++ ([(cm, some cb2)] ++ ((qs.flatMap Pc.seg) ++ (D' ++ (B ++ (R)))))))) := by
  refine Ev_C (F := x13) rfl ?_
  refine C_seq ?_
  refine C_region ?_
  refine O_p (.i .i64 0) (r_mv rfl) ?_
  refine O_p (.i .i64 0) (r_mv rfl) ?_
  refine O_nil ?_
  refine C_seq ?_
  refine C_region ?_
  refine O_p (.p (some (F, 0))) (r_mv rfl) ?_
  refine O_p (.i .i64 ((i : Nat) : Int)) (r_mv rfl) ?_
  refine O_call (Ev.mono (at_ev (k := i) (np := ps.length) hip hH0) fun v1 H2 hq3 => ?_)
  obtain ⟨rfl, hH4⟩ := hq3
  refine O_p (.p (some (Lb, (i * 4 + 0)))) (r_mv rfl) ?_
  refine O_nil ?_
  refine C_seq ?_
  refine C_block ?_
  refine C_seq ?_
  refine C_region ?_
  refine O_p (.p (some (Lb, (i * 4 + 0)))) (r_mv rfl) ?_
  refine O_p (.b false) (r_nilq_s rfl) ?_
  refine O_p (.b false) (r_mv rfl) ?_
  refine O_gk rfl ?_
  refine O_p (.s (txt tp)) (r_mv rfl) ?_
  refine O_gk rfl ?_
  refine O_p (.b false) (by exact (by rw [r_eqt (b := ([] : List UInt8)) rfl rfl, decide_eq_false (by intro h; rw [h] at htp; exact absurd htp.1 (by decide))])) ?_
  refine O_p (.b false) (r_pick_f rfl rfl) ?_
  refine O_p (.b false) (r_mv rfl) ?_
  refine O_nil ?_
  refine C_cond (x := false) rfl (fun h => by cases h) (fun _ => ?_)
  refine C_seq ?_
  refine C_region ?_
  refine O_p (.s (txt tp)) (r_mv rfl) ?_
  refine O_p (.i .i64 ((((tp).length : Nat)) : Int)) (r_lent (l := tp) rfl) ?_
  refine O_p (.b false) (by exact (by rw [r_gtr rfl rfl, decide_eq_false (by omega)])) ?_
  refine O_p (.b false) (r_mv rfl) ?_
  refine O_gk rfl ?_
  refine O_p (.sl da dd.length dc dg) (r_mv rfl) ?_
  refine O_gk rfl ?_
  refine O_p (.i .i64 (((dd.length : Nat)) : Int)) (r_len rfl) ?_
  refine O_gk rfl ?_
  refine O_p (.b false) (by exact (by rw [r_gtr rfl rfl, decide_eq_false (by omega)])) ?_
  refine O_p (.b false) (r_pick_f rfl rfl) ?_
  refine O_p (.b false) (r_mv rfl) ?_
  refine O_nil ?_
  refine C_cond (x := false) rfl (fun h => by cases h) (fun _ => ?_)
  refine C_seq ?_
  refine C_region ?_
  refine O_p (.p (some (Lb, (i * 4 + 0)))) (r_mv rfl) ?_
  refine O_p (.p (some (Lb, (i * 4 + 0)))) (r_nilc rfl) ?_
  refine O_p (.p (some (Lb, (i * 4 + 0)))) (r_fadd' rfl rfl) ?_
  refine O_p (.b true) (r_ldR (q := 0) rfl (hrd _ _ hH4.top1) rfl) ?_
  refine O_p (.b false) (r_un rfl rfl) ?_
  refine O_p (.b false) (r_mv rfl) ?_
  refine O_nil ?_
  refine C_cond (x := false) rfl (fun h => by cases h) (fun _ => ?_)
  refine C_skip ?_
  refine C_seq ?_
  refine C_region ?_
  refine O_p (.s (txt tp)) (r_mv rfl) ?_
  refine O_p (.i .i64 ((i : Nat) : Int)) (r_mv rfl) ?_
  refine O_p (.p (some (F, 0))) (r_mv rfl) ?_
  refine O_p (.p (some (F, 0))) (r_nilc rfl) ?_
  refine O_p (.p (some (F, 2))) (r_fadd' rfl rfl) ?_
  refine O_p (.m (some cm)) (r_ld rfl hH4.get0 rfl) ?_
  refine O_p (.s (txt tp)) (r_mv rfl) ?_
  refine O_p (.i .i64 (((n0 : Nat)) : Int)) (by exact ((r_mget (m := cmL) (k := tp) hH4.get2 hcb rfl rfl false).trans (by first | (rw [hcg]; rfl) | rw [hcg]))) ?_
  refine O_p (.b tx) (r_mv rfl) ?_
  refine O_p (.agg [(.s (txt tp)), (.i .i64 ((i : Nat) : Int)), (.i .i64 (((n0 : Nat)) : Int)), (.b tx), (.sl none 0 0 0)]) (r_build rfl) ?_
  refine O_alloc fun n5 H6 hN7 => ?_
  have hH8 := hH4.new hN7
  refine O_store (vs := [(.s (txt tp)), (.i .i64 ((i : Nat) : Int)), (.i .i64 (((n0 : Nat)) : Int)), (.b tx), (.sl none 0 0 0)]) (c' := [(.s (txt tp)), (.i .i64 ((i : Nat) : Int)), (.i .i64 (((n0 : Nat)) : Int)), (.b tx), (.sl none 0 0 0)]) rfl (by rfl) hH8.get0 rfl (List.cons_ne_nil _ _) (Nat.le_of_ble_eq_true rfl) rfl fun H9 hW10 => ?_
  have hH11 := hH8.wr0 hW10
  refine O_nil ?_
  refine C_seq ?_
  refine C_region ?_
  refine O_p (.p (some (F, 0))) (r_mv rfl) ?_
  refine O_p (.p (some (F, 0))) (r_nilc rfl) ?_
  refine O_p (.p (some (F, 2))) (r_fadd' rfl rfl) ?_
  refine O_p (.m (some cm)) (r_ld rfl hH11.get1 rfl) ?_
  refine O_p (.s (txt tp)) (r_mv rfl) ?_
  refine O_p (.i .i64 (((n0 : Nat)) : Int)) (by exact ((r_mget (m := cmL) (k := tp) hH11.get3 hcb rfl rfl false).trans (by first | (rw [hcg]; rfl) | rw [hcg]))) ?_
  refine O_p (.i .i64 ((((n0 : Nat)) : Int) + 1)) (by exact (r_addi rfl rfl (wrap_i64 (by omega) (by omega)))) ?_
  refine O_nh (by exact r_mput (k := tp) (v := (.i .i64 ((((n0 : Nat)) : Int) + 1))) hH11.top3 hcb rfl rfl rfl) fun H12 hA13 => ?_
  obtain ⟨bm14, hMb15, hH16⟩ := hA13
  refine O_nil ?_
  refine C_seq ?_
  refine C_region ?_
  refine O_p (.i .i64 0) (r_mv rfl) ?_
  refine O_nil ?_
  refine C_seq ?_
  refine C_seq ?_
  refine C_region ?_
  refine O_p (.p (some (F, 0))) (r_mv rfl) ?_
  refine O_p (.p (some (F, 0))) (r_nilc rfl) ?_
  refine O_p (.p (some (F, 0))) (r_fadd' rfl rfl) ?_
  refine O_p (.sl (some (Lb, 0)) ps.length ps.length 0) (r_ld rfl hH16.get2 rfl) ?_
  refine O_p (.i .i64 (((ps.length : Nat)) : Int)) (r_len rfl) ?_
  refine O_p (.i .i64 0) (r_mv rfl) ?_
  refine O_nil ?_
  refine C_block ?_
  have hH17 := (((((((hH16.top6).top6).top3).top6).top4).top6).top6)
  refine C_while (fun m18 T19 H20 => ∃ qs : List Pc, ∃ xd : AV, ∃ Dk : HL, ∃ tk : Nat, ∃ k : Nat, m18 = ps.length - k ∧ k ≤ ps.length ∧ qs.map Pc.a = (pubN i room (⟨tp, ((i : Nat) : Int), ((n0 : Nat) : Int), tx, dd⟩ : It) (ps.map Pc.a) k).1 ∧ tk = (pubN i room (⟨tp, ((i : Nat) : Int), ((n0 : Nat) : Int), tx, dd⟩ : It) (ps.map Pc.a) k).2 ∧ (∀ p ∈ qs, p.ok Dk) ∧ (∀ H', Hs H' Dk → Hs H' D) ∧ qs.length = ps.length ∧ tk ≤ k ∧ Hs H20 ([(F, some (.cells ([(.sl (some (Lb, 0)) ps.length ps.length 0), (.i .i64 ((room : Nat) : Int)), (.m (some cm))]) true))] ++ ([(Lb, some (.cells ((qs.map Pc.row).flatten) true))] ++ ([(cm, some bm14)] ++ ((qs.flatMap Pc.seg) ++ ([(n5, some (.cells ([(.s (txt tp)), (.i .i64 ((i : Nat) : Int)), (.i .i64 (((n0 : Nat)) : Int)), (.b tx), xd]) true))] ++ (Dk ++ (B ++ (R)))))))) ∧ T19.get 0 = (.p (some (F, 0))) ∧ T19.get 1 = (.i .i64 ((i : Nat) : Int)) ∧ T19.get 2 = (.s (txt tp)) ∧ T19.get 3 = (.b tx) ∧ T19.get 4 = (.sl da dd.length dc dg) ∧ T19.get 13 = (.p (some (n5, 0))) ∧ T19.get 62 = (.i .i64 (((ps.length : Nat)) : Int)) ∧ T19.get 14 = (.i .i64 (((tk : Nat)) : Int)) ∧ T19.get 63 = (.i .i64 (((k : Nat)) : Int))) (fun m18 T19 H20 hI21 => ?_) ps.length _ _ ⟨ps, (.sl none 0 0 0), D, 0, 0, rfl, Nat.zero_le _, rfl, rfl, hok, fun _ hh => hh, rfl, Nat.le_refl _, hH17, rfl, rfl, rfl, rfl, rfl, rfl, rfl, rfl, rfl⟩
  obtain ⟨qs, xd, Dk, tk, k, hm22, hp23, hp24, hp25, hp26, hp27, hp28, hp29, hH39, hT30, hT31, hT32, hT33, hT34, hT35, hT36, hT37, hT38⟩ := hI21
  refine C_seq ?_
  refine C_region ?_
  refine O_p (.b (decide ((((k : Nat)) : Int) < (((ps.length : Nat)) : Int)))) (r_lss hT38 hT36) ?_
  refine O_nil ?_
  refine C_seq ?_
  refine C_cond (x := (decide ((((k : Nat)) : Int) < (((ps.length : Nat)) : Int)))) rfl (fun hc40 => ?_) (fun hc40 => ?_)
  ·
    try simp only [decide_eq_true_eq, decide_eq_false_iff_not, Bool.not_eq_true', Bool.not_eq_false', Bool.and_eq_true, Bool.or_eq_true, Bool.or_eq_false_iff, Bool.not_not, Bool.and_eq_false_iff] at hc40
    refine C_skip ?_
    refine C_seq ?_
    refine C_block ?_
    refine C_seq ?_
    refine C_region ?_
    refine O_p (.i .i64 (((k : Nat)) : Int)) (r_mv hT38) ?_
    refine O_p (.i .i64 (((k : Nat)) : Int)) (r_mv rfl) ?_
    refine O_nil ?_
    refine C_seq ?_
    refine C_region ?_
    refine O_p (.sl da dd.length dc dg) (r_mv hT34) ?_
    refine O_call (Ev.mono (clone_ev (tab := tabA) (sp := spA) rfl hH39.ok hdg (hdb _ hH39.top6.fst) (by first | omega | (simp only [List.length_take, List.length_drop, List.length_append, List.length_cons, List.length_nil, beN_len] <;> omega)) (by first | omega | (simp only [List.length_take, List.length_drop, List.length_append, List.length_cons, List.length_nil, beN_len] <;> omega)) (by first | omega | (simp only [List.length_take, List.length_drop, List.length_append, List.length_cons, List.length_nil, beN_len] <;> omega))) fun v41 H42 hq43 => ?_)
    obtain ⟨hM44, hK45⟩ := hq43
    obtain ⟨qa46, qg47, rfl, hqg48, _⟩ := hM44.own.bs
    have hH50 := Hs.ofMine hH39 hM44 hK45
    have hSq49 := Sq.ofMine hH39 hM44 hK45
    have hH51 := (hH50.top6)
    have hH52 := Hs.unassoc hH51
    refine O_p (.p (some (n5, 4))) (r_fadd' hT35 rfl) ?_
    refine O_store (vs := [(.sl qa46 (dd).length (dd).length qg47)]) (c' := [(.s (txt tp)), (.i .i64 ((i : Nat) : Int)), (.i .i64 (((n0 : Nat)) : Int)), (.b tx), (.sl qa46 (dd).length (dd).length qg47)]) rfl (by rfl) hH52.get5 rfl (List.cons_ne_nil _ _) (Nat.le_of_ble_eq_true rfl) rfl fun H53 hW54 => ?_
    have hH55 := hH52.wr5 hW54
    refine O_nil ?_
    refine C_seq ?_
    by_cases hkn : k = i
    ·
      have hkl : k < ps.length := by omega
      refine C_draw fun b56 H57 hbase58 hA59 => ?_
      have hH60 := hH55.keep (by have := hA59.1; omega) (fun q _ => hA59.2 q) ((hH55.old).aside hA59).ok
      refine D_l (v := (.i .i64 (((k : Nat)) : Int))) rfl rfl rfl (r_mv rfl) ?_
      refine D_l (v := (.i .i64 ((i : Nat) : Int))) rfl rfl rfl (r_mv hT31) ?_
      refine D_l (v := (.b false)) rfl rfl rfl (by exact (by rw [r_neq rfl rfl, decide_eq_true (by omega)]; rfl)) ?_
      refine D_l (v := (.b false)) rfl rfl rfl (r_mv rfl) ?_
      refine D_gf rfl ?_
      refine D_gf rfl ?_
      refine D_gf rfl ?_
      refine D_gf rfl ?_
      refine D_gf rfl ?_
      refine D_gf rfl ?_
      refine D_gf rfl ?_
      refine D_gf rfl ?_
      refine D_gf rfl ?_
      refine D_gf rfl ?_
      refine D_gf rfl ?_
      refine D_gf rfl ?_
      refine D_l (v := (.b false)) rfl rfl rfl (r_pick_f rfl rfl) ?_
      refine D_nil ?_
      refine C_cond (x := false) rfl (fun h => by cases h) (fun _ => ?_)
      refine C_skip ?_
      refine C_region ?_
      refine O_p (.i .i64 ((((k : Nat)) : Int) + 1)) (by exact (r_addi hT38 rfl (wrap_i64 (by omega) (by omega)))) ?_
      refine O_p (.i .i64 ((((k : Nat)) : Int) + 1)) (r_mv rfl) ?_
      refine O_nil ?_
      have hH61 := (((((((hH60.top6).top1).top6).top6).top6).top6).top6)
      exact ⟨ps.length - (k + 1), by omega, qs, (.sl qa46 (dd).length (dd).length qg47), (Dk ++ (qseg (.sl qa46 (dd).length (dd).length qg47) (bcells dd))), tk, (k + 1), rfl, by omega, by rw [pubN_eq hkn]; exact hp24, by rw [pubN_eq hkn]; exact hp25, (fun p hp => (hp26 p hp).mono fun _ hh => hh.fst), (fun H2 hh => hp27 H2 hh.fst), hp28, by omega, hH61, hT30, hT31, hT32, hT33, hT34, hT35, hT36, hT37, rfl⟩
    ·
      have hkl : k < ps.length := by omega
      obtain ⟨pk, hpk⟩ : ∃ p, qs[k]? = some p := ⟨_, List.getElem?_eq_getElem (by omega)⟩
      have hpa := getElem_map_a hp24 hpk
      have hpinv : pk.a.inv room n := by have e := hpa; rw [pubN_get (Nat.le_refl k), List.getElem?_map] at e; cases hz : ps[k]? with
        | none => rw [hz] at e; cases e
        | some z => rw [hz] at e; simp only [Option.map_some, Option.some.injEq] at e; rw [← e]; exact hinv z (List.mem_of_getElem? hz)
      refine C_draw fun b62 H63 hbase64 hA65 => ?_
      have hH66 := hH55.keep (by have := hA65.1; omega) (fun q _ => hA65.2 q) ((hH55.old).aside hA65).ok
      refine D_l (v := (.i .i64 (((k : Nat)) : Int))) rfl rfl rfl (r_mv rfl) ?_
      refine D_l (v := (.i .i64 ((i : Nat) : Int))) rfl rfl rfl (r_mv hT31) ?_
      refine D_l (v := (.b true)) rfl rfl rfl (by exact (by rw [r_neq rfl rfl, decide_eq_false (by omega)]; rfl)) ?_
      refine D_l (v := (.b true)) rfl rfl rfl (r_mv rfl) ?_
      refine D_gk rfl ?_
      refine D_l (v := (.p (some (F, 0)))) rfl rfl rfl (r_mv hT30) ?_
      refine D_gk rfl ?_
      refine D_l (v := (.p (some (F, 0)))) rfl rfl rfl (r_nilc rfl) ?_
      refine D_gk rfl ?_
      refine D_l (v := (.p (some (F, 0)))) rfl rfl rfl (r_fadd' rfl rfl) ?_
      refine D_gk rfl ?_
      refine D_l (v := (.i .i64 (((k : Nat)) : Int))) rfl rfl rfl (r_mv rfl) ?_
      refine D_gk rfl ?_
      refine D_l (v := (.p (some (F, 0)))) rfl rfl rfl (r_mv hT30) ?_
      refine D_gk rfl ?_
      refine D_l (v := (.p (some (F, 0)))) rfl rfl rfl (r_nilc rfl) ?_
      refine D_gk rfl ?_
      refine D_l (v := (.p (some (F, 1)))) rfl rfl rfl (r_fadd' rfl rfl) ?_
      refine D_gk rfl ?_
      refine D_r (v := (.sl (some (Lb, 0)) ps.length ps.length 0)) rfl rfl rfl (r_ld rfl hH66.get1 rfl) ?_
      refine D_gk rfl ?_
      refine D_l (v := (.p (some (Lb, (k * 4 + 0))))) rfl rfl rfl (by exact (r_islr (b := Lb) (k := k) (len := ps.length) (cap := ps.length) (g := 0) rfl rfl (by omega))) ?_
      refine D_gk rfl ?_
      refine D_r (v := (.agg [(.s (txt tp)), (.i .i64 ((i : Nat) : Int)), (.i .i64 (((n0 : Nat)) : Int)), (.b tx), (.sl qa46 (dd).length (dd).length qg47)])) rfl rfl rfl (r_ldA hT35 hH66.get5 rfl) ?_
      refine D_gk rfl ?_
      refine D_r (v := (.i .i64 ((room : Nat) : Int))) rfl rfl rfl (r_ld rfl hH66.get1 rfl) ?_
      refine D_gk rfl ?_
      have hH67 := ((hH66.top4).top3)
      have hH68 := Pc.out hpk hH67
      have hH69 := (((hH68.top2).top2).top2)
      refine D_call (Ev.mono (handP_ev (i := k) (rws := qs.map Pc.row) (D := (Dk ++ (qseg (.sl qa46 (dd).length (dd).length qg47) (bcells dd)))) (x := (⟨tp, ((i : Nat) : Int), ((n0 : Nat) : Int), tx, dd⟩ : It)) (n := n) (rows_pc qs) (by rw [List.length_map]; omega) ((hp26 pk (List.mem_of_getElem? hpk)).mono fun _ hh => hh.fst) hpinv hroom hn6 ⟨_, _, _, rfl, hqg48, Nat.le_refl _, by omega, fun _ hh => Sq.bs (R := []) hSq49 (by rw [List.append_nil]; exact hh.sub)⟩ hH69) fun v70 H71 hq72 => ?_)
      obtain ⟨q2, rfl, hqa, hqok, hh2⟩ := hq72
      have hH73 := Pc.back hpk hh2
      refine And.intro (And.intro (Or.inl rfl) (And.intro (Or.inl rfl) (And.intro (Or.inl rfl) True.intro))) ?_
      refine D_l (v := (.b (pk.a.hand room (⟨tp, ((i : Nat) : Int), ((n0 : Nat) : Int), tx, dd⟩ : It)).2)) rfl rfl rfl (r_pick_t rfl rfl) ?_
      refine D_nil ?_
      refine C_cond (x := (pk.a.hand room (⟨tp, ((i : Nat) : Int), ((n0 : Nat) : Int), tx, dd⟩ : It)).2) rfl (fun hc74 => ?_) (fun hc74 => ?_)
      ·
        try simp only [decide_eq_true_eq, decide_eq_false_iff_not, Bool.not_eq_true', Bool.not_eq_false', Bool.and_eq_true, Bool.or_eq_true, Bool.or_eq_false_iff, Bool.not_not, Bool.and_eq_false_iff] at hc74
        have htk : (pk.a.hand room (⟨tp, ((i : Nat) : Int), ((n0 : Nat) : Int), tx, dd⟩ : It)).2 = true := by simpa using hc74
        refine C_region ?_
        refine O_p (.i .i64 (((tk : Nat)) : Int)) (r_mv hT37) ?_
        refine O_p (.i .i64 ((((tk : Nat)) : Int) + 1)) (by exact (r_addi rfl rfl (wrap_i64 (by omega) (by omega)))) ?_
        refine O_p (.i .i64 ((((tk : Nat)) : Int) + 1)) (r_mv rfl) ?_
        refine O_nil ?_
        refine C_region ?_
        refine O_p (.i .i64 ((((k : Nat)) : Int) + 1)) (by exact (r_addi hT38 rfl (wrap_i64 (by omega) (by omega)))) ?_
        refine O_p (.i .i64 ((((k : Nat)) : Int) + 1)) (r_mv rfl) ?_
        refine O_nil ?_
        have hH75 := (((((((hH73.top6).top3).top6).top4).top6).top5).top6)
        exact ⟨ps.length - (k + 1), by omega, (qs.set k q2), (.sl qa46 (dd).length (dd).length qg47), (Dk ++ (qseg (.sl qa46 (dd).length (dd).length qg47) (bcells dd))), (tk + 1), (k + 1), rfl, by omega, by rw [pubN_ne hkn hpa, List.map_set, hqa, hp24], by rw [pubN_ne hkn hpa, htk, hp25]; rfl, pc_set (fun p hp => (hp26 p hp).mono fun _ hh => hh.fst) hqok, (fun H2 hh => hp27 H2 hh.fst), by rw [List.length_set]; exact hp28, by omega, hH75, hT30, hT31, hT32, hT33, hT34, hT35, hT36, rfl, rfl⟩
      ·
        try simp only [decide_eq_true_eq, decide_eq_false_iff_not, Bool.not_eq_true', Bool.not_eq_false', Bool.and_eq_true, Bool.or_eq_true, Bool.or_eq_false_iff, Bool.not_not, Bool.and_eq_false_iff] at hc74
        have htk : (pk.a.hand room (⟨tp, ((i : Nat) : Int), ((n0 : Nat) : Int), tx, dd⟩ : It)).2 = false := by simpa using hc74
        refine C_skip ?_
        refine C_region ?_
        refine O_p (.i .i64 ((((k : Nat)) : Int) + 1)) (by exact (r_addi hT38 rfl (wrap_i64 (by omega) (by omega)))) ?_
        refine O_p (.i .i64 ((((k : Nat)) : Int) + 1)) (r_mv rfl) ?_
        refine O_nil ?_
        have hH76 := (((((((hH73.top6).top3).top6).top4).top6).top5).top6)
        exact ⟨ps.length - (k + 1), by omega, (qs.set k q2), (.sl qa46 (dd).length (dd).length qg47), (Dk ++ (qseg (.sl qa46 (dd).length (dd).length qg47) (bcells dd))), tk, (k + 1), rfl, by omega, by rw [pubN_ne hkn hpa, List.map_set, hqa, hp24], by rw [pubN_ne hkn hpa, htk, hp25]; rfl, pc_set (fun p hp => (hp26 p hp).mono fun _ hh => hh.fst) hqok, (fun H2 hh => hp27 H2 hh.fst), by rw [List.length_set]; exact hp28, by omega, hH76, hT30, hT31, hT32, hT33, hT34, hT35, hT36, hT37, rfl⟩
  ·
    try simp only [decide_eq_true_eq, decide_eq_false_iff_not, Bool.not_eq_true', Bool.not_eq_false', Bool.and_eq_true, Bool.or_eq_true, Bool.or_eq_false_iff, Bool.not_not, Bool.and_eq_false_iff] at hc40
    refine C_exit ?_
    refine nx_exit ?_
    refine nx_exit ?_
    refine bk_hit ?_
    refine C_seq ?_
    refine C_region ?_
    refine O_p (.i .i64 (((tk : Nat)) : Int)) (r_mv hT37) ?_
    refine O_p (.i .i64 (((tk : Nat)) : Int)) (r_mv rfl) ?_
    refine O_p (.i .i64 0) (r_mv rfl) ?_
    refine O_nil ?_
    refine C_ret ?_
    have hH77 := (hH39.sub4)
    have hH78 := ((((((hH77.top5).top5).top5).top5).top5).top5)
    have hkl : k = ps.length := by omega
    exact ⟨.inr rfl, _, resL_cons (r_tmp (v := (.i .i64 (((tk : Nat)) : Int))) rfl) (resL_one (r_tmp (v := .i .i64 0) rfl)), qs, Dk, bm14, by rw [hp25, hkl]; rfl, by rw [hp24, hkl], hp26, hp27, hp28, hMb15, hH78⟩


set_option linter.unusedVariables false
set_option linter.unusedSimpArgs false
structure Re where
  ps : List Pa
  room : Nat
  cs : List (List UInt8 × Nat)
def Rl (F : Nat) (s : Re) (D L : HL) : Prop := ∃ (Lb cm : Nat) (cb : Blk) (ps : List Pc), ps.map Pc.a = s.ps ∧ (∀ p ∈ ps, p.ok D) ∧ Mb (mlC s.cs) cb ∧ L = [(F, some (.cells [.sl (some (Lb, 0)) ps.length ps.length 0, .i .i64 ((s.room : Nat) : Int), .m (some cm)] true))] ++ ([(Lb, some (.cells (ps.map Pc.row).flatten true))] ++ ([(cm, some cb)] ++ ps.flatMap Pc.seg))
def Re.at? (s : Re) (n : Int) : Option (Nat × Pa) := if 0 ≤ n then (s.ps[n.toNat]?).map fun a => (n.toNat, a) else none
def Re.upd (s : Re) (i : Nat) (a : Pa) : Re := ⟨s.ps.set i a, s.room, s.cs⟩
def Re.join (s : Re) (n : Int) : Re × Int := match s.at? n with
  | none => (s, 1)
  | some (i, ⟨true, _, _, _⟩) => (s, 8)
  | some (i, ⟨false, _, _, _⟩) => (s.upd i ⟨true, [], [], 0⟩, 0)
def Re.leave (s : Re) (n : Int) : Re × Int := match s.at? n with
  | none => (s, 1)
  | some (i, ⟨true, _, _, _⟩) => (s.upd i pa0, 0)
  | some (i, ⟨false, _, _, _⟩) => (s, 11)
def Re.subs (s : Re) (n : Int) (tp : List UInt8) (mode : Int) : Re × Int := match s.at? n with
  | none => (s, 1)
  | some (i, ⟨on, sb, w, lost⟩) =>
    if mode < 0 then (s, 1) else if 2 < mode then (s, 1) else if tp.length = 0 then (s, 1) else if 256 < tp.length then (s, 10) else
    match on with
    | false => (s, 11)
    | true => match sget sb tp with
      | some (_, false) => (s, 8)
      | _ => if 64 ≤ (sdel sb tp).length then (s.upd i ⟨true, sdel sb tp, w, lost⟩, 9) else (s.upd i ⟨true, sset (sdel sb tp) tp mode false, w, lost⟩, 0)
def Re.drop (s : Re) (n : Int) (tp : List UInt8) : Re × Int := match s.at? n with
  | none => (s, 1)
  | some (i, ⟨false, _, _, _⟩) => (s, 11)
  | some (i, ⟨true, sb, w, lost⟩) => match sget sb tp with
    | none => (s, 12)
    | some _ => (s.upd i ⟨true, sdel sb tp, w.filter fun y => !(decide (y.tp = tp)), lost⟩, 0)
def Re.pub (s : Re) (n : Int) (tp : List UInt8) (tx : Bool) (d : List UInt8) : Re × Nat × Int := match s.at? n with
  | none => (s, 0, 1)
  | some (i, ⟨on, _, _, _⟩) =>
    if tp.length = 0 then (s, 0, 1) else if 256 < tp.length then (s, 0, 10) else if 16384 < d.length then (s, 0, 10) else
    match on with
    | false => (s, 0, 11)
    | true => (⟨(pubN i s.room ⟨tp, ((i : Nat) : Int), (((cget s.cs tp).getD 0 : Nat) : Int), tx, d⟩ s.ps s.ps.length).1, s.room, cset s.cs tp ((cget s.cs tp).getD 0 + 1)⟩, (pubN i s.room ⟨tp, ((i : Nat) : Int), (((cget s.cs tp).getD 0 : Nat) : Int), tx, d⟩ s.ps s.ps.length).2, 0)
def Re.pull (s : Re) (n : Int) : Re × Option It := match s.at? n with
  | none => (s, none)
  | some (i, ⟨on, sb, [], lost⟩) => (s, none)
  | some (i, ⟨on, sb, x :: w, lost⟩) => (s.upd i ⟨on, sb, w, lost⟩, some x)
def Re.failed (s : Re) (n : Int) (tp : List UInt8) : Bool := match s.at? n with
  | none => false
  | some (_, a) => match sget a.sb tp with
    | none => false
    | some (_, f) => f
def Re.lostOf (s : Re) (n : Int) : Nat := match s.at? n with
  | none => 0
  | some (_, a) => a.lost
def Re.waiting (s : Re) (n : Int) : Nat := match s.at? n with
  | none => 0
  | some (_, a) => a.w.length
def Re.count (s : Re) (tp : List UInt8) : Nat := (cget s.cs tp).getD 0
theorem at_none {s : Re} {n : Int} (h : s.at? n = none) : ¬ (0 ≤ n ∧ n < ((s.ps.length : Nat) : Int)) := by
  intro hn
  unfold Re.at? at h
  rw [if_pos hn.1] at h
  cases hq : s.ps[n.toNat]? with
  | none => have := List.getElem?_eq_none_iff.1 hq; omega
  | some a => rw [hq] at h; cases h
theorem at_some {s : Re} {n : Int} {i : Nat} {a : Pa} (h : s.at? n = some (i, a)) : n = ((i : Nat) : Int) ∧ s.ps[i]? = some a := by
  unfold Re.at? at h
  split at h
  · cases hq : s.ps[n.toNat]? with
    | none => rw [hq] at h; cases h
    | some b =>
      rw [hq] at h
      simp only [Option.map_some, Option.some.injEq, Prod.mk.injEq] at h
      obtain ⟨rfl, rfl⟩ := h
      exact ⟨by omega, hq⟩
  · cases h
theorem Pc.seg3 {H : AH} {A B R : HL} {p : Pc} : Hs H (A ++ (B ++ (p.seg ++ R))) ↔ Hs H (A ++ (B ++ (qseg p.v p.c ++ (mseg p.mo ++ R)))) := by
  have e : (p.seg ++ R).Perm (qseg p.v p.c ++ (mseg p.mo ++ R)) := by
    unfold Pc.seg
    rw [List.append_assoc]
    exact List.perm_append_comm_assoc _ _ _
  exact ⟨fun h => h.perm (List.Perm.append_left _ (List.Perm.append_left _ e)), fun h => h.perm (List.Perm.append_left _ (List.Perm.append_left _ e.symm))⟩
section
variable {F : Nat} {s : Re} {D L R : HL} {n : Int} {H : AH}
theorem Rl.nilc (h : Rl F s D L) (hn : s.at? n = none) : ∃ Lb cm np Rr, ¬ (0 ≤ n ∧ n < ((np : Nat) : Int)) ∧ L = [(F, some (.cells [.sl (some (Lb, 0)) np np 0, .i .i64 ((s.room : Nat) : Int), .m (some cm)] true))] ++ Rr := by
  obtain ⟨Lb, cm, cb, ps, hps, hok, hm, rfl⟩ := h
  have := at_none hn
  rw [← hps, List.length_map] at this
  exact ⟨Lb, cm, ps.length, _, this, rfl⟩
theorem Rl.open (h : Rl F s D L) {i : Nat} {a : Pa} (hi : s.ps[i]? = some a) : ∃ (Lb cm np : Nat) (rws : List (List AV)) (p : Pc) (Rr : HL), i < np ∧ i < rws.length ∧ (∀ x ∈ rws, x.length = 4) ∧ p.ok D ∧ p.a = a ∧
    (∀ H R, Hs H (L ++ R) → Hs H ([(F, some (.cells [.sl (some (Lb, 0)) np np 0, .i .i64 ((s.room : Nat) : Int), .m (some cm)] true))] ++ ([(Lb, some (.cells (rws.set i p.row).flatten true))] ++ (p.seg ++ (Rr ++ R))))) ∧
    (∀ H R, Hs H ([(F, some (.cells [.sl (some (Lb, 0)) np np 0, .i .i64 ((s.room : Nat) : Int), .m (some cm)] true))] ++ ([(Lb, some (.cells (rws.set i p.row).flatten true))] ++ (p.seg ++ (Rr ++ R)))) → Hs H (L ++ R)) ∧
    (∀ q : Pc, q.ok D → ∃ L', Rl F (s.upd i q.a) D L' ∧ ∀ H R, Hs H ([(F, some (.cells [.sl (some (Lb, 0)) np np 0, .i .i64 ((s.room : Nat) : Int), .m (some cm)] true))] ++ ([(Lb, some (.cells (rws.set i q.row).flatten true))] ++ (q.seg ++ (Rr ++ R)))) → Hs H (L' ++ R)) := by
  obtain ⟨Lb, cm, cb, ps, hps, hok, hm, rfl⟩ := h
  rw [← hps, List.getElem?_map] at hi
  cases hp : ps[i]? with
  | none => rw [hp] at hi; cases hi
  | some p =>
    rw [hp] at hi
    simp only [Option.map_some, Option.some.injEq] at hi
    have hlt := (List.getElem?_eq_some_iff.1 hp).1
    have back : ∀ (q : Pc) (H : AH) (R : HL), Hs H ([(F, some (.cells [.sl (some (Lb, 0)) ps.length ps.length 0, .i .i64 ((s.room : Nat) : Int), .m (some cm)] true))] ++ ([(Lb, some (.cells ((ps.map Pc.row).set i q.row).flatten true))] ++ (q.seg ++ (([(cm, some cb)] ++ (ps.eraseIdx i).flatMap Pc.seg) ++ R)))) → Hs H (([(F, some (.cells [.sl (some (Lb, 0)) (ps.set i q).length (ps.set i q).length 0, .i .i64 ((s.room : Nat) : Int), .m (some cm)] true))] ++ ([(Lb, some (.cells ((ps.set i q).map Pc.row).flatten true))] ++ ([(cm, some cb)] ++ (ps.set i q).flatMap Pc.seg))) ++ R) := fun q H R hh => by
      rw [List.length_set, List.append_assoc, List.append_assoc, List.append_assoc]
      rw [List.append_assoc] at hh
      exact ((Pc.back hp (hh.top4.top3.top3)).top1.top3.top2.top3)
    refine ⟨Lb, cm, ps.length, ps.map Pc.row, p, [(cm, some cb)] ++ (ps.eraseIdx i).flatMap Pc.seg, hlt, by rw [List.length_map]; exact hlt, rows_pc ps, hok p (List.mem_of_getElem? hp), hi, fun H R hh => ?_, fun H R hh => ?_, fun q hq => ⟨_, ⟨Lb, cm, cb, ps.set i q, by rw [List.map_set, hps]; rfl, pc_set hok hq, hm, rfl⟩, back q⟩⟩
    · rw [List.append_assoc, List.append_assoc, List.append_assoc] at hh
      rw [List.append_assoc]
      exact ((Pc.out hp (hh.top3.top2)).top2.top4.top3.top3.top4)
    · have := back p H R hh
      have e : ps.set i p = ps := by
        refine List.ext_getElem? fun j => ?_
        rw [List.getElem?_set]
        split
        · rename_i e; subst e; exact hp.symm
        · rfl
      rw [e] at this; exact this
end
theorem rl_join {F : Nat} {s : Re} {D L R : HL} {n : Int} {H : AH}  (h : Rl F s D L)  (hH : Hs H (L ++ R)) : Ev tabA spA (.fn (.func 12) [] []) [.p (some (F, 0)), .i .i64 n] H (fun r H' => ∃ L', r = .i .i64 (s.join n).2 ∧ Rl F (s.join n).1 D L' ∧ Hs H' (L' ++ R)) := by
  unfold Re.join
  cases hat : s.at? n with
  | none =>
    obtain ⟨Lb, cm, np, Rr, hk, rfl⟩ := h.nilc hat
    rw [List.append_assoc] at hH
    refine Ev.mono (join_nil hk hH) fun r H2 hq => ?_
    obtain ⟨rfl, hh⟩ := hq
    exact ⟨_, rfl, h, by rw [List.append_assoc]; exact hh⟩
  | some q =>
    obtain ⟨i, a⟩ := q
    obtain ⟨rfl, hi⟩ := at_some hat
    obtain ⟨Lb, cm, np, rws, p, Rr, hip, hir, hrw, hok, rfl, hop, hsame, hcl⟩ := h.open hi
    have hH1 := hop _ _ hH
    clear hat hi hop
    obtain ⟨mo, v, c, rows, a⟩ := p
    have hok2 := hok
    obtain ⟨hsq, hits, hmo⟩ := hok2
    rcases hmo with ⟨rfl, rfl, rfl, rfl, rfl⟩ | ⟨hon, mr, mb, rfl, hmb⟩
    · refine Ev.mono (join_ev hip hrw hir hH1) fun r H2 hq => ?_
      obtain ⟨mr, rfl, hh⟩ := hq
      obtain ⟨L', h', hb⟩ := hcl ⟨some (mr, .map [] 0), .sl none 0 0 0, [], [], ⟨true, [], [], 0⟩⟩ ⟨Sq.nil, ItsR.nil, .inr ⟨rfl, mr, _, rfl, Mb.nil⟩⟩
      exact ⟨L', rfl, h', hb _ _ hh⟩
    · obtain ⟨on, sb, w, lost⟩ := a
      simp only at hon hmb hits hsq
      subst hon
      refine Ev.mono (join_on hip hrw hir hH1) fun r H2 hq => ?_
      obtain ⟨rfl, hh⟩ := hq
      exact ⟨L, rfl, h, hsame _ _ hh⟩

theorem rl_leave {F : Nat} {s : Re} {D L R : HL} {n : Int} {H : AH}  (h : Rl F s D L)  (hH : Hs H (L ++ R)) : Ev tabA spA (.fn (.func 21) [] []) [.p (some (F, 0)), .i .i64 n] H (fun r H' => ∃ L', r = .i .i64 (s.leave n).2 ∧ Rl F (s.leave n).1 D L' ∧ Hs H' (L' ++ R)) := by
  unfold Re.leave
  cases hat : s.at? n with
  | none =>
    obtain ⟨Lb, cm, np, Rr, hk, rfl⟩ := h.nilc hat
    rw [List.append_assoc] at hH
    refine Ev.mono (leave_nil hk hH) fun r H2 hq => ?_
    obtain ⟨rfl, hh⟩ := hq
    exact ⟨_, rfl, h, by rw [List.append_assoc]; exact hh⟩
  | some q =>
    obtain ⟨i, a⟩ := q
    obtain ⟨rfl, hi⟩ := at_some hat
    obtain ⟨Lb, cm, np, rws, p, Rr, hip, hir, hrw, hok, rfl, hop, hsame, hcl⟩ := h.open hi
    have hH1 := hop _ _ hH
    clear hat hi hop
    obtain ⟨mo, v, c, rows, a⟩ := p
    have hok2 := hok
    obtain ⟨hsq, hits, hmo⟩ := hok2
    rcases hmo with ⟨rfl, rfl, rfl, rfl, rfl⟩ | ⟨hon, mr, mb, rfl, hmb⟩
    · refine Ev.mono (leave_off hip hrw hir hH1) fun r H2 hq => ?_
      obtain ⟨rfl, hh⟩ := hq
      exact ⟨L, rfl, h, hsame _ _ hh⟩
    · obtain ⟨on, sb, w, lost⟩ := a
      simp only at hon hmb hits hsq
      subst hon
      refine Ev.mono (leaveg_ev hip hrw hir hH1) fun r H2 hq => ?_
      obtain ⟨rfl, hh⟩ := hq
      obtain ⟨L', h', hb⟩ := hcl pc0 (pc0_ok D)
      exact ⟨L', rfl, h', hb _ _ hh.sub2⟩

theorem rl_subs {F : Nat} {s : Re} {D L R : HL} {n : Int} {H : AH} {tp : List UInt8} {mode : Int} (h : Rl F s D L)  (hH : Hs H (L ++ R)) : Ev tabA spA (.fn (.func 14) [] []) [.p (some (F, 0)), .i .i64 n, .s (txt tp), .i .i64 mode] H (fun r H' => ∃ L', r = .i .i64 (s.subs n tp mode).2 ∧ Rl F (s.subs n tp mode).1 D L' ∧ Hs H' (L' ++ R)) := by
  unfold Re.subs
  cases hat : s.at? n with
  | none =>
    obtain ⟨Lb, cm, np, Rr, hk, rfl⟩ := h.nilc hat
    rw [List.append_assoc] at hH
    refine Ev.mono (sub_nil hk hH) fun r H2 hq => ?_
    obtain ⟨rfl, hh⟩ := hq
    exact ⟨_, rfl, h, by rw [List.append_assoc]; exact hh⟩
  | some q =>
    obtain ⟨i, a⟩ := q
    obtain ⟨rfl, hi⟩ := at_some hat
    obtain ⟨Lb, cm, np, rws, p, Rr, hip, hir, hrw, hok, rfl, hop, hsame, hcl⟩ := h.open hi
    have hH1 := hop _ _ hH
    clear hat hi hop
    obtain ⟨mo, v, c, rows, on, sb, w, lost⟩ := p
    have hok2 := hok
    obtain ⟨hsq, hits, hmo⟩ := hok2
    dsimp only at hmo hits hsq ⊢
    by_cases h1 : mode < 0
    · rw [if_pos h1]
      refine Ev.mono (sub_neg hip hrw hir h1 hH1) fun r H2 hq => ?_
      obtain ⟨rfl, hh⟩ := hq
      exact ⟨L, rfl, h, hsame _ _ hh⟩
    rw [if_neg h1]
    by_cases h2 : 2 < mode
    · rw [if_pos h2]
      refine Ev.mono (sub_pos hip hrw hir h2 hH1) fun r H2 hq => ?_
      obtain ⟨rfl, hh⟩ := hq
      exact ⟨L, rfl, h, hsame _ _ hh⟩
    rw [if_neg h2]
    have hm : 0 ≤ mode ∧ mode ≤ 2 := ⟨by omega, by omega⟩
    by_cases h3 : tp.length = 0
    · rw [if_pos h3]
      refine Ev.mono (sub_emp hip hrw hir hm (List.length_eq_zero_iff.1 h3) hH1) fun r H2 hq => ?_
      obtain ⟨rfl, hh⟩ := hq
      exact ⟨L, rfl, h, hsame _ _ hh⟩
    rw [if_neg h3]
    by_cases h4 : 256 < tp.length
    · rw [if_pos h4]
      refine Ev.mono (sub_big hip hrw hir hm ⟨by omega, h4⟩ hH1) fun r H2 hq => ?_
      obtain ⟨rfl, hh⟩ := hq
      exact ⟨L, rfl, h, hsame _ _ hh⟩
    rw [if_neg h4]
    have htp : 0 < tp.length ∧ tp.length ≤ 256 := ⟨by omega, by omega⟩
    rcases hmo with ⟨rfl, ha, rfl, rfl, rfl⟩ | ⟨rfl, mr, mb, rfl, hmb⟩
    · cases ha
      refine Ev.mono (sub_off hip hrw hir hm htp hH1) fun r H2 hq => ?_
      obtain ⟨rfl, hh⟩ := hq
      exact ⟨L, rfl, h, hsame _ _ hh⟩
    · have hgm := mget_mlS tp sb
      cases hg : sget sb tp with
      | none =>
        rw [hg] at hgm
        dsimp only
        by_cases h5 : 64 ≤ (sdel sb tp).length
        · rw [if_pos h5]
          refine Ev.mono (sub_none_full (md := 0) hip hrw hir hmb hgm (by rw [mdel_mlS, List.length_map]; exact h5) hm htp hH1) fun r H2 hq => ?_
          obtain ⟨mb2, hm2, rfl, hh⟩ := hq
          rw [mdel_mlS] at hm2
          obtain ⟨L', h', hb⟩ := hcl ⟨some (mr, mb2), v, c, rows, ⟨true, sdel sb tp, w, lost⟩⟩ ⟨hsq, hits, .inr ⟨rfl, mr, _, rfl, hm2⟩⟩
          exact ⟨L', rfl, h', hb _ _ hh⟩
        · rw [if_neg h5]
          refine Ev.mono (sub_none_ok (md := 0) hip hrw hir hmb hgm (by rw [mdel_mlS, List.length_map]; omega) hm htp hH1) fun r H2 hq => ?_
          obtain ⟨mb2, hm2, rfl, hh⟩ := hq
          rw [mdel_mlS, mset_mlS] at hm2
          obtain ⟨L', h', hb⟩ := hcl ⟨some (mr, mb2), v, c, rows, ⟨true, sset (sdel sb tp) tp mode false, w, lost⟩⟩ ⟨hsq, hits, .inr ⟨rfl, mr, _, rfl, hm2⟩⟩
          exact ⟨L', rfl, h', hb _ _ hh⟩
      | some z =>
        obtain ⟨md, f⟩ := z
        rw [hg] at hgm
        cases f with
        | false =>
          dsimp only
          refine Ev.mono (sub_dup (md := md) hip hrw hir hmb hgm hm htp hH1) fun r H2 hq => ?_
          obtain ⟨rfl, hh⟩ := hq
          exact ⟨L, rfl, h, hsame _ _ hh⟩
        | true =>
          dsimp only
          by_cases h5 : 64 ≤ (sdel sb tp).length
          · rw [if_pos h5]
            refine Ev.mono (sub_fail_full (md := md) hip hrw hir hmb hgm (by rw [mdel_mlS, List.length_map]; exact h5) hm htp hH1) fun r H2 hq => ?_
            obtain ⟨mb2, hm2, rfl, hh⟩ := hq
            rw [mdel_mlS] at hm2
            obtain ⟨L', h', hb⟩ := hcl ⟨some (mr, mb2), v, c, rows, ⟨true, sdel sb tp, w, lost⟩⟩ ⟨hsq, hits, .inr ⟨rfl, mr, _, rfl, hm2⟩⟩
            exact ⟨L', rfl, h', hb _ _ hh⟩
          · rw [if_neg h5]
            refine Ev.mono (sub_fail_ok (md := md) hip hrw hir hmb hgm (by rw [mdel_mlS, List.length_map]; omega) hm htp hH1) fun r H2 hq => ?_
            obtain ⟨mb2, hm2, rfl, hh⟩ := hq
            rw [mdel_mlS, mset_mlS] at hm2
            obtain ⟨L', h', hb⟩ := hcl ⟨some (mr, mb2), v, c, rows, ⟨true, sset (sdel sb tp) tp mode false, w, lost⟩⟩ ⟨hsq, hits, .inr ⟨rfl, mr, _, rfl, hm2⟩⟩
            exact ⟨L', rfl, h', hb _ _ hh⟩

theorem rl_drop {F : Nat} {s : Re} {D L R : HL} {n : Int} {H : AH} {tp : List UInt8} (h : Rl F s D L) (hw : ∀ a ∈ s.ps, a.w.length ≤ 1000000) (hH : Hs H (L ++ R)) : Ev tabA spA (.fn (.func 20) [] []) [.p (some (F, 0)), .i .i64 n, .s (txt tp)] H (fun r H' => ∃ L', r = .i .i64 (s.drop n tp).2 ∧ Rl F (s.drop n tp).1 D L' ∧ Hs H' (L' ++ R)) := by
  unfold Re.drop
  cases hat : s.at? n with
  | none =>
    obtain ⟨Lb, cm, np, Rr, hk, rfl⟩ := h.nilc hat
    rw [List.append_assoc] at hH
    refine Ev.mono (drop_nil hk hH) fun r H2 hq => ?_
    obtain ⟨rfl, hh⟩ := hq
    exact ⟨_, rfl, h, by rw [List.append_assoc]; exact hh⟩
  | some q =>
    obtain ⟨i, a⟩ := q
    obtain ⟨rfl, hi⟩ := at_some hat
    obtain ⟨Lb, cm, np, rws, p, Rr, hip, hir, hrw, hok, rfl, hop, hsame, hcl⟩ := h.open hi
    have hH1 := hop _ _ hH
    have hw2 := hw _ (List.mem_of_getElem? hi)
    clear hat hi hop
    obtain ⟨mo, v, c, rows, a⟩ := p
    have hok2 := hok
    obtain ⟨hsq, hits, hmo⟩ := hok2
    rcases hmo with ⟨rfl, rfl, rfl, rfl, rfl⟩ | ⟨hon, mr, mb, rfl, hmb⟩
    · refine Ev.mono (drop_off hip hrw hir hH1) fun r H2 hq => ?_
      obtain ⟨rfl, hh⟩ := hq
      exact ⟨L, rfl, h, hsame _ _ hh⟩
    · obtain ⟨on, sb, w, lost⟩ := a
      simp only at hon hmb hits hsq
      subst hon
      have hgm := mget_mlS tp sb
      dsimp only
      cases hg : sget sb tp with
      | none =>
        rw [hg] at hgm
        dsimp only
        refine Ev.mono (drop_none hip hrw hir hmb hgm hH1) fun r H2 hq => ?_
        obtain ⟨rfl, hh⟩ := hq
        exact ⟨L, rfl, h, hsame _ _ hh⟩
      | some z =>
        obtain ⟨md, f⟩ := z
        rw [hg] at hgm
        dsimp only
        refine Ev.mono (dropg_ev (md := md) (fl := f) hip hrw hir hmb hgm hsq hits.lens hits hw2 hH1) fun r H2 hq => ?_
        obtain ⟨mb2, v2, c2, rows2, rfl, hm2, hs2, hi2, hh⟩ := hq
        rw [mdel_mlS] at hm2
        obtain ⟨L', h', hb⟩ := hcl ⟨some (mr, mb2), v2, c2, rows2, ⟨true, sdel sb tp, w.filter fun y => !(decide (y.tp = tp)), lost⟩⟩ ⟨hs2, hi2, .inr ⟨rfl, mr, _, rfl, hm2⟩⟩
        exact ⟨L', rfl, h', hb _ _ hh⟩

theorem rl_failed {F : Nat} {s : Re} {D L R : HL} {n : Int} {H : AH} {tp : List UInt8} (h : Rl F s D L)  (hH : Hs H (L ++ R)) : Ev tabA spA (.fn (.func 15) [] []) [.p (some (F, 0)), .i .i64 n, .s (txt tp)] H (fun r H' => ∃ L', r = .b (s.failed n tp) ∧ Rl F s D L' ∧ Hs H' (L' ++ R)) := by
  unfold Re.failed
  cases hat : s.at? n with
  | none =>
    obtain ⟨Lb, cm, np, Rr, hk, rfl⟩ := h.nilc hat
    rw [List.append_assoc] at hH
    refine Ev.mono (failed_nil hk hH) fun r H2 hq => ?_
    obtain ⟨rfl, hh⟩ := hq
    exact ⟨_, rfl, h, by rw [List.append_assoc]; exact hh⟩
  | some q =>
    obtain ⟨i, a⟩ := q
    obtain ⟨rfl, hi⟩ := at_some hat
    obtain ⟨Lb, cm, np, rws, p, Rr, hip, hir, hrw, hok, rfl, hop, hsame, hcl⟩ := h.open hi
    have hH1 := hop _ _ hH
    clear hat hi hop
    obtain ⟨mo, v, c, rows, a⟩ := p
    have hok2 := hok
    obtain ⟨hsq, hits, hmo⟩ := hok2
    rcases hmo with ⟨rfl, rfl, rfl, rfl, rfl⟩ | ⟨hon, mr, mb, rfl, hmb⟩
    · refine Ev.mono (failed_off hip hrw hir hH1) fun r H2 hq => ?_
      obtain ⟨rfl, hh⟩ := hq
      exact ⟨L, rfl, h, hsame _ _ hh⟩
    · obtain ⟨on, sb, w, lost⟩ := a
      simp only at hon hmb hits hsq
      subst hon
      have hgm := mget_mlS tp sb
      dsimp only
      cases hg : sget sb tp with
      | none =>
        rw [hg] at hgm
        dsimp only
        refine Ev.mono (failed_none (mode := 0) (fl := false) hip hrw hir hmb hgm hH1) fun r H2 hq => ?_
        obtain ⟨rfl, hh⟩ := hq
        exact ⟨L, rfl, h, hsame _ _ hh⟩
      | some z =>
        obtain ⟨md, f⟩ := z
        rw [hg] at hgm
        dsimp only
        refine Ev.mono (failed_some (mode := md) hip hrw hir hmb hgm hH1) fun r H2 hq => ?_
        obtain ⟨rfl, hh⟩ := hq
        exact ⟨L, rfl, h, hsame _ _ hh⟩

theorem rl_lost {F : Nat} {s : Re} {D L R : HL} {n : Int} {H : AH}  (h : Rl F s D L)  (hH : Hs H (L ++ R)) : Ev tabA spA (.fn (.func 19) [] []) [.p (some (F, 0)), .i .i64 n] H (fun r H' => ∃ L', r = .i .i64 ((s.lostOf n : Nat) : Int) ∧ Rl F s D L' ∧ Hs H' (L' ++ R)) := by
  unfold Re.lostOf
  cases hat : s.at? n with
  | none =>
    obtain ⟨Lb, cm, np, Rr, hk, rfl⟩ := h.nilc hat
    rw [List.append_assoc] at hH
    refine Ev.mono (lost_nil hk hH) fun r H2 hq => ?_
    obtain ⟨rfl, hh⟩ := hq
    exact ⟨_, rfl, h, by rw [List.append_assoc]; exact hh⟩
  | some q =>
    obtain ⟨i, a⟩ := q
    obtain ⟨rfl, hi⟩ := at_some hat
    obtain ⟨Lb, cm, np, rws, p, Rr, hip, hir, hrw, hok, rfl, hop, hsame, hcl⟩ := h.open hi
    have hH1 := hop _ _ hH
    clear hat hi hop
    refine Ev.mono (lost_ev hip hrw hir hH1) fun r H2 hq => ?_
    obtain ⟨rfl, hh⟩ := hq
    exact ⟨L, rfl, h, hsame _ _ hh⟩

theorem rl_waiting {F : Nat} {s : Re} {D L R : HL} {n : Int} {H : AH}  (h : Rl F s D L)  (hH : Hs H (L ++ R)) : Ev tabA spA (.fn (.func 18) [] []) [.p (some (F, 0)), .i .i64 n] H (fun r H' => ∃ L', r = .i .i64 ((s.waiting n : Nat) : Int) ∧ Rl F s D L' ∧ Hs H' (L' ++ R)) := by
  unfold Re.waiting
  cases hat : s.at? n with
  | none =>
    obtain ⟨Lb, cm, np, Rr, hk, rfl⟩ := h.nilc hat
    rw [List.append_assoc] at hH
    refine Ev.mono (waiting_nil hk hH) fun r H2 hq => ?_
    obtain ⟨rfl, hh⟩ := hq
    exact ⟨_, rfl, h, by rw [List.append_assoc]; exact hh⟩
  | some q =>
    obtain ⟨i, a⟩ := q
    obtain ⟨rfl, hi⟩ := at_some hat
    obtain ⟨Lb, cm, np, rws, p, Rr, hip, hir, hrw, hok, rfl, hop, hsame, hcl⟩ := h.open hi
    have hH1 := hop _ _ hH
    clear hat hi hop
    refine Ev.mono (waiting_ev hip hrw hir hok.sq hok.ir.lens hH1) fun r H2 hq => ?_
    obtain ⟨rfl, hh⟩ := hq
    exact ⟨L, by rw [hok.ir.1], h, hsame _ _ hh⟩

theorem rl_pull {F : Nat} {s : Re} {D L R : HL} {n : Int} {H : AH}  (h : Rl F s D L)  (hH : Hs H (L ++ R)) : Ev tabA spA (.fn (.func 16) [] []) [.p (some (F, 0)), .i .i64 n] H (fun r H' => ∃ L', (match (s.pull n).2 with | none => r = .tup [.agg [.s (txt []), .i .i64 0, .i .i64 0, .b false, .sl none 0 0 0], .b false] | some x => ∃ rw, ItRow D rw x ∧ r = .tup [.agg rw, .b true]) ∧ Rl F (s.pull n).1 D L' ∧ Hs H' (L' ++ R)) := by
--(match (s.pull n).2 with | none => .tup [.agg [.s (txt []), .i .i64 0, .i .i64 0, .b false, .sl none 0 0 0], .b false] | some x => r) ∧ Rl F (s.pull n).1 D L' ∧ Hs H' (L' ++ R)) := by
  unfold Re.pull
  cases hat : s.at? n with
  | none =>
    obtain ⟨Lb, cm, np, Rr, hk, rfl⟩ := h.nilc hat
    rw [List.append_assoc] at hH
    refine Ev.mono (pull_nil hk hH) fun r H2 hq => ?_
    obtain ⟨rfl, hh⟩ := hq
    exact ⟨_, rfl, h, by rw [List.append_assoc]; exact hh⟩
  | some q =>
    obtain ⟨i, a⟩ := q
    obtain ⟨rfl, hi⟩ := at_some hat
    obtain ⟨Lb, cm, np, rws, p, Rr, hip, hir, hrw, hok, rfl, hop, hsame, hcl⟩ := h.open hi
    have hH1 := hop _ _ hH
    clear hat hi hop
    obtain ⟨mo, v, c, rows, on, sb, w, lost⟩ := p
    obtain ⟨hsq, hits, hmo⟩ := hok
    dsimp only at hmo hits hsq
    have hH2 := (Pc.seg3 (p := ⟨mo, v, c, rows, on, sb, w, lost⟩)).1 hH1
    cases w with
    | nil =>
      have h0 := hits.1
      obtain rfl : rows = [] := List.length_eq_zero_iff.1 (by simpa using h0)
      refine Ev.mono (pull0_ev hip hrw hir hsq hH2) fun r H2 hq => ?_
      obtain ⟨rfl, hh⟩ := hq
      exact ⟨L, rfl, h, hsame _ _ (Pc.seg3.2 hh)⟩
    | cons x w =>
      obtain ⟨r0, rz, rfl⟩ : ∃ r rz, rows = r :: rz := by
        cases rows with
        | nil => have := hits.1; simp at this
        | cons r rz => exact ⟨r, rz, rfl⟩
      obtain ⟨rr, hrr, hit⟩ := hits.2 0 x rfl
      simp only [List.getElem?_cons_zero, Option.some.injEq] at hrr
      subst hrr
      have hit2 := hit
      have hl5 := hits.lens
      obtain ⟨ka, kc, kg, rfl, _⟩ := hit2
      refine Ev.mono (pull_ev hip hrw hir hsq hl5 hH2) fun r H2 hq => ?_
      obtain ⟨v2, c2, rfl, hs2, hh⟩ := hq
      obtain ⟨L', h', hb⟩ := hcl ⟨mo, v2, c2, rz, ⟨on, sb, w, lost⟩⟩ ⟨hs2, hits.tail, by
        rcases hmo with ⟨_, ha, _⟩ | hm
        · cases ha
        · exact .inr hm⟩
      exact ⟨L', ⟨_, hit, rfl⟩, h', hb _ _ ((Pc.seg3 (p := ⟨mo, v2, c2, rz, ⟨on, sb, w, lost⟩⟩)).2 hh)⟩



set_option linter.unusedVariables false
set_option linter.unusedSimpArgs false
structure Re.inv (N : Nat) (s : Re) : Prop where
  pa : ∀ a ∈ s.ps, a.inv s.room N
  cs : ∀ c ∈ s.cs, c.2 ≤ N
  room : 1 ≤ s.room ∧ s.room ≤ 64
  len : s.ps.length ≤ 16
theorem Pa.inv.mono {room n m : Nat} {p : Pa} (h : p.inv room n) (hm : n ≤ m) : p.inv room m := ⟨h.w, Nat.le_trans h.lost hm, h.mode⟩
theorem pa0_inv (room n : Nat) : pa0.inv room n := ⟨Nat.zero_le _, Nat.zero_le _, fun x hx => by cases hx⟩
theorem Re.inv.mono {N M : Nat} {s : Re} (h : s.inv N) (hm : N ≤ M) : s.inv M := ⟨fun a ha => (h.pa a ha).mono hm, fun c hc => Nat.le_trans (h.cs c hc) hm, h.room, h.len⟩
theorem Re.inv.upd {N : Nat} {s : Re} {i : Nat} {a : Pa} (h : s.inv N) (ha : a.inv s.room N) : (s.upd i a).inv N := ⟨fun b hb => by
    rcases List.mem_or_eq_of_mem_set hb with h1 | rfl
    · exact h.pa b h1
    · exact ha, h.cs, h.room, by show (s.ps.set i a).length ≤ 16; rw [List.length_set]; exact h.len⟩
theorem Re.inv.get {N : Nat} {s : Re} {n : Int} {i : Nat} {a : Pa} (h : s.inv N) (hat : s.at? n = some (i, a)) : a.inv s.room N := h.pa a (List.mem_of_getElem? (at_some hat).2)
theorem Re.inv.join {N : Nat} {s : Re} {n : Int} (h : s.inv N) : (s.join n).1.inv N := by
  unfold Re.join
  split
  · exact h
  · exact h
  · exact h.upd ⟨Nat.zero_le _, Nat.zero_le _, fun x hx => by cases hx⟩
theorem Re.inv.leave {N : Nat} {s : Re} {n : Int} (h : s.inv N) : (s.leave n).1.inv N := by
  unfold Re.leave
  split
  · exact h
  · exact h.upd (pa0_inv _ _)
  · exact h
theorem Re.inv.subs {N : Nat} {s : Re} {n : Int} {tp : List UInt8} {mode : Int} (h : s.inv N) : (s.subs n tp mode).1.inv N := by
  unfold Re.subs
  split
  · exact h
  · rename_i i on sb w lost hat
    have ha := h.get hat
    split
    · exact h
    · split
      · exact h
      · split
        · exact h
        · split
          · exact h
          · split
            · exact h
            · split
              · exact h
              · split
                · exact h.upd ⟨ha.w, ha.lost, sdel_mode ha.mode⟩
                · exact h.upd ⟨ha.w, ha.lost, sset_mode (sdel_mode ha.mode) ⟨by omega, by omega⟩⟩
theorem Re.inv.drop {N : Nat} {s : Re} {n : Int} {tp : List UInt8} (h : s.inv N) : (s.drop n tp).1.inv N := by
  unfold Re.drop
  split
  · exact h
  · exact h
  · rename_i i sb w lost hat
    have ha := h.get hat
    split
    · exact h
    · exact h.upd ⟨Nat.le_trans (List.length_filter_le _ _) ha.w, ha.lost, sdel_mode ha.mode⟩
theorem Re.inv.pull {N : Nat} {s : Re} {n : Int} (h : s.inv N) : (s.pull n).1.inv N := by
  unfold Re.pull
  split
  · exact h
  · exact h
  · rename_i i on sb x w lost hat
    have ha := h.get hat
    have hw := ha.w
    exact h.upd ⟨by simp only [List.length_cons] at hw; show w.length ≤ s.room; omega, ha.lost, ha.mode⟩
theorem pubN_inv {n room N : Nat} {x : It} {ps : List Pa} (h : ∀ a ∈ ps, a.inv room N) (hr : 1 ≤ room) : ∀ k, ∀ a ∈ (pubN n room x ps k).1, a.inv room (N + 1)
  | 0, a, ha => (h a ha).mono (Nat.le_succ _)
  | k + 1, a, ha => by
    by_cases he : k = n
    · rw [pubN_eq he] at ha; exact pubN_inv h hr k a ha
    · cases hp : (pubN n room x ps k).1[k]? with
      | none =>
        have e : pubN n room x ps (k + 1) = pubN n room x ps k := by show (if k = n then _ else _) = _; rw [if_neg he, hp]
        rw [e] at ha; exact pubN_inv h hr k a ha
      | some p =>
        rw [pubN_ne he hp] at ha
        have hp2 := hp
        rw [pubN_get (Nat.le_refl k)] at hp2
        rcases List.mem_or_eq_of_mem_set ha with h1 | rfl
        · exact pubN_inv h hr k a h1
        · exact (h p (List.mem_of_getElem? hp2)).hand hr x
theorem cset_le {l : List (List UInt8 × Nat)} {N n : Nat} {tp : List UInt8} (h : ∀ c ∈ l, c.2 ≤ N) (hn : n ≤ N) : ∀ c ∈ cset l tp n, c.2 ≤ N := by
  induction l with
  | nil => intro c hc; unfold cset at hc; rw [List.mem_singleton] at hc; subst hc; exact hn
  | cons y l ih =>
    intro c hc
    unfold cset at hc
    split at hc
    · rcases List.mem_cons.1 hc with rfl | hc
      · exact hn
      · exact h c (List.mem_cons_of_mem _ hc)
    · rcases List.mem_cons.1 hc with rfl | hc
      · exact h _ (List.mem_cons_self ..)
      · exact ih (fun z hz => h z (List.mem_cons_of_mem _ hz)) c hc
theorem cget_le {l : List (List UInt8 × Nat)} {N n : Nat} {tp : List UInt8} (h : ∀ c ∈ l, c.2 ≤ N) (hg : cget l tp = some n) : n ≤ N := by
  induction l with
  | nil => cases hg
  | cons y l ih =>
    unfold cget at hg
    split at hg
    · cases hg; exact h _ (List.mem_cons_self ..)
    · exact ih (fun z hz => h z (List.mem_cons_of_mem _ hz)) hg
theorem cgetD_le {l : List (List UInt8 × Nat)} {N : Nat} {tp : List UInt8} (h : ∀ c ∈ l, c.2 ≤ N) : (cget l tp).getD 0 ≤ N := by
  cases hg : cget l tp with
  | none => exact Nat.zero_le _
  | some n => exact cget_le h hg
theorem Re.inv.pub {N : Nat} {s : Re} {n : Int} {tp d : List UInt8} {tx : Bool} (h : s.inv N) : (s.pub n tp tx d).1.inv (N + 1) := by
  have hm := h.mono (Nat.le_succ N)
  unfold Re.pub
  split
  · exact hm
  · split
    · exact hm
    · split
      · exact hm
      · split
        · exact hm
        · split
          · exact hm
          · exact ⟨pubN_inv h.pa h.room.1 _, cset_le hm.cs (Nat.succ_le_succ (cgetD_le h.cs)), h.room, by show (pubN _ _ _ _ _).1.length ≤ 16; rw [pubN_len]; exact h.len⟩
theorem Re.inv.wait {N : Nat} {s : Re} {n : Int} (h : s.inv N) : s.waiting n ≤ s.room := by
  unfold Re.waiting
  split
  · exact Nat.zero_le _
  · rename_i hat; exact (h.get hat).w
/-! ### Count, Publish -/
theorem rl_count {F : Nat} {s : Re} {D L R : HL} {H : AH} {tp : List UInt8} (h : Rl F s D L) (hH : Hs H (L ++ R)) : Ev tabA spA (.fn (.func 17) [] []) [.p (some (F, 0)), .s (txt tp)] H (fun r H' => ∃ L', r = .i .i64 ((s.count tp : Nat) : Int) ∧ Rl F s D L' ∧ Hs H' (L' ++ R)) := by
  have h0 := h
  obtain ⟨Lb, cm, cb, ps, hps, hok, hm, rfl⟩ := h
  rw [List.append_assoc, List.append_assoc, List.append_assoc] at hH
  have hH1 := hH.top2.top1
  have hgm := mget_mlC tp s.cs
  unfold Re.count
  cases hg : cget s.cs tp with
  | none =>
    rw [hg] at hgm
    refine Ev.mono (count_none (n := 0) hm hgm hH1) fun r H2 hq => ?_
    obtain ⟨rfl, hh⟩ := hq
    exact ⟨_, rfl, h0, by rw [List.append_assoc, List.append_assoc, List.append_assoc]; exact hh.top1.top2.top2⟩
  | some n =>
    rw [hg] at hgm
    refine Ev.mono (count_some hm hgm hH1) fun r H2 hq => ?_
    obtain ⟨rfl, hh⟩ := hq
    exact ⟨_, rfl, h0, by rw [List.append_assoc, List.append_assoc, List.append_assoc]; exact hh.top1.top2.top2⟩
theorem rl_pub {F : Nat} {s : Re} {D L R B : HL} {n : Int} {N : Nat} {H : AH} {tp dd : List UInt8} {tx : Bool} {da : Option (Nat × Nat)} {dc dg : Nat} (h : Rl F s D L) (hinv : s.inv N) (hN : N ≤ 100000) (hdg : dg = 0 ∨ dg = 1) (hdc : dd.length ≤ dc) (hdm : dc ≤ 9223372036854775807) (hdb : ∀ H', Hs H' B → Bs H' (.sl da dd.length dc dg) dd) (hH : Hs H (L ++ (D ++ (B ++ R)))) : Ev tabA spA (.fn (.func 13) [] []) [.p (some (F, 0)), .i .i64 n, .s (txt tp), .b tx, .sl da dd.length dc dg] H (fun r H' => ∃ L' D', r = .tup [.i .i64 (((s.pub n tp tx dd).2.1 : Nat) : Int), .i .i64 (s.pub n tp tx dd).2.2] ∧ Rl F (s.pub n tp tx dd).1 D' L' ∧ (∀ H', Hs H' D' → Hs H' D) ∧ Hs H' (L' ++ (D' ++ (B ++ R)))) := by
  unfold Re.pub
  cases hat : s.at? n with
  | none =>
    obtain ⟨Lb, cm, np, Rr, hk, rfl⟩ := h.nilc hat
    rw [List.append_assoc] at hH
    refine Ev.mono (pub_nil hk hH) fun r H2 hq => ?_
    obtain ⟨rfl, hh⟩ := hq
    exact ⟨_, D, rfl, h, fun _ hh => hh, by rw [List.append_assoc]; exact hh⟩
  | some q =>
    obtain ⟨i, a⟩ := q
    have hget := hinv.get hat
    obtain ⟨rfl, hi⟩ := at_some hat
    obtain ⟨Lb, cm, np, rws, p, Rr, hip, hir, hrw, hok, rfl, hop, hsame, hcl⟩ := h.open hi
    have hH1 := hop _ _ hH
    obtain ⟨mo, v, c, rows, on, sb, w, lost⟩ := p
    obtain ⟨hsq, hits, hmo⟩ := hok
    dsimp only at hmo hits hsq ⊢
    by_cases h3 : tp.length = 0
    · rw [if_pos h3]
      refine Ev.mono (pub_emp hip hrw hir (List.length_eq_zero_iff.1 h3) hH1) fun r H2 hq => ?_
      obtain ⟨rfl, hh⟩ := hq
      exact ⟨L, D, rfl, h, fun _ hh => hh, hsame _ _ hh⟩
    rw [if_neg h3]
    by_cases h4 : 256 < tp.length
    · rw [if_pos h4]
      refine Ev.mono (pub_big hip hrw hir ⟨by omega, h4⟩ hH1) fun r H2 hq => ?_
      obtain ⟨rfl, hh⟩ := hq
      exact ⟨L, D, rfl, h, fun _ hh => hh, hsame _ _ hh⟩
    rw [if_neg h4]
    have htp : 0 < tp.length ∧ tp.length ≤ 256 := ⟨by omega, by omega⟩
    by_cases h5 : 16384 < dd.length
    · rw [if_pos h5]
      refine Ev.mono (pub_large hip hrw hir htp h5 hH1) fun r H2 hq => ?_
      obtain ⟨rfl, hh⟩ := hq
      exact ⟨L, D, rfl, h, fun _ hh => hh, hsame _ _ hh⟩
    rw [if_neg h5]
    rcases hmo with ⟨rfl, ha, rfl, rfl, rfl⟩ | ⟨hon, mr, mb, rfl, hmb⟩
    · cases ha
      refine Ev.mono (pub_off hip hrw hir htp (by omega) hH1) fun r H2 hq => ?_
      obtain ⟨rfl, hh⟩ := hq
      exact ⟨L, D, rfl, h, fun _ hh => hh, hsame _ _ hh⟩
    · subst hon
      clear hsame hcl hop hH1 hrw hir hip
      obtain ⟨Lb, cm, cb, ps, hps, hpk, hm, rfl⟩ := h
      rw [List.append_assoc, List.append_assoc, List.append_assoc] at hH
      have hlen : s.ps.length = ps.length := by rw [← hps, List.length_map]
      have hip : i < ps.length := by rw [← hlen]; exact (List.getElem?_eq_some_iff.1 hi).1
      have hgi : ps[i]? = some ps[i] := List.getElem?_eq_getElem hip
      have hai : ps[i].a = ⟨true, sb, w, lost⟩ := by
        have e := getElem_map_a hps hgi
        rw [hi] at e
        simp only [Option.some.injEq] at e
        exact e.symm
      have hinv2 : ∀ p ∈ ps, p.a.inv s.room N := fun p hp => hinv.pa _ (by rw [← hps]; exact List.mem_map_of_mem hp)
      have hrd : ∀ H' R', Hs H' ([(Lb, some (.cells (ps.map Pc.row).flatten true))] ++ R') → ∃ c mu, H'.get Lb = some (.cells c mu) ∧ takeAt c (i * 4) 4 = some [.b true, .m (ps[i].mo.map (·.1)), ps[i].v, .i .i64 ((ps[i].a.lost : Nat) : Int)] := fun H' R' hh => by
        have e := Pc.rd hgi hh
        have e2 : ps[i].row = [.b true, .m (ps[i].mo.map (·.1)), ps[i].v, .i .i64 ((ps[i].a.lost : Nat) : Int)] := by unfold Pc.row prow; rw [hai]
        rw [e2] at e; exact e
      have hgm := mget_mlC tp s.cs
      have hcl := cgetD_le (tp := tp) hinv.cs
      dsimp only
      cases hg : cget s.cs tp with
      | none =>
        rw [hg] at hgm
        refine Ev.mono (pubP_none (n0 := 0) (p0 := ps[i]) hip (by rw [← hlen]; exact hinv.len) hrd hpk hinv2 hinv.room (by omega) hm hgm (Nat.zero_le _) htp (by omega) hdg hdc hdm hdb hH) fun r H2 hq => ?_
        obtain ⟨qs, D', cb2, rfl, hqa, hqk, hmon, hql, hm2, hh⟩ := hq
        have hm3 := mset_mlC tp 1 s.cs
        rw [show ((1 : Nat) : Int) = 1 from rfl] at hm3
        rw [hm3] at hm2
        refine ⟨_, D', by rw [hps, hlen]; rfl, ⟨Lb, cm, cb2, qs, by rw [hqa, hps, hlen]; rfl, hqk, hm2, rfl⟩, hmon, ?_⟩
        rw [List.append_assoc, List.append_assoc, List.append_assoc, hql]; exact hh
      | some c0 =>
        rw [hg] at hgm hcl
        simp only [Option.getD_some] at hcl
        refine Ev.mono (pubP_some (n0 := c0) (p0 := ps[i]) hip (by rw [← hlen]; exact hinv.len) hrd hpk hinv2 hinv.room (by omega) hm hgm (by omega) htp (by omega) hdg hdc hdm hdb hH) fun r H2 hq => ?_
        obtain ⟨qs, D', cb2, rfl, hqa, hqk, hmon, hql, hm2, hh⟩ := hq
        rw [mset_mlC] at hm2
        refine ⟨_, D', by rw [hps, hlen]; rfl, ⟨Lb, cm, cb2, qs, by rw [hqa, hps, hlen]; rfl, hqk, hm2, rfl⟩, hmon, ?_⟩
        rw [List.append_assoc, List.append_assoc, List.append_assoc, hql]; exact hh
end Go.Proofs.Ytnkpmidfefilbaa.E
