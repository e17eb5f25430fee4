/- Layer 18's Hear, walked. It bears no condition. -/
import Derived.Test.YtfhbdddjclodhaaDoorT2
namespace Go.Proofs.YtfhbdddjclodhaaDoor.E
abbrev zHKAA : List AV := [(.i .i64 0), (.i .u16 0), (.i .u8 0), (.i .u16 0), (.i .u32 0), (.s ⟨#[]⟩), (.s ⟨#[]⟩), (.b false), (.sl none 0 0 0)]
abbrev zHKAB : List AV := [(.i .i64 0), (.i .u8 0), (.i .u16 0), (.i .u32 0), (.s ⟨#[]⟩), (.s ⟨#[]⟩), (.b false), (.b false)]


open Go.Lib
set_option linter.unusedVariables false
set_option linter.unusedSimpArgs false
/-- What Hear tells: the event (kind, id, opening, text, data), the answer's octets, the error, the channels. -/
structure HR where
 ek : Int
 ei : Int
 ko : Int
 po : Int
 lo : Int
 ot : List UInt8
 oo : List UInt8
 et : Bool
 ed : List UInt8
 rep : List UInt8
 er : Int
 cs : List Ch
def HR.none (e : Int) (cs : List Ch) : HR := ⟨0, 0, 0, 0, 0, [], [], false, [], [], e, cs⟩
def hear (cs : List Ch) (even : Bool) (k : Nat) (ppid : Int) (b : List UInt8) : HR :=
 if ¬ k < cs.length then .none 1 cs
 else if ppid = 50 then
  if b = [2] then
   if (cs.getD k ch0).st = 0 then .none 8 cs
   else if (cs.getD k ch0).st = 1 then ⟨2, k, (cs.getD k ch0).kind, (cs.getD k ch0).prio, (cs.getD k ch0).limit, (cs.getD k ch0).label, (cs.getD k ch0).proto, false, [], [], 0, cs.set k ((cs.getD k ch0).to 2)⟩
   else .none 0 cs
  else if dErr b ≠ 0 then .none (dErr b) cs
  else if (cs.getD k ch0).st ≠ 0 ∨ ownB k even = true then .none 8 cs
  else ⟨1, k, dK b, dP b, dL b, dT b, dO b, false, [], [2], 0, cs.set k ⟨2, dK b, dP b, dL b, dT b, dO b, false, false⟩⟩
 else if (cs.getD k ch0).st = 0 then .none 11 cs
 else if uO ppid b = false then .none 3 cs
 else if (cs.getD k ch0).st = 3 then .none 0 cs
 else ⟨3, k, 0, 0, 0, [], [], uT ppid b, uB ppid b, [], 0, cs⟩
def HR.cells (r : HR) (d : AV) : List AV := [.i .i64 r.ek, .i .u16 r.ei, .i .u8 r.ko, .i .u16 r.po, .i .u32 r.lo, .s (txt r.ot), .s (txt r.oo), .b r.et, d]
theorem Hs.fst {H : AH} {A R : HL} (h : Hs H (A ++ R)) : Hs H A := (h.perm List.perm_append_comm).sub
/-- B: what the message's data lie in. -/
def HearP (T Lb : Nat) (even : Bool) (B R : HL) (hr : HR) (r : AV) (H' : AH) : Prop := ∃ a n c g v q D, r = .tup [.agg (hr.cells (.sl a n c g)), v, .i .i64 hr.er] ∧ (g = 0 ∨ g = 1) ∧ n ≤ c ∧ c ≤ 9223372036854775807 ∧ (∀ H'', Hs H'' (D ++ B) → Bs H'' (.sl a n c g) hr.ed) ∧ Sq 1 v q (bcells hr.rep) ∧ Hs H' (D ++ (qseg v q ++ ([(T, some (.cells [.sl (some (Lb, 0)) hr.cs.length hr.cs.length 0, .b even] true))] ++ ([(Lb, some (.cells (hr.cs.map Ch.row).flatten true))] ++ (B ++ R)))))
theorem HearP.nil {T Lb : Nat} {even : Bool} {B R : HL} {hr : HR} {r : AV} {H' : AH} (hr0 : r = .tup [.agg (hr.cells (.sl .none 0 0 0)), .sl .none 0 0 0, .i .i64 hr.er]) (h1 : hr.ed = []) (h2 : hr.rep = []) (hH : Hs H' ([(T, some (.cells [.sl (some (Lb, 0)) hr.cs.length hr.cs.length 0, .b even] true))] ++ ([(Lb, some (.cells (hr.cs.map Ch.row).flatten true))] ++ (B ++ R)))) : HearP T Lb even B R hr r H' :=
 ⟨_, _, _, _, _, [], [], hr0, .inl rfl, Nat.le_refl _, by omega, fun _ _ => by rw [h1]; exact .nil, by rw [h2]; exact .nil, hH⟩
theorem same_v {H : AH} (hok : H.Ok) {v w : AV} {l1 l2 : List UInt8} (hv : Bs H v l1) (hw : Bs H w l2) : Ev tabV spV (.fn (.func 15) [] []) [v, w] H (fun r H' => r = .b (decide (l1 = l2)) ∧ H' = H) := by
 refine Ev_C (F := x15) rfl ?_
 have hO0 := Old.refl hok
 refine sr ?_
 refine pv (.b false) rfl ?_
 refine O_nil (sr ?_)
 refine pv v rfl ?_
 refine O_p (.s (txt l1)) ((hv.old hok hO0).text rfl) ?_
 refine pv w rfl ?_
 refine O_p (.s (txt l2)) ((hw.old hok hO0).text rfl) ?_
 refine O_p (.b (decide (l1 = l2))) (r_eqt rfl rfl) ?_
 refine pv (.b (decide (l1 = l2))) rfl ?_
 refine O_nil ?_
 refine C_ret ?_
 exact ⟨.inr rfl, _, resL_one (r_tmp (v := (.b (decide (l1 = l2)))) rfl), rfl, rfl⟩
theorem uB_le {ppid : Int} {b : List UInt8} : (uB ppid b).length ≤ b.length := by unfold uB; split <;> simp
theorem runw_ev {H : AH} (hok : H.Ok) (ppid : Int) {ba : Option (Nat × Nat)} {bn bc bg : Nat} (bhg : bg = 0 ∨ bg = 1) {b : List UInt8} (bhb : Bs H (.sl ba bn bc bg) b) (bhc : bn ≤ bc) (bhm : bc ≤ 9223372036854775807) : Ev tabV spV (.fn (.func 21) [] []) [.i .u32 ppid, .sl ba bn bc bg] H (fun r H' => ∃ v, r = .tup [.b (uT ppid b), v, .b (uO ppid b)] ∧ (v = .sl ba b.length bc bg ∧ uB ppid b = b ∨ v = .sl none 0 0 0 ∧ uB ppid b = []) ∧ Kp H H') := by
 refine Ev_C (F := x21) rfl ?_
 have bhl := bhb.length
 subst bhl
 have hO0 := Old.refl hok
 refine sr ?_
 refine pv (.b false) rfl ?_
 refine pv (.sl none 0 0 0) rfl ?_
 refine pv (.b false) rfl ?_
 refine O_nil ?_
 refine C_seq ?_
 refine sr ?_
 refine pv (.i .u32 ppid) rfl ?_
 refine O_nil ?_
 refine C_block ?_
 refine C_seq ?_
 refine sr ?_
 refine O_p (.b (decide (ppid = 51))) (r_eql rfl rfl) ?_
 refine pv (.b (decide (ppid = 51))) rfl ?_
 refine O_nil ?_
 refine C_cond (x := (decide (ppid = 51))) rfl (fun hc1 => ?_) (fun hc1 => ?_)
 ·
  have hr2 := hc1
  simp only [decide_eq_true_eq, decide_eq_false_iff_not, Bool.not_eq_true', Bool.not_eq_false', Bool.and_eq_true, Bool.or_eq_true, Bool.or_eq_false_iff, Bool.not_not] at hc1
  refine C_skip ?_
  refine C_cond (x := true) (Eq.trans rfl (congrArg AV.b hr2)) (fun _ => ?_) (fun h => by cases h)
  refine sr ?_
  refine pv (.sl ba b.length bc bg) rfl ?_
  refine O_p (.i .i64 (((b.length : Nat)) : Int)) (r_len rfl) ?_
  refine O_p (.b (decide (0 < (((b.length : Nat)) : Int)))) (r_gtr rfl rfl) ?_
  refine O_nil ?_
  refine C_cond (x := (decide (0 < (((b.length : Nat)) : Int)))) rfl (fun hc3 => ?_) (fun hc3 => ?_)
  ·
   have hr4 := hc3
   simp only [decide_eq_true_eq, decide_eq_false_iff_not, Bool.not_eq_true', Bool.not_eq_false', Bool.and_eq_true, Bool.or_eq_true, Bool.or_eq_false_iff, Bool.not_not] at hc3
   refine sr ?_
   refine pv (.i .u32 ppid) rfl ?_
   refine O_p (.b (decide (ppid = 51))) (r_eql rfl rfl) ?_
   refine pv (.sl ba b.length bc bg) rfl ?_
   refine pv (.b (decide (ppid = 51))) rfl ?_
   refine pv (.sl ba b.length bc bg) rfl ?_
   refine pv (.b true) rfl ?_
   refine O_nil ?_
   refine C_ret ?_
   refine bk_ret ?_
   refine nx_ret ?_
   obtain ⟨e1, e2, e3⟩ := u_2 (ppid := ppid) (b := b) (by omega) (by omega) (by omega)
   exact ⟨.inr rfl, _, resL_cons (r_tmp (v := (.b (decide (ppid = 51)))) rfl) (resL_cons (r_tmp (v := (.sl ba b.length bc bg)) rfl) (resL_one (r_tmp (v := (.b true)) rfl))), _, by rw [e1, e3]; rfl, .inl ⟨rfl, e2⟩, hO0⟩
  ·
   have hr5 := hc3
   simp only [decide_eq_true_eq, decide_eq_false_iff_not, Bool.not_eq_true', Bool.not_eq_false', Bool.and_eq_true, Bool.or_eq_true, Bool.or_eq_false_iff, Bool.not_not] at hc3
   refine C_skip ?_
   refine sr ?_
   refine pv (.b false) rfl ?_
   refine pv (.sl none 0 0 0) rfl ?_
   refine pv (.b false) rfl ?_
   refine O_nil ?_
   refine C_ret ?_
   obtain ⟨e1, e2, e3⟩ := u_0 (ppid := ppid) (b := b) (by omega) (by omega)
   exact ⟨.inr rfl, _, resL_cons (r_tmp (v := (.b false)) rfl) (resL_cons (r_tmp (v := (.sl none 0 0 0)) rfl) (resL_one (r_tmp (v := (.b false)) rfl))), _, by rw [e1, e3]; rfl, .inr ⟨rfl, e2⟩, hO0⟩
 ·
  have hr6 := hc1
  simp only [decide_eq_true_eq, decide_eq_false_iff_not, Bool.not_eq_true', Bool.not_eq_false', Bool.and_eq_true, Bool.or_eq_true, Bool.or_eq_false_iff, Bool.not_not] at hc1
  refine C_region ?_
  refine O_p (.b (decide (ppid = 53))) (r_eql rfl rfl) ?_
  refine pv (.b (decide (ppid = 53))) rfl ?_
  refine O_nil ?_
  refine C_cond (x := (decide (ppid = 53))) rfl (fun hc7 => ?_) (fun hc7 => ?_)
  ·
   have hr8 := hc7
   simp only [decide_eq_true_eq, decide_eq_false_iff_not, Bool.not_eq_true', Bool.not_eq_false', Bool.and_eq_true, Bool.or_eq_true, Bool.or_eq_false_iff, Bool.not_not] at hc7
   refine sr ?_
   refine pv (.sl ba b.length bc bg) rfl ?_
   refine O_p (.i .i64 (((b.length : Nat)) : Int)) (r_len rfl) ?_
   refine O_p (.b (decide (0 < (((b.length : Nat)) : Int)))) (r_gtr rfl rfl) ?_
   refine O_nil ?_
   refine C_cond (x := (decide (0 < (((b.length : Nat)) : Int)))) rfl (fun hc9 => ?_) (fun hc9 => ?_)
   ·
    have hr10 := hc9
    simp only [decide_eq_true_eq, decide_eq_false_iff_not, Bool.not_eq_true', Bool.not_eq_false', Bool.and_eq_true, Bool.or_eq_true, Bool.or_eq_false_iff, Bool.not_not] at hc9
    refine sr ?_
    refine pv (.i .u32 ppid) rfl ?_
    refine O_p (.b (decide (ppid = 51))) (r_eql rfl rfl) ?_
    refine pv (.sl ba b.length bc bg) rfl ?_
    refine pv (.b (decide (ppid = 51))) rfl ?_
    refine pv (.sl ba b.length bc bg) rfl ?_
    refine pv (.b true) rfl ?_
    refine O_nil ?_
    refine C_ret ?_
    refine bk_ret ?_
    refine nx_ret ?_
    obtain ⟨e1, e2, e3⟩ := u_2 (ppid := ppid) (b := b) (by omega) (by omega) (by omega)
    exact ⟨.inr rfl, _, resL_cons (r_tmp (v := (.b (decide (ppid = 51)))) rfl) (resL_cons (r_tmp (v := (.sl ba b.length bc bg)) rfl) (resL_one (r_tmp (v := (.b true)) rfl))), _, by rw [e1, e3]; rfl, .inl ⟨rfl, e2⟩, hO0⟩
   ·
    have hr11 := hc9
    simp only [decide_eq_true_eq, decide_eq_false_iff_not, Bool.not_eq_true', Bool.not_eq_false', Bool.and_eq_true, Bool.or_eq_true, Bool.or_eq_false_iff, Bool.not_not] at hc9
    refine C_skip ?_
    refine sr ?_
    refine pv (.b false) rfl ?_
    refine pv (.sl none 0 0 0) rfl ?_
    refine pv (.b false) rfl ?_
    refine O_nil ?_
    refine C_ret ?_
    obtain ⟨e1, e2, e3⟩ := u_0 (ppid := ppid) (b := b) (by omega) (by omega)
    exact ⟨.inr rfl, _, resL_cons (r_tmp (v := (.b false)) rfl) (resL_cons (r_tmp (v := (.sl none 0 0 0)) rfl) (resL_one (r_tmp (v := (.b false)) rfl))), _, by rw [e1, e3]; rfl, .inr ⟨rfl, e2⟩, hO0⟩
  ·
   have hr12 := hc7
   simp only [decide_eq_true_eq, decide_eq_false_iff_not, Bool.not_eq_true', Bool.not_eq_false', Bool.and_eq_true, Bool.or_eq_true, Bool.or_eq_false_iff, Bool.not_not] at hc7
   refine C_seq ?_
   refine sr ?_
   refine O_p (.b (decide (ppid = 56))) (r_eql rfl rfl) ?_
   refine pv (.b (decide (ppid = 56))) rfl ?_
   refine O_nil ?_
   refine C_cond (x := (decide (ppid = 56))) rfl (fun hc13 => ?_) (fun hc13 => ?_)
   ·
    have hr14 := hc13
    simp only [decide_eq_true_eq, decide_eq_false_iff_not, Bool.not_eq_true', Bool.not_eq_false', Bool.and_eq_true, Bool.or_eq_true, Bool.or_eq_false_iff, Bool.not_not] at hc13
    refine C_skip ?_
    refine C_cond (x := true) (Eq.trans rfl (congrArg AV.b hr14)) (fun _ => ?_) (fun h => by cases h)
    refine sr ?_
    refine pv (.i .u32 ppid) rfl ?_
    refine O_p (.b (decide (ppid = 56))) (r_eql rfl rfl) ?_
    refine pv (.b (decide (ppid = 56))) rfl ?_
    refine pv (.sl none 0 0 0) rfl ?_
    refine pv (.b true) rfl ?_
    refine O_nil ?_
    refine C_ret ?_
    refine bk_ret ?_
    refine nx_ret ?_
    obtain ⟨e1, e2, e3⟩ := u_1 (ppid := ppid) (b := b) (by omega)
    exact ⟨.inr rfl, _, resL_cons (r_tmp (v := (.b (decide (ppid = 56)))) rfl) (resL_cons (r_tmp (v := (.sl none 0 0 0)) rfl) (resL_one (r_tmp (v := (.b true)) rfl))), _, by rw [e1, e3]; rfl, .inr ⟨rfl, e2⟩, hO0⟩
   ·
    have hr15 := hc13
    simp only [decide_eq_true_eq, decide_eq_false_iff_not, Bool.not_eq_true', Bool.not_eq_false', Bool.and_eq_true, Bool.or_eq_true, Bool.or_eq_false_iff, Bool.not_not] at hc13
    refine C_region ?_
    refine O_p (.b (decide (ppid = 57))) (r_eql rfl rfl) ?_
    refine pv (.b (decide (ppid = 57))) rfl ?_
    refine O_nil ?_
    refine C_cond (x := (decide (ppid = 57))) rfl (fun hc16 => ?_) (fun hc16 => ?_)
    ·
     have hr17 := hc16
     simp only [decide_eq_true_eq, decide_eq_false_iff_not, Bool.not_eq_true', Bool.not_eq_false', Bool.and_eq_true, Bool.or_eq_true, Bool.or_eq_false_iff, Bool.not_not] at hc16
     refine sr ?_
     refine pv (.i .u32 ppid) rfl ?_
     refine O_p (.b (decide (ppid = 56))) (r_eql rfl rfl) ?_
     refine pv (.b (decide (ppid = 56))) rfl ?_
     refine pv (.sl none 0 0 0) rfl ?_
     refine pv (.b true) rfl ?_
     refine O_nil ?_
     refine C_ret ?_
     refine bk_ret ?_
     refine nx_ret ?_
     obtain ⟨e1, e2, e3⟩ := u_1 (ppid := ppid) (b := b) (by omega)
     exact ⟨.inr rfl, _, resL_cons (r_tmp (v := (.b (decide (ppid = 56)))) rfl) (resL_cons (r_tmp (v := (.sl none 0 0 0)) rfl) (resL_one (r_tmp (v := (.b true)) rfl))), _, by rw [e1, e3]; rfl, .inr ⟨rfl, e2⟩, hO0⟩
    ·
     have hr18 := hc16
     simp only [decide_eq_true_eq, decide_eq_false_iff_not, Bool.not_eq_true', Bool.not_eq_false', Bool.and_eq_true, Bool.or_eq_true, Bool.or_eq_false_iff, Bool.not_not] at hc16
     refine C_skip ?_
     refine sr ?_
     refine pv (.b false) rfl ?_
     refine pv (.sl none 0 0 0) rfl ?_
     refine pv (.b false) rfl ?_
     refine O_nil ?_
     refine C_ret ?_
     obtain ⟨e1, e2, e3⟩ := u_0 (ppid := ppid) (b := b) (by omega) (by omega)
     exact ⟨.inr rfl, _, resL_cons (r_tmp (v := (.b false)) rfl) (resL_cons (r_tmp (v := (.sl none 0 0 0)) rfl) (resL_one (r_tmp (v := (.b false)) rfl))), _, by rw [e1, e3]; rfl, .inr ⟨rfl, e2⟩, hO0⟩
theorem eq_a {H : AH} (hok : H.Ok) {ba : Option (Nat × Nat)} {bn bc bg : Nat} (bhg : bg = 0 ∨ bg = 1) {b : List UInt8} (bhb : Bs H (.sl ba bn bc bg) b) (bhc : bn ≤ bc) (bhm : bc ≤ 9223372036854775807) {n2 : Nat} (hn2 : H.get n2 = some (.cells [.i .u8 2] true)) (hl : ¬ b.length = 1) : Ev tabV spV (.fn (.func 60) [] []) [.sl ba bn bc bg, .sl (some (n2, 0)) 1 1 0] H (fun r H' => r = .b false ∧ Kp H H') := by
 refine Ev_C (F := x60) rfl ?_
 have bhl := bhb.length
 subst bhl
 have hO0 := Old.refl hok
 have hlt_n2 := hok _ _ hn2
 refine sr ?_
 refine pv (.b false) rfl ?_
 refine O_nil ?_
 refine C_seq ?_
 refine sr ?_
 refine pv (.sl ba b.length bc bg) rfl ?_
 refine O_p (.i .i64 (((b.length : Nat)) : Int)) (r_len rfl) ?_
 refine pv (.sl (some (n2, 0)) 1 1 0) rfl ?_
 refine O_p (.i .i64 1) (r_len rfl) ?_
 refine O_p (.b true) (by exact (by rw [r_neq rfl rfl, decide_eq_false (by first | omega | assumption)]; rfl)) ?_
 refine O_nil ?_
 refine C_cond (x := true) rfl (fun _ => ?_) (fun h => by cases h)
 refine sr ?_
 refine pv (.b false) rfl ?_
 refine O_nil ?_
 refine C_ret ?_
 refine nx_ret ?_
 exact ⟨.inr rfl, _, resL_one (r_tmp (v := .b false) rfl), rfl, hO0⟩
theorem eq_b {H : AH} (hok : H.Ok) {ba : Option (Nat × Nat)} {bn bc bg : Nat} (bhg : bg = 0 ∨ bg = 1) {b : List UInt8} (bhb : Bs H (.sl ba bn bc bg) b) (bhc : bn ≤ bc) (bhm : bc ≤ 9223372036854775807) {n2 : Nat} (hn2 : H.get n2 = some (.cells [.i .u8 2] true)) (hl : b.length = 1) (h2 : ¬ ((b.getD 0 0).toNat : Int) = 2) : Ev tabV spV (.fn (.func 60) [] []) [.sl ba bn bc bg, .sl (some (n2, 0)) 1 1 0] H (fun r H' => r = .b false ∧ Kp H H') := by
 refine Ev_C (F := x60) rfl ?_
 have bhl := bhb.length
 subst bhl
 have hO0 := Old.refl hok
 have hlt_n2 := hok _ _ hn2
 refine sr ?_
 refine pv (.b false) rfl ?_
 refine O_nil ?_
 refine C_seq ?_
 refine sr ?_
 refine pv (.sl ba b.length bc bg) rfl ?_
 refine O_p (.i .i64 (((b.length : Nat)) : Int)) (r_len rfl) ?_
 refine pv (.sl (some (n2, 0)) 1 1 0) rfl ?_
 refine O_p (.i .i64 1) (r_len rfl) ?_
 refine O_p (.b false) (by exact (by rw [r_neq rfl rfl, decide_eq_true (by first | omega | assumption)]; rfl)) ?_
 refine O_nil ?_
 refine C_cond (x := false) rfl (fun h => by cases h) (fun _ => ?_)
 refine C_skip ?_
 refine C_seq ?_
 refine sr ?_
 refine pv (.sl ba b.length bc bg) rfl ?_
 refine O_p (.i .i64 (((b.length : Nat)) : Int)) (r_len rfl) ?_
 refine pv (.i .i64 0) rfl ?_
 refine O_nil ?_
 refine C_block ?_
 refine C_loop ?_
 refine sr ?_
 refine O_p (.b true) (by exact (by rw [r_lss rfl rfl, decide_eq_true (by first | omega | assumption)])) ?_
 refine O_nil ?_
 refine C_seq ?_
 refine C_cond (x := true) rfl (fun _ => ?_) (fun h => by cases h)
 refine C_skip ?_
 refine C_seq ?_
 refine C_block ?_
 refine sr ?_
 refine pv (.i .i64 0) rfl ?_
 refine pv (.i .i64 0) rfl ?_
 refine O_nil ?_
 refine C_seq ?_
 refine C_draw fun b1 H2 hbase3 hA4 => ?_
 have hnx5 : H2.next = H.next + 9 := hA4.1
 have hb6 := (hA4.2 _).trans hn2
 have hF7 := hA4.fr (fun _ => False)
 have hO8 := hO0.aside hA4
 have hx_hO8 := hO8.next
 have hlt_n2 : n2 < H2.next := by omega
 refine D_l (v := (.sl ba b.length bc bg)) rfl rfl rfl (r_mv rfl) ?_
 refine D_l (v := (.i .i64 0)) rfl rfl rfl (r_mv rfl) ?_
 refine D_q rfl rfl rfl (by exact Bs.ix0 bhb rfl (i := 0) rfl (by first | omega | (simp only [List.length_take, List.length_drop, List.length_append, List.length_cons, List.length_nil, beN_len] <;> omega))) fun v10 hv9 => ?_
 refine D_l (v := (.sl (some (n2, 0)) 1 1 0)) rfl rfl rfl (r_mv rfl) ?_
 refine D_l (v := (.i .i64 0)) rfl rfl rfl (r_mv rfl) ?_
 refine D_l (v := (.p (some (n2, 0)))) rfl rfl rfl (by exact (r_isl' rfl rfl (by decide) (by decide) rfl)) ?_
 refine D_r (v := (.i .u8 ((b.getD 0 0).toNat : Int))) rfl rfl rfl ((hv9.old hok hO8).load rfl) ?_
 refine D_r (v := (.i .u8 2)) rfl rfl rfl (r_ld rfl hb6 rfl) ?_
 refine D_l (v := (.b true)) rfl rfl rfl (by exact (by rw [r_neq rfl rfl, decide_eq_false (by first | omega | assumption)]; rfl)) ?_
 refine D_nil ?_
 refine C_cond (x := true) rfl (fun _ => ?_) (fun h => by cases h)
 refine sr ?_
 refine pv (.b false) rfl ?_
 refine O_nil ?_
 refine C_ret ?_
 refine bk_ret ?_
 refine nx_ret ?_
 refine nx_ret ?_
 refine bk_ret ?_
 refine nx_ret ?_
 exact ⟨.inr rfl, _, resL_one (r_tmp (v := .b false) rfl), rfl, hO8⟩
theorem eq_c {H : AH} (hok : H.Ok) {ba : Option (Nat × Nat)} {bn bc bg : Nat} (bhg : bg = 0 ∨ bg = 1) {b : List UInt8} (bhb : Bs H (.sl ba bn bc bg) b) (bhc : bn ≤ bc) (bhm : bc ≤ 9223372036854775807) {n2 : Nat} (hn2 : H.get n2 = some (.cells [.i .u8 2] true)) (hl : b.length = 1) (h2 : ((b.getD 0 0).toNat : Int) = 2) : Ev tabV spV (.fn (.func 60) [] []) [.sl ba bn bc bg, .sl (some (n2, 0)) 1 1 0] H (fun r H' => r = .b true ∧ Kp H H') := by
 refine Ev_C (F := x60) rfl ?_
 have bhl := bhb.length
 subst bhl
 have hO0 := Old.refl hok
 have hlt_n2 := hok _ _ hn2
 refine sr ?_
 refine pv (.b false) rfl ?_
 refine O_nil ?_
 refine C_seq ?_
 refine sr ?_
 refine pv (.sl ba b.length bc bg) rfl ?_
 refine O_p (.i .i64 (((b.length : Nat)) : Int)) (r_len rfl) ?_
 refine pv (.sl (some (n2, 0)) 1 1 0) rfl ?_
 refine O_p (.i .i64 1) (r_len rfl) ?_
 refine O_p (.b false) (by exact (by rw [r_neq rfl rfl, decide_eq_true (by first | omega | assumption)]; rfl)) ?_
 refine O_nil ?_
 refine C_cond (x := false) rfl (fun h => by cases h) (fun _ => ?_)
 refine C_skip ?_
 refine C_seq ?_
 refine sr ?_
 refine pv (.sl ba b.length bc bg) rfl ?_
 refine O_p (.i .i64 (((b.length : Nat)) : Int)) (r_len rfl) ?_
 refine pv (.i .i64 0) rfl ?_
 refine O_nil ?_
 refine C_block ?_
 refine C_loop ?_
 refine sr ?_
 refine O_p (.b true) (by exact (by rw [r_lss rfl rfl, decide_eq_true (by first | omega | assumption)])) ?_
 refine O_nil ?_
 refine C_seq ?_
 refine C_cond (x := true) rfl (fun _ => ?_) (fun h => by cases h)
 refine C_skip ?_
 refine C_seq ?_
 refine C_block ?_
 refine sr ?_
 refine pv (.i .i64 0) rfl ?_
 refine pv (.i .i64 0) rfl ?_
 refine O_nil ?_
 refine C_seq ?_
 refine C_draw fun b1 H2 hbase3 hA4 => ?_
 have hnx5 : H2.next = H.next + 9 := hA4.1
 have hb6 := (hA4.2 _).trans hn2
 have hF7 := hA4.fr (fun _ => False)
 have hO8 := hO0.aside hA4
 have hx_hO8 := hO8.next
 have hlt_n2 : n2 < H2.next := by omega
 refine D_l (v := (.sl ba b.length bc bg)) rfl rfl rfl (r_mv rfl) ?_
 refine D_l (v := (.i .i64 0)) rfl rfl rfl (r_mv rfl) ?_
 refine D_q rfl rfl rfl (by exact Bs.ix0 bhb rfl (i := 0) rfl (by first | omega | (simp only [List.length_take, List.length_drop, List.length_append, List.length_cons, List.length_nil, beN_len] <;> omega))) fun v10 hv9 => ?_
 refine D_l (v := (.sl (some (n2, 0)) 1 1 0)) rfl rfl rfl (r_mv rfl) ?_
 refine D_l (v := (.i .i64 0)) rfl rfl rfl (r_mv rfl) ?_
 refine D_l (v := (.p (some (n2, 0)))) rfl rfl rfl (by exact (r_isl' rfl rfl (by decide) (by decide) rfl)) ?_
 refine D_r (v := (.i .u8 ((b.getD 0 0).toNat : Int))) rfl rfl rfl ((hv9.old hok hO8).load rfl) ?_
 refine D_r (v := (.i .u8 2)) rfl rfl rfl (r_ld rfl hb6 rfl) ?_
 refine D_l (v := (.b false)) rfl rfl rfl (by exact (by rw [r_neq rfl rfl, decide_eq_true (by first | omega | assumption)]; rfl)) ?_
 refine D_nil ?_
 refine C_cond (x := false) rfl (fun h => by cases h) (fun _ => ?_)
 refine C_skip ?_
 refine C_region ?_
 refine O_p (.i .i64 1) (r_bin rfl rfl rfl) ?_
 refine pv (.i .i64 1) rfl ?_
 refine O_nil ?_
 refine C_loop ?_
 refine sr ?_
 refine O_p (.b false) (by exact (by rw [r_lss rfl rfl, decide_eq_false (by first | omega | assumption)])) ?_
 refine O_nil ?_
 refine C_seq ?_
 refine C_cond (x := false) rfl (fun h => by cases h) (fun _ => ?_)
 refine C_exit ?_
 refine nx_exit ?_
 refine nx_exit ?_
 refine bk_hit ?_
 refine sr ?_
 refine pv (.b true) rfl ?_
 refine O_nil ?_
 refine C_ret ?_
 exact ⟨.inr rfl, _, resL_one (r_tmp (v := .b true) rfl), rfl, hO8⟩
theorem two_iff {b : List UInt8} : b = [2] ↔ b.length = 1 ∧ ((b.getD 0 0).toNat : Int) = 2 := by
  constructor
  · rintro rfl; exact ⟨rfl, rfl⟩
  · rintro ⟨h1, h2⟩
    match b, h1 with
    | [x], _ => have e : x.toNat = 2 := by have h3 : ((x.toNat : Nat) : Int) = 2 := h2; omega
                rw [show x = 2 from UInt8.toNat_inj.1 e]
theorem eq_ev {H : AH} (hok : H.Ok) {ba : Option (Nat × Nat)} {bn bc bg : Nat} (bhg : bg = 0 ∨ bg = 1) {b : List UInt8} (bhb : Bs H (.sl ba bn bc bg) b) (bhc : bn ≤ bc) (bhm : bc ≤ 9223372036854775807) {n2 : Nat} (hn2 : H.get n2 = some (.cells [.i .u8 2] true)) : Ev tabV spV (.fn (.func 60) [] []) [.sl ba bn bc bg, .sl (some (n2, 0)) 1 1 0] H (fun r H' => r = .b (decide (b = [2])) ∧ Kp H H') := by
  by_cases hl : b.length = 1
  · by_cases h2 : ((b.getD 0 0).toNat : Int) = 2
    · rw [decide_eq_true (two_iff.2 ⟨hl, h2⟩)]; exact eq_c hok bhg bhb bhc bhm hn2 hl h2
    · rw [decide_eq_false (fun h => h2 (two_iff.1 h).2)]; exact eq_b hok bhg bhb bhc bhm hn2 hl h2
  · rw [decide_eq_false (fun h => hl (two_iff.1 h).1)]; exact eq_a hok bhg bhb bhc bhm hn2 hl
theorem ack_0 {H : AH} {Lb : Nat} {cs : List Ch} {R : HL} {k : Nat} (c : Ch) (hk : k < cs.length) (h0 : c.st = 0) (hH0 : Hs H ([(Lb, some (.cells ((cs.map Ch.row).set k (Ch.row c)).flatten true))] ++ R)) : Ev tabV spV (.fn (.func 61) [] []) [.p (some (Lb, k * 8 + 0)), .i .u16 k] H (fun r H' => r = .tup [.agg (HR.cells (.none 0 []) (.sl none 0 0 0)), .i .i64 8] ∧ Hs H' ([(Lb, some (.cells ((cs.map Ch.row).set k (Ch.row c)).flatten true))] ++ R)) := by
 refine Ev_C (F := x61) rfl ?_
 refine sr ?_
 refine O_alloc fun n1 H2 hN3 => ?_
 have hH4 := hH0.new hN3
 refine pv (.i .i64 0) rfl ?_
 refine O_nil ?_
 refine C_seq ?_
 refine sr ?_
 refine pv (.p (some (Lb, (k * 8 + 0)))) rfl ?_
 refine O_p (.p (some (Lb, (k * 8 + 0)))) (r_nilc rfl) ?_
 refine pf (.p (some (Lb, (k * 8 + 0)))) rfl rfl ?_
 refine O_p (.i .i64 c.st) (by exact (r_ld rfl hH4.get1 ((foc_get (rows_map Ch.row_len cs) (by rw [List.length_map]; exact hk) rfl (by decide)).trans rfl))) ?_
 refine O_nil ?_
 refine C_block ?_
 refine sr ?_
 refine O_p (.b true) (by exact (by rw [r_eql rfl rfl, decide_eq_true (by first | omega | assumption)])) ?_
 refine pv (.b true) rfl ?_
 refine O_nil ?_
 refine C_cond (x := true) rfl (fun _ => ?_) (fun h => by cases h)
 refine sr ?_
 refine O_p (.agg zHKAA ) (r_build rfl) ?_
 refine O_store (vs := zHKAA ) (c' := zHKAA ) rfl (by rfl) hH4.get0 rfl (List.cons_ne_nil _ _) (Nat.le_of_ble_eq_true rfl) rfl fun H5 hW6 => ?_
 have hH7 := hH4.wr0 hW6
 refine pv (.i .i64 8) rfl ?_
 refine O_nil ?_
 refine C_ret ?_
 refine bk_ret ?_
 refine nx_ret ?_
 have hcell := hH7.get0
 have hH8 := (hH7.sub0)
 exact ⟨.inr rfl, _, resL_cons (r_cellA rfl hcell rfl) (resL_one (r_tmp (v := (.i .i64 8)) rfl)), rfl, hH8⟩
theorem ack_1 {H : AH} {Lb : Nat} {cs : List Ch} {R : HL} {k : Nat} (c : Ch) (hk : k < cs.length) (h0 : c.st = 1) (hH0 : Hs H ([(Lb, some (.cells ((cs.map Ch.row).set k (Ch.row c)).flatten true))] ++ R)) : Ev tabV spV (.fn (.func 61) [] []) [.p (some (Lb, k * 8 + 0)), .i .u16 k] H (fun r H' => r = .tup [.agg [.i .i64 2, .i .u16 k, .i .u8 c.kind, .i .u16 c.prio, .i .u32 c.limit, .s (txt c.label), .s (txt c.proto), .b false, .sl none 0 0 0], .i .i64 0] ∧ Hs H' ([(Lb, some (.cells ((cs.map Ch.row).set k (Ch.row (c.to 2))).flatten true))] ++ R)) := by
 refine Ev_C (F := x61) rfl ?_
 refine sr ?_
 refine O_alloc fun n1 H2 hN3 => ?_
 have hH4 := hH0.new hN3
 refine pv (.i .i64 0) rfl ?_
 refine O_nil ?_
 refine C_seq ?_
 refine sr ?_
 refine pv (.p (some (Lb, (k * 8 + 0)))) rfl ?_
 refine O_p (.p (some (Lb, (k * 8 + 0)))) (r_nilc rfl) ?_
 refine pf (.p (some (Lb, (k * 8 + 0)))) rfl rfl ?_
 refine O_p (.i .i64 c.st) (by exact (r_ld rfl hH4.get1 ((foc_get (rows_map Ch.row_len cs) (by rw [List.length_map]; exact hk) rfl (by decide)).trans rfl))) ?_
 refine O_nil ?_
 refine C_block ?_
 refine sr ?_
 refine O_p (.b false) (by exact (by rw [r_eql rfl rfl, decide_eq_false (by first | omega | assumption)])) ?_
 refine pv (.b false) rfl ?_
 refine O_nil ?_
 refine C_cond (x := false) rfl (fun h => by cases h) (fun _ => ?_)
 refine sr ?_
 refine O_p (.b true) (by exact (by rw [r_eql rfl rfl, decide_eq_true (by first | omega | assumption)])) ?_
 refine pv (.b true) rfl ?_
 refine O_nil ?_
 refine C_cond (x := true) rfl (fun _ => ?_) (fun h => by cases h)
 refine sr ?_
 refine pv (.p (some (Lb, (k * 8 + 0)))) rfl ?_
 refine O_p (.p (some (Lb, (k * 8 + 0)))) (r_nilc rfl) ?_
 refine pf (.p (some (Lb, (k * 8 + 0)))) rfl rfl ?_
 refine O_store (vs := [(.i .i64 2)]) (c' := ((cs.map Ch.row).set k [(.i .i64 2), (.i .u8 c.kind), (.i .u16 c.prio), (.i .u32 c.limit), (.s (txt c.label)), (.s (txt c.proto)), (.b c.mine), (.b c.theirs)]).flatten) rfl (by rfl) hH4.get1 rfl (List.cons_ne_nil _ _) (foc_len (n := 1) (rows_map Ch.row_len cs) (by rw [List.length_map]; exact hk) rfl (Nat.le_of_ble_eq_true rfl)) (foc_put (rows_map Ch.row_len cs) (by rw [List.length_map]; exact hk) rfl (Nat.le_of_ble_eq_true rfl) rfl) fun H5 hW6 => ?_
 have hH7 := hH4.wr1 hW6
 refine O_nil (sr ?_)
 refine pv (.i .u16 ((k : Nat) : Int)) rfl ?_
 refine pv (.p (some (Lb, (k * 8 + 0)))) rfl ?_
 refine O_p (.p (some (Lb, (k * 8 + 0)))) (r_nilc rfl) ?_
 refine pf (.p (some (Lb, (k * 8 + 1)))) rfl rfl ?_
 refine O_p (.agg [(.i .u8 c.kind), (.i .u16 c.prio), (.i .u32 c.limit), (.s (txt c.label)), (.s (txt c.proto))]) (by exact (r_ldA rfl hH7.get1 ((foc_take (rows_map Ch.row_len cs) (by rw [List.length_map]; exact hk) rfl (by decide)).trans rfl))) ?_
 refine O_p (.agg [(.i .i64 2), (.i .u16 ((k : Nat) : Int)), (.i .u8 c.kind), (.i .u16 c.prio), (.i .u32 c.limit), (.s (txt c.label)), (.s (txt c.proto)), (.b false), (.sl none 0 0 0)]) (r_build rfl) ?_
 refine O_store (vs := [(.i .i64 2), (.i .u16 ((k : Nat) : Int)), (.i .u8 c.kind), (.i .u16 c.prio), (.i .u32 c.limit), (.s (txt c.label)), (.s (txt c.proto)), (.b false), (.sl none 0 0 0)]) (c' := [(.i .i64 2), (.i .u16 ((k : Nat) : Int)), (.i .u8 c.kind), (.i .u16 c.prio), (.i .u32 c.limit), (.s (txt c.label)), (.s (txt c.proto)), (.b false), (.sl none 0 0 0)]) rfl (by rfl) hH7.get0 rfl (List.cons_ne_nil _ _) (Nat.le_of_ble_eq_true rfl) rfl fun H8 hW9 => ?_
 have hH10 := hH7.wr0 hW9
 refine pv (.i .i64 0) rfl ?_
 refine O_nil ?_
 refine C_ret ?_
 refine bk_ret ?_
 refine nx_ret ?_
 have hcell := hH10.get0
 have hH11 := (hH10.sub0)
 exact ⟨.inr rfl, _, resL_cons (r_cellA rfl hcell rfl) (resL_one (r_tmp (v := (.i .i64 0)) rfl)), rfl, hH11⟩
theorem ack_2 {H : AH} {Lb : Nat} {cs : List Ch} {R : HL} {k : Nat} (c : Ch) (hk : k < cs.length) (h0 : ¬ c.st = 0) (h1 : ¬ c.st = 1) (hH0 : Hs H ([(Lb, some (.cells ((cs.map Ch.row).set k (Ch.row c)).flatten true))] ++ R)) : Ev tabV spV (.fn (.func 61) [] []) [.p (some (Lb, k * 8 + 0)), .i .u16 k] H (fun r H' => r = .tup [.agg (HR.cells (.none 0 []) (.sl none 0 0 0)), .i .i64 0] ∧ Hs H' ([(Lb, some (.cells ((cs.map Ch.row).set k (Ch.row c)).flatten true))] ++ R)) := by
 refine Ev_C (F := x61) rfl ?_
 refine sr ?_
 refine O_alloc fun n1 H2 hN3 => ?_
 have hH4 := hH0.new hN3
 refine pv (.i .i64 0) rfl ?_
 refine O_nil ?_
 refine C_seq ?_
 refine sr ?_
 refine pv (.p (some (Lb, (k * 8 + 0)))) rfl ?_
 refine O_p (.p (some (Lb, (k * 8 + 0)))) (r_nilc rfl) ?_
 refine pf (.p (some (Lb, (k * 8 + 0)))) rfl rfl ?_
 refine O_p (.i .i64 c.st) (by exact (r_ld rfl hH4.get1 ((foc_get (rows_map Ch.row_len cs) (by rw [List.length_map]; exact hk) rfl (by decide)).trans rfl))) ?_
 refine O_nil ?_
 refine C_block ?_
 refine sr ?_
 refine O_p (.b false) (by exact (by rw [r_eql rfl rfl, decide_eq_false (by first | omega | assumption)])) ?_
 refine pv (.b false) rfl ?_
 refine O_nil ?_
 refine C_cond (x := false) rfl (fun h => by cases h) (fun _ => ?_)
 refine sr ?_
 refine O_p (.b false) (by exact (by rw [r_eql rfl rfl, decide_eq_false (by first | omega | assumption)])) ?_
 refine pv (.b false) rfl ?_
 refine O_nil ?_
 refine C_cond (x := false) rfl (fun h => by cases h) (fun _ => ?_)
 refine C_skip ?_
 refine sr ?_
 refine O_p (.agg zHKAA ) (r_build rfl) ?_
 refine O_store (vs := zHKAA ) (c' := zHKAA ) rfl (by rfl) hH4.get0 rfl (List.cons_ne_nil _ _) (Nat.le_of_ble_eq_true rfl) rfl fun H5 hW6 => ?_
 have hH7 := hH4.wr0 hW6
 refine pv (.i .i64 0) rfl ?_
 refine O_nil ?_
 refine C_ret ?_
 have hcell := hH7.get0
 have hH8 := (hH7.sub0)
 exact ⟨.inr rfl, _, resL_cons (r_cellA rfl hcell rfl) (resL_one (r_tmp (v := (.i .i64 0)) rfl)), rfl, hH8⟩
theorem own_v {H : AH} {T Lb : Nat} {cs : List Ch} {even : Bool} (hok : H.Ok) (hT : H.get T = some (.cells [.sl (some (Lb, 0)) cs.length cs.length 0, .b even] true)) (k : Nat) (hk : k < 9223372036854775808) {v : Bool} (h : ownB k even = v) : Ev tabV spV (.fn (.func 49) [] []) [.p (some (T, 0)), .i .i64 k] H (fun r H' => r = .b v ∧ H' = H) := (own_ev hok hT k hk).mono fun r H' hq => ⟨hq.1.trans (congrArg AV.b h), hq.2⟩
theorem rown_v {H : AH} {T Lb : Nat} {cs : List Ch} {even : Bool} (hok : H.Ok) (hT : H.get T = some (.cells [.sl (some (Lb, 0)) cs.length cs.length 0, .b even] true)) (k : Nat) (hk : k < 9223372036854775808) {v : Bool} (h : ownB k even = v) : Ev tabV spV (.fn (.func 67) [] []) [.p (some (T, 0)), .i .i64 k] H (fun r H' => r = .b v ∧ H' = H) := (rown_ev hok hT k hk).mono fun r H' hq => ⟨hq.1.trans (congrArg AV.b h), hq.2⟩
structure HC (cs : List Ch) (k : Nat) (B : HL) (ppid : Int) (da : Option (Nat × Nat)) (dc dg : Nat) (b : List UInt8) : Prop where
 hk16 : k < 65536
 hcs : cs.length ≤ 64
 htB : ∀ H', Hs H' B → Tb H'
 dhg : dg = 0 ∨ dg = 1
 hb : ∀ H', Hs H' B → Bs H' (.sl da b.length dc dg) b
 dhc : b.length ≤ dc
 dhm : dc ≤ 9223372036854775807
 dfit : b.length ≤ 1073741824
abbrev HearEv (n : Nat) (xs : List AV) (H : AH) (T Lb : Nat) (cs : List Ch) (even : Bool) (B R : HL) (k : Nat) (un : Bool) (ppid : Int) (da : Option (Nat × Nat)) (dc dg : Nat) (b : List UInt8) : Prop := Hs H ([(T, some (.cells [.sl (some (Lb, 0)) cs.length cs.length 0, .b even] true))] ++ ([(Lb, some (.cells ((cs).map Ch.row).flatten true))] ++ (B ++ R))) → Ev tabV spV (.fn (.func n) [] []) (.p (some (T, 0)) :: .agg [.i .u16 k, .b un, .i .u32 ppid, .sl da b.length dc dg] :: xs) H (fun r H' => HearP T Lb even B R (hear cs even k ppid b) r H')
section
variable {H : AH} {T Lb : Nat} {cs : List Ch} {even : Bool} {B R : HL} {k : Nat} {un : Bool} {ppid : Int} {da : Option (Nat × Nat)} {dc dg : Nat} {b : List UInt8}
theorem opened_e (hx : HC cs k B ppid da dc dg b) (hk : k < cs.length) (hp : ppid = 50) (hb2 : ¬ b = [2]) (hE : ¬ dErr b = 0) : HearEv 62 [.p (some (Lb, k * 8 + 0))] H T Lb cs even B R k un ppid da dc dg b := by
 obtain ⟨hk16, hcs, htB, dhg, hb, dhc, dhm, dfit⟩ := hx
 intro hH0
 refine Ev_C (F := x62) rfl ?_
 obtain ⟨c, hc⟩ := ex_at hk
 have hgd := getD_of hc
 try rw [hgd] at hs
 have hH1 := hH0.cong1 (seg_foc (n := Lb) (enc := Ch.row) hc)
 refine sr ?_
 refine O_box (z := [(.i .u16 ((k : Nat) : Int)), (.b un), (.i .u32 ppid), (.sl da b.length dc dg)]) rfl fun n2 H3 hN4 => ?_
 have hH5 := hH1.new hN4
 refine O_alloc fun n6 H7 hN8 => ?_
 have hH9 := hH5.new hN8
 refine pv (.sl none 0 0 0) rfl ?_
 refine pv (.i .i64 0) rfl ?_
 refine O_nil (sr ?_)
 refine pf (.p (some (n2, 3))) rfl rfl ?_
 refine O_p (.sl da b.length dc dg) (r_ld rfl hH9.get1 rfl) ?_
 refine O_call (Ev.mono (dec_ev hH9.ok (htB _ hH9.top4.fst) dhg (hb _ hH9.top4.fst) dhc dhm dfit) fun v10 H11 hq12 => ?_)
 obtain ⟨rfl, hK13⟩ := hq12
 have hH14 := (hH9.kp hK13)
 refine pv (.tup [(.agg [(.i .u8 (dK b)), (.i .u16 (dP b)), (.i .u32 (dL b)), (.s (txt (dT b))), (.s (txt (dO b)))]), (.i .i64 (dErr b))]) rfl ?_
 refine O_p (.agg [(.i .u8 (dK b)), (.i .u16 (dP b)), (.i .u32 (dL b)), (.s (txt (dT b))), (.s (txt (dO b)))]) (r_ext rfl rfl) ?_
 refine O_p (.i .i64 (dErr b)) (r_ext rfl rfl) ?_
 refine O_alloc fun n15 H16 hN17 => ?_
 have hH18 := hH14.new hN17
 refine O_store (vs := [(.i .u8 (dK b)), (.i .u16 (dP b)), (.i .u32 (dL b)), (.s (txt (dT b))), (.s (txt (dO b)))]) (c' := [(.i .u8 (dK b)), (.i .u16 (dP b)), (.i .u32 (dL b)), (.s (txt (dT b))), (.s (txt (dO b)))]) rfl (by rfl) hH18.get0 rfl (List.cons_ne_nil _ _) (Nat.le_of_ble_eq_true rfl) rfl fun H19 hW20 => ?_
 have hH21 := hH18.wr0 hW20
 refine pv (.i .i64 (dErr b)) rfl ?_
 refine O_nil ?_
 refine C_seq ?_
 refine C_block ?_
 refine sr ?_
 refine pv (.i .i64 (dErr b)) rfl ?_
 refine O_p (.b true) (by exact (by rw [r_neq rfl rfl, decide_eq_false (by first | omega | assumption)]; rfl)) ?_
 refine pv (.b true) rfl ?_
 refine O_nil ?_
 refine C_cond (x := true) rfl (fun _ => ?_) (fun h => by cases h)
 refine sr ?_
 refine O_p (.agg zHKAA ) (r_build rfl) ?_
 refine pv (.i .i64 (dErr b)) rfl ?_
 refine O_store (vs := zHKAA ) (c' := zHKAA ) rfl (by rfl) hH21.get1 rfl (List.cons_ne_nil _ _) (Nat.le_of_ble_eq_true rfl) rfl fun H22 hW23 => ?_
 have hH24 := hH21.wr1 hW23
 refine pv (.sl none 0 0 0) rfl ?_
 refine pv (.i .i64 (dErr b)) rfl ?_
 refine O_nil ?_
 refine C_ret ?_
 refine bk_ret ?_
 refine nx_ret ?_
 have hcell := hH24.get1
 have hh : hear cs even k ppid b = .none (dErr b) cs := by unfold hear; rw [hgd]; rw [if_neg (by omega), if_pos hp, if_neg hb2, if_pos hE]
 have hH25 := (((hH24.sub0).sub0).sub0)
 have hH26 := (((hH25.top2).top2).top2)
 have hH27 := (Hs.cong1 hH26 (seg_foc (n := Lb) (enc := Ch.row) hc).symm)
 rw [hh]
 exact ⟨.inr rfl, _, resL_cons (r_cellA rfl hcell rfl) (resL_cons (r_tmp (v := (.sl none 0 0 0)) rfl) (resL_one (r_tmp (v := (.i .i64 (dErr b))) rfl))), HearP.nil rfl rfl rfl hH27⟩
theorem opened_s (hx : HC cs k B ppid da dc dg b) (hk : k < cs.length) (hp : ppid = 50) (hb2 : ¬ b = [2]) (hE : dErr b = 0) (hs : ¬ (cs.getD k ch0).st = 0) : HearEv 62 [.p (some (Lb, k * 8 + 0))] H T Lb cs even B R k un ppid da dc dg b := by
 obtain ⟨hk16, hcs, htB, dhg, hb, dhc, dhm, dfit⟩ := hx
 intro hH0
 refine Ev_C (F := x62) rfl ?_
 obtain ⟨c, hc⟩ := ex_at hk
 have hgd := getD_of hc
 try rw [hgd] at hs
 have hH1 := hH0.cong1 (seg_foc (n := Lb) (enc := Ch.row) hc)
 refine sr ?_
 refine O_box (z := [(.i .u16 ((k : Nat) : Int)), (.b un), (.i .u32 ppid), (.sl da b.length dc dg)]) rfl fun n2 H3 hN4 => ?_
 have hH5 := hH1.new hN4
 refine O_alloc fun n6 H7 hN8 => ?_
 have hH9 := hH5.new hN8
 refine pv (.sl none 0 0 0) rfl ?_
 refine pv (.i .i64 0) rfl ?_
 refine O_nil (sr ?_)
 refine pf (.p (some (n2, 3))) rfl rfl ?_
 refine O_p (.sl da b.length dc dg) (r_ld rfl hH9.get1 rfl) ?_
 refine O_call (Ev.mono (dec_ev hH9.ok (htB _ hH9.top4.fst) dhg (hb _ hH9.top4.fst) dhc dhm dfit) fun v10 H11 hq12 => ?_)
 obtain ⟨rfl, hK13⟩ := hq12
 have hH14 := (hH9.kp hK13)
 refine pv (.tup [(.agg [(.i .u8 (dK b)), (.i .u16 (dP b)), (.i .u32 (dL b)), (.s (txt (dT b))), (.s (txt (dO b)))]), (.i .i64 (dErr b))]) rfl ?_
 refine O_p (.agg [(.i .u8 (dK b)), (.i .u16 (dP b)), (.i .u32 (dL b)), (.s (txt (dT b))), (.s (txt (dO b)))]) (r_ext rfl rfl) ?_
 refine O_p (.i .i64 (dErr b)) (r_ext rfl rfl) ?_
 refine O_alloc fun n15 H16 hN17 => ?_
 have hH18 := hH14.new hN17
 refine O_store (vs := [(.i .u8 (dK b)), (.i .u16 (dP b)), (.i .u32 (dL b)), (.s (txt (dT b))), (.s (txt (dO b)))]) (c' := [(.i .u8 (dK b)), (.i .u16 (dP b)), (.i .u32 (dL b)), (.s (txt (dT b))), (.s (txt (dO b)))]) rfl (by rfl) hH18.get0 rfl (List.cons_ne_nil _ _) (Nat.le_of_ble_eq_true rfl) rfl fun H19 hW20 => ?_
 have hH21 := hH18.wr0 hW20
 refine pv (.i .i64 (dErr b)) rfl ?_
 refine O_nil ?_
 refine C_seq ?_
 refine C_block ?_
 refine sr ?_
 refine pv (.i .i64 (dErr b)) rfl ?_
 refine O_p (.b false) (by exact (by rw [r_neq rfl rfl, decide_eq_true (by first | omega | assumption)]; rfl)) ?_
 refine pv (.b false) rfl ?_
 refine O_nil ?_
 refine C_cond (x := false) rfl (fun h => by cases h) (fun _ => ?_)
 refine sr ?_
 refine pv (.p (some (Lb, (k * 8 + 0)))) rfl ?_
 refine O_p (.p (some (Lb, (k * 8 + 0)))) (r_nilc rfl) ?_
 refine pf (.p (some (Lb, (k * 8 + 0)))) rfl rfl ?_
 refine O_p (.i .i64 c.st) (by exact (r_ld rfl hH21.get4 ((foc_get (rows_map Ch.row_len cs) (by rw [List.length_map]; omega) rfl (by decide)).trans rfl))) ?_
 refine O_p (.b true) (by exact (by rw [r_neq rfl rfl, decide_eq_false (by first | omega | assumption)]; rfl)) ?_
 refine pv (.b true) rfl ?_
 refine O_gf rfl ?_
 refine O_gf rfl ?_
 refine O_gf rfl ?_
 refine O_gf rfl ?_
 refine O_gf rfl ?_
 refine O_p (.b true) (r_pick_t rfl rfl) ?_
 refine pv (.b true) rfl ?_
 refine O_nil ?_
 refine C_cond (x := true) rfl (fun _ => ?_) (fun h => by cases h)
 refine sr ?_
 refine O_p (.agg zHKAA ) (r_build rfl) ?_
 refine O_store (vs := zHKAA ) (c' := zHKAA ) rfl (by rfl) hH21.get1 rfl (List.cons_ne_nil _ _) (Nat.le_of_ble_eq_true rfl) rfl fun H22 hW23 => ?_
 have hH24 := hH21.wr1 hW23
 refine pv (.sl none 0 0 0) rfl ?_
 refine pv (.i .i64 8) rfl ?_
 refine O_nil ?_
 refine C_ret ?_
 refine bk_ret ?_
 refine nx_ret ?_
 have hcell := hH24.get1
 have hh : hear cs even k ppid b = .none 8 cs := by unfold hear; rw [hgd]; rw [if_neg (by omega), if_pos hp, if_neg hb2, if_neg (by omega), if_pos (.inl hs)]
 have hH25 := (((hH24.sub0).sub0).sub0)
 have hH26 := (((hH25.top2).top2).top2)
 have hH27 := (Hs.cong1 hH26 (seg_foc (n := Lb) (enc := Ch.row) hc).symm)
 rw [hh]
 exact ⟨.inr rfl, _, resL_cons (r_cellA rfl hcell rfl) (resL_cons (r_tmp (v := (.sl none 0 0 0)) rfl) (resL_one (r_tmp (v := (.i .i64 8)) rfl))), HearP.nil rfl rfl rfl hH27⟩
theorem opened_o (hx : HC cs k B ppid da dc dg b) (hk : k < cs.length) (hp : ppid = 50) (hb2 : ¬ b = [2]) (hE : dErr b = 0) (hs : (cs.getD k ch0).st = 0) (hown : ownB k even = true) : HearEv 62 [.p (some (Lb, k * 8 + 0))] H T Lb cs even B R k un ppid da dc dg b := by
 obtain ⟨hk16, hcs, htB, dhg, hb, dhc, dhm, dfit⟩ := hx
 intro hH0
 refine Ev_C (F := x62) rfl ?_
 obtain ⟨c, hc⟩ := ex_at hk
 have hgd := getD_of hc
 try rw [hgd] at hs
 have hH1 := hH0.cong1 (seg_foc (n := Lb) (enc := Ch.row) hc)
 refine sr ?_
 refine O_box (z := [(.i .u16 ((k : Nat) : Int)), (.b un), (.i .u32 ppid), (.sl da b.length dc dg)]) rfl fun n2 H3 hN4 => ?_
 have hH5 := hH1.new hN4
 refine O_alloc fun n6 H7 hN8 => ?_
 have hH9 := hH5.new hN8
 refine pv (.sl none 0 0 0) rfl ?_
 refine pv (.i .i64 0) rfl ?_
 refine O_nil (sr ?_)
 refine pf (.p (some (n2, 3))) rfl rfl ?_
 refine O_p (.sl da b.length dc dg) (r_ld rfl hH9.get1 rfl) ?_
 refine O_call (Ev.mono (dec_ev hH9.ok (htB _ hH9.top4.fst) dhg (hb _ hH9.top4.fst) dhc dhm dfit) fun v10 H11 hq12 => ?_)
 obtain ⟨rfl, hK13⟩ := hq12
 have hH14 := (hH9.kp hK13)
 refine pv (.tup [(.agg [(.i .u8 (dK b)), (.i .u16 (dP b)), (.i .u32 (dL b)), (.s (txt (dT b))), (.s (txt (dO b)))]), (.i .i64 (dErr b))]) rfl ?_
 refine O_p (.agg [(.i .u8 (dK b)), (.i .u16 (dP b)), (.i .u32 (dL b)), (.s (txt (dT b))), (.s (txt (dO b)))]) (r_ext rfl rfl) ?_
 refine O_p (.i .i64 (dErr b)) (r_ext rfl rfl) ?_
 refine O_alloc fun n15 H16 hN17 => ?_
 have hH18 := hH14.new hN17
 refine O_store (vs := [(.i .u8 (dK b)), (.i .u16 (dP b)), (.i .u32 (dL b)), (.s (txt (dT b))), (.s (txt (dO b)))]) (c' := [(.i .u8 (dK b)), (.i .u16 (dP b)), (.i .u32 (dL b)), (.s (txt (dT b))), (.s (txt (dO b)))]) rfl (by rfl) hH18.get0 rfl (List.cons_ne_nil _ _) (Nat.le_of_ble_eq_true rfl) rfl fun H19 hW20 => ?_
 have hH21 := hH18.wr0 hW20
 refine pv (.i .i64 (dErr b)) rfl ?_
 refine O_nil ?_
 refine C_seq ?_
 refine C_block ?_
 refine sr ?_
 refine pv (.i .i64 (dErr b)) rfl ?_
 refine O_p (.b false) (by exact (by rw [r_neq rfl rfl, decide_eq_true (by first | omega | assumption)]; rfl)) ?_
 refine pv (.b false) rfl ?_
 refine O_nil ?_
 refine C_cond (x := false) rfl (fun h => by cases h) (fun _ => ?_)
 refine sr ?_
 refine pv (.p (some (Lb, (k * 8 + 0)))) rfl ?_
 refine O_p (.p (some (Lb, (k * 8 + 0)))) (r_nilc rfl) ?_
 refine pf (.p (some (Lb, (k * 8 + 0)))) rfl rfl ?_
 refine O_p (.i .i64 c.st) (by exact (r_ld rfl hH21.get4 ((foc_get (rows_map Ch.row_len cs) (by rw [List.length_map]; omega) rfl (by decide)).trans rfl))) ?_
 refine O_p (.b false) (by exact (by rw [r_neq rfl rfl, decide_eq_true (by first | omega | assumption)]; rfl)) ?_
 refine pv (.b false) rfl ?_
 refine O_gk rfl ?_
 refine pv (.p (some (T, 0))) rfl ?_
 refine O_gk rfl ?_
 refine pf (.p (some (n2, 0))) rfl rfl ?_
 refine O_gk rfl ?_
 refine O_p (.i .u16 ((k : Nat) : Int)) (r_ld rfl hH21.get2 rfl) ?_
 refine O_gk rfl ?_
 refine O_p (.i .i64 (((k : Nat)) : Int)) (by exact (r_cint' rfl (wrap_i64 (by omega) (by omega)))) ?_
 refine O_gk rfl ?_
 refine O_call (Ev.mono (own_v hH21.ok (hH21.get3) k (by omega) hown) fun v22 H23 hq24 => ?_)
 obtain ⟨rfl, hq24⟩ := hq24
 subst H23
 refine O_p (.b true) (r_pick_f rfl rfl) ?_
 refine pv (.b true) rfl ?_
 refine O_nil ?_
 refine C_cond (x := true) rfl (fun _ => ?_) (fun h => by cases h)
 refine sr ?_
 refine O_p (.agg zHKAA ) (r_build rfl) ?_
 refine O_store (vs := zHKAA ) (c' := zHKAA ) rfl (by rfl) hH21.get1 rfl (List.cons_ne_nil _ _) (Nat.le_of_ble_eq_true rfl) rfl fun H25 hW26 => ?_
 have hH27 := hH21.wr1 hW26
 refine pv (.sl none 0 0 0) rfl ?_
 refine pv (.i .i64 8) rfl ?_
 refine O_nil ?_
 refine C_ret ?_
 refine bk_ret ?_
 refine nx_ret ?_
 have hcell := hH27.get1
 have hh : hear cs even k ppid b = .none 8 cs := by unfold hear; rw [hgd]; rw [if_neg (by omega), if_pos hp, if_neg hb2, if_neg (by omega), if_pos (.inr hown)]
 have hH28 := (((hH27.sub0).sub0).sub0)
 have hH29 := (((hH28.top2).top2).top2)
 have hH30 := (Hs.cong1 hH29 (seg_foc (n := Lb) (enc := Ch.row) hc).symm)
 rw [hh]
 exact ⟨.inr rfl, _, resL_cons (r_cellA rfl hcell rfl) (resL_cons (r_tmp (v := (.sl none 0 0 0)) rfl) (resL_one (r_tmp (v := (.i .i64 8)) rfl))), HearP.nil rfl rfl rfl hH30⟩
theorem opened_k (hx : HC cs k B ppid da dc dg b) (hk : k < cs.length) (hp : ppid = 50) (hb2 : ¬ b = [2]) (hE : dErr b = 0) (hs : (cs.getD k ch0).st = 0) (hown : ownB k even = false) : HearEv 62 [.p (some (Lb, k * 8 + 0))] H T Lb cs even B R k un ppid da dc dg b := by
 obtain ⟨hk16, hcs, htB, dhg, hb, dhc, dhm, dfit⟩ := hx
 intro hH0
 refine Ev_C (F := x62) rfl ?_
 obtain ⟨c, hc⟩ := ex_at hk
 have hgd := getD_of hc
 try rw [hgd] at hs
 have hH1 := hH0.cong1 (seg_foc (n := Lb) (enc := Ch.row) hc)
 refine sr ?_
 refine O_box (z := [(.i .u16 ((k : Nat) : Int)), (.b un), (.i .u32 ppid), (.sl da b.length dc dg)]) rfl fun n2 H3 hN4 => ?_
 have hH5 := hH1.new hN4
 refine O_alloc fun n6 H7 hN8 => ?_
 have hH9 := hH5.new hN8
 refine pv (.sl none 0 0 0) rfl ?_
 refine pv (.i .i64 0) rfl ?_
 refine O_nil (sr ?_)
 refine pf (.p (some (n2, 3))) rfl rfl ?_
 refine O_p (.sl da b.length dc dg) (r_ld rfl hH9.get1 rfl) ?_
 refine O_call (Ev.mono (dec_ev hH9.ok (htB _ hH9.top4.fst) dhg (hb _ hH9.top4.fst) dhc dhm dfit) fun v10 H11 hq12 => ?_)
 obtain ⟨rfl, hK13⟩ := hq12
 have hH14 := (hH9.kp hK13)
 refine pv (.tup [(.agg [(.i .u8 (dK b)), (.i .u16 (dP b)), (.i .u32 (dL b)), (.s (txt (dT b))), (.s (txt (dO b)))]), (.i .i64 (dErr b))]) rfl ?_
 refine O_p (.agg [(.i .u8 (dK b)), (.i .u16 (dP b)), (.i .u32 (dL b)), (.s (txt (dT b))), (.s (txt (dO b)))]) (r_ext rfl rfl) ?_
 refine O_p (.i .i64 (dErr b)) (r_ext rfl rfl) ?_
 refine O_alloc fun n15 H16 hN17 => ?_
 have hH18 := hH14.new hN17
 refine O_store (vs := [(.i .u8 (dK b)), (.i .u16 (dP b)), (.i .u32 (dL b)), (.s (txt (dT b))), (.s (txt (dO b)))]) (c' := [(.i .u8 (dK b)), (.i .u16 (dP b)), (.i .u32 (dL b)), (.s (txt (dT b))), (.s (txt (dO b)))]) rfl (by rfl) hH18.get0 rfl (List.cons_ne_nil _ _) (Nat.le_of_ble_eq_true rfl) rfl fun H19 hW20 => ?_
 have hH21 := hH18.wr0 hW20
 refine pv (.i .i64 (dErr b)) rfl ?_
 refine O_nil ?_
 refine C_seq ?_
 refine C_block ?_
 refine sr ?_
 refine pv (.i .i64 (dErr b)) rfl ?_
 refine O_p (.b false) (by exact (by rw [r_neq rfl rfl, decide_eq_true (by first | omega | assumption)]; rfl)) ?_
 refine pv (.b false) rfl ?_
 refine O_nil ?_
 refine C_cond (x := false) rfl (fun h => by cases h) (fun _ => ?_)
 refine sr ?_
 refine pv (.p (some (Lb, (k * 8 + 0)))) rfl ?_
 refine O_p (.p (some (Lb, (k * 8 + 0)))) (r_nilc rfl) ?_
 refine pf (.p (some (Lb, (k * 8 + 0)))) rfl rfl ?_
 refine O_p (.i .i64 c.st) (by exact (r_ld rfl hH21.get4 ((foc_get (rows_map Ch.row_len cs) (by rw [List.length_map]; omega) rfl (by decide)).trans rfl))) ?_
 refine O_p (.b false) (by exact (by rw [r_neq rfl rfl, decide_eq_true (by first | omega | assumption)]; rfl)) ?_
 refine pv (.b false) rfl ?_
 refine O_gk rfl ?_
 refine pv (.p (some (T, 0))) rfl ?_
 refine O_gk rfl ?_
 refine pf (.p (some (n2, 0))) rfl rfl ?_
 refine O_gk rfl ?_
 refine O_p (.i .u16 ((k : Nat) : Int)) (r_ld rfl hH21.get2 rfl) ?_
 refine O_gk rfl ?_
 refine O_p (.i .i64 (((k : Nat)) : Int)) (by exact (r_cint' rfl (wrap_i64 (by omega) (by omega)))) ?_
 refine O_gk rfl ?_
 refine O_call (Ev.mono (own_v hH21.ok (hH21.get3) k (by omega) hown) fun v22 H23 hq24 => ?_)
 obtain ⟨rfl, hq24⟩ := hq24
 subst H23
 refine O_p (.b false) (r_pick_f rfl rfl) ?_
 refine pv (.b false) rfl ?_
 refine O_nil ?_
 refine C_cond (x := false) rfl (fun h => by cases h) (fun _ => ?_)
 refine C_skip ?_
 refine sr ?_
 refine pv (.p (some (Lb, (k * 8 + 0)))) rfl ?_
 refine O_p (.agg [(.i .u8 (dK b)), (.i .u16 (dP b)), (.i .u32 (dL b)), (.s (txt (dT b))), (.s (txt (dO b)))]) (r_ldA rfl hH21.get0 rfl) ?_
 refine O_p (.agg [(.i .i64 2), (.i .u8 (dK b)), (.i .u16 (dP b)), (.i .u32 (dL b)), (.s (txt (dT b))), (.s (txt (dO b))), (.b false), (.b false)]) (r_build rfl) ?_
 refine O_p (.p (some (Lb, (k * 8 + 0)))) (r_nilc rfl) ?_
 refine O_store (vs := [(.i .i64 2), (.i .u8 (dK b)), (.i .u16 (dP b)), (.i .u32 (dL b)), (.s (txt (dT b))), (.s (txt (dO b))), (.b false), (.b false)]) (c' := ((cs.map Ch.row).set k [(.i .i64 2), (.i .u8 (dK b)), (.i .u16 (dP b)), (.i .u32 (dL b)), (.s (txt (dT b))), (.s (txt (dO b))), (.b false), (.b false)]).flatten) rfl (by rfl) hH21.get4 rfl (List.cons_ne_nil _ _) (foc_len (n := 8) (rows_map Ch.row_len cs) (by rw [List.length_map]; omega) rfl (Nat.le_of_ble_eq_true rfl)) (foc_put (rows_map Ch.row_len cs) (by rw [List.length_map]; omega) rfl (Nat.le_of_ble_eq_true rfl) rfl) fun H25 hW26 => ?_
 have hH27 := hH21.wr4 hW26
 refine O_nil (sr ?_)
 refine pf (.p (some (n2, 0))) rfl rfl ?_
 refine O_p (.i .u16 ((k : Nat) : Int)) (r_ld rfl hH27.get2 rfl) ?_
 refine O_p (.agg [(.i .u8 (dK b)), (.i .u16 (dP b)), (.i .u32 (dL b)), (.s (txt (dT b))), (.s (txt (dO b)))]) (r_ldA rfl hH27.get0 rfl) ?_
 refine O_p (.agg [(.i .i64 1), (.i .u16 ((k : Nat) : Int)), (.i .u8 (dK b)), (.i .u16 (dP b)), (.i .u32 (dL b)), (.s (txt (dT b))), (.s (txt (dO b))), (.b false), (.sl none 0 0 0)]) (r_build rfl) ?_
 refine O_bslice (c := [(.i .u8 2)]) rfl fun n28 H29 hN30 => ?_
 have hH31 := hH27.new hN30
 refine O_store (vs := [(.i .i64 1), (.i .u16 ((k : Nat) : Int)), (.i .u8 (dK b)), (.i .u16 (dP b)), (.i .u32 (dL b)), (.s (txt (dT b))), (.s (txt (dO b))), (.b false), (.sl none 0 0 0)]) (c' := [(.i .i64 1), (.i .u16 ((k : Nat) : Int)), (.i .u8 (dK b)), (.i .u16 (dP b)), (.i .u32 (dL b)), (.s (txt (dT b))), (.s (txt (dO b))), (.b false), (.sl none 0 0 0)]) rfl (by rfl) hH31.get2 rfl (List.cons_ne_nil _ _) (Nat.le_of_ble_eq_true rfl) rfl fun H32 hW33 => ?_
 have hH34 := hH31.wr2 hW33
 refine pv (.sl (some (n28, 0)) 1 1 0) rfl ?_
 refine pv (.i .i64 0) rfl ?_
 refine O_nil ?_
 refine C_ret ?_
 have hcell := hH34.get2
 have hh : hear cs even k ppid b = ⟨1, k, dK b, dP b, dL b, dT b, dO b, false, [], [2], 0, cs.set k ⟨2, dK b, dP b, dL b, dT b, dO b, false, false⟩⟩ := by unfold hear; rw [hgd]; rw [if_neg (by omega), if_pos hp, if_neg hb2, if_neg (by omega), if_neg (by rw [hown, hs]; decide)]
 have hH35 := (((hH34.sub1).sub1).sub1)
 have hH36 := ((((hH35.top3).top3).top3).top3)
 have hF := hH36
 have hH37 := (Hs.cong2 (B := [(Lb, some (.cells ((cs.set k ⟨2, dK b, dP b, dL b, dT b, dO b, false, false⟩).map Ch.row).flatten true))]) hF (seg_shut (enc := Ch.row) (c := ⟨2, dK b, dP b, dL b, dT b, dO b, false, false⟩)))
 rw [show cs.length = (cs.set k ⟨2, dK b, dP b, dL b, dT b, dO b, false, false⟩).length by rw [List.length_set]] at hH37
 rw [hh]
 exact ⟨.inr rfl, _, resL_cons (r_cellA rfl hcell rfl) (resL_cons (r_tmp (v := (.sl (some (n28, 0)) 1 1 0)) rfl) (resL_one (r_tmp (v := (.i .i64 0)) rfl))), none, 0, 0, 0, (.sl (some (n28, 0)) 1 1 0), _, [], rfl, .inl rfl, Nat.le_refl _, by omega, fun _ _ => .nil, Sq.full (b := n28) (n := 1) (g := 0) (sz := 1) (l := [.i .u8 2]) (.inl rfl) rfl, hH37⟩
theorem ropening_b0 (hx : HC cs k B ppid da dc dg b) (hk : k < cs.length) (hp : ppid = 50) (hb2 : b = [2]) (hl : b.length = 1) (h2 : ((b.getD 0 0).toNat : Int) = 2) (hs : (cs.getD k ch0).st = 0) : HearEv 68 [] H T Lb cs even B R k un ppid da dc dg b := by
 obtain ⟨hk16, hcs, htB, dhg, hb, dhc, dhm, dfit⟩ := hx
 intro hH0
 refine Ev_C (F := x68) rfl ?_
 obtain ⟨c, hc⟩ := ex_at hk
 have hgd := getD_of hc
 try rw [hgd] at hs
 have hH1 := hH0.cong1 (seg_foc (n := Lb) (enc := Ch.row) hc)
 refine sr ?_
 refine O_box (z := [(.i .u16 ((k : Nat) : Int)), (.b un), (.i .u32 ppid), (.sl da b.length dc dg)]) rfl fun n2 H3 hN4 => ?_
 have hH5 := hH1.new hN4
 refine O_alloc fun n6 H7 hN8 => ?_
 have hH9 := hH5.new hN8
 refine pv (.sl none 0 0 0) rfl ?_
 refine pv (.i .i64 0) rfl ?_
 refine O_nil (sr ?_)
 refine pf (.p (some (n2, 0))) rfl rfl ?_
 refine O_p (.i .u16 ((k : Nat) : Int)) (r_ld rfl hH9.get1 rfl) ?_
 refine O_p (.i .i64 (((k : Nat)) : Int)) (by exact (r_cint' rfl (wrap_i64 (by omega) (by omega)))) ?_
 refine pv (.i .i64 (((k : Nat)) : Int)) rfl ?_
 refine O_nil ?_
 refine C_seq ?_
 refine sr ?_
 refine pf (.p (some (n2, 3))) rfl rfl ?_
 refine O_p (.sl da b.length dc dg) (r_ld rfl hH9.get1 rfl) ?_
 refine O_p (.i .i64 (((b.length : Nat)) : Int)) (r_len rfl) ?_
 refine O_p (.b true) (by exact (by rw [r_eql rfl rfl, decide_eq_true (by first | omega | assumption)])) ?_
 refine pv (.b true) rfl ?_
 refine O_gk rfl ?_
 refine pf (.p (some (n2, 3))) rfl rfl ?_
 refine O_gk rfl ?_
 refine O_p (.sl da b.length dc dg) (r_ld rfl hH9.get1 rfl) ?_
 refine O_gk rfl ?_
 refine O_q (by exact Bs.ix (hb _ hH9.top4.fst) rfl (i := 0) rfl (by first | omega | (simp only [List.length_take, List.length_drop, List.length_append, List.length_cons, List.length_nil, beN_len] <;> omega))) fun v11 hv10 => ?_
 refine O_gk rfl ?_
 refine O_p (.i .u8 ((b.getD 0 0).toNat : Int)) (hv10.load rfl) ?_
 refine O_gk rfl ?_
 refine O_p (.b true) (by exact (by rw [r_eql rfl rfl, decide_eq_true (by first | omega | assumption)])) ?_
 refine O_p (.b true) (r_pick_t rfl rfl) ?_
 refine O_nil ?_
 refine C_cond (x := true) rfl (fun _ => ?_) (fun h => by cases h)
 refine C_seq ?_
 refine sr ?_
 refine pv (.p (some (T, 0))) rfl ?_
 refine O_p (.p (some (T, 0))) (r_nilc rfl) ?_
 refine pf (.p (some (T, 0))) rfl rfl ?_
 refine O_p (.sl (some (Lb, 0)) cs.length cs.length 0) (r_ld rfl hH9.get2 rfl) ?_
 refine pv (.i .i64 (((k : Nat)) : Int)) rfl ?_
 refine O_p (.p (some (Lb, (k * 8 + 0)))) (by exact (r_islr (b := Lb) (k := k) (len := cs.length) (cap := cs.length) (g := 0) rfl rfl (by omega))) ?_
 refine pf (.p (some (Lb, (k * 8 + 0)))) rfl rfl ?_
 refine O_p (.i .i64 c.st) (by exact (r_ld rfl hH9.get3 ((foc_get (rows_map Ch.row_len cs) (by rw [List.length_map]; omega) rfl (by decide)).trans rfl))) ?_
 refine O_nil ?_
 refine C_block ?_
 refine sr ?_
 refine O_p (.b true) (by exact (by rw [r_eql rfl rfl, decide_eq_true (by first | omega | assumption)])) ?_
 refine pv (.b true) rfl ?_
 refine O_nil ?_
 refine C_cond (x := true) rfl (fun _ => ?_) (fun h => by cases h)
 refine sr ?_
 refine O_p (.agg zHKAA ) (r_build rfl) ?_
 refine O_store (vs := zHKAA ) (c' := zHKAA ) rfl (by rfl) hH9.get0 rfl (List.cons_ne_nil _ _) (Nat.le_of_ble_eq_true rfl) rfl fun H12 hW13 => ?_
 have hH14 := hH9.wr0 hW13
 refine pv (.sl none 0 0 0) rfl ?_
 refine pv (.i .i64 8) rfl ?_
 refine O_nil ?_
 refine C_ret ?_
 refine bk_ret ?_
 refine nx_ret ?_
 refine nx_ret ?_
 have hcell := hH14.get0
 have hh : hear cs even k ppid b = .none 8 cs := by unfold hear; rw [hgd]; rw [if_neg (by omega), if_pos hp, if_pos hb2, if_pos hs]
 have hH15 := ((hH14.sub0).sub0)
 have hH16 := (((hH15.top2).top2).top2)
 have hH17 := (Hs.cong1 hH16 (seg_foc (n := Lb) (enc := Ch.row) hc).symm)
 rw [hh]
 exact ⟨.inr rfl, _, resL_cons (r_cellA rfl hcell rfl) (resL_cons (r_tmp (v := (.sl none 0 0 0)) rfl) (resL_one (r_tmp (v := (.i .i64 8)) rfl))), HearP.nil rfl rfl rfl hH17⟩
theorem ropening_b1 (hx : HC cs k B ppid da dc dg b) (hk : k < cs.length) (hp : ppid = 50) (hb2 : b = [2]) (hl : b.length = 1) (h2 : ((b.getD 0 0).toNat : Int) = 2) (hs : (cs.getD k ch0).st = 1) : HearEv 68 [] H T Lb cs even B R k un ppid da dc dg b := by
 obtain ⟨hk16, hcs, htB, dhg, hb, dhc, dhm, dfit⟩ := hx
 intro hH0
 refine Ev_C (F := x68) rfl ?_
 obtain ⟨c, hc⟩ := ex_at hk
 have hgd := getD_of hc
 try rw [hgd] at hs
 have hH1 := hH0.cong1 (seg_foc (n := Lb) (enc := Ch.row) hc)
 refine sr ?_
 refine O_box (z := [(.i .u16 ((k : Nat) : Int)), (.b un), (.i .u32 ppid), (.sl da b.length dc dg)]) rfl fun n2 H3 hN4 => ?_
 have hH5 := hH1.new hN4
 refine O_alloc fun n6 H7 hN8 => ?_
 have hH9 := hH5.new hN8
 refine pv (.sl none 0 0 0) rfl ?_
 refine pv (.i .i64 0) rfl ?_
 refine O_nil (sr ?_)
 refine pf (.p (some (n2, 0))) rfl rfl ?_
 refine O_p (.i .u16 ((k : Nat) : Int)) (r_ld rfl hH9.get1 rfl) ?_
 refine O_p (.i .i64 (((k : Nat)) : Int)) (by exact (r_cint' rfl (wrap_i64 (by omega) (by omega)))) ?_
 refine pv (.i .i64 (((k : Nat)) : Int)) rfl ?_
 refine O_nil ?_
 refine C_seq ?_
 refine sr ?_
 refine pf (.p (some (n2, 3))) rfl rfl ?_
 refine O_p (.sl da b.length dc dg) (r_ld rfl hH9.get1 rfl) ?_
 refine O_p (.i .i64 (((b.length : Nat)) : Int)) (r_len rfl) ?_
 refine O_p (.b true) (by exact (by rw [r_eql rfl rfl, decide_eq_true (by first | omega | assumption)])) ?_
 refine pv (.b true) rfl ?_
 refine O_gk rfl ?_
 refine pf (.p (some (n2, 3))) rfl rfl ?_
 refine O_gk rfl ?_
 refine O_p (.sl da b.length dc dg) (r_ld rfl hH9.get1 rfl) ?_
 refine O_gk rfl ?_
 refine O_q (by exact Bs.ix (hb _ hH9.top4.fst) rfl (i := 0) rfl (by first | omega | (simp only [List.length_take, List.length_drop, List.length_append, List.length_cons, List.length_nil, beN_len] <;> omega))) fun v11 hv10 => ?_
 refine O_gk rfl ?_
 refine O_p (.i .u8 ((b.getD 0 0).toNat : Int)) (hv10.load rfl) ?_
 refine O_gk rfl ?_
 refine O_p (.b true) (by exact (by rw [r_eql rfl rfl, decide_eq_true (by first | omega | assumption)])) ?_
 refine O_p (.b true) (r_pick_t rfl rfl) ?_
 refine O_nil ?_
 refine C_cond (x := true) rfl (fun _ => ?_) (fun h => by cases h)
 refine C_seq ?_
 refine sr ?_
 refine pv (.p (some (T, 0))) rfl ?_
 refine O_p (.p (some (T, 0))) (r_nilc rfl) ?_
 refine pf (.p (some (T, 0))) rfl rfl ?_
 refine O_p (.sl (some (Lb, 0)) cs.length cs.length 0) (r_ld rfl hH9.get2 rfl) ?_
 refine pv (.i .i64 (((k : Nat)) : Int)) rfl ?_
 refine O_p (.p (some (Lb, (k * 8 + 0)))) (by exact (r_islr (b := Lb) (k := k) (len := cs.length) (cap := cs.length) (g := 0) rfl rfl (by omega))) ?_
 refine pf (.p (some (Lb, (k * 8 + 0)))) rfl rfl ?_
 refine O_p (.i .i64 c.st) (by exact (r_ld rfl hH9.get3 ((foc_get (rows_map Ch.row_len cs) (by rw [List.length_map]; omega) rfl (by decide)).trans rfl))) ?_
 refine O_nil ?_
 refine C_block ?_
 refine sr ?_
 refine O_p (.b false) (by exact (by rw [r_eql rfl rfl, decide_eq_false (by first | omega | assumption)])) ?_
 refine pv (.b false) rfl ?_
 refine O_nil ?_
 refine C_cond (x := false) rfl (fun h => by cases h) (fun _ => ?_)
 refine sr ?_
 refine O_p (.b true) (by exact (by rw [r_eql rfl rfl, decide_eq_true (by first | omega | assumption)])) ?_
 refine pv (.b true) rfl ?_
 refine O_nil ?_
 refine C_cond (x := true) rfl (fun _ => ?_) (fun h => by cases h)
 refine sr ?_
 refine pv (.p (some (T, 0))) rfl ?_
 refine O_p (.p (some (T, 0))) (r_nilc rfl) ?_
 refine pf (.p (some (T, 0))) rfl rfl ?_
 refine O_p (.sl (some (Lb, 0)) cs.length cs.length 0) (r_ld rfl hH9.get2 rfl) ?_
 refine pv (.i .i64 (((k : Nat)) : Int)) rfl ?_
 refine O_p (.p (some (Lb, (k * 8 + 0)))) (by exact (r_islr (b := Lb) (k := k) (len := cs.length) (cap := cs.length) (g := 0) rfl rfl (by omega))) ?_
 refine pf (.p (some (Lb, (k * 8 + 0)))) rfl rfl ?_
 refine O_store (vs := [(.i .i64 2)]) (c' := ((cs.map Ch.row).set k [(.i .i64 2), (.i .u8 c.kind), (.i .u16 c.prio), (.i .u32 c.limit), (.s (txt c.label)), (.s (txt c.proto)), (.b c.mine), (.b c.theirs)]).flatten) rfl (by rfl) hH9.get3 rfl (List.cons_ne_nil _ _) (foc_len (n := 1) (rows_map Ch.row_len cs) (by rw [List.length_map]; omega) rfl (Nat.le_of_ble_eq_true rfl)) (foc_put (rows_map Ch.row_len cs) (by rw [List.length_map]; omega) rfl (Nat.le_of_ble_eq_true rfl) rfl) fun H12 hW13 => ?_
 have hH14 := hH9.wr3 hW13
 refine O_nil ?_
 refine C_seq ?_
 refine C_draw fun b15 H16 hbase17 hA18 => ?_
 have hH19 := hH14.keep (by have := hA18.1; omega) (fun q _ => hA18.2 q) ((hH14.old).aside hA18).ok
 refine D_l (v := (.p (some (n2, 0)))) rfl rfl rfl (r_fadd' rfl rfl) ?_
 refine D_l (v := (.p (some (T, 0)))) rfl rfl rfl (r_mv rfl) ?_
 refine D_l (v := (.p (some (T, 0)))) rfl rfl rfl (r_nilc rfl) ?_
 refine D_l (v := (.p (some (T, 0)))) rfl rfl rfl (r_fadd' rfl rfl) ?_
 refine D_l (v := (.i .i64 (((k : Nat)) : Int))) rfl rfl rfl (r_mv rfl) ?_
 refine D_r (v := (.i .u16 ((k : Nat) : Int))) rfl rfl rfl (r_ld rfl hH19.get1 rfl) ?_
 refine D_r (v := (.sl (some (Lb, 0)) cs.length cs.length 0)) rfl rfl rfl (r_ld rfl hH19.get2 rfl) ?_
 refine D_l (v := (.p (some (Lb, (k * 8 + 0))))) rfl rfl rfl (by exact (r_islr (b := Lb) (k := k) (len := cs.length) (cap := cs.length) (g := 0) rfl rfl (by omega))) ?_
 refine D_l (v := (.p (some (Lb, (k * 8 + 1))))) rfl rfl rfl (r_fadd' rfl rfl) ?_
 refine D_r (v := (.agg [(.i .u8 c.kind), (.i .u16 c.prio), (.i .u32 c.limit), (.s (txt c.label)), (.s (txt c.proto))])) rfl rfl rfl (by exact (r_ldA rfl hH19.get3 ((foc_take (rows_map Ch.row_len cs) (by rw [List.length_map]; omega) rfl (by decide)).trans rfl))) ?_
 refine D_l (v := (.agg [(.i .i64 2), (.i .u16 ((k : Nat) : Int)), (.i .u8 c.kind), (.i .u16 c.prio), (.i .u32 c.limit), (.s (txt c.label)), (.s (txt c.proto)), (.b false), (.sl none 0 0 0)])) rfl rfl rfl (r_build rfl) ?_
 refine D_store (vs := [(.i .i64 2), (.i .u16 ((k : Nat) : Int)), (.i .u8 c.kind), (.i .u16 c.prio), (.i .u32 c.limit), (.s (txt c.label)), (.s (txt c.proto)), (.b false), (.sl none 0 0 0)]) (c' := [(.i .i64 2), (.i .u16 ((k : Nat) : Int)), (.i .u8 c.kind), (.i .u16 c.prio), (.i .u32 c.limit), (.s (txt c.label)), (.s (txt c.proto)), (.b false), (.sl none 0 0 0)]) rfl (by rfl) hH19.get0 rfl (List.cons_ne_nil _ _) (Nat.le_of_ble_eq_true rfl) rfl fun H20 hW21 => ?_
 have hH22 := hH19.wr0 hW21
 refine And.intro (And.intro (Or.inl rfl) (And.intro (Or.inl rfl) (And.intro (Or.inl rfl) True.intro))) ?_
 refine D_l (v := (.sl none 0 0 0)) rfl rfl rfl (r_mv rfl) ?_
 refine D_l (v := (.i .i64 0)) rfl rfl rfl (r_mv rfl) ?_
 refine D_nil ?_
 refine C_ret ?_
 refine bk_ret ?_
 refine nx_ret ?_
 refine nx_ret ?_
 have hcell := hH22.get0
 have hh : hear cs even k ppid b = ⟨2, k, c.kind, c.prio, c.limit, c.label, c.proto, false, [], [], 0, cs.set k (c.to 2)⟩ := by unfold hear; rw [hgd]; rw [if_neg (by omega), if_pos hp, if_pos hb2, if_neg (by omega), if_pos hs]
 have hH23 := ((hH22.sub0).sub0)
 have hH24 := (((hH23.top2).top2).top2)
 have hF := hH24
 have hH25 := (Hs.cong1 (B := [(Lb, some (.cells ((cs.set k (c.to 2)).map Ch.row).flatten true))]) hF (seg_shut (enc := Ch.row) (c := (c.to 2))))
 rw [show cs.length = (cs.set k (c.to 2)).length by rw [List.length_set]] at hH25
 rw [hh]
 exact ⟨.inr rfl, _, resL_cons (r_cellA rfl hcell rfl) (resL_cons (r_tmp (v := (.sl none 0 0 0)) rfl) (resL_one (r_tmp (v := (.i .i64 0)) rfl))), HearP.nil rfl rfl rfl hH25⟩
theorem ropening_b2 (hx : HC cs k B ppid da dc dg b) (hk : k < cs.length) (hp : ppid = 50) (hb2 : b = [2]) (hl : b.length = 1) (h2 : ((b.getD 0 0).toNat : Int) = 2) (hs : ¬ ((cs.getD k ch0).st = 0 ∨ (cs.getD k ch0).st = 1)) : HearEv 68 [] H T Lb cs even B R k un ppid da dc dg b := by
 obtain ⟨hk16, hcs, htB, dhg, hb, dhc, dhm, dfit⟩ := hx
 intro hH0
 refine Ev_C (F := x68) rfl ?_
 obtain ⟨c, hc⟩ := ex_at hk
 have hgd := getD_of hc
 try rw [hgd] at hs
 have hH1 := hH0.cong1 (seg_foc (n := Lb) (enc := Ch.row) hc)
 refine sr ?_
 refine O_box (z := [(.i .u16 ((k : Nat) : Int)), (.b un), (.i .u32 ppid), (.sl da b.length dc dg)]) rfl fun n2 H3 hN4 => ?_
 have hH5 := hH1.new hN4
 refine O_alloc fun n6 H7 hN8 => ?_
 have hH9 := hH5.new hN8
 refine pv (.sl none 0 0 0) rfl ?_
 refine pv (.i .i64 0) rfl ?_
 refine O_nil (sr ?_)
 refine pf (.p (some (n2, 0))) rfl rfl ?_
 refine O_p (.i .u16 ((k : Nat) : Int)) (r_ld rfl hH9.get1 rfl) ?_
 refine O_p (.i .i64 (((k : Nat)) : Int)) (by exact (r_cint' rfl (wrap_i64 (by omega) (by omega)))) ?_
 refine pv (.i .i64 (((k : Nat)) : Int)) rfl ?_
 refine O_nil ?_
 refine C_seq ?_
 refine sr ?_
 refine pf (.p (some (n2, 3))) rfl rfl ?_
 refine O_p (.sl da b.length dc dg) (r_ld rfl hH9.get1 rfl) ?_
 refine O_p (.i .i64 (((b.length : Nat)) : Int)) (r_len rfl) ?_
 refine O_p (.b true) (by exact (by rw [r_eql rfl rfl, decide_eq_true (by first | omega | assumption)])) ?_
 refine pv (.b true) rfl ?_
 refine O_gk rfl ?_
 refine pf (.p (some (n2, 3))) rfl rfl ?_
 refine O_gk rfl ?_
 refine O_p (.sl da b.length dc dg) (r_ld rfl hH9.get1 rfl) ?_
 refine O_gk rfl ?_
 refine O_q (by exact Bs.ix (hb _ hH9.top4.fst) rfl (i := 0) rfl (by first | omega | (simp only [List.length_take, List.length_drop, List.length_append, List.length_cons, List.length_nil, beN_len] <;> omega))) fun v11 hv10 => ?_
 refine O_gk rfl ?_
 refine O_p (.i .u8 ((b.getD 0 0).toNat : Int)) (hv10.load rfl) ?_
 refine O_gk rfl ?_
 refine O_p (.b true) (by exact (by rw [r_eql rfl rfl, decide_eq_true (by first | omega | assumption)])) ?_
 refine O_p (.b true) (r_pick_t rfl rfl) ?_
 refine O_nil ?_
 refine C_cond (x := true) rfl (fun _ => ?_) (fun h => by cases h)
 refine C_seq ?_
 refine sr ?_
 refine pv (.p (some (T, 0))) rfl ?_
 refine O_p (.p (some (T, 0))) (r_nilc rfl) ?_
 refine pf (.p (some (T, 0))) rfl rfl ?_
 refine O_p (.sl (some (Lb, 0)) cs.length cs.length 0) (r_ld rfl hH9.get2 rfl) ?_
 refine pv (.i .i64 (((k : Nat)) : Int)) rfl ?_
 refine O_p (.p (some (Lb, (k * 8 + 0)))) (by exact (r_islr (b := Lb) (k := k) (len := cs.length) (cap := cs.length) (g := 0) rfl rfl (by omega))) ?_
 refine pf (.p (some (Lb, (k * 8 + 0)))) rfl rfl ?_
 refine O_p (.i .i64 c.st) (by exact (r_ld rfl hH9.get3 ((foc_get (rows_map Ch.row_len cs) (by rw [List.length_map]; omega) rfl (by decide)).trans rfl))) ?_
 refine O_nil ?_
 refine C_block ?_
 refine sr ?_
 refine O_p (.b false) (by exact (by rw [r_eql rfl rfl, decide_eq_false (by first | omega | assumption)])) ?_
 refine pv (.b false) rfl ?_
 refine O_nil ?_
 refine C_cond (x := false) rfl (fun h => by cases h) (fun _ => ?_)
 refine sr ?_
 refine O_p (.b false) (by exact (by rw [r_eql rfl rfl, decide_eq_false (by first | omega | assumption)])) ?_
 refine pv (.b false) rfl ?_
 refine O_nil ?_
 refine C_cond (x := false) rfl (fun h => by cases h) (fun _ => ?_)
 refine C_skip ?_
 refine sr ?_
 refine O_p (.agg zHKAA ) (r_build rfl) ?_
 refine O_store (vs := zHKAA ) (c' := zHKAA ) rfl (by rfl) hH9.get0 rfl (List.cons_ne_nil _ _) (Nat.le_of_ble_eq_true rfl) rfl fun H12 hW13 => ?_
 have hH14 := hH9.wr0 hW13
 refine pv (.sl none 0 0 0) rfl ?_
 refine pv (.i .i64 0) rfl ?_
 refine O_nil ?_
 refine C_ret ?_
 refine nx_ret ?_
 have hcell := hH14.get0
 have hh : hear cs even k ppid b = .none 0 cs := by unfold hear; rw [hgd]; rw [if_neg (by omega), if_pos hp, if_pos hb2, if_neg (by omega), if_neg (by omega)]
 have hH15 := ((hH14.sub0).sub0)
 have hH16 := (((hH15.top2).top2).top2)
 have hH17 := (Hs.cong1 hH16 (seg_foc (n := Lb) (enc := Ch.row) hc).symm)
 rw [hh]
 exact ⟨.inr rfl, _, resL_cons (r_cellA rfl hcell rfl) (resL_cons (r_tmp (v := (.sl none 0 0 0)) rfl) (resL_one (r_tmp (v := (.i .i64 0)) rfl))), HearP.nil rfl rfl rfl hH17⟩
theorem ropening_ex (hx : HC cs k B ppid da dc dg b) (hk : k < cs.length) (hp : ppid = 50) (hb2 : ¬ b = [2]) (hl : ¬ b.length = 1) (hE : ¬ dErr b = 0) : HearEv 68 [] H T Lb cs even B R k un ppid da dc dg b := by
 obtain ⟨hk16, hcs, htB, dhg, hb, dhc, dhm, dfit⟩ := hx
 intro hH0
 refine Ev_C (F := x68) rfl ?_
 obtain ⟨c, hc⟩ := ex_at hk
 have hgd := getD_of hc
 try rw [hgd] at hs
 have hH1 := hH0.cong1 (seg_foc (n := Lb) (enc := Ch.row) hc)
 refine sr ?_
 refine O_box (z := [(.i .u16 ((k : Nat) : Int)), (.b un), (.i .u32 ppid), (.sl da b.length dc dg)]) rfl fun n2 H3 hN4 => ?_
 have hH5 := hH1.new hN4
 refine O_alloc fun n6 H7 hN8 => ?_
 have hH9 := hH5.new hN8
 refine pv (.sl none 0 0 0) rfl ?_
 refine pv (.i .i64 0) rfl ?_
 refine O_nil (sr ?_)
 refine pf (.p (some (n2, 0))) rfl rfl ?_
 refine O_p (.i .u16 ((k : Nat) : Int)) (r_ld rfl hH9.get1 rfl) ?_
 refine O_p (.i .i64 (((k : Nat)) : Int)) (by exact (r_cint' rfl (wrap_i64 (by omega) (by omega)))) ?_
 refine pv (.i .i64 (((k : Nat)) : Int)) rfl ?_
 refine O_nil ?_
 refine C_seq ?_
 refine sr ?_
 refine pf (.p (some (n2, 3))) rfl rfl ?_
 refine O_p (.sl da b.length dc dg) (r_ld rfl hH9.get1 rfl) ?_
 refine O_p (.i .i64 (((b.length : Nat)) : Int)) (r_len rfl) ?_
 refine O_p (.b false) (by exact (by rw [r_eql rfl rfl, decide_eq_false (by first | omega | assumption)])) ?_
 refine pv (.b false) rfl ?_
 refine O_gf rfl ?_
 refine O_gf rfl ?_
 refine O_gf rfl ?_
 refine O_gf rfl ?_
 refine O_gf rfl ?_
 refine O_p (.b false) (r_pick_f rfl rfl) ?_
 refine O_nil ?_
 refine C_cond (x := false) rfl (fun h => by cases h) (fun _ => ?_)
 refine C_skip ?_
 refine sr ?_
 refine pf (.p (some (n2, 3))) rfl rfl ?_
 refine O_p (.sl da b.length dc dg) (r_ld rfl hH9.get1 rfl) ?_
 refine O_call (Ev.mono (rdec_ev hH9.ok dhg (hb _ hH9.top4.fst) dhc dhm) fun v10 H11 hq12 => ?_)
 obtain ⟨rfl, hK13⟩ := hq12
 have hH14 := (hH9.kp hK13)
 refine pv (.tup [(.agg [(.i .u8 (dK b)), (.i .u16 (dP b)), (.i .u32 (dL b)), (.s (txt (dT b))), (.s (txt (dO b)))]), (.i .i64 (dErr b))]) rfl ?_
 refine O_p (.agg [(.i .u8 (dK b)), (.i .u16 (dP b)), (.i .u32 (dL b)), (.s (txt (dT b))), (.s (txt (dO b)))]) (r_ext rfl rfl) ?_
 refine O_p (.i .i64 (dErr b)) (r_ext rfl rfl) ?_
 refine O_alloc fun n15 H16 hN17 => ?_
 have hH18 := hH14.new hN17
 refine O_store (vs := [(.i .u8 (dK b)), (.i .u16 (dP b)), (.i .u32 (dL b)), (.s (txt (dT b))), (.s (txt (dO b)))]) (c' := [(.i .u8 (dK b)), (.i .u16 (dP b)), (.i .u32 (dL b)), (.s (txt (dT b))), (.s (txt (dO b)))]) rfl (by rfl) hH18.get0 rfl (List.cons_ne_nil _ _) (Nat.le_of_ble_eq_true rfl) rfl fun H19 hW20 => ?_
 have hH21 := hH18.wr0 hW20
 refine pv (.i .i64 (dErr b)) rfl ?_
 refine O_nil ?_
 refine C_seq ?_
 refine sr ?_
 refine pv (.i .i64 (dErr b)) rfl ?_
 refine O_p (.b true) (by exact (by rw [r_neq rfl rfl, decide_eq_false (by first | omega | assumption)]; rfl)) ?_
 refine O_nil ?_
 refine C_cond (x := true) rfl (fun _ => ?_) (fun h => by cases h)
 refine sr ?_
 refine O_p (.agg zHKAA ) (r_build rfl) ?_
 refine pv (.i .i64 (dErr b)) rfl ?_
 refine O_store (vs := zHKAA ) (c' := zHKAA ) rfl (by rfl) hH21.get1 rfl (List.cons_ne_nil _ _) (Nat.le_of_ble_eq_true rfl) rfl fun H22 hW23 => ?_
 have hH24 := hH21.wr1 hW23
 refine pv (.sl none 0 0 0) rfl ?_
 refine pv (.i .i64 (dErr b)) rfl ?_
 refine O_nil ?_
 refine C_ret ?_
 refine nx_ret ?_
 have hcell := hH24.get1
 have hh : hear cs even k ppid b = .none (dErr b) cs := by unfold hear; rw [hgd]; rw [if_neg (by omega), if_pos hp, if_neg hb2, if_pos hE]
 have hH25 := (((hH24.sub0).sub0).sub0)
 have hH26 := (((hH25.top2).top2).top2)
 have hH27 := (Hs.cong1 hH26 (seg_foc (n := Lb) (enc := Ch.row) hc).symm)
 rw [hh]
 exact ⟨.inr rfl, _, resL_cons (r_cellA rfl hcell rfl) (resL_cons (r_tmp (v := (.sl none 0 0 0)) rfl) (resL_one (r_tmp (v := (.i .i64 (dErr b))) rfl))), HearP.nil rfl rfl rfl hH27⟩
theorem ropening_ey (hx : HC cs k B ppid da dc dg b) (hk : k < cs.length) (hp : ppid = 50) (hb2 : ¬ b = [2]) (hl : b.length = 1) (h2 : ¬ ((b.getD 0 0).toNat : Int) = 2) (hE : ¬ dErr b = 0) : HearEv 68 [] H T Lb cs even B R k un ppid da dc dg b := by
 obtain ⟨hk16, hcs, htB, dhg, hb, dhc, dhm, dfit⟩ := hx
 intro hH0
 refine Ev_C (F := x68) rfl ?_
 obtain ⟨c, hc⟩ := ex_at hk
 have hgd := getD_of hc
 try rw [hgd] at hs
 have hH1 := hH0.cong1 (seg_foc (n := Lb) (enc := Ch.row) hc)
 refine sr ?_
 refine O_box (z := [(.i .u16 ((k : Nat) : Int)), (.b un), (.i .u32 ppid), (.sl da b.length dc dg)]) rfl fun n2 H3 hN4 => ?_
 have hH5 := hH1.new hN4
 refine O_alloc fun n6 H7 hN8 => ?_
 have hH9 := hH5.new hN8
 refine pv (.sl none 0 0 0) rfl ?_
 refine pv (.i .i64 0) rfl ?_
 refine O_nil (sr ?_)
 refine pf (.p (some (n2, 0))) rfl rfl ?_
 refine O_p (.i .u16 ((k : Nat) : Int)) (r_ld rfl hH9.get1 rfl) ?_
 refine O_p (.i .i64 (((k : Nat)) : Int)) (by exact (r_cint' rfl (wrap_i64 (by omega) (by omega)))) ?_
 refine pv (.i .i64 (((k : Nat)) : Int)) rfl ?_
 refine O_nil ?_
 refine C_seq ?_
 refine sr ?_
 refine pf (.p (some (n2, 3))) rfl rfl ?_
 refine O_p (.sl da b.length dc dg) (r_ld rfl hH9.get1 rfl) ?_
 refine O_p (.i .i64 (((b.length : Nat)) : Int)) (r_len rfl) ?_
 refine O_p (.b true) (by exact (by rw [r_eql rfl rfl, decide_eq_true (by first | omega | assumption)])) ?_
 refine pv (.b true) rfl ?_
 refine O_gk rfl ?_
 refine pf (.p (some (n2, 3))) rfl rfl ?_
 refine O_gk rfl ?_
 refine O_p (.sl da b.length dc dg) (r_ld rfl hH9.get1 rfl) ?_
 refine O_gk rfl ?_
 refine O_q (by exact Bs.ix (hb _ hH9.top4.fst) rfl (i := 0) rfl (by first | omega | (simp only [List.length_take, List.length_drop, List.length_append, List.length_cons, List.length_nil, beN_len] <;> omega))) fun v11 hv10 => ?_
 refine O_gk rfl ?_
 refine O_p (.i .u8 ((b.getD 0 0).toNat : Int)) (hv10.load rfl) ?_
 refine O_gk rfl ?_
 refine O_p (.b false) (by exact (by rw [r_eql rfl rfl, decide_eq_false (by first | omega | assumption)])) ?_
 refine O_p (.b false) (r_pick_t rfl rfl) ?_
 refine O_nil ?_
 refine C_cond (x := false) rfl (fun h => by cases h) (fun _ => ?_)
 refine C_skip ?_
 refine sr ?_
 refine pf (.p (some (n2, 3))) rfl rfl ?_
 refine O_p (.sl da b.length dc dg) (r_ld rfl hH9.get1 rfl) ?_
 refine O_call (Ev.mono (rdec_ev hH9.ok dhg (hb _ hH9.top4.fst) dhc dhm) fun v12 H13 hq14 => ?_)
 obtain ⟨rfl, hK15⟩ := hq14
 have hH16 := (hH9.kp hK15)
 refine pv (.tup [(.agg [(.i .u8 (dK b)), (.i .u16 (dP b)), (.i .u32 (dL b)), (.s (txt (dT b))), (.s (txt (dO b)))]), (.i .i64 (dErr b))]) rfl ?_
 refine O_p (.agg [(.i .u8 (dK b)), (.i .u16 (dP b)), (.i .u32 (dL b)), (.s (txt (dT b))), (.s (txt (dO b)))]) (r_ext rfl rfl) ?_
 refine O_p (.i .i64 (dErr b)) (r_ext rfl rfl) ?_
 refine O_alloc fun n17 H18 hN19 => ?_
 have hH20 := hH16.new hN19
 refine O_store (vs := [(.i .u8 (dK b)), (.i .u16 (dP b)), (.i .u32 (dL b)), (.s (txt (dT b))), (.s (txt (dO b)))]) (c' := [(.i .u8 (dK b)), (.i .u16 (dP b)), (.i .u32 (dL b)), (.s (txt (dT b))), (.s (txt (dO b)))]) rfl (by rfl) hH20.get0 rfl (List.cons_ne_nil _ _) (Nat.le_of_ble_eq_true rfl) rfl fun H21 hW22 => ?_
 have hH23 := hH20.wr0 hW22
 refine pv (.i .i64 (dErr b)) rfl ?_
 refine O_nil ?_
 refine C_seq ?_
 refine sr ?_
 refine pv (.i .i64 (dErr b)) rfl ?_
 refine O_p (.b true) (by exact (by rw [r_neq rfl rfl, decide_eq_false (by first | omega | assumption)]; rfl)) ?_
 refine O_nil ?_
 refine C_cond (x := true) rfl (fun _ => ?_) (fun h => by cases h)
 refine sr ?_
 refine O_p (.agg zHKAA ) (r_build rfl) ?_
 refine pv (.i .i64 (dErr b)) rfl ?_
 refine O_store (vs := zHKAA ) (c' := zHKAA ) rfl (by rfl) hH23.get1 rfl (List.cons_ne_nil _ _) (Nat.le_of_ble_eq_true rfl) rfl fun H24 hW25 => ?_
 have hH26 := hH23.wr1 hW25
 refine pv (.sl none 0 0 0) rfl ?_
 refine pv (.i .i64 (dErr b)) rfl ?_
 refine O_nil ?_
 refine C_ret ?_
 refine nx_ret ?_
 have hcell := hH26.get1
 have hh : hear cs even k ppid b = .none (dErr b) cs := by unfold hear; rw [hgd]; rw [if_neg (by omega), if_pos hp, if_neg hb2, if_pos hE]
 have hH27 := (((hH26.sub0).sub0).sub0)
 have hH28 := (((hH27.top2).top2).top2)
 have hH29 := (Hs.cong1 hH28 (seg_foc (n := Lb) (enc := Ch.row) hc).symm)
 rw [hh]
 exact ⟨.inr rfl, _, resL_cons (r_cellA rfl hcell rfl) (resL_cons (r_tmp (v := (.sl none 0 0 0)) rfl) (resL_one (r_tmp (v := (.i .i64 (dErr b))) rfl))), HearP.nil rfl rfl rfl hH29⟩
theorem ropening_sx (hx : HC cs k B ppid da dc dg b) (hk : k < cs.length) (hp : ppid = 50) (hb2 : ¬ b = [2]) (hl : ¬ b.length = 1) (hE : dErr b = 0) (hs : ¬ (cs.getD k ch0).st = 0) : HearEv 68 [] H T Lb cs even B R k un ppid da dc dg b := by
 obtain ⟨hk16, hcs, htB, dhg, hb, dhc, dhm, dfit⟩ := hx
 intro hH0
 refine Ev_C (F := x68) rfl ?_
 obtain ⟨c, hc⟩ := ex_at hk
 have hgd := getD_of hc
 try rw [hgd] at hs
 have hH1 := hH0.cong1 (seg_foc (n := Lb) (enc := Ch.row) hc)
 refine sr ?_
 refine O_box (z := [(.i .u16 ((k : Nat) : Int)), (.b un), (.i .u32 ppid), (.sl da b.length dc dg)]) rfl fun n2 H3 hN4 => ?_
 have hH5 := hH1.new hN4
 refine O_alloc fun n6 H7 hN8 => ?_
 have hH9 := hH5.new hN8
 refine pv (.sl none 0 0 0) rfl ?_
 refine pv (.i .i64 0) rfl ?_
 refine O_nil (sr ?_)
 refine pf (.p (some (n2, 0))) rfl rfl ?_
 refine O_p (.i .u16 ((k : Nat) : Int)) (r_ld rfl hH9.get1 rfl) ?_
 refine O_p (.i .i64 (((k : Nat)) : Int)) (by exact (r_cint' rfl (wrap_i64 (by omega) (by omega)))) ?_
 refine pv (.i .i64 (((k : Nat)) : Int)) rfl ?_
 refine O_nil ?_
 refine C_seq ?_
 refine sr ?_
 refine pf (.p (some (n2, 3))) rfl rfl ?_
 refine O_p (.sl da b.length dc dg) (r_ld rfl hH9.get1 rfl) ?_
 refine O_p (.i .i64 (((b.length : Nat)) : Int)) (r_len rfl) ?_
 refine O_p (.b false) (by exact (by rw [r_eql rfl rfl, decide_eq_false (by first | omega | assumption)])) ?_
 refine pv (.b false) rfl ?_
 refine O_gf rfl ?_
 refine O_gf rfl ?_
 refine O_gf rfl ?_
 refine O_gf rfl ?_
 refine O_gf rfl ?_
 refine O_p (.b false) (r_pick_f rfl rfl) ?_
 refine O_nil ?_
 refine C_cond (x := false) rfl (fun h => by cases h) (fun _ => ?_)
 refine C_skip ?_
 refine sr ?_
 refine pf (.p (some (n2, 3))) rfl rfl ?_
 refine O_p (.sl da b.length dc dg) (r_ld rfl hH9.get1 rfl) ?_
 refine O_call (Ev.mono (rdec_ev hH9.ok dhg (hb _ hH9.top4.fst) dhc dhm) fun v10 H11 hq12 => ?_)
 obtain ⟨rfl, hK13⟩ := hq12
 have hH14 := (hH9.kp hK13)
 refine pv (.tup [(.agg [(.i .u8 (dK b)), (.i .u16 (dP b)), (.i .u32 (dL b)), (.s (txt (dT b))), (.s (txt (dO b)))]), (.i .i64 (dErr b))]) rfl ?_
 refine O_p (.agg [(.i .u8 (dK b)), (.i .u16 (dP b)), (.i .u32 (dL b)), (.s (txt (dT b))), (.s (txt (dO b)))]) (r_ext rfl rfl) ?_
 refine O_p (.i .i64 (dErr b)) (r_ext rfl rfl) ?_
 refine O_alloc fun n15 H16 hN17 => ?_
 have hH18 := hH14.new hN17
 refine O_store (vs := [(.i .u8 (dK b)), (.i .u16 (dP b)), (.i .u32 (dL b)), (.s (txt (dT b))), (.s (txt (dO b)))]) (c' := [(.i .u8 (dK b)), (.i .u16 (dP b)), (.i .u32 (dL b)), (.s (txt (dT b))), (.s (txt (dO b)))]) rfl (by rfl) hH18.get0 rfl (List.cons_ne_nil _ _) (Nat.le_of_ble_eq_true rfl) rfl fun H19 hW20 => ?_
 have hH21 := hH18.wr0 hW20
 refine pv (.i .i64 (dErr b)) rfl ?_
 refine O_nil ?_
 refine C_seq ?_
 refine sr ?_
 refine pv (.i .i64 (dErr b)) rfl ?_
 refine O_p (.b false) (by exact (by rw [r_neq rfl rfl, decide_eq_true (by first | omega | assumption)]; rfl)) ?_
 refine O_nil ?_
 refine C_cond (x := false) rfl (fun h => by cases h) (fun _ => ?_)
 refine C_skip ?_
 refine C_seq ?_
 refine sr ?_
 refine pv (.p (some (T, 0))) rfl ?_
 refine O_p (.p (some (T, 0))) (r_nilc rfl) ?_
 refine pf (.p (some (T, 0))) rfl rfl ?_
 refine O_p (.sl (some (Lb, 0)) cs.length cs.length 0) (r_ld rfl hH21.get3 rfl) ?_
 refine pv (.i .i64 (((k : Nat)) : Int)) rfl ?_
 refine O_p (.p (some (Lb, (k * 8 + 0)))) (by exact (r_islr (b := Lb) (k := k) (len := cs.length) (cap := cs.length) (g := 0) rfl rfl (by omega))) ?_
 refine pf (.p (some (Lb, (k * 8 + 0)))) rfl rfl ?_
 refine O_p (.i .i64 c.st) (by exact (r_ld rfl hH21.get4 ((foc_get (rows_map Ch.row_len cs) (by rw [List.length_map]; omega) rfl (by decide)).trans rfl))) ?_
 refine O_p (.b true) (by exact (by rw [r_neq rfl rfl, decide_eq_false (by first | omega | assumption)]; rfl)) ?_
 refine pv (.b true) rfl ?_
 refine O_gf rfl ?_
 refine O_gf rfl ?_
 refine O_gf rfl ?_
 refine O_p (.b true) (r_pick_t rfl rfl) ?_
 refine O_nil ?_
 refine C_cond (x := true) rfl (fun _ => ?_) (fun h => by cases h)
 refine sr ?_
 refine O_p (.agg zHKAA ) (r_build rfl) ?_
 refine O_store (vs := zHKAA ) (c' := zHKAA ) rfl (by rfl) hH21.get1 rfl (List.cons_ne_nil _ _) (Nat.le_of_ble_eq_true rfl) rfl fun H22 hW23 => ?_
 have hH24 := hH21.wr1 hW23
 refine pv (.sl none 0 0 0) rfl ?_
 refine pv (.i .i64 8) rfl ?_
 refine O_nil ?_
 refine C_ret ?_
 refine nx_ret ?_
 have hcell := hH24.get1
 have hh : hear cs even k ppid b = .none 8 cs := by unfold hear; rw [hgd]; rw [if_neg (by omega), if_pos hp, if_neg hb2, if_neg (by omega), if_pos (.inl hs)]
 have hH25 := (((hH24.sub0).sub0).sub0)
 have hH26 := (((hH25.top2).top2).top2)
 have hH27 := (Hs.cong1 hH26 (seg_foc (n := Lb) (enc := Ch.row) hc).symm)
 rw [hh]
 exact ⟨.inr rfl, _, resL_cons (r_cellA rfl hcell rfl) (resL_cons (r_tmp (v := (.sl none 0 0 0)) rfl) (resL_one (r_tmp (v := (.i .i64 8)) rfl))), HearP.nil rfl rfl rfl hH27⟩
theorem ropening_sy (hx : HC cs k B ppid da dc dg b) (hk : k < cs.length) (hp : ppid = 50) (hb2 : ¬ b = [2]) (hl : b.length = 1) (h2 : ¬ ((b.getD 0 0).toNat : Int) = 2) (hE : dErr b = 0) (hs : ¬ (cs.getD k ch0).st = 0) : HearEv 68 [] H T Lb cs even B R k un ppid da dc dg b := by
 obtain ⟨hk16, hcs, htB, dhg, hb, dhc, dhm, dfit⟩ := hx
 intro hH0
 refine Ev_C (F := x68) rfl ?_
 obtain ⟨c, hc⟩ := ex_at hk
 have hgd := getD_of hc
 try rw [hgd] at hs
 have hH1 := hH0.cong1 (seg_foc (n := Lb) (enc := Ch.row) hc)
 refine sr ?_
 refine O_box (z := [(.i .u16 ((k : Nat) : Int)), (.b un), (.i .u32 ppid), (.sl da b.length dc dg)]) rfl fun n2 H3 hN4 => ?_
 have hH5 := hH1.new hN4
 refine O_alloc fun n6 H7 hN8 => ?_
 have hH9 := hH5.new hN8
 refine pv (.sl none 0 0 0) rfl ?_
 refine pv (.i .i64 0) rfl ?_
 refine O_nil (sr ?_)
 refine pf (.p (some (n2, 0))) rfl rfl ?_
 refine O_p (.i .u16 ((k : Nat) : Int)) (r_ld rfl hH9.get1 rfl) ?_
 refine O_p (.i .i64 (((k : Nat)) : Int)) (by exact (r_cint' rfl (wrap_i64 (by omega) (by omega)))) ?_
 refine pv (.i .i64 (((k : Nat)) : Int)) rfl ?_
 refine O_nil ?_
 refine C_seq ?_
 refine sr ?_
 refine pf (.p (some (n2, 3))) rfl rfl ?_
 refine O_p (.sl da b.length dc dg) (r_ld rfl hH9.get1 rfl) ?_
 refine O_p (.i .i64 (((b.length : Nat)) : Int)) (r_len rfl) ?_
 refine O_p (.b true) (by exact (by rw [r_eql rfl rfl, decide_eq_true (by first | omega | assumption)])) ?_
 refine pv (.b true) rfl ?_
 refine O_gk rfl ?_
 refine pf (.p (some (n2, 3))) rfl rfl ?_
 refine O_gk rfl ?_
 refine O_p (.sl da b.length dc dg) (r_ld rfl hH9.get1 rfl) ?_
 refine O_gk rfl ?_
 refine O_q (by exact Bs.ix (hb _ hH9.top4.fst) rfl (i := 0) rfl (by first | omega | (simp only [List.length_take, List.length_drop, List.length_append, List.length_cons, List.length_nil, beN_len] <;> omega))) fun v11 hv10 => ?_
 refine O_gk rfl ?_
 refine O_p (.i .u8 ((b.getD 0 0).toNat : Int)) (hv10.load rfl) ?_
 refine O_gk rfl ?_
 refine O_p (.b false) (by exact (by rw [r_eql rfl rfl, decide_eq_false (by first | omega | assumption)])) ?_
 refine O_p (.b false) (r_pick_t rfl rfl) ?_
 refine O_nil ?_
 refine C_cond (x := false) rfl (fun h => by cases h) (fun _ => ?_)
 refine C_skip ?_
 refine sr ?_
 refine pf (.p (some (n2, 3))) rfl rfl ?_
 refine O_p (.sl da b.length dc dg) (r_ld rfl hH9.get1 rfl) ?_
 refine O_call (Ev.mono (rdec_ev hH9.ok dhg (hb _ hH9.top4.fst) dhc dhm) fun v12 H13 hq14 => ?_)
 obtain ⟨rfl, hK15⟩ := hq14
 have hH16 := (hH9.kp hK15)
 refine pv (.tup [(.agg [(.i .u8 (dK b)), (.i .u16 (dP b)), (.i .u32 (dL b)), (.s (txt (dT b))), (.s (txt (dO b)))]), (.i .i64 (dErr b))]) rfl ?_
 refine O_p (.agg [(.i .u8 (dK b)), (.i .u16 (dP b)), (.i .u32 (dL b)), (.s (txt (dT b))), (.s (txt (dO b)))]) (r_ext rfl rfl) ?_
 refine O_p (.i .i64 (dErr b)) (r_ext rfl rfl) ?_
 refine O_alloc fun n17 H18 hN19 => ?_
 have hH20 := hH16.new hN19
 refine O_store (vs := [(.i .u8 (dK b)), (.i .u16 (dP b)), (.i .u32 (dL b)), (.s (txt (dT b))), (.s (txt (dO b)))]) (c' := [(.i .u8 (dK b)), (.i .u16 (dP b)), (.i .u32 (dL b)), (.s (txt (dT b))), (.s (txt (dO b)))]) rfl (by rfl) hH20.get0 rfl (List.cons_ne_nil _ _) (Nat.le_of_ble_eq_true rfl) rfl fun H21 hW22 => ?_
 have hH23 := hH20.wr0 hW22
 refine pv (.i .i64 (dErr b)) rfl ?_
 refine O_nil ?_
 refine C_seq ?_
 refine sr ?_
 refine pv (.i .i64 (dErr b)) rfl ?_
 refine O_p (.b false) (by exact (by rw [r_neq rfl rfl, decide_eq_true (by first | omega | assumption)]; rfl)) ?_
 refine O_nil ?_
 refine C_cond (x := false) rfl (fun h => by cases h) (fun _ => ?_)
 refine C_skip ?_
 refine C_seq ?_
 refine sr ?_
 refine pv (.p (some (T, 0))) rfl ?_
 refine O_p (.p (some (T, 0))) (r_nilc rfl) ?_
 refine pf (.p (some (T, 0))) rfl rfl ?_
 refine O_p (.sl (some (Lb, 0)) cs.length cs.length 0) (r_ld rfl hH23.get3 rfl) ?_
 refine pv (.i .i64 (((k : Nat)) : Int)) rfl ?_
 refine O_p (.p (some (Lb, (k * 8 + 0)))) (by exact (r_islr (b := Lb) (k := k) (len := cs.length) (cap := cs.length) (g := 0) rfl rfl (by omega))) ?_
 refine pf (.p (some (Lb, (k * 8 + 0)))) rfl rfl ?_
 refine O_p (.i .i64 c.st) (by exact (r_ld rfl hH23.get4 ((foc_get (rows_map Ch.row_len cs) (by rw [List.length_map]; omega) rfl (by decide)).trans rfl))) ?_
 refine O_p (.b true) (by exact (by rw [r_neq rfl rfl, decide_eq_false (by first | omega | assumption)]; rfl)) ?_
 refine pv (.b true) rfl ?_
 refine O_gf rfl ?_
 refine O_gf rfl ?_
 refine O_gf rfl ?_
 refine O_p (.b true) (r_pick_t rfl rfl) ?_
 refine O_nil ?_
 refine C_cond (x := true) rfl (fun _ => ?_) (fun h => by cases h)
 refine sr ?_
 refine O_p (.agg zHKAA ) (r_build rfl) ?_
 refine O_store (vs := zHKAA ) (c' := zHKAA ) rfl (by rfl) hH23.get1 rfl (List.cons_ne_nil _ _) (Nat.le_of_ble_eq_true rfl) rfl fun H24 hW25 => ?_
 have hH26 := hH23.wr1 hW25
 refine pv (.sl none 0 0 0) rfl ?_
 refine pv (.i .i64 8) rfl ?_
 refine O_nil ?_
 refine C_ret ?_
 refine nx_ret ?_
 have hcell := hH26.get1
 have hh : hear cs even k ppid b = .none 8 cs := by unfold hear; rw [hgd]; rw [if_neg (by omega), if_pos hp, if_neg hb2, if_neg (by omega), if_pos (.inl hs)]
 have hH27 := (((hH26.sub0).sub0).sub0)
 have hH28 := (((hH27.top2).top2).top2)
 have hH29 := (Hs.cong1 hH28 (seg_foc (n := Lb) (enc := Ch.row) hc).symm)
 rw [hh]
 exact ⟨.inr rfl, _, resL_cons (r_cellA rfl hcell rfl) (resL_cons (r_tmp (v := (.sl none 0 0 0)) rfl) (resL_one (r_tmp (v := (.i .i64 8)) rfl))), HearP.nil rfl rfl rfl hH29⟩
theorem ropening_ox (hx : HC cs k B ppid da dc dg b) (hk : k < cs.length) (hp : ppid = 50) (hb2 : ¬ b = [2]) (hl : ¬ b.length = 1) (hE : dErr b = 0) (hs : (cs.getD k ch0).st = 0) (hown : ownB k even = true) : HearEv 68 [] H T Lb cs even B R k un ppid da dc dg b := by
 obtain ⟨hk16, hcs, htB, dhg, hb, dhc, dhm, dfit⟩ := hx
 intro hH0
 refine Ev_C (F := x68) rfl ?_
 obtain ⟨c, hc⟩ := ex_at hk
 have hgd := getD_of hc
 try rw [hgd] at hs
 have hH1 := hH0.cong1 (seg_foc (n := Lb) (enc := Ch.row) hc)
 refine sr ?_
 refine O_box (z := [(.i .u16 ((k : Nat) : Int)), (.b un), (.i .u32 ppid), (.sl da b.length dc dg)]) rfl fun n2 H3 hN4 => ?_
 have hH5 := hH1.new hN4
 refine O_alloc fun n6 H7 hN8 => ?_
 have hH9 := hH5.new hN8
 refine pv (.sl none 0 0 0) rfl ?_
 refine pv (.i .i64 0) rfl ?_
 refine O_nil (sr ?_)
 refine pf (.p (some (n2, 0))) rfl rfl ?_
 refine O_p (.i .u16 ((k : Nat) : Int)) (r_ld rfl hH9.get1 rfl) ?_
 refine O_p (.i .i64 (((k : Nat)) : Int)) (by exact (r_cint' rfl (wrap_i64 (by omega) (by omega)))) ?_
 refine pv (.i .i64 (((k : Nat)) : Int)) rfl ?_
 refine O_nil ?_
 refine C_seq ?_
 refine sr ?_
 refine pf (.p (some (n2, 3))) rfl rfl ?_
 refine O_p (.sl da b.length dc dg) (r_ld rfl hH9.get1 rfl) ?_
 refine O_p (.i .i64 (((b.length : Nat)) : Int)) (r_len rfl) ?_
 refine O_p (.b false) (by exact (by rw [r_eql rfl rfl, decide_eq_false (by first | omega | assumption)])) ?_
 refine pv (.b false) rfl ?_
 refine O_gf rfl ?_
 refine O_gf rfl ?_
 refine O_gf rfl ?_
 refine O_gf rfl ?_
 refine O_gf rfl ?_
 refine O_p (.b false) (r_pick_f rfl rfl) ?_
 refine O_nil ?_
 refine C_cond (x := false) rfl (fun h => by cases h) (fun _ => ?_)
 refine C_skip ?_
 refine sr ?_
 refine pf (.p (some (n2, 3))) rfl rfl ?_
 refine O_p (.sl da b.length dc dg) (r_ld rfl hH9.get1 rfl) ?_
 refine O_call (Ev.mono (rdec_ev hH9.ok dhg (hb _ hH9.top4.fst) dhc dhm) fun v10 H11 hq12 => ?_)
 obtain ⟨rfl, hK13⟩ := hq12
 have hH14 := (hH9.kp hK13)
 refine pv (.tup [(.agg [(.i .u8 (dK b)), (.i .u16 (dP b)), (.i .u32 (dL b)), (.s (txt (dT b))), (.s (txt (dO b)))]), (.i .i64 (dErr b))]) rfl ?_
 refine O_p (.agg [(.i .u8 (dK b)), (.i .u16 (dP b)), (.i .u32 (dL b)), (.s (txt (dT b))), (.s (txt (dO b)))]) (r_ext rfl rfl) ?_
 refine O_p (.i .i64 (dErr b)) (r_ext rfl rfl) ?_
 refine O_alloc fun n15 H16 hN17 => ?_
 have hH18 := hH14.new hN17
 refine O_store (vs := [(.i .u8 (dK b)), (.i .u16 (dP b)), (.i .u32 (dL b)), (.s (txt (dT b))), (.s (txt (dO b)))]) (c' := [(.i .u8 (dK b)), (.i .u16 (dP b)), (.i .u32 (dL b)), (.s (txt (dT b))), (.s (txt (dO b)))]) rfl (by rfl) hH18.get0 rfl (List.cons_ne_nil _ _) (Nat.le_of_ble_eq_true rfl) rfl fun H19 hW20 => ?_
 have hH21 := hH18.wr0 hW20
 refine pv (.i .i64 (dErr b)) rfl ?_
 refine O_nil ?_
 refine C_seq ?_
 refine sr ?_
 refine pv (.i .i64 (dErr b)) rfl ?_
 refine O_p (.b false) (by exact (by rw [r_neq rfl rfl, decide_eq_true (by first | omega | assumption)]; rfl)) ?_
 refine O_nil ?_
 refine C_cond (x := false) rfl (fun h => by cases h) (fun _ => ?_)
 refine C_skip ?_
 refine C_seq ?_
 refine sr ?_
 refine pv (.p (some (T, 0))) rfl ?_
 refine O_p (.p (some (T, 0))) (r_nilc rfl) ?_
 refine pf (.p (some (T, 0))) rfl rfl ?_
 refine O_p (.sl (some (Lb, 0)) cs.length cs.length 0) (r_ld rfl hH21.get3 rfl) ?_
 refine pv (.i .i64 (((k : Nat)) : Int)) rfl ?_
 refine O_p (.p (some (Lb, (k * 8 + 0)))) (by exact (r_islr (b := Lb) (k := k) (len := cs.length) (cap := cs.length) (g := 0) rfl rfl (by omega))) ?_
 refine pf (.p (some (Lb, (k * 8 + 0)))) rfl rfl ?_
 refine O_p (.i .i64 c.st) (by exact (r_ld rfl hH21.get4 ((foc_get (rows_map Ch.row_len cs) (by rw [List.length_map]; omega) rfl (by decide)).trans rfl))) ?_
 refine O_p (.b false) (by exact (by rw [r_neq rfl rfl, decide_eq_true (by first | omega | assumption)]; rfl)) ?_
 refine pv (.b false) rfl ?_
 refine O_gk rfl ?_
 refine pv (.p (some (T, 0))) rfl ?_
 refine O_gk rfl ?_
 refine pv (.i .i64 (((k : Nat)) : Int)) rfl ?_
 refine O_gk rfl ?_
 refine O_call (Ev.mono (rown_v hH21.ok (hH21.get3) k (by omega) hown) fun v22 H23 hq24 => ?_)
 obtain ⟨rfl, hq24⟩ := hq24
 subst H23
 refine O_p (.b true) (r_pick_f rfl rfl) ?_
 refine O_nil ?_
 refine C_cond (x := true) rfl (fun _ => ?_) (fun h => by cases h)
 refine sr ?_
 refine O_p (.agg zHKAA ) (r_build rfl) ?_
 refine O_store (vs := zHKAA ) (c' := zHKAA ) rfl (by rfl) hH21.get1 rfl (List.cons_ne_nil _ _) (Nat.le_of_ble_eq_true rfl) rfl fun H25 hW26 => ?_
 have hH27 := hH21.wr1 hW26
 refine pv (.sl none 0 0 0) rfl ?_
 refine pv (.i .i64 8) rfl ?_
 refine O_nil ?_
 refine C_ret ?_
 refine nx_ret ?_
 have hcell := hH27.get1
 have hh : hear cs even k ppid b = .none 8 cs := by unfold hear; rw [hgd]; rw [if_neg (by omega), if_pos hp, if_neg hb2, if_neg (by omega), if_pos (.inr hown)]
 have hH28 := (((hH27.sub0).sub0).sub0)
 have hH29 := (((hH28.top2).top2).top2)
 have hH30 := (Hs.cong1 hH29 (seg_foc (n := Lb) (enc := Ch.row) hc).symm)
 rw [hh]
 exact ⟨.inr rfl, _, resL_cons (r_cellA rfl hcell rfl) (resL_cons (r_tmp (v := (.sl none 0 0 0)) rfl) (resL_one (r_tmp (v := (.i .i64 8)) rfl))), HearP.nil rfl rfl rfl hH30⟩
theorem ropening_oy (hx : HC cs k B ppid da dc dg b) (hk : k < cs.length) (hp : ppid = 50) (hb2 : ¬ b = [2]) (hl : b.length = 1) (h2 : ¬ ((b.getD 0 0).toNat : Int) = 2) (hE : dErr b = 0) (hs : (cs.getD k ch0).st = 0) (hown : ownB k even = true) : HearEv 68 [] H T Lb cs even B R k un ppid da dc dg b := by
 obtain ⟨hk16, hcs, htB, dhg, hb, dhc, dhm, dfit⟩ := hx
 intro hH0
 refine Ev_C (F := x68) rfl ?_
 obtain ⟨c, hc⟩ := ex_at hk
 have hgd := getD_of hc
 try rw [hgd] at hs
 have hH1 := hH0.cong1 (seg_foc (n := Lb) (enc := Ch.row) hc)
 refine sr ?_
 refine O_box (z := [(.i .u16 ((k : Nat) : Int)), (.b un), (.i .u32 ppid), (.sl da b.length dc dg)]) rfl fun n2 H3 hN4 => ?_
 have hH5 := hH1.new hN4
 refine O_alloc fun n6 H7 hN8 => ?_
 have hH9 := hH5.new hN8
 refine pv (.sl none 0 0 0) rfl ?_
 refine pv (.i .i64 0) rfl ?_
 refine O_nil (sr ?_)
 refine pf (.p (some (n2, 0))) rfl rfl ?_
 refine O_p (.i .u16 ((k : Nat) : Int)) (r_ld rfl hH9.get1 rfl) ?_
 refine O_p (.i .i64 (((k : Nat)) : Int)) (by exact (r_cint' rfl (wrap_i64 (by omega) (by omega)))) ?_
 refine pv (.i .i64 (((k : Nat)) : Int)) rfl ?_
 refine O_nil ?_
 refine C_seq ?_
 refine sr ?_
 refine pf (.p (some (n2, 3))) rfl rfl ?_
 refine O_p (.sl da b.length dc dg) (r_ld rfl hH9.get1 rfl) ?_
 refine O_p (.i .i64 (((b.length : Nat)) : Int)) (r_len rfl) ?_
 refine O_p (.b true) (by exact (by rw [r_eql rfl rfl, decide_eq_true (by first | omega | assumption)])) ?_
 refine pv (.b true) rfl ?_
 refine O_gk rfl ?_
 refine pf (.p (some (n2, 3))) rfl rfl ?_
 refine O_gk rfl ?_
 refine O_p (.sl da b.length dc dg) (r_ld rfl hH9.get1 rfl) ?_
 refine O_gk rfl ?_
 refine O_q (by exact Bs.ix (hb _ hH9.top4.fst) rfl (i := 0) rfl (by first | omega | (simp only [List.length_take, List.length_drop, List.length_append, List.length_cons, List.length_nil, beN_len] <;> omega))) fun v11 hv10 => ?_
 refine O_gk rfl ?_
 refine O_p (.i .u8 ((b.getD 0 0).toNat : Int)) (hv10.load rfl) ?_
 refine O_gk rfl ?_
 refine O_p (.b false) (by exact (by rw [r_eql rfl rfl, decide_eq_false (by first | omega | assumption)])) ?_
 refine O_p (.b false) (r_pick_t rfl rfl) ?_
 refine O_nil ?_
 refine C_cond (x := false) rfl (fun h => by cases h) (fun _ => ?_)
 refine C_skip ?_
 refine sr ?_
 refine pf (.p (some (n2, 3))) rfl rfl ?_
 refine O_p (.sl da b.length dc dg) (r_ld rfl hH9.get1 rfl) ?_
 refine O_call (Ev.mono (rdec_ev hH9.ok dhg (hb _ hH9.top4.fst) dhc dhm) fun v12 H13 hq14 => ?_)
 obtain ⟨rfl, hK15⟩ := hq14
 have hH16 := (hH9.kp hK15)
 refine pv (.tup [(.agg [(.i .u8 (dK b)), (.i .u16 (dP b)), (.i .u32 (dL b)), (.s (txt (dT b))), (.s (txt (dO b)))]), (.i .i64 (dErr b))]) rfl ?_
 refine O_p (.agg [(.i .u8 (dK b)), (.i .u16 (dP b)), (.i .u32 (dL b)), (.s (txt (dT b))), (.s (txt (dO b)))]) (r_ext rfl rfl) ?_
 refine O_p (.i .i64 (dErr b)) (r_ext rfl rfl) ?_
 refine O_alloc fun n17 H18 hN19 => ?_
 have hH20 := hH16.new hN19
 refine O_store (vs := [(.i .u8 (dK b)), (.i .u16 (dP b)), (.i .u32 (dL b)), (.s (txt (dT b))), (.s (txt (dO b)))]) (c' := [(.i .u8 (dK b)), (.i .u16 (dP b)), (.i .u32 (dL b)), (.s (txt (dT b))), (.s (txt (dO b)))]) rfl (by rfl) hH20.get0 rfl (List.cons_ne_nil _ _) (Nat.le_of_ble_eq_true rfl) rfl fun H21 hW22 => ?_
 have hH23 := hH20.wr0 hW22
 refine pv (.i .i64 (dErr b)) rfl ?_
 refine O_nil ?_
 refine C_seq ?_
 refine sr ?_
 refine pv (.i .i64 (dErr b)) rfl ?_
 refine O_p (.b false) (by exact (by rw [r_neq rfl rfl, decide_eq_true (by first | omega | assumption)]; rfl)) ?_
 refine O_nil ?_
 refine C_cond (x := false) rfl (fun h => by cases h) (fun _ => ?_)
 refine C_skip ?_
 refine C_seq ?_
 refine sr ?_
 refine pv (.p (some (T, 0))) rfl ?_
 refine O_p (.p (some (T, 0))) (r_nilc rfl) ?_
 refine pf (.p (some (T, 0))) rfl rfl ?_
 refine O_p (.sl (some (Lb, 0)) cs.length cs.length 0) (r_ld rfl hH23.get3 rfl) ?_
 refine pv (.i .i64 (((k : Nat)) : Int)) rfl ?_
 refine O_p (.p (some (Lb, (k * 8 + 0)))) (by exact (r_islr (b := Lb) (k := k) (len := cs.length) (cap := cs.length) (g := 0) rfl rfl (by omega))) ?_
 refine pf (.p (some (Lb, (k * 8 + 0)))) rfl rfl ?_
 refine O_p (.i .i64 c.st) (by exact (r_ld rfl hH23.get4 ((foc_get (rows_map Ch.row_len cs) (by rw [List.length_map]; omega) rfl (by decide)).trans rfl))) ?_
 refine O_p (.b false) (by exact (by rw [r_neq rfl rfl, decide_eq_true (by first | omega | assumption)]; rfl)) ?_
 refine pv (.b false) rfl ?_
 refine O_gk rfl ?_
 refine pv (.p (some (T, 0))) rfl ?_
 refine O_gk rfl ?_
 refine pv (.i .i64 (((k : Nat)) : Int)) rfl ?_
 refine O_gk rfl ?_
 refine O_call (Ev.mono (rown_v hH23.ok (hH23.get3) k (by omega) hown) fun v24 H25 hq26 => ?_)
 obtain ⟨rfl, hq26⟩ := hq26
 subst H25
 refine O_p (.b true) (r_pick_f rfl rfl) ?_
 refine O_nil ?_
 refine C_cond (x := true) rfl (fun _ => ?_) (fun h => by cases h)
 refine sr ?_
 refine O_p (.agg zHKAA ) (r_build rfl) ?_
 refine O_store (vs := zHKAA ) (c' := zHKAA ) rfl (by rfl) hH23.get1 rfl (List.cons_ne_nil _ _) (Nat.le_of_ble_eq_true rfl) rfl fun H27 hW28 => ?_
 have hH29 := hH23.wr1 hW28
 refine pv (.sl none 0 0 0) rfl ?_
 refine pv (.i .i64 8) rfl ?_
 refine O_nil ?_
 refine C_ret ?_
 refine nx_ret ?_
 have hcell := hH29.get1
 have hh : hear cs even k ppid b = .none 8 cs := by unfold hear; rw [hgd]; rw [if_neg (by omega), if_pos hp, if_neg hb2, if_neg (by omega), if_pos (.inr hown)]
 have hH30 := (((hH29.sub0).sub0).sub0)
 have hH31 := (((hH30.top2).top2).top2)
 have hH32 := (Hs.cong1 hH31 (seg_foc (n := Lb) (enc := Ch.row) hc).symm)
 rw [hh]
 exact ⟨.inr rfl, _, resL_cons (r_cellA rfl hcell rfl) (resL_cons (r_tmp (v := (.sl none 0 0 0)) rfl) (resL_one (r_tmp (v := (.i .i64 8)) rfl))), HearP.nil rfl rfl rfl hH32⟩
theorem ropening_kx (hx : HC cs k B ppid da dc dg b) (hk : k < cs.length) (hp : ppid = 50) (hb2 : ¬ b = [2]) (hl : ¬ b.length = 1) (hE : dErr b = 0) (hs : (cs.getD k ch0).st = 0) (hown : ownB k even = false) : HearEv 68 [] H T Lb cs even B R k un ppid da dc dg b := by
 obtain ⟨hk16, hcs, htB, dhg, hb, dhc, dhm, dfit⟩ := hx
 intro hH0
 refine Ev_C (F := x68) rfl ?_
 obtain ⟨c, hc⟩ := ex_at hk
 have hgd := getD_of hc
 try rw [hgd] at hs
 have hH1 := hH0.cong1 (seg_foc (n := Lb) (enc := Ch.row) hc)
 refine sr ?_
 refine O_box (z := [(.i .u16 ((k : Nat) : Int)), (.b un), (.i .u32 ppid), (.sl da b.length dc dg)]) rfl fun n2 H3 hN4 => ?_
 have hH5 := hH1.new hN4
 refine O_alloc fun n6 H7 hN8 => ?_
 have hH9 := hH5.new hN8
 refine pv (.sl none 0 0 0) rfl ?_
 refine pv (.i .i64 0) rfl ?_
 refine O_nil (sr ?_)
 refine pf (.p (some (n2, 0))) rfl rfl ?_
 refine O_p (.i .u16 ((k : Nat) : Int)) (r_ld rfl hH9.get1 rfl) ?_
 refine O_p (.i .i64 (((k : Nat)) : Int)) (by exact (r_cint' rfl (wrap_i64 (by omega) (by omega)))) ?_
 refine pv (.i .i64 (((k : Nat)) : Int)) rfl ?_
 refine O_nil ?_
 refine C_seq ?_
 refine sr ?_
 refine pf (.p (some (n2, 3))) rfl rfl ?_
 refine O_p (.sl da b.length dc dg) (r_ld rfl hH9.get1 rfl) ?_
 refine O_p (.i .i64 (((b.length : Nat)) : Int)) (r_len rfl) ?_
 refine O_p (.b false) (by exact (by rw [r_eql rfl rfl, decide_eq_false (by first | omega | assumption)])) ?_
 refine pv (.b false) rfl ?_
 refine O_gf rfl ?_
 refine O_gf rfl ?_
 refine O_gf rfl ?_
 refine O_gf rfl ?_
 refine O_gf rfl ?_
 refine O_p (.b false) (r_pick_f rfl rfl) ?_
 refine O_nil ?_
 refine C_cond (x := false) rfl (fun h => by cases h) (fun _ => ?_)
 refine C_skip ?_
 refine sr ?_
 refine pf (.p (some (n2, 3))) rfl rfl ?_
 refine O_p (.sl da b.length dc dg) (r_ld rfl hH9.get1 rfl) ?_
 refine O_call (Ev.mono (rdec_ev hH9.ok dhg (hb _ hH9.top4.fst) dhc dhm) fun v10 H11 hq12 => ?_)
 obtain ⟨rfl, hK13⟩ := hq12
 have hH14 := (hH9.kp hK13)
 refine pv (.tup [(.agg [(.i .u8 (dK b)), (.i .u16 (dP b)), (.i .u32 (dL b)), (.s (txt (dT b))), (.s (txt (dO b)))]), (.i .i64 (dErr b))]) rfl ?_
 refine O_p (.agg [(.i .u8 (dK b)), (.i .u16 (dP b)), (.i .u32 (dL b)), (.s (txt (dT b))), (.s (txt (dO b)))]) (r_ext rfl rfl) ?_
 refine O_p (.i .i64 (dErr b)) (r_ext rfl rfl) ?_
 refine O_alloc fun n15 H16 hN17 => ?_
 have hH18 := hH14.new hN17
 refine O_store (vs := [(.i .u8 (dK b)), (.i .u16 (dP b)), (.i .u32 (dL b)), (.s (txt (dT b))), (.s (txt (dO b)))]) (c' := [(.i .u8 (dK b)), (.i .u16 (dP b)), (.i .u32 (dL b)), (.s (txt (dT b))), (.s (txt (dO b)))]) rfl (by rfl) hH18.get0 rfl (List.cons_ne_nil _ _) (Nat.le_of_ble_eq_true rfl) rfl fun H19 hW20 => ?_
 have hH21 := hH18.wr0 hW20
 refine pv (.i .i64 (dErr b)) rfl ?_
 refine O_nil ?_
 refine C_seq ?_
 refine sr ?_
 refine pv (.i .i64 (dErr b)) rfl ?_
 refine O_p (.b false) (by exact (by rw [r_neq rfl rfl, decide_eq_true (by first | omega | assumption)]; rfl)) ?_
 refine O_nil ?_
 refine C_cond (x := false) rfl (fun h => by cases h) (fun _ => ?_)
 refine C_skip ?_
 refine C_seq ?_
 refine sr ?_
 refine pv (.p (some (T, 0))) rfl ?_
 refine O_p (.p (some (T, 0))) (r_nilc rfl) ?_
 refine pf (.p (some (T, 0))) rfl rfl ?_
 refine O_p (.sl (some (Lb, 0)) cs.length cs.length 0) (r_ld rfl hH21.get3 rfl) ?_
 refine pv (.i .i64 (((k : Nat)) : Int)) rfl ?_
 refine O_p (.p (some (Lb, (k * 8 + 0)))) (by exact (r_islr (b := Lb) (k := k) (len := cs.length) (cap := cs.length) (g := 0) rfl rfl (by omega))) ?_
 refine pf (.p (some (Lb, (k * 8 + 0)))) rfl rfl ?_
 refine O_p (.i .i64 c.st) (by exact (r_ld rfl hH21.get4 ((foc_get (rows_map Ch.row_len cs) (by rw [List.length_map]; omega) rfl (by decide)).trans rfl))) ?_
 refine O_p (.b false) (by exact (by rw [r_neq rfl rfl, decide_eq_true (by first | omega | assumption)]; rfl)) ?_
 refine pv (.b false) rfl ?_
 refine O_gk rfl ?_
 refine pv (.p (some (T, 0))) rfl ?_
 refine O_gk rfl ?_
 refine pv (.i .i64 (((k : Nat)) : Int)) rfl ?_
 refine O_gk rfl ?_
 refine O_call (Ev.mono (rown_v hH21.ok (hH21.get3) k (by omega) hown) fun v22 H23 hq24 => ?_)
 obtain ⟨rfl, hq24⟩ := hq24
 subst H23
 refine O_p (.b false) (r_pick_f rfl rfl) ?_
 refine O_nil ?_
 refine C_cond (x := false) rfl (fun h => by cases h) (fun _ => ?_)
 refine C_skip ?_
 refine C_seq ?_
 refine C_draw fun b25 H26 hbase27 hA28 => ?_
 have hH29 := hH21.keep (by have := hA28.1; omega) (fun q _ => hA28.2 q) ((hH21.old).aside hA28).ok
 refine D_l (v := (.p (some (T, 0)))) rfl rfl rfl (r_mv rfl) ?_
 refine D_l (v := (.p (some (T, 0)))) rfl rfl rfl (r_nilc rfl) ?_
 refine D_l (v := (.p (some (T, 0)))) rfl rfl rfl (r_fadd' rfl rfl) ?_
 refine D_l (v := (.i .i64 (((k : Nat)) : Int))) rfl rfl rfl (r_mv rfl) ?_
 refine D_r (v := (.sl (some (Lb, 0)) cs.length cs.length 0)) rfl rfl rfl (r_ld rfl hH29.get3 rfl) ?_
 refine D_r (v := (.agg [(.i .u8 (dK b)), (.i .u16 (dP b)), (.i .u32 (dL b)), (.s (txt (dT b))), (.s (txt (dO b)))])) rfl rfl rfl (r_ldA rfl hH29.get0 rfl) ?_
 refine D_l (v := (.agg [(.i .i64 2), (.i .u8 (dK b)), (.i .u16 (dP b)), (.i .u32 (dL b)), (.s (txt (dT b))), (.s (txt (dO b))), (.b false), (.b false)])) rfl rfl rfl (r_build rfl) ?_
 refine D_l (v := (.p (some (Lb, (k * 8 + 0))))) rfl rfl rfl (by exact (r_islr (b := Lb) (k := k) (len := cs.length) (cap := cs.length) (g := 0) rfl rfl (by omega))) ?_
 refine D_store (vs := [(.i .i64 2), (.i .u8 (dK b)), (.i .u16 (dP b)), (.i .u32 (dL b)), (.s (txt (dT b))), (.s (txt (dO b))), (.b false), (.b false)]) (c' := ((cs.map Ch.row).set k [(.i .i64 2), (.i .u8 (dK b)), (.i .u16 (dP b)), (.i .u32 (dL b)), (.s (txt (dT b))), (.s (txt (dO b))), (.b false), (.b false)]).flatten) rfl (by rfl) hH29.get4 rfl (List.cons_ne_nil _ _) (foc_len (n := 8) (rows_map Ch.row_len cs) (by rw [List.length_map]; omega) rfl (Nat.le_of_ble_eq_true rfl)) (foc_put (rows_map Ch.row_len cs) (by rw [List.length_map]; omega) rfl (Nat.le_of_ble_eq_true rfl) rfl) fun H30 hW31 => ?_
 have hH32 := hH29.wr4 hW31
 refine And.intro (And.intro (Or.inl rfl) (And.intro (Or.inl rfl) True.intro)) ?_
 refine D_nil ?_
 refine sr ?_
 refine pf (.p (some (n2, 0))) rfl rfl ?_
 refine O_p (.i .u16 ((k : Nat) : Int)) (r_ld rfl hH32.get2 rfl) ?_
 refine O_p (.agg [(.i .u8 (dK b)), (.i .u16 (dP b)), (.i .u32 (dL b)), (.s (txt (dT b))), (.s (txt (dO b)))]) (r_ldA rfl hH32.get0 rfl) ?_
 refine O_p (.agg [(.i .i64 1), (.i .u16 ((k : Nat) : Int)), (.i .u8 (dK b)), (.i .u16 (dP b)), (.i .u32 (dL b)), (.s (txt (dT b))), (.s (txt (dO b))), (.b false), (.sl none 0 0 0)]) (r_build rfl) ?_
 refine O_bslice (c := [(.i .u8 2)]) rfl fun n33 H34 hN35 => ?_
 have hH36 := hH32.new hN35
 refine O_store (vs := [(.i .i64 1), (.i .u16 ((k : Nat) : Int)), (.i .u8 (dK b)), (.i .u16 (dP b)), (.i .u32 (dL b)), (.s (txt (dT b))), (.s (txt (dO b))), (.b false), (.sl none 0 0 0)]) (c' := [(.i .i64 1), (.i .u16 ((k : Nat) : Int)), (.i .u8 (dK b)), (.i .u16 (dP b)), (.i .u32 (dL b)), (.s (txt (dT b))), (.s (txt (dO b))), (.b false), (.sl none 0 0 0)]) rfl (by rfl) hH36.get2 rfl (List.cons_ne_nil _ _) (Nat.le_of_ble_eq_true rfl) rfl fun H37 hW38 => ?_
 have hH39 := hH36.wr2 hW38
 refine pv (.sl (some (n33, 0)) 1 1 0) rfl ?_
 refine pv (.i .i64 0) rfl ?_
 refine O_nil ?_
 refine C_ret ?_
 have hcell := hH39.get2
 have hh : hear cs even k ppid b = ⟨1, k, dK b, dP b, dL b, dT b, dO b, false, [], [2], 0, cs.set k ⟨2, dK b, dP b, dL b, dT b, dO b, false, false⟩⟩ := by unfold hear; rw [hgd]; rw [if_neg (by omega), if_pos hp, if_neg hb2, if_neg (by omega), if_neg (by rw [hown, hs]; decide)]
 have hH40 := (((hH39.sub1).sub1).sub1)
 have hH41 := ((((hH40.top3).top3).top3).top3)
 have hF := hH41
 have hH42 := (Hs.cong2 (B := [(Lb, some (.cells ((cs.set k ⟨2, dK b, dP b, dL b, dT b, dO b, false, false⟩).map Ch.row).flatten true))]) hF (seg_shut (enc := Ch.row) (c := ⟨2, dK b, dP b, dL b, dT b, dO b, false, false⟩)))
 rw [show cs.length = (cs.set k ⟨2, dK b, dP b, dL b, dT b, dO b, false, false⟩).length by rw [List.length_set]] at hH42
 rw [hh]
 exact ⟨.inr rfl, _, resL_cons (r_cellA rfl hcell rfl) (resL_cons (r_tmp (v := (.sl (some (n33, 0)) 1 1 0)) rfl) (resL_one (r_tmp (v := (.i .i64 0)) rfl))), none, 0, 0, 0, (.sl (some (n33, 0)) 1 1 0), _, [], rfl, .inl rfl, Nat.le_refl _, by omega, fun _ _ => .nil, Sq.full (b := n33) (n := 1) (g := 0) (sz := 1) (l := [.i .u8 2]) (.inl rfl) rfl, hH42⟩
theorem ropening_ky (hx : HC cs k B ppid da dc dg b) (hk : k < cs.length) (hp : ppid = 50) (hb2 : ¬ b = [2]) (hl : b.length = 1) (h2 : ¬ ((b.getD 0 0).toNat : Int) = 2) (hE : dErr b = 0) (hs : (cs.getD k ch0).st = 0) (hown : ownB k even = false) : HearEv 68 [] H T Lb cs even B R k un ppid da dc dg b := by
 obtain ⟨hk16, hcs, htB, dhg, hb, dhc, dhm, dfit⟩ := hx
 intro hH0
 refine Ev_C (F := x68) rfl ?_
 obtain ⟨c, hc⟩ := ex_at hk
 have hgd := getD_of hc
 try rw [hgd] at hs
 have hH1 := hH0.cong1 (seg_foc (n := Lb) (enc := Ch.row) hc)
 refine sr ?_
 refine O_box (z := [(.i .u16 ((k : Nat) : Int)), (.b un), (.i .u32 ppid), (.sl da b.length dc dg)]) rfl fun n2 H3 hN4 => ?_
 have hH5 := hH1.new hN4
 refine O_alloc fun n6 H7 hN8 => ?_
 have hH9 := hH5.new hN8
 refine pv (.sl none 0 0 0) rfl ?_
 refine pv (.i .i64 0) rfl ?_
 refine O_nil (sr ?_)
 refine pf (.p (some (n2, 0))) rfl rfl ?_
 refine O_p (.i .u16 ((k : Nat) : Int)) (r_ld rfl hH9.get1 rfl) ?_
 refine O_p (.i .i64 (((k : Nat)) : Int)) (by exact (r_cint' rfl (wrap_i64 (by omega) (by omega)))) ?_
 refine pv (.i .i64 (((k : Nat)) : Int)) rfl ?_
 refine O_nil ?_
 refine C_seq ?_
 refine sr ?_
 refine pf (.p (some (n2, 3))) rfl rfl ?_
 refine O_p (.sl da b.length dc dg) (r_ld rfl hH9.get1 rfl) ?_
 refine O_p (.i .i64 (((b.length : Nat)) : Int)) (r_len rfl) ?_
 refine O_p (.b true) (by exact (by rw [r_eql rfl rfl, decide_eq_true (by first | omega | assumption)])) ?_
 refine pv (.b true) rfl ?_
 refine O_gk rfl ?_
 refine pf (.p (some (n2, 3))) rfl rfl ?_
 refine O_gk rfl ?_
 refine O_p (.sl da b.length dc dg) (r_ld rfl hH9.get1 rfl) ?_
 refine O_gk rfl ?_
 refine O_q (by exact Bs.ix (hb _ hH9.top4.fst) rfl (i := 0) rfl (by first | omega | (simp only [List.length_take, List.length_drop, List.length_append, List.length_cons, List.length_nil, beN_len] <;> omega))) fun v11 hv10 => ?_
 refine O_gk rfl ?_
 refine O_p (.i .u8 ((b.getD 0 0).toNat : Int)) (hv10.load rfl) ?_
 refine O_gk rfl ?_
 refine O_p (.b false) (by exact (by rw [r_eql rfl rfl, decide_eq_false (by first | omega | assumption)])) ?_
 refine O_p (.b false) (r_pick_t rfl rfl) ?_
 refine O_nil ?_
 refine C_cond (x := false) rfl (fun h => by cases h) (fun _ => ?_)
 refine C_skip ?_
 refine sr ?_
 refine pf (.p (some (n2, 3))) rfl rfl ?_
 refine O_p (.sl da b.length dc dg) (r_ld rfl hH9.get1 rfl) ?_
 refine O_call (Ev.mono (rdec_ev hH9.ok dhg (hb _ hH9.top4.fst) dhc dhm) fun v12 H13 hq14 => ?_)
 obtain ⟨rfl, hK15⟩ := hq14
 have hH16 := (hH9.kp hK15)
 refine pv (.tup [(.agg [(.i .u8 (dK b)), (.i .u16 (dP b)), (.i .u32 (dL b)), (.s (txt (dT b))), (.s (txt (dO b)))]), (.i .i64 (dErr b))]) rfl ?_
 refine O_p (.agg [(.i .u8 (dK b)), (.i .u16 (dP b)), (.i .u32 (dL b)), (.s (txt (dT b))), (.s (txt (dO b)))]) (r_ext rfl rfl) ?_
 refine O_p (.i .i64 (dErr b)) (r_ext rfl rfl) ?_
 refine O_alloc fun n17 H18 hN19 => ?_
 have hH20 := hH16.new hN19
 refine O_store (vs := [(.i .u8 (dK b)), (.i .u16 (dP b)), (.i .u32 (dL b)), (.s (txt (dT b))), (.s (txt (dO b)))]) (c' := [(.i .u8 (dK b)), (.i .u16 (dP b)), (.i .u32 (dL b)), (.s (txt (dT b))), (.s (txt (dO b)))]) rfl (by rfl) hH20.get0 rfl (List.cons_ne_nil _ _) (Nat.le_of_ble_eq_true rfl) rfl fun H21 hW22 => ?_
 have hH23 := hH20.wr0 hW22
 refine pv (.i .i64 (dErr b)) rfl ?_
 refine O_nil ?_
 refine C_seq ?_
 refine sr ?_
 refine pv (.i .i64 (dErr b)) rfl ?_
 refine O_p (.b false) (by exact (by rw [r_neq rfl rfl, decide_eq_true (by first | omega | assumption)]; rfl)) ?_
 refine O_nil ?_
 refine C_cond (x := false) rfl (fun h => by cases h) (fun _ => ?_)
 refine C_skip ?_
 refine C_seq ?_
 refine sr ?_
 refine pv (.p (some (T, 0))) rfl ?_
 refine O_p (.p (some (T, 0))) (r_nilc rfl) ?_
 refine pf (.p (some (T, 0))) rfl rfl ?_
 refine O_p (.sl (some (Lb, 0)) cs.length cs.length 0) (r_ld rfl hH23.get3 rfl) ?_
 refine pv (.i .i64 (((k : Nat)) : Int)) rfl ?_
 refine O_p (.p (some (Lb, (k * 8 + 0)))) (by exact (r_islr (b := Lb) (k := k) (len := cs.length) (cap := cs.length) (g := 0) rfl rfl (by omega))) ?_
 refine pf (.p (some (Lb, (k * 8 + 0)))) rfl rfl ?_
 refine O_p (.i .i64 c.st) (by exact (r_ld rfl hH23.get4 ((foc_get (rows_map Ch.row_len cs) (by rw [List.length_map]; omega) rfl (by decide)).trans rfl))) ?_
 refine O_p (.b false) (by exact (by rw [r_neq rfl rfl, decide_eq_true (by first | omega | assumption)]; rfl)) ?_
 refine pv (.b false) rfl ?_
 refine O_gk rfl ?_
 refine pv (.p (some (T, 0))) rfl ?_
 refine O_gk rfl ?_
 refine pv (.i .i64 (((k : Nat)) : Int)) rfl ?_
 refine O_gk rfl ?_
 refine O_call (Ev.mono (rown_v hH23.ok (hH23.get3) k (by omega) hown) fun v24 H25 hq26 => ?_)
 obtain ⟨rfl, hq26⟩ := hq26
 subst H25
 refine O_p (.b false) (r_pick_f rfl rfl) ?_
 refine O_nil ?_
 refine C_cond (x := false) rfl (fun h => by cases h) (fun _ => ?_)
 refine C_skip ?_
 refine C_seq ?_
 refine C_draw fun b27 H28 hbase29 hA30 => ?_
 have hH31 := hH23.keep (by have := hA30.1; omega) (fun q _ => hA30.2 q) ((hH23.old).aside hA30).ok
 refine D_l (v := (.p (some (T, 0)))) rfl rfl rfl (r_mv rfl) ?_
 refine D_l (v := (.p (some (T, 0)))) rfl rfl rfl (r_nilc rfl) ?_
 refine D_l (v := (.p (some (T, 0)))) rfl rfl rfl (r_fadd' rfl rfl) ?_
 refine D_l (v := (.i .i64 (((k : Nat)) : Int))) rfl rfl rfl (r_mv rfl) ?_
 refine D_r (v := (.sl (some (Lb, 0)) cs.length cs.length 0)) rfl rfl rfl (r_ld rfl hH31.get3 rfl) ?_
 refine D_r (v := (.agg [(.i .u8 (dK b)), (.i .u16 (dP b)), (.i .u32 (dL b)), (.s (txt (dT b))), (.s (txt (dO b)))])) rfl rfl rfl (r_ldA rfl hH31.get0 rfl) ?_
 refine D_l (v := (.agg [(.i .i64 2), (.i .u8 (dK b)), (.i .u16 (dP b)), (.i .u32 (dL b)), (.s (txt (dT b))), (.s (txt (dO b))), (.b false), (.b false)])) rfl rfl rfl (r_build rfl) ?_
 refine D_l (v := (.p (some (Lb, (k * 8 + 0))))) rfl rfl rfl (by exact (r_islr (b := Lb) (k := k) (len := cs.length) (cap := cs.length) (g := 0) rfl rfl (by omega))) ?_
 refine D_store (vs := [(.i .i64 2), (.i .u8 (dK b)), (.i .u16 (dP b)), (.i .u32 (dL b)), (.s (txt (dT b))), (.s (txt (dO b))), (.b false), (.b false)]) (c' := ((cs.map Ch.row).set k [(.i .i64 2), (.i .u8 (dK b)), (.i .u16 (dP b)), (.i .u32 (dL b)), (.s (txt (dT b))), (.s (txt (dO b))), (.b false), (.b false)]).flatten) rfl (by rfl) hH31.get4 rfl (List.cons_ne_nil _ _) (foc_len (n := 8) (rows_map Ch.row_len cs) (by rw [List.length_map]; omega) rfl (Nat.le_of_ble_eq_true rfl)) (foc_put (rows_map Ch.row_len cs) (by rw [List.length_map]; omega) rfl (Nat.le_of_ble_eq_true rfl) rfl) fun H32 hW33 => ?_
 have hH34 := hH31.wr4 hW33
 refine And.intro (And.intro (Or.inl rfl) (And.intro (Or.inl rfl) True.intro)) ?_
 refine D_nil ?_
 refine sr ?_
 refine pf (.p (some (n2, 0))) rfl rfl ?_
 refine O_p (.i .u16 ((k : Nat) : Int)) (r_ld rfl hH34.get2 rfl) ?_
 refine O_p (.agg [(.i .u8 (dK b)), (.i .u16 (dP b)), (.i .u32 (dL b)), (.s (txt (dT b))), (.s (txt (dO b)))]) (r_ldA rfl hH34.get0 rfl) ?_
 refine O_p (.agg [(.i .i64 1), (.i .u16 ((k : Nat) : Int)), (.i .u8 (dK b)), (.i .u16 (dP b)), (.i .u32 (dL b)), (.s (txt (dT b))), (.s (txt (dO b))), (.b false), (.sl none 0 0 0)]) (r_build rfl) ?_
 refine O_bslice (c := [(.i .u8 2)]) rfl fun n35 H36 hN37 => ?_
 have hH38 := hH34.new hN37
 refine O_store (vs := [(.i .i64 1), (.i .u16 ((k : Nat) : Int)), (.i .u8 (dK b)), (.i .u16 (dP b)), (.i .u32 (dL b)), (.s (txt (dT b))), (.s (txt (dO b))), (.b false), (.sl none 0 0 0)]) (c' := [(.i .i64 1), (.i .u16 ((k : Nat) : Int)), (.i .u8 (dK b)), (.i .u16 (dP b)), (.i .u32 (dL b)), (.s (txt (dT b))), (.s (txt (dO b))), (.b false), (.sl none 0 0 0)]) rfl (by rfl) hH38.get2 rfl (List.cons_ne_nil _ _) (Nat.le_of_ble_eq_true rfl) rfl fun H39 hW40 => ?_
 have hH41 := hH38.wr2 hW40
 refine pv (.sl (some (n35, 0)) 1 1 0) rfl ?_
 refine pv (.i .i64 0) rfl ?_
 refine O_nil ?_
 refine C_ret ?_
 have hcell := hH41.get2
 have hh : hear cs even k ppid b = ⟨1, k, dK b, dP b, dL b, dT b, dO b, false, [], [2], 0, cs.set k ⟨2, dK b, dP b, dL b, dT b, dO b, false, false⟩⟩ := by unfold hear; rw [hgd]; rw [if_neg (by omega), if_pos hp, if_neg hb2, if_neg (by omega), if_neg (by rw [hown, hs]; decide)]
 have hH42 := (((hH41.sub1).sub1).sub1)
 have hH43 := ((((hH42.top3).top3).top3).top3)
 have hF := hH43
 have hH44 := (Hs.cong2 (B := [(Lb, some (.cells ((cs.set k ⟨2, dK b, dP b, dL b, dT b, dO b, false, false⟩).map Ch.row).flatten true))]) hF (seg_shut (enc := Ch.row) (c := ⟨2, dK b, dP b, dL b, dT b, dO b, false, false⟩)))
 rw [show cs.length = (cs.set k ⟨2, dK b, dP b, dL b, dT b, dO b, false, false⟩).length by rw [List.length_set]] at hH44
 rw [hh]
 exact ⟨.inr rfl, _, resL_cons (r_cellA rfl hcell rfl) (resL_cons (r_tmp (v := (.sl (some (n35, 0)) 1 1 0)) rfl) (resL_one (r_tmp (v := (.i .i64 0)) rfl))), none, 0, 0, 0, (.sl (some (n35, 0)) 1 1 0), _, [], rfl, .inl rfl, Nat.le_refl _, by omega, fun _ _ => .nil, Sq.full (b := n35) (n := 1) (g := 0) (sz := 1) (l := [.i .u8 2]) (.inl rfl) rfl, hH44⟩
end
theorem opened_ev {H : AH} {T Lb : Nat} {cs : List Ch} {even : Bool} {B R : HL} {k : Nat} (hk16 : k < 65536) (hcs : cs.length ≤ 64) (hk : k < cs.length) (htB : ∀ H', Hs H' B → Tb H') (un : Bool) (ppid : Int) {da : Option (Nat × Nat)} {dc dg : Nat} (dhg : dg = 0 ∨ dg = 1) {b : List UInt8} (hb : ∀ H', Hs H' B → Bs H' (.sl da b.length dc dg) b) (dhc : b.length ≤ dc) (dhm : dc ≤ 9223372036854775807) (dfit : b.length ≤ 1073741824) (hp : ppid = 50) (hb2 : ¬ b = [2]) (hH0 : Hs H ([(T, some (.cells [.sl (some (Lb, 0)) cs.length cs.length 0, .b even] true))] ++ ([(Lb, some (.cells ((cs).map Ch.row).flatten true))] ++ (B ++ R)))) : Ev tabV spV (.fn (.func 62) [] []) [.p (some (T, 0)), .agg [.i .u16 k, .b un, .i .u32 ppid, .sl da b.length dc dg], .p (some (Lb, k * 8 + 0))] H (fun r H' => HearP T Lb even B R (hear cs even k ppid b) r H') := by
  by_cases hE : dErr b = 0
  · by_cases hs : (cs.getD k ch0).st = 0
    · cases hown : ownB k even
      · exact opened_k ⟨hk16, hcs, htB, dhg, hb, dhc, dhm, dfit⟩ hk hp hb2 hE hs hown hH0
      · exact opened_o ⟨hk16, hcs, htB, dhg, hb, dhc, dhm, dfit⟩ hk hp hb2 hE hs hown hH0
    · exact opened_s ⟨hk16, hcs, htB, dhg, hb, dhc, dhm, dfit⟩ hk hp hb2 hE hs hH0
  · exact opened_e ⟨hk16, hcs, htB, dhg, hb, dhc, dhm, dfit⟩ hk hp hb2 hE hH0
theorem ropening_ev {H : AH} {T Lb : Nat} {cs : List Ch} {even : Bool} {B R : HL} {k : Nat} (hk16 : k < 65536) (hcs : cs.length ≤ 64) (hk : k < cs.length) (htB : ∀ H', Hs H' B → Tb H') (un : Bool) (ppid : Int) {da : Option (Nat × Nat)} {dc dg : Nat} (dhg : dg = 0 ∨ dg = 1) {b : List UInt8} (hb : ∀ H', Hs H' B → Bs H' (.sl da b.length dc dg) b) (dhc : b.length ≤ dc) (dhm : dc ≤ 9223372036854775807) (dfit : b.length ≤ 1073741824) (hp : ppid = 50) (hH0 : Hs H ([(T, some (.cells [.sl (some (Lb, 0)) cs.length cs.length 0, .b even] true))] ++ ([(Lb, some (.cells ((cs).map Ch.row).flatten true))] ++ (B ++ R)))) : Ev tabV spV (.fn (.func 68) [] []) [.p (some (T, 0)), .agg [.i .u16 k, .b un, .i .u32 ppid, .sl da b.length dc dg]] H (fun r H' => HearP T Lb even B R (hear cs even k ppid b) r H') := by
  by_cases hb2 : b = [2]
  · obtain ⟨hl, h2⟩ := two_iff.1 hb2
    by_cases h0 : (cs.getD k ch0).st = 0
    · exact ropening_b0 ⟨hk16, hcs, htB, dhg, hb, dhc, dhm, dfit⟩ hk hp hb2 hl h2 h0 hH0
    · by_cases h1 : (cs.getD k ch0).st = 1
      · exact ropening_b1 ⟨hk16, hcs, htB, dhg, hb, dhc, dhm, dfit⟩ hk hp hb2 hl h2 h1 hH0
      · exact ropening_b2 ⟨hk16, hcs, htB, dhg, hb, dhc, dhm, dfit⟩ hk hp hb2 hl h2 (by omega) hH0
  · by_cases hl : b.length = 1
    · have h2 : ¬ ((b.getD 0 0).toNat : Int) = 2 := fun h => hb2 (two_iff.2 ⟨hl, h⟩)
      by_cases hE : dErr b = 0
      · by_cases hs : (cs.getD k ch0).st = 0
        · cases hown : ownB k even
          · exact ropening_ky ⟨hk16, hcs, htB, dhg, hb, dhc, dhm, dfit⟩ hk hp hb2 hl h2 hE hs hown hH0
          · exact ropening_oy ⟨hk16, hcs, htB, dhg, hb, dhc, dhm, dfit⟩ hk hp hb2 hl h2 hE hs hown hH0
        · exact ropening_sy ⟨hk16, hcs, htB, dhg, hb, dhc, dhm, dfit⟩ hk hp hb2 hl h2 hE hs hH0
      · exact ropening_ey ⟨hk16, hcs, htB, dhg, hb, dhc, dhm, dfit⟩ hk hp hb2 hl h2 hE hH0
    · by_cases hE : dErr b = 0
      · by_cases hs : (cs.getD k ch0).st = 0
        · cases hown : ownB k even
          · exact ropening_kx ⟨hk16, hcs, htB, dhg, hb, dhc, dhm, dfit⟩ hk hp hb2 hl hE hs hown hH0
          · exact ropening_ox ⟨hk16, hcs, htB, dhg, hb, dhc, dhm, dfit⟩ hk hp hb2 hl hE hs hown hH0
        · exact ropening_sx ⟨hk16, hcs, htB, dhg, hb, dhc, dhm, dfit⟩ hk hp hb2 hl hE hs hH0
      · exact ropening_ex ⟨hk16, hcs, htB, dhg, hb, dhc, dhm, dfit⟩ hk hp hb2 hl hE hH0
section
variable {H : AH} {T Lb : Nat} {cs : List Ch} {even : Bool} {B R : HL} {k : Nat} {un : Bool} {ppid : Int} {da : Option (Nat × Nat)} {dc dg : Nat} {b : List UInt8}
theorem hear_out (hx : HC cs k B ppid da dc dg b) (hk : ¬ k < cs.length)  : HearEv 35 [] H T Lb cs even B R k un ppid da dc dg b := by
 obtain ⟨hk16, hcs, htB, dhg, hb, dhc, dhm, dfit⟩ := hx
 intro hH0
 refine Ev_C (F := x35) rfl ?_
 have hgd := getD_out hk
 refine sr ?_
 refine O_box (z := [(.i .u16 ((k : Nat) : Int)), (.b un), (.i .u32 ppid), (.sl da b.length dc dg)]) rfl fun n1 H2 hN3 => ?_
 have hH4 := hH0.new hN3
 refine O_alloc fun n5 H6 hN7 => ?_
 have hH8 := hH4.new hN7
 refine pv (.sl none 0 0 0) rfl ?_
 refine pv (.i .i64 0) rfl ?_
 refine O_nil (sr ?_)
 refine pv (.p (some (T, 0))) rfl ?_
 refine pf (.p (some (n1, 0))) rfl rfl ?_
 refine O_p (.i .u16 ((k : Nat) : Int)) (r_ld rfl hH8.get1 rfl) ?_
 refine O_call (Ev.mono (at_out hH8.ok (hH8.get2) hk16 hk) fun v9 H10 hq11 => ?_)
 obtain ⟨rfl, hq11⟩ := hq11
 subst H10
 refine pv (.p none) rfl ?_
 refine O_nil ?_
 refine C_seq ?_
 refine C_block ?_
 refine sr ?_
 refine pv (.p none) rfl ?_
 refine O_p (.b true) (r_nilq_n rfl) ?_
 refine pv (.b true) rfl ?_
 refine O_nil ?_
 refine C_cond (x := true) rfl (fun _ => ?_) (fun h => by cases h)
 refine sr ?_
 refine O_p (.agg zHKAA ) (r_build rfl) ?_
 refine O_store (vs := zHKAA ) (c' := zHKAA ) rfl (by rfl) hH8.get0 rfl (List.cons_ne_nil _ _) (Nat.le_of_ble_eq_true rfl) rfl fun H12 hW13 => ?_
 have hH14 := hH8.wr0 hW13
 refine pv (.sl none 0 0 0) rfl ?_
 refine pv (.i .i64 1) rfl ?_
 refine O_nil ?_
 refine C_ret ?_
 refine bk_ret ?_
 refine nx_ret ?_
 have hcell := hH14.get0
 have hh : hear cs even k ppid b = .none 1 cs := by unfold hear; rw [hgd]; rw [if_pos hk]
 have hH15 := ((hH14.sub0).sub0)
 have hH16 := (((hH15.top2).top2).top2)
 rw [hh]
 exact ⟨.inr rfl, _, resL_cons (r_cellA rfl hcell rfl) (resL_cons (r_tmp (v := (.sl none 0 0 0)) rfl) (resL_one (r_tmp (v := (.i .i64 1)) rfl))), HearP.nil rfl rfl rfl hH16⟩
theorem hear_b0 (hx : HC cs k B ppid da dc dg b) (hk : k < cs.length) (hp : ppid = 50) (hb2 : b = [2]) (hs : (cs.getD k ch0).st = 0) : HearEv 35 [] H T Lb cs even B R k un ppid da dc dg b := by
 obtain ⟨hk16, hcs, htB, dhg, hb, dhc, dhm, dfit⟩ := hx
 intro hH0
 refine Ev_C (F := x35) rfl ?_
 obtain ⟨c, hc⟩ := ex_at hk
 have hgd := getD_of hc
 try rw [hgd] at hs
 have hH1 := hH0.cong1 (seg_foc (n := Lb) (enc := Ch.row) hc)
 refine sr ?_
 refine O_box (z := [(.i .u16 ((k : Nat) : Int)), (.b un), (.i .u32 ppid), (.sl da b.length dc dg)]) rfl fun n2 H3 hN4 => ?_
 have hH5 := hH1.new hN4
 refine O_alloc fun n6 H7 hN8 => ?_
 have hH9 := hH5.new hN8
 refine pv (.sl none 0 0 0) rfl ?_
 refine pv (.i .i64 0) rfl ?_
 refine O_nil (sr ?_)
 refine pv (.p (some (T, 0))) rfl ?_
 refine pf (.p (some (n2, 0))) rfl rfl ?_
 refine O_p (.i .u16 ((k : Nat) : Int)) (r_ld rfl hH9.get1 rfl) ?_
 refine O_call (Ev.mono (at_in hH9.ok (hH9.get2) hk16 hk) fun v10 H11 hq12 => ?_)
 obtain ⟨rfl, hq12⟩ := hq12
 subst H11
 refine pv (.p (some (Lb, (k * 8 + 0)))) rfl ?_
 refine O_nil ?_
 refine C_seq ?_
 refine C_block ?_
 refine sr ?_
 refine pv (.p (some (Lb, (k * 8 + 0)))) rfl ?_
 refine O_p (.b false) (r_nilq_s rfl) ?_
 refine pv (.b false) rfl ?_
 refine O_nil ?_
 refine C_cond (x := false) rfl (fun h => by cases h) (fun _ => ?_)
 refine sr ?_
 refine pf (.p (some (n2, 2))) rfl rfl ?_
 refine O_p (.i .u32 ppid) (r_ld rfl hH9.get1 rfl) ?_
 refine O_p (.b true) (by exact (by rw [r_eql rfl rfl, decide_eq_true (by first | omega | assumption)])) ?_
 refine pv (.b true) rfl ?_
 refine O_gk rfl ?_
 refine pf (.p (some (n2, 3))) rfl rfl ?_
 refine O_gk rfl ?_
 refine O_p (.sl da b.length dc dg) (r_ld rfl hH9.get1 rfl) ?_
 refine O_gk rfl ?_
 refine O_bslice (c := [(.i .u8 2)]) rfl fun n13 H14 hN15 => ?_
 have hH16 := hH9.new hN15
 refine O_gk rfl ?_
 refine O_call (Ev.mono (eq_ev hH16.ok dhg (hb _ hH16.top5.fst) dhc dhm (hH16.get0)) fun v17 H18 hq19 => ?_)
 rw [decide_eq_true hb2] at hq19
 obtain ⟨rfl, hK20⟩ := hq19
 have hH21 := (hH16.kp hK20)
 refine O_p (.b true) (r_pick_t rfl rfl) ?_
 refine pv (.b true) rfl ?_
 refine O_nil ?_
 refine C_cond (x := true) rfl (fun _ => ?_) (fun h => by cases h)
 refine sr ?_
 refine pv (.p (some (Lb, (k * 8 + 0)))) rfl ?_
 refine pf (.p (some (n2, 0))) rfl rfl ?_
 refine O_p (.i .u16 ((k : Nat) : Int)) (r_ld rfl hH21.get2 rfl) ?_
 have hH22 := (hH21.top4)
 refine O_call (Ev.mono (ack_0 c hk hs hH22) fun v23 H24 hq25 => ?_)
 obtain ⟨rfl, hH26⟩ := hq25
 refine pv (.tup [(.agg zHKAA ), (.i .i64 8)]) rfl ?_
 refine O_p (.agg zHKAA ) (r_ext rfl rfl) ?_
 refine O_p (.i .i64 8) (r_ext rfl rfl) ?_
 refine O_alloc fun n27 H28 hN29 => ?_
 have hH30 := hH26.new hN29
 refine O_store (vs := zHKAA ) (c' := zHKAA ) rfl (by rfl) hH30.get0 rfl (List.cons_ne_nil _ _) (Nat.le_of_ble_eq_true rfl) rfl fun H31 hW32 => ?_
 have hH33 := hH30.wr0 hW32
 refine pv (.i .i64 8) rfl ?_
 refine O_nil (sr ?_)
 refine O_p (.agg zHKAA ) (r_ldA rfl hH33.get0 rfl) ?_
 refine pv (.i .i64 8) rfl ?_
 refine O_store (vs := zHKAA ) (c' := zHKAA ) rfl (by rfl) hH33.get3 rfl (List.cons_ne_nil _ _) (Nat.le_of_ble_eq_true rfl) rfl fun H34 hW35 => ?_
 have hH36 := hH33.wr3 hW35
 refine pv (.sl none 0 0 0) rfl ?_
 refine pv (.i .i64 8) rfl ?_
 refine O_nil ?_
 refine C_ret ?_
 refine bk_ret ?_
 refine nx_ret ?_
 have hcell := hH36.get3
 have hh : hear cs even k ppid b = .none 8 cs := by unfold hear; rw [hgd]; rw [if_neg (by omega), if_pos hp, if_pos hb2, if_pos hs]
 have hH37 := ((((hH36.sub0).sub1).sub1).sub1)
 have hH38 := (((hH37.top2).top1).top2)
 have hH39 := (Hs.cong1 hH38 (seg_foc (n := Lb) (enc := Ch.row) hc).symm)
 rw [hh]
 exact ⟨.inr rfl, _, resL_cons (r_cellA rfl hcell rfl) (resL_cons (r_tmp (v := (.sl none 0 0 0)) rfl) (resL_one (r_tmp (v := (.i .i64 8)) rfl))), HearP.nil rfl rfl rfl hH39⟩
theorem hear_b1 (hx : HC cs k B ppid da dc dg b) (hk : k < cs.length) (hp : ppid = 50) (hb2 : b = [2]) (hs : (cs.getD k ch0).st = 1) : HearEv 35 [] H T Lb cs even B R k un ppid da dc dg b := by
 obtain ⟨hk16, hcs, htB, dhg, hb, dhc, dhm, dfit⟩ := hx
 intro hH0
 refine Ev_C (F := x35) rfl ?_
 obtain ⟨c, hc⟩ := ex_at hk
 have hgd := getD_of hc
 try rw [hgd] at hs
 have hH1 := hH0.cong1 (seg_foc (n := Lb) (enc := Ch.row) hc)
 refine sr ?_
 refine O_box (z := [(.i .u16 ((k : Nat) : Int)), (.b un), (.i .u32 ppid), (.sl da b.length dc dg)]) rfl fun n2 H3 hN4 => ?_
 have hH5 := hH1.new hN4
 refine O_alloc fun n6 H7 hN8 => ?_
 have hH9 := hH5.new hN8
 refine pv (.sl none 0 0 0) rfl ?_
 refine pv (.i .i64 0) rfl ?_
 refine O_nil (sr ?_)
 refine pv (.p (some (T, 0))) rfl ?_
 refine pf (.p (some (n2, 0))) rfl rfl ?_
 refine O_p (.i .u16 ((k : Nat) : Int)) (r_ld rfl hH9.get1 rfl) ?_
 refine O_call (Ev.mono (at_in hH9.ok (hH9.get2) hk16 hk) fun v10 H11 hq12 => ?_)
 obtain ⟨rfl, hq12⟩ := hq12
 subst H11
 refine pv (.p (some (Lb, (k * 8 + 0)))) rfl ?_
 refine O_nil ?_
 refine C_seq ?_
 refine C_block ?_
 refine sr ?_
 refine pv (.p (some (Lb, (k * 8 + 0)))) rfl ?_
 refine O_p (.b false) (r_nilq_s rfl) ?_
 refine pv (.b false) rfl ?_
 refine O_nil ?_
 refine C_cond (x := false) rfl (fun h => by cases h) (fun _ => ?_)
 refine sr ?_
 refine pf (.p (some (n2, 2))) rfl rfl ?_
 refine O_p (.i .u32 ppid) (r_ld rfl hH9.get1 rfl) ?_
 refine O_p (.b true) (by exact (by rw [r_eql rfl rfl, decide_eq_true (by first | omega | assumption)])) ?_
 refine pv (.b true) rfl ?_
 refine O_gk rfl ?_
 refine pf (.p (some (n2, 3))) rfl rfl ?_
 refine O_gk rfl ?_
 refine O_p (.sl da b.length dc dg) (r_ld rfl hH9.get1 rfl) ?_
 refine O_gk rfl ?_
 refine O_bslice (c := [(.i .u8 2)]) rfl fun n13 H14 hN15 => ?_
 have hH16 := hH9.new hN15
 refine O_gk rfl ?_
 refine O_call (Ev.mono (eq_ev hH16.ok dhg (hb _ hH16.top5.fst) dhc dhm (hH16.get0)) fun v17 H18 hq19 => ?_)
 rw [decide_eq_true hb2] at hq19
 obtain ⟨rfl, hK20⟩ := hq19
 have hH21 := (hH16.kp hK20)
 refine O_p (.b true) (r_pick_t rfl rfl) ?_
 refine pv (.b true) rfl ?_
 refine O_nil ?_
 refine C_cond (x := true) rfl (fun _ => ?_) (fun h => by cases h)
 refine sr ?_
 refine pv (.p (some (Lb, (k * 8 + 0)))) rfl ?_
 refine pf (.p (some (n2, 0))) rfl rfl ?_
 refine O_p (.i .u16 ((k : Nat) : Int)) (r_ld rfl hH21.get2 rfl) ?_
 have hH22 := (hH21.top4)
 refine O_call (Ev.mono (ack_1 c hk hs hH22) fun v23 H24 hq25 => ?_)
 obtain ⟨rfl, hH26⟩ := hq25
 refine pv (.tup [(.agg [(.i .i64 2), (.i .u16 ((k : Nat) : Int)), (.i .u8 c.kind), (.i .u16 c.prio), (.i .u32 c.limit), (.s (txt c.label)), (.s (txt c.proto)), (.b false), (.sl none 0 0 0)]), (.i .i64 0)]) rfl ?_
 refine O_p (.agg [(.i .i64 2), (.i .u16 ((k : Nat) : Int)), (.i .u8 c.kind), (.i .u16 c.prio), (.i .u32 c.limit), (.s (txt c.label)), (.s (txt c.proto)), (.b false), (.sl none 0 0 0)]) (r_ext rfl rfl) ?_
 refine O_p (.i .i64 0) (r_ext rfl rfl) ?_
 refine O_alloc fun n27 H28 hN29 => ?_
 have hH30 := hH26.new hN29
 refine O_store (vs := [(.i .i64 2), (.i .u16 ((k : Nat) : Int)), (.i .u8 c.kind), (.i .u16 c.prio), (.i .u32 c.limit), (.s (txt c.label)), (.s (txt c.proto)), (.b false), (.sl none 0 0 0)]) (c' := [(.i .i64 2), (.i .u16 ((k : Nat) : Int)), (.i .u8 c.kind), (.i .u16 c.prio), (.i .u32 c.limit), (.s (txt c.label)), (.s (txt c.proto)), (.b false), (.sl none 0 0 0)]) rfl (by rfl) hH30.get0 rfl (List.cons_ne_nil _ _) (Nat.le_of_ble_eq_true rfl) rfl fun H31 hW32 => ?_
 have hH33 := hH30.wr0 hW32
 refine pv (.i .i64 0) rfl ?_
 refine O_nil (sr ?_)
 refine O_p (.agg [(.i .i64 2), (.i .u16 ((k : Nat) : Int)), (.i .u8 c.kind), (.i .u16 c.prio), (.i .u32 c.limit), (.s (txt c.label)), (.s (txt c.proto)), (.b false), (.sl none 0 0 0)]) (r_ldA rfl hH33.get0 rfl) ?_
 refine pv (.i .i64 0) rfl ?_
 refine O_store (vs := [(.i .i64 2), (.i .u16 ((k : Nat) : Int)), (.i .u8 c.kind), (.i .u16 c.prio), (.i .u32 c.limit), (.s (txt c.label)), (.s (txt c.proto)), (.b false), (.sl none 0 0 0)]) (c' := [(.i .i64 2), (.i .u16 ((k : Nat) : Int)), (.i .u8 c.kind), (.i .u16 c.prio), (.i .u32 c.limit), (.s (txt c.label)), (.s (txt c.proto)), (.b false), (.sl none 0 0 0)]) rfl (by rfl) hH33.get3 rfl (List.cons_ne_nil _ _) (Nat.le_of_ble_eq_true rfl) rfl fun H34 hW35 => ?_
 have hH36 := hH33.wr3 hW35
 refine pv (.sl none 0 0 0) rfl ?_
 refine pv (.i .i64 0) rfl ?_
 refine O_nil ?_
 refine C_ret ?_
 refine bk_ret ?_
 refine nx_ret ?_
 have hcell := hH36.get3
 have hh : hear cs even k ppid b = ⟨2, k, c.kind, c.prio, c.limit, c.label, c.proto, false, [], [], 0, cs.set k (c.to 2)⟩ := by unfold hear; rw [hgd]; rw [if_neg (by omega), if_pos hp, if_pos hb2, if_neg (by omega), if_pos hs]
 have hH37 := ((((hH36.sub0).sub1).sub1).sub1)
 have hH38 := (((hH37.top2).top1).top2)
 have hF := hH38
 have hH39 := (Hs.cong1 (B := [(Lb, some (.cells ((cs.set k (c.to 2)).map Ch.row).flatten true))]) hF (seg_shut (enc := Ch.row) (c := (c.to 2))))
 rw [show cs.length = (cs.set k (c.to 2)).length by rw [List.length_set]] at hH39
 rw [hh]
 exact ⟨.inr rfl, _, resL_cons (r_cellA rfl hcell rfl) (resL_cons (r_tmp (v := (.sl none 0 0 0)) rfl) (resL_one (r_tmp (v := (.i .i64 0)) rfl))), HearP.nil rfl rfl rfl hH39⟩
theorem hear_b2 (hx : HC cs k B ppid da dc dg b) (hk : k < cs.length) (hp : ppid = 50) (hb2 : b = [2]) (hs : ¬ ((cs.getD k ch0).st = 0 ∨ (cs.getD k ch0).st = 1)) : HearEv 35 [] H T Lb cs even B R k un ppid da dc dg b := by
 obtain ⟨hk16, hcs, htB, dhg, hb, dhc, dhm, dfit⟩ := hx
 intro hH0
 refine Ev_C (F := x35) rfl ?_
 obtain ⟨c, hc⟩ := ex_at hk
 have hgd := getD_of hc
 try rw [hgd] at hs
 have hH1 := hH0.cong1 (seg_foc (n := Lb) (enc := Ch.row) hc)
 refine sr ?_
 refine O_box (z := [(.i .u16 ((k : Nat) : Int)), (.b un), (.i .u32 ppid), (.sl da b.length dc dg)]) rfl fun n2 H3 hN4 => ?_
 have hH5 := hH1.new hN4
 refine O_alloc fun n6 H7 hN8 => ?_
 have hH9 := hH5.new hN8
 refine pv (.sl none 0 0 0) rfl ?_
 refine pv (.i .i64 0) rfl ?_
 refine O_nil (sr ?_)
 refine pv (.p (some (T, 0))) rfl ?_
 refine pf (.p (some (n2, 0))) rfl rfl ?_
 refine O_p (.i .u16 ((k : Nat) : Int)) (r_ld rfl hH9.get1 rfl) ?_
 refine O_call (Ev.mono (at_in hH9.ok (hH9.get2) hk16 hk) fun v10 H11 hq12 => ?_)
 obtain ⟨rfl, hq12⟩ := hq12
 subst H11
 refine pv (.p (some (Lb, (k * 8 + 0)))) rfl ?_
 refine O_nil ?_
 refine C_seq ?_
 refine C_block ?_
 refine sr ?_
 refine pv (.p (some (Lb, (k * 8 + 0)))) rfl ?_
 refine O_p (.b false) (r_nilq_s rfl) ?_
 refine pv (.b false) rfl ?_
 refine O_nil ?_
 refine C_cond (x := false) rfl (fun h => by cases h) (fun _ => ?_)
 refine sr ?_
 refine pf (.p (some (n2, 2))) rfl rfl ?_
 refine O_p (.i .u32 ppid) (r_ld rfl hH9.get1 rfl) ?_
 refine O_p (.b true) (by exact (by rw [r_eql rfl rfl, decide_eq_true (by first | omega | assumption)])) ?_
 refine pv (.b true) rfl ?_
 refine O_gk rfl ?_
 refine pf (.p (some (n2, 3))) rfl rfl ?_
 refine O_gk rfl ?_
 refine O_p (.sl da b.length dc dg) (r_ld rfl hH9.get1 rfl) ?_
 refine O_gk rfl ?_
 refine O_bslice (c := [(.i .u8 2)]) rfl fun n13 H14 hN15 => ?_
 have hH16 := hH9.new hN15
 refine O_gk rfl ?_
 refine O_call (Ev.mono (eq_ev hH16.ok dhg (hb _ hH16.top5.fst) dhc dhm (hH16.get0)) fun v17 H18 hq19 => ?_)
 rw [decide_eq_true hb2] at hq19
 obtain ⟨rfl, hK20⟩ := hq19
 have hH21 := (hH16.kp hK20)
 refine O_p (.b true) (r_pick_t rfl rfl) ?_
 refine pv (.b true) rfl ?_
 refine O_nil ?_
 refine C_cond (x := true) rfl (fun _ => ?_) (fun h => by cases h)
 refine sr ?_
 refine pv (.p (some (Lb, (k * 8 + 0)))) rfl ?_
 refine pf (.p (some (n2, 0))) rfl rfl ?_
 refine O_p (.i .u16 ((k : Nat) : Int)) (r_ld rfl hH21.get2 rfl) ?_
 have hH22 := (hH21.top4)
 refine O_call (Ev.mono (ack_2 c hk (by omega) (by omega) hH22) fun v23 H24 hq25 => ?_)
 obtain ⟨rfl, hH26⟩ := hq25
 refine pv (.tup [(.agg zHKAA ), (.i .i64 0)]) rfl ?_
 refine O_p (.agg zHKAA ) (r_ext rfl rfl) ?_
 refine O_p (.i .i64 0) (r_ext rfl rfl) ?_
 refine O_alloc fun n27 H28 hN29 => ?_
 have hH30 := hH26.new hN29
 refine O_store (vs := zHKAA ) (c' := zHKAA ) rfl (by rfl) hH30.get0 rfl (List.cons_ne_nil _ _) (Nat.le_of_ble_eq_true rfl) rfl fun H31 hW32 => ?_
 have hH33 := hH30.wr0 hW32
 refine pv (.i .i64 0) rfl ?_
 refine O_nil (sr ?_)
 refine O_p (.agg zHKAA ) (r_ldA rfl hH33.get0 rfl) ?_
 refine pv (.i .i64 0) rfl ?_
 refine O_store (vs := zHKAA ) (c' := zHKAA ) rfl (by rfl) hH33.get3 rfl (List.cons_ne_nil _ _) (Nat.le_of_ble_eq_true rfl) rfl fun H34 hW35 => ?_
 have hH36 := hH33.wr3 hW35
 refine pv (.sl none 0 0 0) rfl ?_
 refine pv (.i .i64 0) rfl ?_
 refine O_nil ?_
 refine C_ret ?_
 refine bk_ret ?_
 refine nx_ret ?_
 have hcell := hH36.get3
 have hh : hear cs even k ppid b = .none 0 cs := by unfold hear; rw [hgd]; rw [if_neg (by omega), if_pos hp, if_pos hb2, if_neg (by omega), if_neg (by omega)]
 have hH37 := ((((hH36.sub0).sub1).sub1).sub1)
 have hH38 := (((hH37.top2).top1).top2)
 have hH39 := (Hs.cong1 hH38 (seg_foc (n := Lb) (enc := Ch.row) hc).symm)
 rw [hh]
 exact ⟨.inr rfl, _, resL_cons (r_cellA rfl hcell rfl) (resL_cons (r_tmp (v := (.sl none 0 0 0)) rfl) (resL_one (r_tmp (v := (.i .i64 0)) rfl))), HearP.nil rfl rfl rfl hH39⟩
theorem hear_c (hx : HC cs k B ppid da dc dg b) (hk : k < cs.length) (hp : ppid = 50) (hb2 : ¬ b = [2]) : HearEv 35 [] H T Lb cs even B R k un ppid da dc dg b := by
 obtain ⟨hk16, hcs, htB, dhg, hb, dhc, dhm, dfit⟩ := hx
 intro hH0
 refine Ev_C (F := x35) rfl ?_
 obtain ⟨c, hc⟩ := ex_at hk
 have hgd := getD_of hc
 try rw [hgd] at hs
 have hH1 := hH0.cong1 (seg_foc (n := Lb) (enc := Ch.row) hc)
 refine sr ?_
 refine O_box (z := [(.i .u16 ((k : Nat) : Int)), (.b un), (.i .u32 ppid), (.sl da b.length dc dg)]) rfl fun n2 H3 hN4 => ?_
 have hH5 := hH1.new hN4
 refine O_alloc fun n6 H7 hN8 => ?_
 have hH9 := hH5.new hN8
 refine pv (.sl none 0 0 0) rfl ?_
 refine pv (.i .i64 0) rfl ?_
 refine O_nil (sr ?_)
 refine pv (.p (some (T, 0))) rfl ?_
 refine pf (.p (some (n2, 0))) rfl rfl ?_
 refine O_p (.i .u16 ((k : Nat) : Int)) (r_ld rfl hH9.get1 rfl) ?_
 refine O_call (Ev.mono (at_in hH9.ok (hH9.get2) hk16 hk) fun v10 H11 hq12 => ?_)
 obtain ⟨rfl, hq12⟩ := hq12
 subst H11
 refine pv (.p (some (Lb, (k * 8 + 0)))) rfl ?_
 refine O_nil ?_
 refine C_seq ?_
 refine C_block ?_
 refine sr ?_
 refine pv (.p (some (Lb, (k * 8 + 0)))) rfl ?_
 refine O_p (.b false) (r_nilq_s rfl) ?_
 refine pv (.b false) rfl ?_
 refine O_nil ?_
 refine C_cond (x := false) rfl (fun h => by cases h) (fun _ => ?_)
 refine sr ?_
 refine pf (.p (some (n2, 2))) rfl rfl ?_
 refine O_p (.i .u32 ppid) (r_ld rfl hH9.get1 rfl) ?_
 refine O_p (.b true) (by exact (by rw [r_eql rfl rfl, decide_eq_true (by first | omega | assumption)])) ?_
 refine pv (.b true) rfl ?_
 refine O_gk rfl ?_
 refine pf (.p (some (n2, 3))) rfl rfl ?_
 refine O_gk rfl ?_
 refine O_p (.sl da b.length dc dg) (r_ld rfl hH9.get1 rfl) ?_
 refine O_gk rfl ?_
 refine O_bslice (c := [(.i .u8 2)]) rfl fun n13 H14 hN15 => ?_
 have hH16 := hH9.new hN15
 refine O_gk rfl ?_
 refine O_call (Ev.mono (eq_ev hH16.ok dhg (hb _ hH16.top5.fst) dhc dhm (hH16.get0)) fun v17 H18 hq19 => ?_)
 rw [decide_eq_false hb2] at hq19
 obtain ⟨rfl, hK20⟩ := hq19
 have hH21 := (hH16.kp hK20)
 refine O_p (.b false) (r_pick_t rfl rfl) ?_
 refine pv (.b false) rfl ?_
 refine O_nil ?_
 refine C_cond (x := false) rfl (fun h => by cases h) (fun _ => ?_)
 refine sr ?_
 refine pf (.p (some (n2, 2))) rfl rfl ?_
 refine O_p (.i .u32 ppid) (r_ld rfl hH21.get2 rfl) ?_
 refine O_p (.b true) (by exact (by rw [r_eql rfl rfl, decide_eq_true (by first | omega | assumption)])) ?_
 refine pv (.b true) rfl ?_
 refine O_nil ?_
 refine C_cond (x := true) rfl (fun _ => ?_) (fun h => by cases h)
 refine sr ?_
 refine pv (.p (some (T, 0))) rfl ?_
 refine O_p (.agg [(.i .u16 ((k : Nat) : Int)), (.b un), (.i .u32 ppid), (.sl da b.length dc dg)]) (r_ldA rfl hH21.get2 rfl) ?_
 refine pv (.p (some (Lb, (k * 8 + 0)))) rfl ?_
 have hH22 := (Hs.cong4 hH21 (seg_foc (n := Lb) (enc := Ch.row) hc).symm)
 have hH23 := (((hH22.top5).top5).top5)
 refine O_call (Ev.mono (opened_ev hk16 hcs hk htB un ppid dhg hb dhc dhm dfit hp hb2 hH23) fun v24 H25 hq26 => ?_)
 obtain ⟨ra, rn, rc, rg, rv, rq, rD, rfl, hrg, hrnc, hrcm, hrall, hrsq, hrH⟩ := hq26
 refine O_p (.agg [(.i .i64 (hear cs even k ppid b).ek), (.i .u16 (hear cs even k ppid b).ei), (.i .u8 (hear cs even k ppid b).ko), (.i .u16 (hear cs even k ppid b).po), (.i .u32 (hear cs even k ppid b).lo), (.s (txt (hear cs even k ppid b).ot)), (.s (txt (hear cs even k ppid b).oo)), (.b (hear cs even k ppid b).et), (.sl ra rn rc rg)]) (r_ext rfl rfl) ?_
 refine O_p rv (r_ext rfl rfl) ?_
 refine O_p (.i .i64 (hear cs even k ppid b).er) (r_ext rfl rfl) ?_
 refine O_store (vs := [(.i .i64 (hear cs even k ppid b).ek), (.i .u16 (hear cs even k ppid b).ei), (.i .u8 (hear cs even k ppid b).ko), (.i .u16 (hear cs even k ppid b).po), (.i .u32 (hear cs even k ppid b).lo), (.s (txt (hear cs even k ppid b).ot)), (.s (txt (hear cs even k ppid b).oo)), (.b (hear cs even k ppid b).et), (.sl ra rn rc rg)]) (c' := [(.i .i64 (hear cs even k ppid b).ek), (.i .u16 (hear cs even k ppid b).ei), (.i .u8 (hear cs even k ppid b).ko), (.i .u16 (hear cs even k ppid b).po), (.i .u32 (hear cs even k ppid b).lo), (.s (txt (hear cs even k ppid b).ot)), (.s (txt (hear cs even k ppid b).oo)), (.b (hear cs even k ppid b).et), (.sl ra rn rc rg)]) rfl (by rfl) hrH.get6 rfl (List.cons_ne_nil _ _) (Nat.le_of_ble_eq_true rfl) rfl fun H27 hW28 => ?_
 have hH29 := hrH.wr6 hW28
 refine pv rv rfl ?_
 refine pv (.i .i64 (hear cs even k ppid b).er) rfl ?_
 refine O_nil ?_
 refine C_ret ?_
 refine bk_ret ?_
 refine nx_ret ?_
 have hcell := hH29.get6
 have hH30 := (((hH29.sub5).sub5).sub5)
 have hH31 := (((((hH30.top4).top4).top4).top4).top4)
 exact ⟨.inr rfl, _, resL_cons (r_cellA rfl hcell rfl) (resL_cons (r_tmp (v := rv) rfl) (resL_one (r_tmp (v := (.i .i64 (hear cs even k ppid b).er)) rfl))), ra, rn, rc, rg, rv, rq, rD, rfl, hrg, hrnc, hrcm, hrall, hrsq, hH31⟩
theorem hear_d0 (hx : HC cs k B ppid da dc dg b) (hk : k < cs.length) (hp : ¬ ppid = 50) (hs : (cs.getD k ch0).st = 0) : HearEv 35 [] H T Lb cs even B R k un ppid da dc dg b := by
 obtain ⟨hk16, hcs, htB, dhg, hb, dhc, dhm, dfit⟩ := hx
 intro hH0
 refine Ev_C (F := x35) rfl ?_
 obtain ⟨c, hc⟩ := ex_at hk
 have hgd := getD_of hc
 try rw [hgd] at hs
 have hH1 := hH0.cong1 (seg_foc (n := Lb) (enc := Ch.row) hc)
 refine sr ?_
 refine O_box (z := [(.i .u16 ((k : Nat) : Int)), (.b un), (.i .u32 ppid), (.sl da b.length dc dg)]) rfl fun n2 H3 hN4 => ?_
 have hH5 := hH1.new hN4
 refine O_alloc fun n6 H7 hN8 => ?_
 have hH9 := hH5.new hN8
 refine pv (.sl none 0 0 0) rfl ?_
 refine pv (.i .i64 0) rfl ?_
 refine O_nil (sr ?_)
 refine pv (.p (some (T, 0))) rfl ?_
 refine pf (.p (some (n2, 0))) rfl rfl ?_
 refine O_p (.i .u16 ((k : Nat) : Int)) (r_ld rfl hH9.get1 rfl) ?_
 refine O_call (Ev.mono (at_in hH9.ok (hH9.get2) hk16 hk) fun v10 H11 hq12 => ?_)
 obtain ⟨rfl, hq12⟩ := hq12
 subst H11
 refine pv (.p (some (Lb, (k * 8 + 0)))) rfl ?_
 refine O_nil ?_
 refine C_seq ?_
 refine C_block ?_
 refine sr ?_
 refine pv (.p (some (Lb, (k * 8 + 0)))) rfl ?_
 refine O_p (.b false) (r_nilq_s rfl) ?_
 refine pv (.b false) rfl ?_
 refine O_nil ?_
 refine C_cond (x := false) rfl (fun h => by cases h) (fun _ => ?_)
 refine sr ?_
 refine pf (.p (some (n2, 2))) rfl rfl ?_
 refine O_p (.i .u32 ppid) (r_ld rfl hH9.get1 rfl) ?_
 refine O_p (.b false) (by exact (by rw [r_eql rfl rfl, decide_eq_false (by first | omega | assumption)])) ?_
 refine pv (.b false) rfl ?_
 refine O_gf rfl ?_
 refine O_gf rfl ?_
 refine O_gf rfl ?_
 refine O_gf rfl ?_
 refine O_p (.b false) (r_pick_f rfl rfl) ?_
 refine pv (.b false) rfl ?_
 refine O_nil ?_
 refine C_cond (x := false) rfl (fun h => by cases h) (fun _ => ?_)
 refine sr ?_
 refine pf (.p (some (n2, 2))) rfl rfl ?_
 refine O_p (.i .u32 ppid) (r_ld rfl hH9.get1 rfl) ?_
 refine O_p (.b false) (by exact (by rw [r_eql rfl rfl, decide_eq_false (by first | omega | assumption)])) ?_
 refine pv (.b false) rfl ?_
 refine O_nil ?_
 refine C_cond (x := false) rfl (fun h => by cases h) (fun _ => ?_)
 refine sr ?_
 refine pv (.p (some (Lb, (k * 8 + 0)))) rfl ?_
 refine O_p (.p (some (Lb, (k * 8 + 0)))) (r_nilc rfl) ?_
 refine pf (.p (some (Lb, (k * 8 + 0)))) rfl rfl ?_
 refine O_p (.i .i64 c.st) (by exact (r_ld rfl hH9.get3 ((foc_get (rows_map Ch.row_len cs) (by rw [List.length_map]; omega) rfl (by decide)).trans rfl))) ?_
 refine O_p (.b true) (by exact (by rw [r_eql rfl rfl, decide_eq_true (by first | omega | assumption)])) ?_
 refine pv (.b true) rfl ?_
 refine O_nil ?_
 refine C_cond (x := true) rfl (fun _ => ?_) (fun h => by cases h)
 refine sr ?_
 refine O_p (.agg zHKAA ) (r_build rfl) ?_
 refine O_store (vs := zHKAA ) (c' := zHKAA ) rfl (by rfl) hH9.get0 rfl (List.cons_ne_nil _ _) (Nat.le_of_ble_eq_true rfl) rfl fun H13 hW14 => ?_
 have hH15 := hH9.wr0 hW14
 refine pv (.sl none 0 0 0) rfl ?_
 refine pv (.i .i64 11) rfl ?_
 refine O_nil ?_
 refine C_ret ?_
 refine bk_ret ?_
 refine nx_ret ?_
 have hcell := hH15.get0
 have hh : hear cs even k ppid b = .none 11 cs := by unfold hear; rw [hgd]; rw [if_neg (by omega), if_neg hp, if_pos hs]
 have hH16 := ((hH15.sub0).sub0)
 have hH17 := (((hH16.top2).top2).top2)
 have hH18 := (Hs.cong1 hH17 (seg_foc (n := Lb) (enc := Ch.row) hc).symm)
 rw [hh]
 exact ⟨.inr rfl, _, resL_cons (r_cellA rfl hcell rfl) (resL_cons (r_tmp (v := (.sl none 0 0 0)) rfl) (resL_one (r_tmp (v := (.i .i64 11)) rfl))), HearP.nil rfl rfl rfl hH18⟩
theorem hear_d1 (hx : HC cs k B ppid da dc dg b) (hk : k < cs.length) (hp : ¬ ppid = 50) (hs : ¬ (cs.getD k ch0).st = 0) (hu : uO ppid b = false) : HearEv 35 [] H T Lb cs even B R k un ppid da dc dg b := by
 obtain ⟨hk16, hcs, htB, dhg, hb, dhc, dhm, dfit⟩ := hx
 intro hH0
 refine Ev_C (F := x35) rfl ?_
 obtain ⟨c, hc⟩ := ex_at hk
 have hgd := getD_of hc
 try rw [hgd] at hs
 have hH1 := hH0.cong1 (seg_foc (n := Lb) (enc := Ch.row) hc)
 refine sr ?_
 refine O_box (z := [(.i .u16 ((k : Nat) : Int)), (.b un), (.i .u32 ppid), (.sl da b.length dc dg)]) rfl fun n2 H3 hN4 => ?_
 have hH5 := hH1.new hN4
 refine O_alloc fun n6 H7 hN8 => ?_
 have hH9 := hH5.new hN8
 refine pv (.sl none 0 0 0) rfl ?_
 refine pv (.i .i64 0) rfl ?_
 refine O_nil (sr ?_)
 refine pv (.p (some (T, 0))) rfl ?_
 refine pf (.p (some (n2, 0))) rfl rfl ?_
 refine O_p (.i .u16 ((k : Nat) : Int)) (r_ld rfl hH9.get1 rfl) ?_
 refine O_call (Ev.mono (at_in hH9.ok (hH9.get2) hk16 hk) fun v10 H11 hq12 => ?_)
 obtain ⟨rfl, hq12⟩ := hq12
 subst H11
 refine pv (.p (some (Lb, (k * 8 + 0)))) rfl ?_
 refine O_nil ?_
 refine C_seq ?_
 refine C_block ?_
 refine sr ?_
 refine pv (.p (some (Lb, (k * 8 + 0)))) rfl ?_
 refine O_p (.b false) (r_nilq_s rfl) ?_
 refine pv (.b false) rfl ?_
 refine O_nil ?_
 refine C_cond (x := false) rfl (fun h => by cases h) (fun _ => ?_)
 refine sr ?_
 refine pf (.p (some (n2, 2))) rfl rfl ?_
 refine O_p (.i .u32 ppid) (r_ld rfl hH9.get1 rfl) ?_
 refine O_p (.b false) (by exact (by rw [r_eql rfl rfl, decide_eq_false (by first | omega | assumption)])) ?_
 refine pv (.b false) rfl ?_
 refine O_gf rfl ?_
 refine O_gf rfl ?_
 refine O_gf rfl ?_
 refine O_gf rfl ?_
 refine O_p (.b false) (r_pick_f rfl rfl) ?_
 refine pv (.b false) rfl ?_
 refine O_nil ?_
 refine C_cond (x := false) rfl (fun h => by cases h) (fun _ => ?_)
 refine sr ?_
 refine pf (.p (some (n2, 2))) rfl rfl ?_
 refine O_p (.i .u32 ppid) (r_ld rfl hH9.get1 rfl) ?_
 refine O_p (.b false) (by exact (by rw [r_eql rfl rfl, decide_eq_false (by first | omega | assumption)])) ?_
 refine pv (.b false) rfl ?_
 refine O_nil ?_
 refine C_cond (x := false) rfl (fun h => by cases h) (fun _ => ?_)
 refine sr ?_
 refine pv (.p (some (Lb, (k * 8 + 0)))) rfl ?_
 refine O_p (.p (some (Lb, (k * 8 + 0)))) (r_nilc rfl) ?_
 refine pf (.p (some (Lb, (k * 8 + 0)))) rfl rfl ?_
 refine O_p (.i .i64 c.st) (by exact (r_ld rfl hH9.get3 ((foc_get (rows_map Ch.row_len cs) (by rw [List.length_map]; omega) rfl (by decide)).trans rfl))) ?_
 refine O_p (.b false) (by exact (by rw [r_eql rfl rfl, decide_eq_false (by first | omega | assumption)])) ?_
 refine pv (.b false) rfl ?_
 refine O_nil ?_
 refine C_cond (x := false) rfl (fun h => by cases h) (fun _ => ?_)
 refine C_skip ?_
 refine sr ?_
 refine pf (.p (some (n2, 2))) rfl rfl ?_
 refine O_p (.i .u32 ppid) (r_ld rfl hH9.get1 rfl) ?_
 refine pf (.p (some (n2, 3))) rfl rfl ?_
 refine O_p (.sl da b.length dc dg) (r_ld rfl hH9.get1 rfl) ?_
 refine O_call (Ev.mono (unwrap_ev hH9.ok ppid dhg (hb _ hH9.top4.fst) dhc dhm dfit) fun v13 H14 hq15 => ?_)
 rw [hu] at hq15
 obtain ⟨o16, rfl, hM17, hK18⟩ := hq15
 obtain ⟨qa19, qg20, rfl, hqg21, hqb22⟩ := hM17.own.bs
 have hsq23 := Sq.ofMine hH9 hM17 hK18
 have hH24 := Hs.ofMine hH9 hM17 hK18
 refine pv (.tup [(.b (uT ppid b)), (.sl qa19 (uB ppid b).length (uB ppid b).length qg20), (.b false)]) rfl ?_
 refine O_p (.b (uT ppid b)) (r_ext rfl rfl) ?_
 refine O_p (.sl qa19 (uB ppid b).length (uB ppid b).length qg20) (r_ext rfl rfl) ?_
 refine O_p (.b false) (r_ext rfl rfl) ?_
 refine pv (.b (uT ppid b)) rfl ?_
 refine pv (.sl qa19 (uB ppid b).length (uB ppid b).length qg20) rfl ?_
 refine pv (.b false) rfl ?_
 refine O_nil ?_
 refine C_seq ?_
 refine C_block ?_
 refine sr ?_
 refine pv (.b false) rfl ?_
 refine O_p (.b true) (r_un rfl rfl) ?_
 refine pv (.b true) rfl ?_
 refine O_nil ?_
 refine C_cond (x := true) rfl (fun _ => ?_) (fun h => by cases h)
 refine sr ?_
 refine O_p (.agg zHKAA ) (r_build rfl) ?_
 refine O_store (vs := zHKAA ) (c' := zHKAA ) rfl (by rfl) hH24.get1 rfl (List.cons_ne_nil _ _) (Nat.le_of_ble_eq_true rfl) rfl fun H25 hW26 => ?_
 have hH27 := hH24.wr1 hW26
 refine pv (.sl none 0 0 0) rfl ?_
 refine pv (.i .i64 3) rfl ?_
 refine O_nil ?_
 refine C_ret ?_
 refine bk_ret ?_
 refine nx_ret ?_
 have hcell := hH27.get1
 have hh : hear cs even k ppid b = .none 3 cs := by unfold hear; rw [hgd]; rw [if_neg (by omega), if_neg hp, if_neg hs, if_pos hu]
 have hH28 := (((hH27.sub0).sub0).sub0)
 have hH29 := (((hH28.top2).top2).top2)
 have hH30 := (Hs.cong1 hH29 (seg_foc (n := Lb) (enc := Ch.row) hc).symm)
 rw [hh]
 exact ⟨.inr rfl, _, resL_cons (r_cellA rfl hcell rfl) (resL_cons (r_tmp (v := (.sl none 0 0 0)) rfl) (resL_one (r_tmp (v := (.i .i64 3)) rfl))), HearP.nil rfl rfl rfl hH30⟩
theorem hear_d2 (hx : HC cs k B ppid da dc dg b) (hk : k < cs.length) (hp : ¬ ppid = 50) (hs : (cs.getD k ch0).st = 3) (hu : uO ppid b = true) : HearEv 35 [] H T Lb cs even B R k un ppid da dc dg b := by
 obtain ⟨hk16, hcs, htB, dhg, hb, dhc, dhm, dfit⟩ := hx
 intro hH0
 refine Ev_C (F := x35) rfl ?_
 obtain ⟨c, hc⟩ := ex_at hk
 have hgd := getD_of hc
 try rw [hgd] at hs
 have hH1 := hH0.cong1 (seg_foc (n := Lb) (enc := Ch.row) hc)
 refine sr ?_
 refine O_box (z := [(.i .u16 ((k : Nat) : Int)), (.b un), (.i .u32 ppid), (.sl da b.length dc dg)]) rfl fun n2 H3 hN4 => ?_
 have hH5 := hH1.new hN4
 refine O_alloc fun n6 H7 hN8 => ?_
 have hH9 := hH5.new hN8
 refine pv (.sl none 0 0 0) rfl ?_
 refine pv (.i .i64 0) rfl ?_
 refine O_nil (sr ?_)
 refine pv (.p (some (T, 0))) rfl ?_
 refine pf (.p (some (n2, 0))) rfl rfl ?_
 refine O_p (.i .u16 ((k : Nat) : Int)) (r_ld rfl hH9.get1 rfl) ?_
 refine O_call (Ev.mono (at_in hH9.ok (hH9.get2) hk16 hk) fun v10 H11 hq12 => ?_)
 obtain ⟨rfl, hq12⟩ := hq12
 subst H11
 refine pv (.p (some (Lb, (k * 8 + 0)))) rfl ?_
 refine O_nil ?_
 refine C_seq ?_
 refine C_block ?_
 refine sr ?_
 refine pv (.p (some (Lb, (k * 8 + 0)))) rfl ?_
 refine O_p (.b false) (r_nilq_s rfl) ?_
 refine pv (.b false) rfl ?_
 refine O_nil ?_
 refine C_cond (x := false) rfl (fun h => by cases h) (fun _ => ?_)
 refine sr ?_
 refine pf (.p (some (n2, 2))) rfl rfl ?_
 refine O_p (.i .u32 ppid) (r_ld rfl hH9.get1 rfl) ?_
 refine O_p (.b false) (by exact (by rw [r_eql rfl rfl, decide_eq_false (by first | omega | assumption)])) ?_
 refine pv (.b false) rfl ?_
 refine O_gf rfl ?_
 refine O_gf rfl ?_
 refine O_gf rfl ?_
 refine O_gf rfl ?_
 refine O_p (.b false) (r_pick_f rfl rfl) ?_
 refine pv (.b false) rfl ?_
 refine O_nil ?_
 refine C_cond (x := false) rfl (fun h => by cases h) (fun _ => ?_)
 refine sr ?_
 refine pf (.p (some (n2, 2))) rfl rfl ?_
 refine O_p (.i .u32 ppid) (r_ld rfl hH9.get1 rfl) ?_
 refine O_p (.b false) (by exact (by rw [r_eql rfl rfl, decide_eq_false (by first | omega | assumption)])) ?_
 refine pv (.b false) rfl ?_
 refine O_nil ?_
 refine C_cond (x := false) rfl (fun h => by cases h) (fun _ => ?_)
 refine sr ?_
 refine pv (.p (some (Lb, (k * 8 + 0)))) rfl ?_
 refine O_p (.p (some (Lb, (k * 8 + 0)))) (r_nilc rfl) ?_
 refine pf (.p (some (Lb, (k * 8 + 0)))) rfl rfl ?_
 refine O_p (.i .i64 c.st) (by exact (r_ld rfl hH9.get3 ((foc_get (rows_map Ch.row_len cs) (by rw [List.length_map]; omega) rfl (by decide)).trans rfl))) ?_
 refine O_p (.b false) (by exact (by rw [r_eql rfl rfl, decide_eq_false (by first | omega | assumption)])) ?_
 refine pv (.b false) rfl ?_
 refine O_nil ?_
 refine C_cond (x := false) rfl (fun h => by cases h) (fun _ => ?_)
 refine C_skip ?_
 refine sr ?_
 refine pf (.p (some (n2, 2))) rfl rfl ?_
 refine O_p (.i .u32 ppid) (r_ld rfl hH9.get1 rfl) ?_
 refine pf (.p (some (n2, 3))) rfl rfl ?_
 refine O_p (.sl da b.length dc dg) (r_ld rfl hH9.get1 rfl) ?_
 refine O_call (Ev.mono (unwrap_ev hH9.ok ppid dhg (hb _ hH9.top4.fst) dhc dhm dfit) fun v13 H14 hq15 => ?_)
 rw [hu] at hq15
 obtain ⟨o16, rfl, hM17, hK18⟩ := hq15
 obtain ⟨qa19, qg20, rfl, hqg21, hqb22⟩ := hM17.own.bs
 have hsq23 := Sq.ofMine hH9 hM17 hK18
 have hH24 := Hs.ofMine hH9 hM17 hK18
 refine pv (.tup [(.b (uT ppid b)), (.sl qa19 (uB ppid b).length (uB ppid b).length qg20), (.b true)]) rfl ?_
 refine O_p (.b (uT ppid b)) (r_ext rfl rfl) ?_
 refine O_p (.sl qa19 (uB ppid b).length (uB ppid b).length qg20) (r_ext rfl rfl) ?_
 refine O_p (.b true) (r_ext rfl rfl) ?_
 refine pv (.b (uT ppid b)) rfl ?_
 refine pv (.sl qa19 (uB ppid b).length (uB ppid b).length qg20) rfl ?_
 refine pv (.b true) rfl ?_
 refine O_nil ?_
 refine C_seq ?_
 refine C_block ?_
 refine sr ?_
 refine pv (.b true) rfl ?_
 refine O_p (.b false) (r_un rfl rfl) ?_
 refine pv (.b false) rfl ?_
 refine O_nil ?_
 refine C_cond (x := false) rfl (fun h => by cases h) (fun _ => ?_)
 refine sr ?_
 refine pv (.p (some (Lb, (k * 8 + 0)))) rfl ?_
 refine O_p (.p (some (Lb, (k * 8 + 0)))) (r_nilc rfl) ?_
 refine pf (.p (some (Lb, (k * 8 + 0)))) rfl rfl ?_
 refine O_p (.i .i64 c.st) (by exact (r_ld rfl hH24.get4 ((foc_get (rows_map Ch.row_len cs) (by rw [List.length_map]; omega) rfl (by decide)).trans rfl))) ?_
 refine O_p (.b true) (by exact (by rw [r_eql rfl rfl, decide_eq_true (by first | omega | assumption)])) ?_
 refine pv (.b true) rfl ?_
 refine O_nil ?_
 refine C_cond (x := true) rfl (fun _ => ?_) (fun h => by cases h)
 refine sr ?_
 refine O_p (.agg zHKAA ) (r_build rfl) ?_
 refine O_store (vs := zHKAA ) (c' := zHKAA ) rfl (by rfl) hH24.get1 rfl (List.cons_ne_nil _ _) (Nat.le_of_ble_eq_true rfl) rfl fun H25 hW26 => ?_
 have hH27 := hH24.wr1 hW26
 refine pv (.sl none 0 0 0) rfl ?_
 refine pv (.i .i64 0) rfl ?_
 refine O_nil ?_
 refine C_ret ?_
 refine bk_ret ?_
 refine nx_ret ?_
 have hcell := hH27.get1
 have hh : hear cs even k ppid b = .none 0 cs := by unfold hear; rw [hgd]; rw [if_neg (by omega), if_neg hp, if_neg (by omega), if_neg (by rw [hu]; decide), if_pos hs]
 have hH28 := (((hH27.sub0).sub0).sub0)
 have hH29 := (((hH28.top2).top2).top2)
 have hH30 := (Hs.cong1 hH29 (seg_foc (n := Lb) (enc := Ch.row) hc).symm)
 rw [hh]
 exact ⟨.inr rfl, _, resL_cons (r_cellA rfl hcell rfl) (resL_cons (r_tmp (v := (.sl none 0 0 0)) rfl) (resL_one (r_tmp (v := (.i .i64 0)) rfl))), HearP.nil rfl rfl rfl hH30⟩
theorem hear_d3 (hx : HC cs k B ppid da dc dg b) (hk : k < cs.length) (hp : ¬ ppid = 50) (hs : ¬ ((cs.getD k ch0).st = 0 ∨ (cs.getD k ch0).st = 3)) (hu : uO ppid b = true) : HearEv 35 [] H T Lb cs even B R k un ppid da dc dg b := by
 obtain ⟨hk16, hcs, htB, dhg, hb, dhc, dhm, dfit⟩ := hx
 intro hH0
 refine Ev_C (F := x35) rfl ?_
 obtain ⟨c, hc⟩ := ex_at hk
 have hgd := getD_of hc
 try rw [hgd] at hs
 have hH1 := hH0.cong1 (seg_foc (n := Lb) (enc := Ch.row) hc)
 refine sr ?_
 refine O_box (z := [(.i .u16 ((k : Nat) : Int)), (.b un), (.i .u32 ppid), (.sl da b.length dc dg)]) rfl fun n2 H3 hN4 => ?_
 have hH5 := hH1.new hN4
 refine O_alloc fun n6 H7 hN8 => ?_
 have hH9 := hH5.new hN8
 refine pv (.sl none 0 0 0) rfl ?_
 refine pv (.i .i64 0) rfl ?_
 refine O_nil (sr ?_)
 refine pv (.p (some (T, 0))) rfl ?_
 refine pf (.p (some (n2, 0))) rfl rfl ?_
 refine O_p (.i .u16 ((k : Nat) : Int)) (r_ld rfl hH9.get1 rfl) ?_
 refine O_call (Ev.mono (at_in hH9.ok (hH9.get2) hk16 hk) fun v10 H11 hq12 => ?_)
 obtain ⟨rfl, hq12⟩ := hq12
 subst H11
 refine pv (.p (some (Lb, (k * 8 + 0)))) rfl ?_
 refine O_nil ?_
 refine C_seq ?_
 refine C_block ?_
 refine sr ?_
 refine pv (.p (some (Lb, (k * 8 + 0)))) rfl ?_
 refine O_p (.b false) (r_nilq_s rfl) ?_
 refine pv (.b false) rfl ?_
 refine O_nil ?_
 refine C_cond (x := false) rfl (fun h => by cases h) (fun _ => ?_)
 refine sr ?_
 refine pf (.p (some (n2, 2))) rfl rfl ?_
 refine O_p (.i .u32 ppid) (r_ld rfl hH9.get1 rfl) ?_
 refine O_p (.b false) (by exact (by rw [r_eql rfl rfl, decide_eq_false (by first | omega | assumption)])) ?_
 refine pv (.b false) rfl ?_
 refine O_gf rfl ?_
 refine O_gf rfl ?_
 refine O_gf rfl ?_
 refine O_gf rfl ?_
 refine O_p (.b false) (r_pick_f rfl rfl) ?_
 refine pv (.b false) rfl ?_
 refine O_nil ?_
 refine C_cond (x := false) rfl (fun h => by cases h) (fun _ => ?_)
 refine sr ?_
 refine pf (.p (some (n2, 2))) rfl rfl ?_
 refine O_p (.i .u32 ppid) (r_ld rfl hH9.get1 rfl) ?_
 refine O_p (.b false) (by exact (by rw [r_eql rfl rfl, decide_eq_false (by first | omega | assumption)])) ?_
 refine pv (.b false) rfl ?_
 refine O_nil ?_
 refine C_cond (x := false) rfl (fun h => by cases h) (fun _ => ?_)
 refine sr ?_
 refine pv (.p (some (Lb, (k * 8 + 0)))) rfl ?_
 refine O_p (.p (some (Lb, (k * 8 + 0)))) (r_nilc rfl) ?_
 refine pf (.p (some (Lb, (k * 8 + 0)))) rfl rfl ?_
 refine O_p (.i .i64 c.st) (by exact (r_ld rfl hH9.get3 ((foc_get (rows_map Ch.row_len cs) (by rw [List.length_map]; omega) rfl (by decide)).trans rfl))) ?_
 refine O_p (.b false) (by exact (by rw [r_eql rfl rfl, decide_eq_false (by first | omega | assumption)])) ?_
 refine pv (.b false) rfl ?_
 refine O_nil ?_
 refine C_cond (x := false) rfl (fun h => by cases h) (fun _ => ?_)
 refine C_skip ?_
 refine sr ?_
 refine pf (.p (some (n2, 2))) rfl rfl ?_
 refine O_p (.i .u32 ppid) (r_ld rfl hH9.get1 rfl) ?_
 refine pf (.p (some (n2, 3))) rfl rfl ?_
 refine O_p (.sl da b.length dc dg) (r_ld rfl hH9.get1 rfl) ?_
 refine O_call (Ev.mono (unwrap_ev hH9.ok ppid dhg (hb _ hH9.top4.fst) dhc dhm dfit) fun v13 H14 hq15 => ?_)
 rw [hu] at hq15
 obtain ⟨o16, rfl, hM17, hK18⟩ := hq15
 obtain ⟨qa19, qg20, rfl, hqg21, hqb22⟩ := hM17.own.bs
 have hsq23 := Sq.ofMine hH9 hM17 hK18
 have hH24 := Hs.ofMine hH9 hM17 hK18
 refine pv (.tup [(.b (uT ppid b)), (.sl qa19 (uB ppid b).length (uB ppid b).length qg20), (.b true)]) rfl ?_
 refine O_p (.b (uT ppid b)) (r_ext rfl rfl) ?_
 refine O_p (.sl qa19 (uB ppid b).length (uB ppid b).length qg20) (r_ext rfl rfl) ?_
 refine O_p (.b true) (r_ext rfl rfl) ?_
 refine pv (.b (uT ppid b)) rfl ?_
 refine pv (.sl qa19 (uB ppid b).length (uB ppid b).length qg20) rfl ?_
 refine pv (.b true) rfl ?_
 refine O_nil ?_
 refine C_seq ?_
 refine C_block ?_
 refine sr ?_
 refine pv (.b true) rfl ?_
 refine O_p (.b false) (r_un rfl rfl) ?_
 refine pv (.b false) rfl ?_
 refine O_nil ?_
 refine C_cond (x := false) rfl (fun h => by cases h) (fun _ => ?_)
 refine sr ?_
 refine pv (.p (some (Lb, (k * 8 + 0)))) rfl ?_
 refine O_p (.p (some (Lb, (k * 8 + 0)))) (r_nilc rfl) ?_
 refine pf (.p (some (Lb, (k * 8 + 0)))) rfl rfl ?_
 refine O_p (.i .i64 c.st) (by exact (r_ld rfl hH24.get4 ((foc_get (rows_map Ch.row_len cs) (by rw [List.length_map]; omega) rfl (by decide)).trans rfl))) ?_
 refine O_p (.b false) (by exact (by rw [r_eql rfl rfl, decide_eq_false (by first | omega | assumption)])) ?_
 refine pv (.b false) rfl ?_
 refine O_nil ?_
 refine C_cond (x := false) rfl (fun h => by cases h) (fun _ => ?_)
 refine C_skip ?_
 refine sr ?_
 refine pf (.p (some (n2, 0))) rfl rfl ?_
 refine O_p (.i .u16 ((k : Nat) : Int)) (r_ld rfl hH24.get2 rfl) ?_
 refine pv (.b (uT ppid b)) rfl ?_
 refine pv (.sl qa19 (uB ppid b).length (uB ppid b).length qg20) rfl ?_
 refine O_p (.agg [(.i .i64 3), (.i .u16 ((k : Nat) : Int)), (.i .u8 0), (.i .u16 0), (.i .u32 0), (.s ⟨#[]⟩), (.s ⟨#[]⟩), (.b (uT ppid b)), (.sl qa19 (uB ppid b).length (uB ppid b).length qg20)]) (r_build rfl) ?_
 refine O_store (vs := [(.i .i64 3), (.i .u16 ((k : Nat) : Int)), (.i .u8 0), (.i .u16 0), (.i .u32 0), (.s ⟨#[]⟩), (.s ⟨#[]⟩), (.b (uT ppid b)), (.sl qa19 (uB ppid b).length (uB ppid b).length qg20)]) (c' := [(.i .i64 3), (.i .u16 ((k : Nat) : Int)), (.i .u8 0), (.i .u16 0), (.i .u32 0), (.s ⟨#[]⟩), (.s ⟨#[]⟩), (.b (uT ppid b)), (.sl qa19 (uB ppid b).length (uB ppid b).length qg20)]) rfl (by rfl) hH24.get1 rfl (List.cons_ne_nil _ _) (Nat.le_of_ble_eq_true rfl) rfl fun H25 hW26 => ?_
 have hH27 := hH24.wr1 hW26
 refine pv (.sl none 0 0 0) rfl ?_
 refine pv (.i .i64 0) rfl ?_
 refine O_nil ?_
 refine C_ret ?_
 have hcell := hH27.get1
 have hh : hear cs even k ppid b = ⟨3, k, 0, 0, 0, [], [], uT ppid b, uB ppid b, [], 0, cs⟩ := by unfold hear; rw [hgd]; rw [if_neg (by omega), if_neg hp, if_neg (by omega), if_neg (by rw [hu]; decide), if_neg (by omega)]
 have hH28 := ((hH27.sub1).sub1)
 have hH29 := ((((hH28.top3).top3).top3).top3)
 have hH30 := (Hs.cong2 hH29 (seg_foc (n := Lb) (enc := Ch.row) hc).symm)
 rw [hh]
 exact ⟨.inr rfl, _, resL_cons (r_cellA rfl hcell rfl) (resL_cons (r_tmp (v := (.sl none 0 0 0)) rfl) (resL_one (r_tmp (v := (.i .i64 0)) rfl))), _, _, _, _, _, [], qseg (.sl qa19 (uB ppid b).length (uB ppid b).length qg20) (bcells (uB ppid b)), rfl, hqg21, Nat.le_refl _, by have := uB_le (ppid := ppid) (b := b); omega, fun _ h => (hsq23).bs h, .nil, hH30⟩
theorem rhear_out (hx : HC cs k B ppid da dc dg b) (hk : ¬ k < cs.length)  : HearEv 54 [] H T Lb cs even B R k un ppid da dc dg b := by
 obtain ⟨hk16, hcs, htB, dhg, hb, dhc, dhm, dfit⟩ := hx
 intro hH0
 refine Ev_C (F := x54) rfl ?_
 have hgd := getD_out hk
 refine sr ?_
 refine O_box (z := [(.i .u16 ((k : Nat) : Int)), (.b un), (.i .u32 ppid), (.sl da b.length dc dg)]) rfl fun n1 H2 hN3 => ?_
 have hH4 := hH0.new hN3
 refine O_alloc fun n5 H6 hN7 => ?_
 have hH8 := hH4.new hN7
 refine pv (.sl none 0 0 0) rfl ?_
 refine pv (.i .i64 0) rfl ?_
 refine O_nil ?_
 refine C_seq ?_
 refine C_seq ?_
 refine C_draw fun b9 H10 hbase11 hA12 => ?_
 have hH13 := hH8.keep (by have := hA12.1; omega) (fun q _ => hA12.2 q) ((hH8.old).aside hA12).ok
 refine D_l (v := (.p (some (n1, 0)))) rfl rfl rfl (r_fadd' rfl rfl) ?_
 refine D_l (v := (.p (some (T, 0)))) rfl rfl rfl (r_mv rfl) ?_
 refine D_l (v := (.p (some (T, 0)))) rfl rfl rfl (r_nilc rfl) ?_
 refine D_l (v := (.p (some (T, 0)))) rfl rfl rfl (r_fadd' rfl rfl) ?_
 refine D_r (v := (.i .u16 ((k : Nat) : Int))) rfl rfl rfl (r_ld rfl hH13.get1 rfl) ?_
 refine D_l (v := (.i .i64 (((k : Nat)) : Int))) rfl rfl rfl (by exact (r_cint' rfl (wrap_i64 (by omega) (by omega)))) ?_
 refine D_r (v := (.sl (some (Lb, 0)) cs.length cs.length 0)) rfl rfl rfl (r_ld rfl hH13.get2 rfl) ?_
 refine D_l (v := (.i .i64 (((cs.length : Nat)) : Int))) rfl rfl rfl (r_len rfl) ?_
 refine D_l (v := (.b true)) rfl rfl rfl (by exact (by rw [r_geq rfl rfl, decide_eq_true (by omega)])) ?_
 refine D_nil ?_
 refine C_cond (x := true) rfl (fun _ => ?_) (fun h => by cases h)
 refine sr ?_
 refine O_p (.agg zHKAA ) (r_build rfl) ?_
 refine O_store (vs := zHKAA ) (c' := zHKAA ) rfl (by rfl) hH13.get0 rfl (List.cons_ne_nil _ _) (Nat.le_of_ble_eq_true rfl) rfl fun H14 hW15 => ?_
 have hH16 := hH13.wr0 hW15
 refine pv (.sl none 0 0 0) rfl ?_
 refine pv (.i .i64 1) rfl ?_
 refine O_nil ?_
 refine C_ret ?_
 refine nx_ret ?_
 have hcell := hH16.get0
 have hh : hear cs even k ppid b = .none 1 cs := by unfold hear; rw [hgd]; rw [if_pos hk]
 have hH17 := ((hH16.sub0).sub0)
 have hH18 := (((hH17.top2).top2).top2)
 rw [hh]
 exact ⟨.inr rfl, _, resL_cons (r_cellA rfl hcell rfl) (resL_cons (r_tmp (v := (.sl none 0 0 0)) rfl) (resL_one (r_tmp (v := (.i .i64 1)) rfl))), HearP.nil rfl rfl rfl hH18⟩
theorem rhear_c (hx : HC cs k B ppid da dc dg b) (hk : k < cs.length) (hp : ppid = 50) : HearEv 54 [] H T Lb cs even B R k un ppid da dc dg b := by
 obtain ⟨hk16, hcs, htB, dhg, hb, dhc, dhm, dfit⟩ := hx
 intro hH0
 refine Ev_C (F := x54) rfl ?_
 obtain ⟨c, hc⟩ := ex_at hk
 have hgd := getD_of hc
 try rw [hgd] at hs
 have hH1 := hH0.cong1 (seg_foc (n := Lb) (enc := Ch.row) hc)
 refine sr ?_
 refine O_box (z := [(.i .u16 ((k : Nat) : Int)), (.b un), (.i .u32 ppid), (.sl da b.length dc dg)]) rfl fun n2 H3 hN4 => ?_
 have hH5 := hH1.new hN4
 refine O_alloc fun n6 H7 hN8 => ?_
 have hH9 := hH5.new hN8
 refine pv (.sl none 0 0 0) rfl ?_
 refine pv (.i .i64 0) rfl ?_
 refine O_nil ?_
 refine C_seq ?_
 refine C_seq ?_
 refine C_draw fun b10 H11 hbase12 hA13 => ?_
 have hH14 := hH9.keep (by have := hA13.1; omega) (fun q _ => hA13.2 q) ((hH9.old).aside hA13).ok
 refine D_l (v := (.p (some (n2, 0)))) rfl rfl rfl (r_fadd' rfl rfl) ?_
 refine D_l (v := (.p (some (T, 0)))) rfl rfl rfl (r_mv rfl) ?_
 refine D_l (v := (.p (some (T, 0)))) rfl rfl rfl (r_nilc rfl) ?_
 refine D_l (v := (.p (some (T, 0)))) rfl rfl rfl (r_fadd' rfl rfl) ?_
 refine D_r (v := (.i .u16 ((k : Nat) : Int))) rfl rfl rfl (r_ld rfl hH14.get1 rfl) ?_
 refine D_l (v := (.i .i64 (((k : Nat)) : Int))) rfl rfl rfl (by exact (r_cint' rfl (wrap_i64 (by omega) (by omega)))) ?_
 refine D_r (v := (.sl (some (Lb, 0)) cs.length cs.length 0)) rfl rfl rfl (r_ld rfl hH14.get2 rfl) ?_
 refine D_l (v := (.i .i64 (((cs.length : Nat)) : Int))) rfl rfl rfl (r_len rfl) ?_
 refine D_l (v := (.b false)) rfl rfl rfl (by exact (by rw [r_geq rfl rfl, decide_eq_false (by omega)])) ?_
 refine D_nil ?_
 refine C_cond (x := false) rfl (fun h => by cases h) (fun _ => ?_)
 refine C_skip ?_
 refine C_seq ?_
 refine sr ?_
 refine pf (.p (some (n2, 2))) rfl rfl ?_
 refine O_p (.i .u32 ppid) (r_ld rfl hH14.get1 rfl) ?_
 refine O_p (.b true) (by exact (by rw [r_eql rfl rfl, decide_eq_true (by first | omega | assumption)])) ?_
 refine O_nil ?_
 refine C_cond (x := true) rfl (fun _ => ?_) (fun h => by cases h)
 refine sr ?_
 refine pv (.p (some (T, 0))) rfl ?_
 refine O_p (.agg [(.i .u16 ((k : Nat) : Int)), (.b un), (.i .u32 ppid), (.sl da b.length dc dg)]) (r_ldA rfl hH14.get1 rfl) ?_
 have hH15 := (Hs.cong3 hH14 (seg_foc (n := Lb) (enc := Ch.row) hc).symm)
 have hH16 := (((hH15.top4).top4).top4)
 refine O_call (Ev.mono (ropening_ev hk16 hcs hk htB un ppid dhg hb dhc dhm dfit hp hH16) fun v17 H18 hq19 => ?_)
 obtain ⟨ra, rn, rc, rg, rv, rq, rD, rfl, hrg, hrnc, hrcm, hrall, hrsq, hrH⟩ := hq19
 refine O_p (.agg [(.i .i64 (hear cs even k ppid b).ek), (.i .u16 (hear cs even k ppid b).ei), (.i .u8 (hear cs even k ppid b).ko), (.i .u16 (hear cs even k ppid b).po), (.i .u32 (hear cs even k ppid b).lo), (.s (txt (hear cs even k ppid b).ot)), (.s (txt (hear cs even k ppid b).oo)), (.b (hear cs even k ppid b).et), (.sl ra rn rc rg)]) (r_ext rfl rfl) ?_
 refine O_p rv (r_ext rfl rfl) ?_
 refine O_p (.i .i64 (hear cs even k ppid b).er) (r_ext rfl rfl) ?_
 refine O_store (vs := [(.i .i64 (hear cs even k ppid b).ek), (.i .u16 (hear cs even k ppid b).ei), (.i .u8 (hear cs even k ppid b).ko), (.i .u16 (hear cs even k ppid b).po), (.i .u32 (hear cs even k ppid b).lo), (.s (txt (hear cs even k ppid b).ot)), (.s (txt (hear cs even k ppid b).oo)), (.b (hear cs even k ppid b).et), (.sl ra rn rc rg)]) (c' := [(.i .i64 (hear cs even k ppid b).ek), (.i .u16 (hear cs even k ppid b).ei), (.i .u8 (hear cs even k ppid b).ko), (.i .u16 (hear cs even k ppid b).po), (.i .u32 (hear cs even k ppid b).lo), (.s (txt (hear cs even k ppid b).ot)), (.s (txt (hear cs even k ppid b).oo)), (.b (hear cs even k ppid b).et), (.sl ra rn rc rg)]) rfl (by rfl) hrH.get5 rfl (List.cons_ne_nil _ _) (Nat.le_of_ble_eq_true rfl) rfl fun H20 hW21 => ?_
 have hH22 := hrH.wr5 hW21
 refine pv rv rfl ?_
 refine pv (.i .i64 (hear cs even k ppid b).er) rfl ?_
 refine O_nil ?_
 refine C_ret ?_
 refine nx_ret ?_
 have hcell := hH22.get5
 have hH23 := ((hH22.sub5).sub5)
 have hH24 := (((((hH23.top4).top4).top4).top4).top4)
 exact ⟨.inr rfl, _, resL_cons (r_cellA rfl hcell rfl) (resL_cons (r_tmp (v := rv) rfl) (resL_one (r_tmp (v := (.i .i64 (hear cs even k ppid b).er)) rfl))), ra, rn, rc, rg, rv, rq, rD, rfl, hrg, hrnc, hrcm, hrall, hrsq, hH24⟩
theorem rhear_d0 (hx : HC cs k B ppid da dc dg b) (hk : k < cs.length) (hp : ¬ ppid = 50) (hs : (cs.getD k ch0).st = 0) : HearEv 54 [] H T Lb cs even B R k un ppid da dc dg b := by
 obtain ⟨hk16, hcs, htB, dhg, hb, dhc, dhm, dfit⟩ := hx
 intro hH0
 refine Ev_C (F := x54) rfl ?_
 obtain ⟨c, hc⟩ := ex_at hk
 have hgd := getD_of hc
 try rw [hgd] at hs
 have hH1 := hH0.cong1 (seg_foc (n := Lb) (enc := Ch.row) hc)
 refine sr ?_
 refine O_box (z := [(.i .u16 ((k : Nat) : Int)), (.b un), (.i .u32 ppid), (.sl da b.length dc dg)]) rfl fun n2 H3 hN4 => ?_
 have hH5 := hH1.new hN4
 refine O_alloc fun n6 H7 hN8 => ?_
 have hH9 := hH5.new hN8
 refine pv (.sl none 0 0 0) rfl ?_
 refine pv (.i .i64 0) rfl ?_
 refine O_nil ?_
 refine C_seq ?_
 refine C_seq ?_
 refine C_draw fun b10 H11 hbase12 hA13 => ?_
 have hH14 := hH9.keep (by have := hA13.1; omega) (fun q _ => hA13.2 q) ((hH9.old).aside hA13).ok
 refine D_l (v := (.p (some (n2, 0)))) rfl rfl rfl (r_fadd' rfl rfl) ?_
 refine D_l (v := (.p (some (T, 0)))) rfl rfl rfl (r_mv rfl) ?_
 refine D_l (v := (.p (some (T, 0)))) rfl rfl rfl (r_nilc rfl) ?_
 refine D_l (v := (.p (some (T, 0)))) rfl rfl rfl (r_fadd' rfl rfl) ?_
 refine D_r (v := (.i .u16 ((k : Nat) : Int))) rfl rfl rfl (r_ld rfl hH14.get1 rfl) ?_
 refine D_l (v := (.i .i64 (((k : Nat)) : Int))) rfl rfl rfl (by exact (r_cint' rfl (wrap_i64 (by omega) (by omega)))) ?_
 refine D_r (v := (.sl (some (Lb, 0)) cs.length cs.length 0)) rfl rfl rfl (r_ld rfl hH14.get2 rfl) ?_
 refine D_l (v := (.i .i64 (((cs.length : Nat)) : Int))) rfl rfl rfl (r_len rfl) ?_
 refine D_l (v := (.b false)) rfl rfl rfl (by exact (by rw [r_geq rfl rfl, decide_eq_false (by omega)])) ?_
 refine D_nil ?_
 refine C_cond (x := false) rfl (fun h => by cases h) (fun _ => ?_)
 refine C_skip ?_
 refine C_seq ?_
 refine sr ?_
 refine pf (.p (some (n2, 2))) rfl rfl ?_
 refine O_p (.i .u32 ppid) (r_ld rfl hH14.get1 rfl) ?_
 refine O_p (.b false) (by exact (by rw [r_eql rfl rfl, decide_eq_false (by first | omega | assumption)])) ?_
 refine O_nil ?_
 refine C_cond (x := false) rfl (fun h => by cases h) (fun _ => ?_)
 refine C_skip ?_
 refine C_seq ?_
 refine C_draw fun b15 H16 hbase17 hA18 => ?_
 have hH19 : Hs H16 (asideL b15 [9] ++ _) := hH14.aside hA18 [9] hbase17 rfl (by decide)
 have hH20 : Hs H16 ([(b15 + 9, none)] ++ _) := hH19
 refine D_l (v := (.p (some (T, 0)))) rfl rfl rfl (r_mv rfl) ?_
 refine D_l (v := (.p (some (T, 0)))) rfl rfl rfl (r_nilc rfl) ?_
 refine D_l (v := (.p (some (T, 0)))) rfl rfl rfl (r_fadd' rfl rfl) ?_
 refine D_l (v := (.p (some (n2, 0)))) rfl rfl rfl (r_fadd' rfl rfl) ?_
 refine D_r (v := (.sl (some (Lb, 0)) cs.length cs.length 0)) rfl rfl rfl (r_ld rfl hH20.get3 rfl) ?_
 refine D_r (v := (.i .u16 ((k : Nat) : Int))) rfl rfl rfl (r_ld rfl hH20.get2 rfl) ?_
 refine D_l (v := (.i .i64 (((k : Nat)) : Int))) rfl rfl rfl (by exact (r_cint' rfl (wrap_i64 (by omega) (by omega)))) ?_
 refine D_l (v := (.p (some (Lb, (k * 8 + 0))))) rfl rfl rfl (by exact (r_islr (b := Lb) (k := k) (len := cs.length) (cap := cs.length) (g := 0) rfl rfl (by omega))) ?_
 refine D_r (v := (.agg [(.i .i64 c.st), (.i .u8 c.kind), (.i .u16 c.prio), (.i .u32 c.limit), (.s (txt c.label)), (.s (txt c.proto)), (.b c.mine), (.b c.theirs)])) rfl rfl rfl (by exact (r_ldA rfl hH20.get4 ((foc_take (rows_map Ch.row_len cs) (by rw [List.length_map]; omega) rfl (by decide)).trans rfl))) ?_
 refine D_m (f := fun n => ((.p (some (n, 0))), .cells zHKAB  true)) rfl rfl fun H22 hW23 => ?_
 have hH25 := hH20.wr0 hW23
 generalize hn24 : b15 + 9 = n21 at hW23 hH25 ⊢
 refine And.intro (And.intro (Or.inr (look_run rfl rfl (r_ldA rfl hH25.get4 ((foc_take (rows_map Ch.row_len cs) (by rw [List.length_map]; omega) rfl (by decide)).trans rfl)))) (And.intro (Or.inr (look_run rfl rfl (r_ld rfl hH25.get2 rfl))) (And.intro (Or.inr (look_run rfl rfl (r_ld rfl hH25.get3 rfl))) True.intro))) ?_
 refine D_store (vs := [(.i .i64 c.st), (.i .u8 c.kind), (.i .u16 c.prio), (.i .u32 c.limit), (.s (txt c.label)), (.s (txt c.proto)), (.b c.mine), (.b c.theirs)]) (c' := [(.i .i64 c.st), (.i .u8 c.kind), (.i .u16 c.prio), (.i .u32 c.limit), (.s (txt c.label)), (.s (txt c.proto)), (.b c.mine), (.b c.theirs)]) rfl (by rfl) hH25.get0 rfl (List.cons_ne_nil _ _) (Nat.le_of_ble_eq_true rfl) rfl fun H26 hW27 => ?_
 have hH28 := hH25.wr0 hW27
 refine And.intro (And.intro (Or.inl rfl) (And.intro (Or.inl rfl) (And.intro (Or.inl rfl) True.intro))) ?_
 refine D_nil ?_
 refine C_seq ?_
 refine sr ?_
 refine pf (.p (some (n21, 0))) rfl rfl ?_
 refine O_p (.i .i64 c.st) (r_ld rfl hH28.get0 rfl) ?_
 refine O_p (.b true) (by exact (by rw [r_eql rfl rfl, decide_eq_true (by first | omega | assumption)])) ?_
 refine O_nil ?_
 refine C_cond (x := true) rfl (fun _ => ?_) (fun h => by cases h)
 refine sr ?_
 refine O_p (.agg zHKAA ) (r_build rfl) ?_
 refine O_store (vs := zHKAA ) (c' := zHKAA ) rfl (by rfl) hH28.get1 rfl (List.cons_ne_nil _ _) (Nat.le_of_ble_eq_true rfl) rfl fun H29 hW30 => ?_
 have hH31 := hH28.wr1 hW30
 refine pv (.sl none 0 0 0) rfl ?_
 refine pv (.i .i64 11) rfl ?_
 refine O_nil ?_
 refine C_ret ?_
 refine nx_ret ?_
 have hcell := hH31.get1
 have hh : hear cs even k ppid b = .none 11 cs := by unfold hear; rw [hgd]; rw [if_neg (by omega), if_neg hp, if_pos hs]
 have hH32 := (((hH31.sub0).sub0).sub0)
 have hH33 := (((hH32.top2).top2).top2)
 have hH34 := (Hs.cong1 hH33 (seg_foc (n := Lb) (enc := Ch.row) hc).symm)
 rw [hh]
 exact ⟨.inr rfl, _, resL_cons (r_cellA rfl hcell rfl) (resL_cons (r_tmp (v := (.sl none 0 0 0)) rfl) (resL_one (r_tmp (v := (.i .i64 11)) rfl))), HearP.nil rfl rfl rfl hH34⟩
theorem rhear_d1 (hx : HC cs k B ppid da dc dg b) (hk : k < cs.length) (hp : ¬ ppid = 50) (hs : ¬ (cs.getD k ch0).st = 0) (hu : uO ppid b = false) : HearEv 54 [] H T Lb cs even B R k un ppid da dc dg b := by
  obtain ⟨hk16, hcs, htB, dhg, hb, dhc, dhm, dfit⟩ := hx
  intro hH0
  refine Ev_C (F := x54) rfl ?_
  obtain ⟨c, hc⟩ := ex_at hk
  have hgd := getD_of hc
  try rw [hgd] at hs
  have hH1 := hH0.cong1 (seg_foc (n := Lb) (enc := Ch.row) hc)
  refine sr ?_
  refine O_box (z := [(.i .u16 ((k : Nat) : Int)), (.b un), (.i .u32 ppid), (.sl da b.length dc dg)]) rfl fun n2 H3 hN4 => ?_
  have hH5 := hH1.new hN4
  refine O_alloc fun n6 H7 hN8 => ?_
  have hH9 := hH5.new hN8
  refine pv (.sl none 0 0 0) rfl ?_
  refine pv (.i .i64 0) rfl ?_
  refine O_nil ?_
  refine C_seq ?_
  refine C_seq ?_
  refine C_draw fun b10 H11 hbase12 hA13 => ?_
  have hH14 := hH9.keep (by have := hA13.1; omega) (fun q _ => hA13.2 q) ((hH9.old).aside hA13).ok
  refine D_l (v := (.p (some (n2, 0)))) rfl rfl rfl (r_fadd' rfl rfl) ?_
  refine D_l (v := (.p (some (T, 0)))) rfl rfl rfl (r_mv rfl) ?_
  refine D_l (v := (.p (some (T, 0)))) rfl rfl rfl (r_nilc rfl) ?_
  refine D_l (v := (.p (some (T, 0)))) rfl rfl rfl (r_fadd' rfl rfl) ?_
  refine D_r (v := (.i .u16 ((k : Nat) : Int))) rfl rfl rfl (r_ld rfl hH14.get1 rfl) ?_
  refine D_l (v := (.i .i64 (((k : Nat)) : Int))) rfl rfl rfl (by exact (r_cint' rfl (wrap_i64 (by omega) (by omega)))) ?_
  refine D_r (v := (.sl (some (Lb, 0)) cs.length cs.length 0)) rfl rfl rfl (r_ld rfl hH14.get2 rfl) ?_
  refine D_l (v := (.i .i64 (((cs.length : Nat)) : Int))) rfl rfl rfl (r_len rfl) ?_
  refine D_l (v := (.b false)) rfl rfl rfl (by exact (by rw [r_geq rfl rfl, decide_eq_false (by omega)])) ?_
  refine D_nil ?_
  refine C_cond (x := false) rfl (fun h => by cases h) (fun _ => ?_)
  refine C_skip ?_
  refine C_seq ?_
  refine sr ?_
  refine pf (.p (some (n2, 2))) rfl rfl ?_
  refine O_p (.i .u32 ppid) (r_ld rfl hH14.get1 rfl) ?_
  refine O_p (.b false) (by exact (by rw [r_eql rfl rfl, decide_eq_false (by first | omega | assumption)])) ?_
  refine O_nil ?_
  refine C_cond (x := false) rfl (fun h => by cases h) (fun _ => ?_)
  refine C_skip ?_
  refine C_seq ?_
  refine C_draw fun b15 H16 hbase17 hA18 => ?_
  have hH19 : Hs H16 (asideL b15 [9] ++ _) := hH14.aside hA18 [9] hbase17 rfl (by decide)
  have hH20 : Hs H16 ([(b15 + 9, none)] ++ _) := hH19
  refine D_l (v := (.p (some (T, 0)))) rfl rfl rfl (r_mv rfl) ?_
  refine D_l (v := (.p (some (T, 0)))) rfl rfl rfl (r_nilc rfl) ?_
  refine D_l (v := (.p (some (T, 0)))) rfl rfl rfl (r_fadd' rfl rfl) ?_
  refine D_l (v := (.p (some (n2, 0)))) rfl rfl rfl (r_fadd' rfl rfl) ?_
  refine D_r (v := (.sl (some (Lb, 0)) cs.length cs.length 0)) rfl rfl rfl (r_ld rfl hH20.get3 rfl) ?_
  refine D_r (v := (.i .u16 ((k : Nat) : Int))) rfl rfl rfl (r_ld rfl hH20.get2 rfl) ?_
  refine D_l (v := (.i .i64 (((k : Nat)) : Int))) rfl rfl rfl (by exact (r_cint' rfl (wrap_i64 (by omega) (by omega)))) ?_
  refine D_l (v := (.p (some (Lb, (k * 8 + 0))))) rfl rfl rfl (by exact (r_islr (b := Lb) (k := k) (len := cs.length) (cap := cs.length) (g := 0) rfl rfl (by omega))) ?_
  refine D_r (v := (.agg [(.i .i64 c.st), (.i .u8 c.kind), (.i .u16 c.prio), (.i .u32 c.limit), (.s (txt c.label)), (.s (txt c.proto)), (.b c.mine), (.b c.theirs)])) rfl rfl rfl (by exact (r_ldA rfl hH20.get4 ((foc_take (rows_map Ch.row_len cs) (by rw [List.length_map]; omega) rfl (by decide)).trans rfl))) ?_
  refine D_m (f := fun n => ((.p (some (n, 0))), .cells zHKAB  true)) rfl rfl fun H22 hW23 => ?_
  have hH25 := hH20.wr0 hW23
  generalize hn24 : b15 + 9 = n21 at hW23 hH25 ⊢
  refine And.intro (And.intro (Or.inr (look_run rfl rfl (r_ldA rfl hH25.get4 ((foc_take (rows_map Ch.row_len cs) (by rw [List.length_map]; omega) rfl (by decide)).trans rfl)))) (And.intro (Or.inr (look_run rfl rfl (r_ld rfl hH25.get2 rfl))) (And.intro (Or.inr (look_run rfl rfl (r_ld rfl hH25.get3 rfl))) True.intro))) ?_
  refine D_store (vs := [(.i .i64 c.st), (.i .u8 c.kind), (.i .u16 c.prio), (.i .u32 c.limit), (.s (txt c.label)), (.s (txt c.proto)), (.b c.mine), (.b c.theirs)]) (c' := [(.i .i64 c.st), (.i .u8 c.kind), (.i .u16 c.prio), (.i .u32 c.limit), (.s (txt c.label)), (.s (txt c.proto)), (.b c.mine), (.b c.theirs)]) rfl (by rfl) hH25.get0 rfl (List.cons_ne_nil _ _) (Nat.le_of_ble_eq_true rfl) rfl fun H26 hW27 => ?_
  have hH28 := hH25.wr0 hW27
  refine And.intro (And.intro (Or.inl rfl) (And.intro (Or.inl rfl) (And.intro (Or.inl rfl) True.intro))) ?_
  refine D_nil ?_
  refine C_seq ?_
  refine sr ?_
  refine pf (.p (some (n21, 0))) rfl rfl ?_
  refine O_p (.i .i64 c.st) (r_ld rfl hH28.get0 rfl) ?_
  refine O_p (.b false) (by exact (by rw [r_eql rfl rfl, decide_eq_false (by first | omega | assumption)])) ?_
  refine O_nil ?_
  refine C_cond (x := false) rfl (fun h => by cases h) (fun _ => ?_)
  refine C_skip ?_
  refine sr ?_
  refine pf (.p (some (n2, 2))) rfl rfl ?_
  refine O_p (.i .u32 ppid) (r_ld rfl hH28.get2 rfl) ?_
  refine pf (.p (some (n2, 3))) rfl rfl ?_
  refine O_p (.sl da b.length dc dg) (r_ld rfl hH28.get2 rfl) ?_
  refine O_call (Ev.mono (runw_ev hH28.ok ppid dhg (hb _ hH28.top5.fst) dhc dhm) fun v29 H30 hq31 => ?_)
  rw [hu] at hq31
  obtain ⟨uv, rfl, huor, huK⟩ := hq31
  have hH32 := (hH28.kp huK)
  obtain ⟨ua, un', uc, ug, rfl, hug, hunc, hucm, huall⟩ : ∃ a n c g, uv = .sl a n c g ∧ (g = 0 ∨ g = 1) ∧ n ≤ c ∧ c ≤ 9223372036854775807 ∧ ∀ H'', Hs H'' B → Bs H'' (.sl a n c g) (uB ppid b) := by
    rcases huor with ⟨rfl, e⟩ | ⟨rfl, e⟩
    · exact ⟨_, _, _, _, rfl, dhg, dhc, dhm, fun H h => by rw [e]; exact hb H h⟩
    · exact ⟨_, _, _, _, rfl, .inl rfl, Nat.le_refl _, by omega, fun _ _ => by rw [e]; exact .nil⟩
  refine pv (.tup [(.b (uT ppid b)), (.sl ua un' uc ug), (.b false)]) rfl ?_
  refine O_p (.b (uT ppid b)) (r_ext rfl rfl) ?_
  refine O_p (.sl ua un' uc ug) (r_ext rfl rfl) ?_
  refine O_p (.b false) (r_ext rfl rfl) ?_
  refine pv (.b (uT ppid b)) rfl ?_
  refine pv (.sl ua un' uc ug) rfl ?_
  refine pv (.b false) rfl ?_
  refine O_nil ?_
  refine C_seq ?_
  refine sr ?_
  refine pv (.b false) rfl ?_
  refine O_p (.b true) (r_un rfl rfl) ?_
  refine O_nil ?_
  refine C_cond (x := true) rfl (fun _ => ?_) (fun h => by cases h)
  refine sr ?_
  refine O_p (.agg zHKAA ) (r_build rfl) ?_
  refine O_store (vs := zHKAA ) (c' := zHKAA ) rfl (by rfl) hH32.get1 rfl (List.cons_ne_nil _ _) (Nat.le_of_ble_eq_true rfl) rfl fun H33 hW34 => ?_
  have hH35 := hH32.wr1 hW34
  refine pv (.sl none 0 0 0) rfl ?_
  refine pv (.i .i64 3) rfl ?_
  refine O_nil ?_
  refine C_ret ?_
  refine nx_ret ?_
  have hcell := hH35.get1
  have hh : hear cs even k ppid b = .none 3 cs := by unfold hear; rw [hgd]; rw [if_neg (by omega), if_neg hp, if_neg hs, if_pos hu]
  have hH36 := (((hH35.sub0).sub0).sub0)
  have hH37 := (((hH36.top2).top2).top2)
  have hH38 := (Hs.cong1 hH37 (seg_foc (n := Lb) (enc := Ch.row) hc).symm)
  rw [hh]
  exact ⟨.inr rfl, _, resL_cons (r_cellA rfl hcell rfl) (resL_cons (r_tmp (v := (.sl none 0 0 0)) rfl) (resL_one (r_tmp (v := (.i .i64 3)) rfl))), HearP.nil rfl rfl rfl hH38⟩
theorem rhear_d2 (hx : HC cs k B ppid da dc dg b) (hk : k < cs.length) (hp : ¬ ppid = 50) (hs : (cs.getD k ch0).st = 3) (hu : uO ppid b = true) : HearEv 54 [] H T Lb cs even B R k un ppid da dc dg b := by
  obtain ⟨hk16, hcs, htB, dhg, hb, dhc, dhm, dfit⟩ := hx
  intro hH0
  refine Ev_C (F := x54) rfl ?_
  obtain ⟨c, hc⟩ := ex_at hk
  have hgd := getD_of hc
  try rw [hgd] at hs
  have hH1 := hH0.cong1 (seg_foc (n := Lb) (enc := Ch.row) hc)
  refine sr ?_
  refine O_box (z := [(.i .u16 ((k : Nat) : Int)), (.b un), (.i .u32 ppid), (.sl da b.length dc dg)]) rfl fun n2 H3 hN4 => ?_
  have hH5 := hH1.new hN4
  refine O_alloc fun n6 H7 hN8 => ?_
  have hH9 := hH5.new hN8
  refine pv (.sl none 0 0 0) rfl ?_
  refine pv (.i .i64 0) rfl ?_
  refine O_nil ?_
  refine C_seq ?_
  refine C_seq ?_
  refine C_draw fun b10 H11 hbase12 hA13 => ?_
  have hH14 := hH9.keep (by have := hA13.1; omega) (fun q _ => hA13.2 q) ((hH9.old).aside hA13).ok
  refine D_l (v := (.p (some (n2, 0)))) rfl rfl rfl (r_fadd' rfl rfl) ?_
  refine D_l (v := (.p (some (T, 0)))) rfl rfl rfl (r_mv rfl) ?_
  refine D_l (v := (.p (some (T, 0)))) rfl rfl rfl (r_nilc rfl) ?_
  refine D_l (v := (.p (some (T, 0)))) rfl rfl rfl (r_fadd' rfl rfl) ?_
  refine D_r (v := (.i .u16 ((k : Nat) : Int))) rfl rfl rfl (r_ld rfl hH14.get1 rfl) ?_
  refine D_l (v := (.i .i64 (((k : Nat)) : Int))) rfl rfl rfl (by exact (r_cint' rfl (wrap_i64 (by omega) (by omega)))) ?_
  refine D_r (v := (.sl (some (Lb, 0)) cs.length cs.length 0)) rfl rfl rfl (r_ld rfl hH14.get2 rfl) ?_
  refine D_l (v := (.i .i64 (((cs.length : Nat)) : Int))) rfl rfl rfl (r_len rfl) ?_
  refine D_l (v := (.b false)) rfl rfl rfl (by exact (by rw [r_geq rfl rfl, decide_eq_false (by omega)])) ?_
  refine D_nil ?_
  refine C_cond (x := false) rfl (fun h => by cases h) (fun _ => ?_)
  refine C_skip ?_
  refine C_seq ?_
  refine sr ?_
  refine pf (.p (some (n2, 2))) rfl rfl ?_
  refine O_p (.i .u32 ppid) (r_ld rfl hH14.get1 rfl) ?_
  refine O_p (.b false) (by exact (by rw [r_eql rfl rfl, decide_eq_false (by first | omega | assumption)])) ?_
  refine O_nil ?_
  refine C_cond (x := false) rfl (fun h => by cases h) (fun _ => ?_)
  refine C_skip ?_
  refine C_seq ?_
  refine C_draw fun b15 H16 hbase17 hA18 => ?_
  have hH19 : Hs H16 (asideL b15 [9] ++ _) := hH14.aside hA18 [9] hbase17 rfl (by decide)
  have hH20 : Hs H16 ([(b15 + 9, none)] ++ _) := hH19
  refine D_l (v := (.p (some (T, 0)))) rfl rfl rfl (r_mv rfl) ?_
  refine D_l (v := (.p (some (T, 0)))) rfl rfl rfl (r_nilc rfl) ?_
  refine D_l (v := (.p (some (T, 0)))) rfl rfl rfl (r_fadd' rfl rfl) ?_
  refine D_l (v := (.p (some (n2, 0)))) rfl rfl rfl (r_fadd' rfl rfl) ?_
  refine D_r (v := (.sl (some (Lb, 0)) cs.length cs.length 0)) rfl rfl rfl (r_ld rfl hH20.get3 rfl) ?_
  refine D_r (v := (.i .u16 ((k : Nat) : Int))) rfl rfl rfl (r_ld rfl hH20.get2 rfl) ?_
  refine D_l (v := (.i .i64 (((k : Nat)) : Int))) rfl rfl rfl (by exact (r_cint' rfl (wrap_i64 (by omega) (by omega)))) ?_
  refine D_l (v := (.p (some (Lb, (k * 8 + 0))))) rfl rfl rfl (by exact (r_islr (b := Lb) (k := k) (len := cs.length) (cap := cs.length) (g := 0) rfl rfl (by omega))) ?_
  refine D_r (v := (.agg [(.i .i64 c.st), (.i .u8 c.kind), (.i .u16 c.prio), (.i .u32 c.limit), (.s (txt c.label)), (.s (txt c.proto)), (.b c.mine), (.b c.theirs)])) rfl rfl rfl (by exact (r_ldA rfl hH20.get4 ((foc_take (rows_map Ch.row_len cs) (by rw [List.length_map]; omega) rfl (by decide)).trans rfl))) ?_
  refine D_m (f := fun n => ((.p (some (n, 0))), .cells zHKAB  true)) rfl rfl fun H22 hW23 => ?_
  have hH25 := hH20.wr0 hW23
  generalize hn24 : b15 + 9 = n21 at hW23 hH25 ⊢
  refine And.intro (And.intro (Or.inr (look_run rfl rfl (r_ldA rfl hH25.get4 ((foc_take (rows_map Ch.row_len cs) (by rw [List.length_map]; omega) rfl (by decide)).trans rfl)))) (And.intro (Or.inr (look_run rfl rfl (r_ld rfl hH25.get2 rfl))) (And.intro (Or.inr (look_run rfl rfl (r_ld rfl hH25.get3 rfl))) True.intro))) ?_
  refine D_store (vs := [(.i .i64 c.st), (.i .u8 c.kind), (.i .u16 c.prio), (.i .u32 c.limit), (.s (txt c.label)), (.s (txt c.proto)), (.b c.mine), (.b c.theirs)]) (c' := [(.i .i64 c.st), (.i .u8 c.kind), (.i .u16 c.prio), (.i .u32 c.limit), (.s (txt c.label)), (.s (txt c.proto)), (.b c.mine), (.b c.theirs)]) rfl (by rfl) hH25.get0 rfl (List.cons_ne_nil _ _) (Nat.le_of_ble_eq_true rfl) rfl fun H26 hW27 => ?_
  have hH28 := hH25.wr0 hW27
  refine And.intro (And.intro (Or.inl rfl) (And.intro (Or.inl rfl) (And.intro (Or.inl rfl) True.intro))) ?_
  refine D_nil ?_
  refine C_seq ?_
  refine sr ?_
  refine pf (.p (some (n21, 0))) rfl rfl ?_
  refine O_p (.i .i64 c.st) (r_ld rfl hH28.get0 rfl) ?_
  refine O_p (.b false) (by exact (by rw [r_eql rfl rfl, decide_eq_false (by first | omega | assumption)])) ?_
  refine O_nil ?_
  refine C_cond (x := false) rfl (fun h => by cases h) (fun _ => ?_)
  refine C_skip ?_
  refine sr ?_
  refine pf (.p (some (n2, 2))) rfl rfl ?_
  refine O_p (.i .u32 ppid) (r_ld rfl hH28.get2 rfl) ?_
  refine pf (.p (some (n2, 3))) rfl rfl ?_
  refine O_p (.sl da b.length dc dg) (r_ld rfl hH28.get2 rfl) ?_
  refine O_call (Ev.mono (runw_ev hH28.ok ppid dhg (hb _ hH28.top5.fst) dhc dhm) fun v29 H30 hq31 => ?_)
  rw [hu] at hq31
  obtain ⟨uv, rfl, huor, huK⟩ := hq31
  have hH32 := (hH28.kp huK)
  obtain ⟨ua, un', uc, ug, rfl, hug, hunc, hucm, huall⟩ : ∃ a n c g, uv = .sl a n c g ∧ (g = 0 ∨ g = 1) ∧ n ≤ c ∧ c ≤ 9223372036854775807 ∧ ∀ H'', Hs H'' B → Bs H'' (.sl a n c g) (uB ppid b) := by
    rcases huor with ⟨rfl, e⟩ | ⟨rfl, e⟩
    · exact ⟨_, _, _, _, rfl, dhg, dhc, dhm, fun H h => by rw [e]; exact hb H h⟩
    · exact ⟨_, _, _, _, rfl, .inl rfl, Nat.le_refl _, by omega, fun _ _ => by rw [e]; exact .nil⟩
  refine pv (.tup [(.b (uT ppid b)), (.sl ua un' uc ug), (.b true)]) rfl ?_
  refine O_p (.b (uT ppid b)) (r_ext rfl rfl) ?_
  refine O_p (.sl ua un' uc ug) (r_ext rfl rfl) ?_
  refine O_p (.b true) (r_ext rfl rfl) ?_
  refine pv (.b (uT ppid b)) rfl ?_
  refine pv (.sl ua un' uc ug) rfl ?_
  refine pv (.b true) rfl ?_
  refine O_nil ?_
  refine C_seq ?_
  refine sr ?_
  refine pv (.b true) rfl ?_
  refine O_p (.b false) (r_un rfl rfl) ?_
  refine O_nil ?_
  refine C_cond (x := false) rfl (fun h => by cases h) (fun _ => ?_)
  refine C_skip ?_
  refine C_seq ?_
  refine sr ?_
  refine pf (.p (some (n21, 0))) rfl rfl ?_
  refine O_p (.i .i64 c.st) (r_ld rfl hH32.get0 rfl) ?_
  refine O_p (.b true) (by exact (by rw [r_eql rfl rfl, decide_eq_true (by first | omega | assumption)])) ?_
  refine O_nil ?_
  refine C_cond (x := true) rfl (fun _ => ?_) (fun h => by cases h)
  refine sr ?_
  refine O_p (.agg zHKAA ) (r_build rfl) ?_
  refine O_store (vs := zHKAA ) (c' := zHKAA ) rfl (by rfl) hH32.get1 rfl (List.cons_ne_nil _ _) (Nat.le_of_ble_eq_true rfl) rfl fun H33 hW34 => ?_
  have hH35 := hH32.wr1 hW34
  refine pv (.sl none 0 0 0) rfl ?_
  refine pv (.i .i64 0) rfl ?_
  refine O_nil ?_
  refine C_ret ?_
  refine nx_ret ?_
  have hcell := hH35.get1
  have hh : hear cs even k ppid b = .none 0 cs := by unfold hear; rw [hgd]; rw [if_neg (by omega), if_neg hp, if_neg (by omega), if_neg (by rw [hu]; decide), if_pos hs]
  have hH36 := (((hH35.sub0).sub0).sub0)
  have hH37 := (((hH36.top2).top2).top2)
  have hH38 := (Hs.cong1 hH37 (seg_foc (n := Lb) (enc := Ch.row) hc).symm)
  rw [hh]
  exact ⟨.inr rfl, _, resL_cons (r_cellA rfl hcell rfl) (resL_cons (r_tmp (v := (.sl none 0 0 0)) rfl) (resL_one (r_tmp (v := (.i .i64 0)) rfl))), HearP.nil rfl rfl rfl hH38⟩
theorem rhear_d3 (hx : HC cs k B ppid da dc dg b) (hk : k < cs.length) (hp : ¬ ppid = 50) (hs : ¬ ((cs.getD k ch0).st = 0 ∨ (cs.getD k ch0).st = 3)) (hu : uO ppid b = true) : HearEv 54 [] H T Lb cs even B R k un ppid da dc dg b := by
  obtain ⟨hk16, hcs, htB, dhg, hb, dhc, dhm, dfit⟩ := hx
  intro hH0
  refine Ev_C (F := x54) rfl ?_
  obtain ⟨c, hc⟩ := ex_at hk
  have hgd := getD_of hc
  try rw [hgd] at hs
  have hH1 := hH0.cong1 (seg_foc (n := Lb) (enc := Ch.row) hc)
  refine sr ?_
  refine O_box (z := [(.i .u16 ((k : Nat) : Int)), (.b un), (.i .u32 ppid), (.sl da b.length dc dg)]) rfl fun n2 H3 hN4 => ?_
  have hH5 := hH1.new hN4
  refine O_alloc fun n6 H7 hN8 => ?_
  have hH9 := hH5.new hN8
  refine pv (.sl none 0 0 0) rfl ?_
  refine pv (.i .i64 0) rfl ?_
  refine O_nil ?_
  refine C_seq ?_
  refine C_seq ?_
  refine C_draw fun b10 H11 hbase12 hA13 => ?_
  have hH14 := hH9.keep (by have := hA13.1; omega) (fun q _ => hA13.2 q) ((hH9.old).aside hA13).ok
  refine D_l (v := (.p (some (n2, 0)))) rfl rfl rfl (r_fadd' rfl rfl) ?_
  refine D_l (v := (.p (some (T, 0)))) rfl rfl rfl (r_mv rfl) ?_
  refine D_l (v := (.p (some (T, 0)))) rfl rfl rfl (r_nilc rfl) ?_
  refine D_l (v := (.p (some (T, 0)))) rfl rfl rfl (r_fadd' rfl rfl) ?_
  refine D_r (v := (.i .u16 ((k : Nat) : Int))) rfl rfl rfl (r_ld rfl hH14.get1 rfl) ?_
  refine D_l (v := (.i .i64 (((k : Nat)) : Int))) rfl rfl rfl (by exact (r_cint' rfl (wrap_i64 (by omega) (by omega)))) ?_
  refine D_r (v := (.sl (some (Lb, 0)) cs.length cs.length 0)) rfl rfl rfl (r_ld rfl hH14.get2 rfl) ?_
  refine D_l (v := (.i .i64 (((cs.length : Nat)) : Int))) rfl rfl rfl (r_len rfl) ?_
  refine D_l (v := (.b false)) rfl rfl rfl (by exact (by rw [r_geq rfl rfl, decide_eq_false (by omega)])) ?_
  refine D_nil ?_
  refine C_cond (x := false) rfl (fun h => by cases h) (fun _ => ?_)
  refine C_skip ?_
  refine C_seq ?_
  refine sr ?_
  refine pf (.p (some (n2, 2))) rfl rfl ?_
  refine O_p (.i .u32 ppid) (r_ld rfl hH14.get1 rfl) ?_
  refine O_p (.b false) (by exact (by rw [r_eql rfl rfl, decide_eq_false (by first | omega | assumption)])) ?_
  refine O_nil ?_
  refine C_cond (x := false) rfl (fun h => by cases h) (fun _ => ?_)
  refine C_skip ?_
  refine C_seq ?_
  refine C_draw fun b15 H16 hbase17 hA18 => ?_
  have hH19 : Hs H16 (asideL b15 [9] ++ _) := hH14.aside hA18 [9] hbase17 rfl (by decide)
  have hH20 : Hs H16 ([(b15 + 9, none)] ++ _) := hH19
  refine D_l (v := (.p (some (T, 0)))) rfl rfl rfl (r_mv rfl) ?_
  refine D_l (v := (.p (some (T, 0)))) rfl rfl rfl (r_nilc rfl) ?_
  refine D_l (v := (.p (some (T, 0)))) rfl rfl rfl (r_fadd' rfl rfl) ?_
  refine D_l (v := (.p (some (n2, 0)))) rfl rfl rfl (r_fadd' rfl rfl) ?_
  refine D_r (v := (.sl (some (Lb, 0)) cs.length cs.length 0)) rfl rfl rfl (r_ld rfl hH20.get3 rfl) ?_
  refine D_r (v := (.i .u16 ((k : Nat) : Int))) rfl rfl rfl (r_ld rfl hH20.get2 rfl) ?_
  refine D_l (v := (.i .i64 (((k : Nat)) : Int))) rfl rfl rfl (by exact (r_cint' rfl (wrap_i64 (by omega) (by omega)))) ?_
  refine D_l (v := (.p (some (Lb, (k * 8 + 0))))) rfl rfl rfl (by exact (r_islr (b := Lb) (k := k) (len := cs.length) (cap := cs.length) (g := 0) rfl rfl (by omega))) ?_
  refine D_r (v := (.agg [(.i .i64 c.st), (.i .u8 c.kind), (.i .u16 c.prio), (.i .u32 c.limit), (.s (txt c.label)), (.s (txt c.proto)), (.b c.mine), (.b c.theirs)])) rfl rfl rfl (by exact (r_ldA rfl hH20.get4 ((foc_take (rows_map Ch.row_len cs) (by rw [List.length_map]; omega) rfl (by decide)).trans rfl))) ?_
  refine D_m (f := fun n => ((.p (some (n, 0))), .cells zHKAB  true)) rfl rfl fun H22 hW23 => ?_
  have hH25 := hH20.wr0 hW23
  generalize hn24 : b15 + 9 = n21 at hW23 hH25 ⊢
  refine And.intro (And.intro (Or.inr (look_run rfl rfl (r_ldA rfl hH25.get4 ((foc_take (rows_map Ch.row_len cs) (by rw [List.length_map]; omega) rfl (by decide)).trans rfl)))) (And.intro (Or.inr (look_run rfl rfl (r_ld rfl hH25.get2 rfl))) (And.intro (Or.inr (look_run rfl rfl (r_ld rfl hH25.get3 rfl))) True.intro))) ?_
  refine D_store (vs := [(.i .i64 c.st), (.i .u8 c.kind), (.i .u16 c.prio), (.i .u32 c.limit), (.s (txt c.label)), (.s (txt c.proto)), (.b c.mine), (.b c.theirs)]) (c' := [(.i .i64 c.st), (.i .u8 c.kind), (.i .u16 c.prio), (.i .u32 c.limit), (.s (txt c.label)), (.s (txt c.proto)), (.b c.mine), (.b c.theirs)]) rfl (by rfl) hH25.get0 rfl (List.cons_ne_nil _ _) (Nat.le_of_ble_eq_true rfl) rfl fun H26 hW27 => ?_
  have hH28 := hH25.wr0 hW27
  refine And.intro (And.intro (Or.inl rfl) (And.intro (Or.inl rfl) (And.intro (Or.inl rfl) True.intro))) ?_
  refine D_nil ?_
  refine C_seq ?_
  refine sr ?_
  refine pf (.p (some (n21, 0))) rfl rfl ?_
  refine O_p (.i .i64 c.st) (r_ld rfl hH28.get0 rfl) ?_
  refine O_p (.b false) (by exact (by rw [r_eql rfl rfl, decide_eq_false (by first | omega | assumption)])) ?_
  refine O_nil ?_
  refine C_cond (x := false) rfl (fun h => by cases h) (fun _ => ?_)
  refine C_skip ?_
  refine sr ?_
  refine pf (.p (some (n2, 2))) rfl rfl ?_
  refine O_p (.i .u32 ppid) (r_ld rfl hH28.get2 rfl) ?_
  refine pf (.p (some (n2, 3))) rfl rfl ?_
  refine O_p (.sl da b.length dc dg) (r_ld rfl hH28.get2 rfl) ?_
  refine O_call (Ev.mono (runw_ev hH28.ok ppid dhg (hb _ hH28.top5.fst) dhc dhm) fun v29 H30 hq31 => ?_)
  rw [hu] at hq31
  obtain ⟨uv, rfl, huor, huK⟩ := hq31
  have hH32 := (hH28.kp huK)
  obtain ⟨ua, un', uc, ug, rfl, hug, hunc, hucm, huall⟩ : ∃ a n c g, uv = .sl a n c g ∧ (g = 0 ∨ g = 1) ∧ n ≤ c ∧ c ≤ 9223372036854775807 ∧ ∀ H'', Hs H'' B → Bs H'' (.sl a n c g) (uB ppid b) := by
    rcases huor with ⟨rfl, e⟩ | ⟨rfl, e⟩
    · exact ⟨_, _, _, _, rfl, dhg, dhc, dhm, fun H h => by rw [e]; exact hb H h⟩
    · exact ⟨_, _, _, _, rfl, .inl rfl, Nat.le_refl _, by omega, fun _ _ => by rw [e]; exact .nil⟩
  refine pv (.tup [(.b (uT ppid b)), (.sl ua un' uc ug), (.b true)]) rfl ?_
  refine O_p (.b (uT ppid b)) (r_ext rfl rfl) ?_
  refine O_p (.sl ua un' uc ug) (r_ext rfl rfl) ?_
  refine O_p (.b true) (r_ext rfl rfl) ?_
  refine pv (.b (uT ppid b)) rfl ?_
  refine pv (.sl ua un' uc ug) rfl ?_
  refine pv (.b true) rfl ?_
  refine O_nil ?_
  refine C_seq ?_
  refine sr ?_
  refine pv (.b true) rfl ?_
  refine O_p (.b false) (r_un rfl rfl) ?_
  refine O_nil ?_
  refine C_cond (x := false) rfl (fun h => by cases h) (fun _ => ?_)
  refine C_skip ?_
  refine C_seq ?_
  refine sr ?_
  refine pf (.p (some (n21, 0))) rfl rfl ?_
  refine O_p (.i .i64 c.st) (r_ld rfl hH32.get0 rfl) ?_
  refine O_p (.b false) (by exact (by rw [r_eql rfl rfl, decide_eq_false (by first | omega | assumption)])) ?_
  refine O_nil ?_
  refine C_cond (x := false) rfl (fun h => by cases h) (fun _ => ?_)
  refine C_skip ?_
  refine sr ?_
  refine pf (.p (some (n2, 0))) rfl rfl ?_
  refine O_p (.i .u16 ((k : Nat) : Int)) (r_ld rfl hH32.get2 rfl) ?_
  refine pv (.b (uT ppid b)) rfl ?_
  refine pv (.sl ua un' uc ug) rfl ?_
  refine O_p (.agg [(.i .i64 3), (.i .u16 ((k : Nat) : Int)), (.i .u8 0), (.i .u16 0), (.i .u32 0), (.s ⟨#[]⟩), (.s ⟨#[]⟩), (.b (uT ppid b)), (.sl ua un' uc ug)]) (r_build rfl) ?_
  refine O_store (vs := [(.i .i64 3), (.i .u16 ((k : Nat) : Int)), (.i .u8 0), (.i .u16 0), (.i .u32 0), (.s ⟨#[]⟩), (.s ⟨#[]⟩), (.b (uT ppid b)), (.sl ua un' uc ug)]) (c' := [(.i .i64 3), (.i .u16 ((k : Nat) : Int)), (.i .u8 0), (.i .u16 0), (.i .u32 0), (.s ⟨#[]⟩), (.s ⟨#[]⟩), (.b (uT ppid b)), (.sl ua un' uc ug)]) rfl (by rfl) hH32.get1 rfl (List.cons_ne_nil _ _) (Nat.le_of_ble_eq_true rfl) rfl fun H33 hW34 => ?_
  have hH35 := hH32.wr1 hW34
  refine pv (.sl none 0 0 0) rfl ?_
  refine pv (.i .i64 0) rfl ?_
  refine O_nil ?_
  refine C_ret ?_
  have hcell := hH35.get1
  have hh : hear cs even k ppid b = ⟨3, k, 0, 0, 0, [], [], uT ppid b, uB ppid b, [], 0, cs⟩ := by unfold hear; rw [hgd]; rw [if_neg (by omega), if_neg hp, if_neg (by omega), if_neg (by rw [hu]; decide), if_neg (by omega)]
  have hH36 := (((hH35.sub0).sub0).sub0)
  have hH37 := (((hH36.top2).top2).top2)
  have hH38 := (Hs.cong1 hH37 (seg_foc (n := Lb) (enc := Ch.row) hc).symm)
  rw [hh]
  exact ⟨.inr rfl, _, resL_cons (r_cellA rfl hcell rfl) (resL_cons (r_tmp (v := (.sl none 0 0 0)) rfl) (resL_one (r_tmp (v := (.i .i64 0)) rfl))), _, _, _, _, _, [], [], rfl, hug, hunc, hucm, fun _ h => huall _ h, .nil, hH38⟩
end
theorem hear_ev {H : AH} {T Lb : Nat} {cs : List Ch} {even : Bool} {B R : HL} {k : Nat} (hk16 : k < 65536) (hcs : cs.length ≤ 64) (htB : ∀ H', Hs H' B → Tb H') (un : Bool) (ppid : Int) {da : Option (Nat × Nat)} {dc dg : Nat} (dhg : dg = 0 ∨ dg = 1) {b : List UInt8} (hb : ∀ H', Hs H' B → Bs H' (.sl da b.length dc dg) b) (dhc : b.length ≤ dc) (dhm : dc ≤ 9223372036854775807) (dfit : b.length ≤ 1073741824) (hH0 : Hs H ([(T, some (.cells [.sl (some (Lb, 0)) cs.length cs.length 0, .b even] true))] ++ ([(Lb, some (.cells ((cs).map Ch.row).flatten true))] ++ (B ++ R)))) : Ev tabV spV (.fn (.func 35) [] []) [.p (some (T, 0)), .agg [.i .u16 k, .b un, .i .u32 ppid, .sl da b.length dc dg]] H (fun r H' => HearP T Lb even B R (hear cs even k ppid b) r H') := by
  by_cases hk : k < cs.length
  · by_cases hp : ppid = 50
    · by_cases hb2 : b = [2]
      · by_cases h0 : (cs.getD k ch0).st = 0
        · exact hear_b0 ⟨hk16, hcs, htB, dhg, hb, dhc, dhm, dfit⟩ hk hp hb2 h0 hH0
        · by_cases h1 : (cs.getD k ch0).st = 1
          · exact hear_b1 ⟨hk16, hcs, htB, dhg, hb, dhc, dhm, dfit⟩ hk hp hb2 h1 hH0
          · exact hear_b2 ⟨hk16, hcs, htB, dhg, hb, dhc, dhm, dfit⟩ hk hp hb2 (by omega) hH0
      · exact hear_c ⟨hk16, hcs, htB, dhg, hb, dhc, dhm, dfit⟩ hk hp hb2 hH0
    · by_cases h0 : (cs.getD k ch0).st = 0
      · exact hear_d0 ⟨hk16, hcs, htB, dhg, hb, dhc, dhm, dfit⟩ hk hp h0 hH0
      · cases hu : uO ppid b
        · exact hear_d1 ⟨hk16, hcs, htB, dhg, hb, dhc, dhm, dfit⟩ hk hp h0 hu hH0
        · by_cases h3 : (cs.getD k ch0).st = 3
          · exact hear_d2 ⟨hk16, hcs, htB, dhg, hb, dhc, dhm, dfit⟩ hk hp h3 hu hH0
          · exact hear_d3 ⟨hk16, hcs, htB, dhg, hb, dhc, dhm, dfit⟩ hk hp (by omega) hu hH0
  · exact hear_out ⟨hk16, hcs, htB, dhg, hb, dhc, dhm, dfit⟩ hk hH0
theorem rhear_ev {H : AH} {T Lb : Nat} {cs : List Ch} {even : Bool} {B R : HL} {k : Nat} (hk16 : k < 65536) (hcs : cs.length ≤ 64) (htB : ∀ H', Hs H' B → Tb H') (un : Bool) (ppid : Int) {da : Option (Nat × Nat)} {dc dg : Nat} (dhg : dg = 0 ∨ dg = 1) {b : List UInt8} (hb : ∀ H', Hs H' B → Bs H' (.sl da b.length dc dg) b) (dhc : b.length ≤ dc) (dhm : dc ≤ 9223372036854775807) (dfit : b.length ≤ 1073741824) (hH0 : Hs H ([(T, some (.cells [.sl (some (Lb, 0)) cs.length cs.length 0, .b even] true))] ++ ([(Lb, some (.cells ((cs).map Ch.row).flatten true))] ++ (B ++ R)))) : Ev tabV spV (.fn (.func 54) [] []) [.p (some (T, 0)), .agg [.i .u16 k, .b un, .i .u32 ppid, .sl da b.length dc dg]] H (fun r H' => HearP T Lb even B R (hear cs even k ppid b) r H') := by
  by_cases hk : k < cs.length
  · by_cases hp : ppid = 50
    · exact rhear_c ⟨hk16, hcs, htB, dhg, hb, dhc, dhm, dfit⟩ hk hp hH0
    · by_cases h0 : (cs.getD k ch0).st = 0
      · exact rhear_d0 ⟨hk16, hcs, htB, dhg, hb, dhc, dhm, dfit⟩ hk hp h0 hH0
      · cases hu : uO ppid b
        · exact rhear_d1 ⟨hk16, hcs, htB, dhg, hb, dhc, dhm, dfit⟩ hk hp h0 hu hH0
        · by_cases h3 : (cs.getD k ch0).st = 3
          · exact rhear_d2 ⟨hk16, hcs, htB, dhg, hb, dhc, dhm, dfit⟩ hk hp h3 hu hH0
          · exact rhear_d3 ⟨hk16, hcs, htB, dhg, hb, dhc, dhm, dfit⟩ hk hp (by omega) hu hH0
  · exact rhear_out ⟨hk16, hcs, htB, dhg, hb, dhc, dhm, dfit⟩ hk hH0


open Go.Lib
set_option linter.unusedVariables false
set_option linter.unusedSimpArgs false
def findB (lab : List UInt8) (c : Ch) : Bool := livesI c.st && decide (c.label = lab)
def findP (cs : List Ch) (lab : List UInt8) (k : Nat) : Bool := findB lab (cs.getD k ch0)
def findK (cs : List Ch) (lab : List UInt8) : Option Nat := (List.range cs.length).find? (findP cs lab)
theorem find_range {p : Nat → Bool} {k n : Nat} (hk : k < n) (h : p k = true) (hb : ∀ j, j < k → p j = false) : (List.range n).find? p = some k := by
 rw [List.find?_eq_some_iff_append]
 refine ⟨h, List.range k, (List.range' (k + 1) (n - (k + 1))), ?_, fun j hj => by rw [List.mem_range] at hj; rw [hb j hj]; rfl⟩
 rw [List.range_eq_range', List.range_eq_range']
 have e : n = k + (n - k) := by omega
 conv => lhs; rw [e]
 rw [List.range'_append_1.symm, Nat.zero_add]
 congr 1
 rw [show n - k = (n - (k + 1)) + 1 by omega, List.range'_succ]
theorem find_range_none {p : Nat → Bool} {n : Nat} (hb : ∀ j, j < n → p j = false) : (List.range n).find? p = none := by
 rw [List.find?_eq_none]
 intro j hj
 rw [List.mem_range] at hj
 rw [hb j hj]; decide
theorem r_max {T : Tm} {H : AH} {c : CallF} {x y : XO} {a b m : Int} (hx : x.ev T = .i .i64 a) (hy : y.ev T = .i .i64 b) (hm : (if b > a then b else a) = m) : (XOp.mnmx true [x, y]).run c T H = some (.i .i64 m, H) := by
 subst hm
 simp only [XOp.run, XOp.look, List.foldl_cons, List.foldl_nil, hx, hy, pmnmx, if_true, Option.map_some]
def findZ (cs : List Ch) (lab : List UInt8) : Int := match findK cs lab with | some k => (k : Int) | none => -1
def findR (cs : List Ch) (lab : List UInt8) : Int := match findK cs lab with | some k => (k : Int) | none => 0
theorem findZ_s {cs : List Ch} {lab : List UInt8} {k : Nat} (h : findK cs lab = some k) : findZ cs lab = k := by unfold findZ; rw [h]
theorem findZ_n {cs : List Ch} {lab : List UInt8} (h : findK cs lab = none) : findZ cs lab = -1 := by unfold findZ; rw [h]
theorem findR_s {cs : List Ch} {lab : List UInt8} {k : Nat} (h : findK cs lab = some k) : findR cs lab = k := by unfold findR; rw [h]
theorem findR_n {cs : List Ch} {lab : List UInt8} (h : findK cs lab = none) : findR cs lab = 0 := by unfold findR; rw [h]
theorem test_ev {H : AH} {nb : Nat} {lab : List UInt8} {R : HL} (c : Ch) (hH0 : Hs H ([(nb, some (.cells [.s (txt lab)] true))] ++ R)) : Ev tabV spV (.fn (.func 59) [] [.p (some (nb, 0))]) [.agg c.row] H (fun r H' => r = .b (findB lab c) ∧ Hs H' ([(nb, some (.cells [.s (txt lab)] true))] ++ R)) := by
 refine Ev_C (F := x59) rfl ?_
 refine sr ?_
 refine O_box (z := [(.i .i64 c.st), (.i .u8 c.kind), (.i .u16 c.prio), (.i .u32 c.limit), (.s (txt c.label)), (.s (txt c.proto)), (.b c.mine), (.b c.theirs)]) rfl fun n1 H2 hN3 => ?_
 have hH4 := hH0.new hN3
 refine pv (.b false) rfl ?_
 refine O_nil (sr ?_)
 refine O_call (Ev.mono (lives_ev hH4.get0 (o := 0) rfl) fun v5 H6 hq7 => ?_)
 obtain ⟨rfl, hq7⟩ := hq7
 subst H6
 refine pv (.b (livesI c.st)) rfl ?_
 refine O_gx (e := (livesI c.st)) (v := (.p (some (n1, 1)))) (wt rfl) (fun he => (r_fadd' rfl rfl)) ?_
 refine O_gx (e := (livesI c.st)) (v := (.p (some (n1, 4)))) (wt rfl) (fun he => (r_fadd' (cond_pos he) rfl)) ?_
 refine O_gx (e := (livesI c.st)) (v := (.s (txt c.label))) (wt rfl) (fun he => (r_ld (cond_pos he) hH4.get0 rfl)) ?_
 refine O_gx (e := (livesI c.st)) (v := (.s (txt lab))) (wt rfl) (fun he => (r_ld rfl hH4.get1 rfl)) ?_
 refine O_gx (e := (livesI c.st)) (v := (.b (decide (c.label = lab)))) (wt rfl) (fun he => (r_eqt (cond_pos he) (cond_pos he))) ?_
 refine O_p (.b ((livesI c.st) && (decide (c.label = lab)))) (r_pick_and rfl rfl rfl rfl) ?_
 refine pv (.b ((livesI c.st) && (decide (c.label = lab)))) rfl ?_
 refine O_nil ?_
 refine C_ret ?_
 have hH8 := (hH4.sub0)
 exact ⟨.inr rfl, _, resL_one (r_tmp (v := (.b ((livesI c.st) && (decide (c.label = lab))))) rfl), rfl, hH8⟩
theorem idx_ev {H : AH} {nb Lb : Nat} {cs : List Ch} {lab : List UInt8} {R : HL} (hcs : cs.length ≤ 64) (hH0 : Hs H ([(nb, some (.cells [.s (txt lab)] true))] ++ ([(Lb, some (.cells ((cs).map Ch.row).flatten true))] ++ R))) : Ev tabV spV (.fn (.func 58) [] []) [.sl (some (Lb, 0)) cs.length cs.length 0, (.fn (.func 59) [] [.p (some (nb, 0))])] H (fun r H' => r = .i .i64 (findZ cs lab) ∧ Hs H' ([(nb, some (.cells [.s (txt lab)] true))] ++ ([(Lb, some (.cells ((cs).map Ch.row).flatten true))] ++ R))) := by
 refine Ev_C (F := x58) rfl ?_
 refine sr ?_
 refine pv (.i .i64 0) rfl ?_
 refine O_nil ?_
 refine C_seq ?_
 refine sr ?_
 refine pv (.sl (some (Lb, 0)) cs.length cs.length 0) rfl ?_
 refine O_p (.i .i64 (((cs.length : Nat)) : Int)) (r_len rfl) ?_
 refine pv (.i .i64 0) rfl ?_
 refine O_nil ?_
 refine C_block ?_
 refine C_while (fun m1 T2 H3 => ∃ i : Nat, m1 = cs.length - i ∧ i ≤ cs.length ∧ (∀ j, j < i → findP cs lab j = false) ∧ Hs H3 ([(nb, some (.cells ([(.s (txt lab))]) true))] ++ ([(Lb, some (.cells ((cs.map Ch.row).flatten) true))] ++ (R))) ∧ T2.get 0 = (.sl (some (Lb, 0)) cs.length cs.length 0) ∧ T2.get 1 = (.fn (.func 59) [] [.p (some (nb, 0))]) ∧ T2.get 7 = (.i .i64 (((cs.length : Nat)) : Int)) ∧ T2.get 8 = (.i .i64 (((i : Nat)) : Int))) (fun m1 T2 H3 hI4 => ?_) cs.length _ _ ⟨0, rfl, Nat.zero_le _, fun j hj => absurd hj (Nat.not_lt_zero _), hH0, rfl, rfl, rfl, rfl⟩
 obtain ⟨i, hm5, hp6, hp7, hH12, hT8, hT9, hT10, hT11⟩ := hI4
 have hbefore := hp7
 refine sr ?_
 refine O_p (.b (decide ((((i : Nat)) : Int) < (((cs.length : Nat)) : Int)))) (r_lss hT11 hT10) ?_
 refine O_nil ?_
 refine C_seq ?_
 refine C_cond (x := (decide ((((i : Nat)) : Int) < (((cs.length : Nat)) : Int)))) rfl (fun hc13 => ?_) (fun hc13 => ?_)
 ·
  have hr14 := hc13
  try simp only [decide_eq_true_eq, decide_eq_false_iff_not, Bool.not_eq_true', Bool.not_eq_false', Bool.and_eq_true, Bool.or_eq_true, Bool.or_eq_false_iff, Bool.not_not, Bool.and_eq_false_iff] at hc13
  refine C_skip ?_
  refine C_seq ?_
  refine C_block ?_
  refine sr ?_
  refine O_p (.i .i64 (((i : Nat)) : Int)) (r_mv hT11) ?_
  refine pv (.i .i64 (((i : Nat)) : Int)) rfl ?_
  refine O_nil (sr ?_)
  refine O_p (.fn (.func 59) [] [.p (some (nb, 0))]) (r_mv hT9) ?_
  refine O_p (.sl (some (Lb, 0)) cs.length cs.length 0) (r_mv hT8) ?_
  refine pv (.i .i64 (((i : Nat)) : Int)) rfl ?_
  obtain ⟨c, hc⟩ := ex_at (cs := cs) (k := i) (by omega)
  have hgd := getD_of hc
  have hH15 := hH12.cong1 (seg_foc (n := Lb) (enc := Ch.row) hc)
  refine O_p (.p (some (Lb, (i * 8 + 0)))) (by exact (r_islr (b := Lb) (k := i) (len := cs.length) (cap := cs.length) (g := 0) rfl rfl (by omega))) ?_
  refine O_p (.agg [(.i .i64 c.st), (.i .u8 c.kind), (.i .u16 c.prio), (.i .u32 c.limit), (.s (txt c.label)), (.s (txt c.proto)), (.b c.mine), (.b c.theirs)]) (by exact (r_ldA rfl hH15.get1 ((foc_take (rows_map Ch.row_len cs) (by rw [List.length_map]; omega) rfl (by decide)).trans rfl))) ?_
  refine O_call (Ev.mono (test_ev c hH15) fun v16 H17 hq18 => ?_)
  obtain ⟨rfl, hH19⟩ := hq18
  have hH20 := (Hs.cong1 hH19 (seg_foc (n := Lb) (enc := Ch.row) hc).symm)
  refine O_nil ?_
  refine C_cond (x := (findB lab c)) rfl (fun hc21 => ?_) (fun hc21 => ?_)
  ·
   have hr22 := hc21
   try simp only [decide_eq_true_eq, decide_eq_false_iff_not, Bool.not_eq_true', Bool.not_eq_false', Bool.and_eq_true, Bool.or_eq_true, Bool.or_eq_false_iff, Bool.not_not, Bool.and_eq_false_iff] at hc21
   have hab : findP cs lab i = true := by unfold findP; rw [hgd]; exact hr22
   have hK := find_range (n := cs.length) (by omega) hab hbefore
   refine sr ?_
   refine pv (.i .i64 (((i : Nat)) : Int)) rfl ?_
   refine pv (.i .i64 (((i : Nat)) : Int)) rfl ?_
   refine O_nil ?_
   refine C_ret ?_
   refine bk_ret ?_
   refine nx_ret ?_
   refine nx_ret ?_
   refine bk_ret ?_
   refine nx_ret ?_
   have hH23 := ((hH20.top1).top1)
   have hz := findZ_s (cs := cs) (lab := lab) hK
   exact ⟨.inr rfl, _, resL_one (r_tmp (v := (.i .i64 (((i : Nat)) : Int))) rfl), by rw [hz]; rfl, hH23⟩
  ·
   have hr24 := hc21
   try simp only [decide_eq_true_eq, decide_eq_false_iff_not, Bool.not_eq_true', Bool.not_eq_false', Bool.and_eq_true, Bool.or_eq_true, Bool.or_eq_false_iff, Bool.not_not, Bool.and_eq_false_iff] at hc21
   have hab : findP cs lab i = false := by unfold findP; rw [hgd]; exact hr24
   have hmiss := hab
   refine C_skip ?_
   refine C_region ?_
   refine O_p (.i .i64 ((((i : Nat)) : Int) + 1)) (by exact (r_addi hT11 rfl (wrap_i64 (by omega) (by omega)))) ?_
   refine pv (.i .i64 ((((i : Nat)) : Int) + 1)) rfl ?_
   refine O_nil ?_
   exact ⟨cs.length - (i + 1), by omega, (i + 1), rfl, by omega, by intro j hj; rcases Nat.lt_succ_iff_lt_or_eq.1 hj with h | h; exact hbefore j h; subst h; exact hmiss, hH20, hT8, hT9, hT10, rfl⟩
 ·
  have hr25 := hc13
  try simp only [decide_eq_true_eq, decide_eq_false_iff_not, Bool.not_eq_true', Bool.not_eq_false', Bool.and_eq_true, Bool.or_eq_true, Bool.or_eq_false_iff, Bool.not_not, Bool.and_eq_false_iff] at hc13
  have hi : i = cs.length := by omega
  have hK : findK cs lab = none := find_range_none (fun j hj => hbefore j (by omega))
  refine C_exit ?_
  refine nx_exit ?_
  refine nx_exit ?_
  refine bk_hit ?_
  refine sr ?_
  refine pv (.i .i64 (-1)) rfl ?_
  refine O_nil ?_
  refine C_ret ?_
  have hH26 := ((hH12.top1).top1)
  have hz := findZ_n (cs := cs) (lab := lab) hK
  exact ⟨.inr rfl, _, resL_one (r_tmp (v := (.i .i64 (-1))) rfl), by rw [hz]; rfl, hH26⟩
theorem find_none {H : AH} {T Lb : Nat} {cs : List Ch} {even : Bool} {R : HL} {lab : List UInt8} (hK : findK cs lab = none) (hcs : cs.length ≤ 64) (hH0 : Hs H ([(T, some (.cells [.sl (some (Lb, 0)) cs.length cs.length 0, .b even] true))] ++ ([(Lb, some (.cells ((cs).map Ch.row).flatten true))] ++ R))) : Ev tabV spV (.fn (.func 33) [] []) [.p (some (T, 0)), .s (txt lab)] H (fun r H' => r = .tup [.i .u16 (findR cs lab), .b (findK cs lab).isSome] ∧ Hs H' ([(T, some (.cells [.sl (some (Lb, 0)) cs.length cs.length 0, .b even] true))] ++ ([(Lb, some (.cells ((cs).map Ch.row).flatten true))] ++ R))) := by
 refine Ev_C (F := x33) rfl ?_
 refine sr ?_
 refine O_box (z := [(.s (txt lab))]) rfl fun n1 H2 hN3 => ?_
 have hH4 := hH0.new hN3
 refine pv (.i .u16 0) rfl ?_
 refine pv (.b false) rfl ?_
 refine O_nil ?_
 refine C_seq ?_
 refine sr ?_
 refine pv (.p (some (T, 0))) rfl ?_
 refine O_p (.b false) (r_nilq_s rfl) ?_
 refine O_nil ?_
 refine C_cond (x := false) rfl (fun h => by cases h) (fun _ => ?_)
 refine C_skip ?_
 refine sr ?_
 refine pv (.p (some (T, 0))) rfl ?_
 refine O_p (.p (some (T, 0))) (r_nilc rfl) ?_
 refine pf (.p (some (T, 0))) rfl rfl ?_
 refine O_p (.sl (some (Lb, 0)) cs.length cs.length 0) (r_ld rfl hH4.get1 rfl) ?_
 refine O_p (.fn (.func 59) [] [(.p (some (n1, 0)))]) rfl ?_
 have hH5 := ((hH4.top2).top1)
 refine O_call (Ev.mono (idx_ev hcs hH5) fun v6 H7 hq8 => ?_)
 rw [findZ_n hK] at hq8
 obtain ⟨rfl, hH9⟩ := hq8
 refine pv (.i .i64 (-1)) rfl ?_
 refine O_nil (sr ?_)
 refine pv (.i .i64 (-1)) rfl ?_
 refine O_p (.i .i64 0) (by exact (r_max rfl rfl (m := 0) (by decide))) ?_
 refine O_p (.i .u16 0) (by exact (r_cint' rfl (by rw [wrap_u16]; omega))) ?_
 refine pv (.i .i64 (-1)) rfl ?_
 refine O_p (.b false) (by exact (by rw [r_geq rfl rfl, decide_eq_false (by first | omega | assumption)])) ?_
 refine pv (.i .u16 0) rfl ?_
 refine pv (.b false) rfl ?_
 refine O_nil ?_
 refine C_ret ?_
 have hH10 := (hH9.sub0)
 have hH11 := (hH10.top1)
 exact ⟨.inr rfl, _, resL_cons (r_tmp (v := (.i .u16 0)) rfl) (resL_one (r_tmp (v := (.b false)) rfl)), by rw [findR_n hK, hK]; rfl, hH11⟩
theorem find_some {H : AH} {T Lb : Nat} {cs : List Ch} {even : Bool} {R : HL} {lab : List UInt8} {q : Nat} (hK : findK cs lab = some q) (hq64 : q < 65536) (hcs : cs.length ≤ 64) (hH0 : Hs H ([(T, some (.cells [.sl (some (Lb, 0)) cs.length cs.length 0, .b even] true))] ++ ([(Lb, some (.cells ((cs).map Ch.row).flatten true))] ++ R))) : Ev tabV spV (.fn (.func 33) [] []) [.p (some (T, 0)), .s (txt lab)] H (fun r H' => r = .tup [.i .u16 (findR cs lab), .b (findK cs lab).isSome] ∧ Hs H' ([(T, some (.cells [.sl (some (Lb, 0)) cs.length cs.length 0, .b even] true))] ++ ([(Lb, some (.cells ((cs).map Ch.row).flatten true))] ++ R))) := by
 refine Ev_C (F := x33) rfl ?_
 refine sr ?_
 refine O_box (z := [(.s (txt lab))]) rfl fun n1 H2 hN3 => ?_
 have hH4 := hH0.new hN3
 refine pv (.i .u16 0) rfl ?_
 refine pv (.b false) rfl ?_
 refine O_nil ?_
 refine C_seq ?_
 refine sr ?_
 refine pv (.p (some (T, 0))) rfl ?_
 refine O_p (.b false) (r_nilq_s rfl) ?_
 refine O_nil ?_
 refine C_cond (x := false) rfl (fun h => by cases h) (fun _ => ?_)
 refine C_skip ?_
 refine sr ?_
 refine pv (.p (some (T, 0))) rfl ?_
 refine O_p (.p (some (T, 0))) (r_nilc rfl) ?_
 refine pf (.p (some (T, 0))) rfl rfl ?_
 refine O_p (.sl (some (Lb, 0)) cs.length cs.length 0) (r_ld rfl hH4.get1 rfl) ?_
 refine O_p (.fn (.func 59) [] [(.p (some (n1, 0)))]) rfl ?_
 have hH5 := ((hH4.top2).top1)
 refine O_call (Ev.mono (idx_ev hcs hH5) fun v6 H7 hq8 => ?_)
 rw [findZ_s hK] at hq8
 obtain ⟨rfl, hH9⟩ := hq8
 refine pv (.i .i64 ((q : Nat) : Int)) rfl ?_
 refine O_nil (sr ?_)
 refine pv (.i .i64 ((q : Nat) : Int)) rfl ?_
 refine O_p (.i .i64 (((q : Nat)) : Int)) (by exact (r_max rfl rfl (m := (((q : Nat)) : Int)) (by omega))) ?_
 refine O_p (.i .u16 (((q : Nat)) : Int)) (by exact (r_cint' rfl (by rw [wrap_u16]; omega))) ?_
 refine pv (.i .i64 ((q : Nat) : Int)) rfl ?_
 refine O_p (.b true) (by exact (by rw [r_geq rfl rfl, decide_eq_true (by first | omega | assumption)])) ?_
 refine pv (.i .u16 (((q : Nat)) : Int)) rfl ?_
 refine pv (.b true) rfl ?_
 refine O_nil ?_
 refine C_ret ?_
 have hH10 := (hH9.sub0)
 have hH11 := (hH10.top1)
 exact ⟨.inr rfl, _, resL_cons (r_tmp (v := (.i .u16 (((q : Nat)) : Int))) rfl) (resL_one (r_tmp (v := (.b true)) rfl)), by rw [findR_s hK, hK]; rfl, hH11⟩
theorem rfind_ev {H : AH} {T Lb : Nat} {cs : List Ch} {even : Bool} {R : HL} {lab : List UInt8} (hcs : cs.length ≤ 64) (hH0 : Hs H ([(T, some (.cells [.sl (some (Lb, 0)) cs.length cs.length 0, .b even] true))] ++ ([(Lb, some (.cells ((cs).map Ch.row).flatten true))] ++ R))) : Ev tabV spV (.fn (.func 34) [] []) [.p (some (T, 0)), .s (txt lab)] H (fun r H' => r = .tup [.i .u16 (findR cs lab), .b (findK cs lab).isSome] ∧ Hs H' ([(T, some (.cells [.sl (some (Lb, 0)) cs.length cs.length 0, .b even] true))] ++ ([(Lb, some (.cells ((cs).map Ch.row).flatten true))] ++ R))) := by
 refine Ev_C (F := x34) rfl ?_
 refine sr ?_
 refine pv (.i .u16 0) rfl ?_
 refine pv (.b false) rfl ?_
 refine O_nil ?_
 refine C_seq ?_
 refine sr ?_
 refine pv (.i .i64 0) rfl ?_
 refine O_nil ?_
 refine C_block ?_
 refine C_while (fun m1 T2 H3 => ∃ i : Nat, m1 = cs.length - i ∧ i ≤ cs.length ∧ (∀ j, j < i → findP cs lab j = false) ∧ Hs H3 ([(T, some (.cells ([(.sl (some (Lb, 0)) cs.length cs.length 0), (.b even)]) true))] ++ ([(Lb, some (.cells ((cs.map Ch.row).flatten) true))] ++ (R))) ∧ T2.get 0 = (.p (some (T, 0))) ∧ T2.get 1 = (.s (txt lab)) ∧ T2.get 6 = (.i .i64 (((i : Nat)) : Int))) (fun m1 T2 H3 hI4 => ?_) cs.length _ _ ⟨0, rfl, Nat.zero_le _, fun j hj => absurd hj (Nat.not_lt_zero _), hH0, rfl, rfl, rfl⟩
 obtain ⟨i, hm5, hp6, hp7, hH11, hT8, hT9, hT10⟩ := hI4
 have hbefore := hp7
 refine C_seq ?_
 refine sr ?_
 refine O_p (.i .i64 (((i : Nat)) : Int)) (r_mv hT10) ?_
 refine O_p (.p (some (T, 0))) (r_mv hT8) ?_
 refine O_p (.p (some (T, 0))) (r_nilc rfl) ?_
 refine pf (.p (some (T, 0))) rfl rfl ?_
 refine O_p (.sl (some (Lb, 0)) cs.length cs.length 0) (r_ld rfl hH11.get0 rfl) ?_
 refine O_p (.i .i64 (((cs.length : Nat)) : Int)) (r_len rfl) ?_
 refine O_p (.b (decide ((((i : Nat)) : Int) < (((cs.length : Nat)) : Int)))) (r_lss rfl rfl) ?_
 refine O_nil ?_
 refine C_cond (x := (decide ((((i : Nat)) : Int) < (((cs.length : Nat)) : Int)))) rfl (fun hc12 => ?_) (fun hc12 => ?_)
 ·
  have hr13 := hc12
  try simp only [decide_eq_true_eq, decide_eq_false_iff_not, Bool.not_eq_true', Bool.not_eq_false', Bool.and_eq_true, Bool.or_eq_true, Bool.or_eq_false_iff, Bool.not_not, Bool.and_eq_false_iff] at hc12
  refine C_skip ?_
  refine C_seq ?_
  refine C_block ?_
  refine sr ?_
  obtain ⟨c, hc⟩ := ex_at (cs := cs) (k := i) (by omega)
  have hgd := getD_of hc
  have hH14 := hH11.cong1 (seg_foc (n := Lb) (enc := Ch.row) hc)
  refine O_p (.p (some (T, 0))) (r_mv hT8) ?_
  refine O_p (.p (some (T, 0))) (r_nilc rfl) ?_
  refine pf (.p (some (T, 0))) rfl rfl ?_
  refine O_p (.sl (some (Lb, 0)) cs.length cs.length 0) (r_ld rfl hH14.get0 rfl) ?_
  refine O_p (.i .i64 (((i : Nat)) : Int)) (r_mv hT10) ?_
  refine O_p (.p (some (Lb, (i * 8 + 0)))) (by exact (r_islr (b := Lb) (k := i) (len := cs.length) (cap := cs.length) (g := 0) rfl rfl (by omega))) ?_
  refine pf (.p (some (Lb, (i * 8 + 0)))) rfl rfl ?_
  refine O_p (.i .i64 c.st) (by exact (r_ld rfl hH14.get1 ((foc_get (rows_map Ch.row_len cs) (by rw [List.length_map]; omega) rfl (by decide)).trans rfl))) ?_
  refine O_p (.b (decide (c.st = 1))) (r_eql rfl rfl) ?_
  refine pv (.b (decide (c.st = 1))) rfl ?_
  refine O_gx (e := (!(decide (c.st = 1)))) (v := (.p (some (T, 0)))) (wf rfl) (fun he => (r_mv hT8)) ?_
  refine O_gx (e := (!(decide (c.st = 1)))) (v := (.p (some (T, 0)))) (wf rfl) (fun he => (r_nilc (cond_pos he))) ?_
  refine O_gx (e := (!(decide (c.st = 1)))) (v := (.p (some (T, 0)))) (wf rfl) (fun he => (r_fadd' (cond_pos he) rfl)) ?_
  refine O_gx (e := (!(decide (c.st = 1)))) (v := (.sl (some (Lb, 0)) cs.length cs.length 0)) (wf rfl) (fun he => (r_ld (cond_pos he) hH14.get0 rfl)) ?_
  refine O_gx (e := (!(decide (c.st = 1)))) (v := (.i .i64 (((i : Nat)) : Int))) (wf rfl) (fun he => (r_mv hT10)) ?_
  refine O_gx (e := (!(decide (c.st = 1)))) (v := (.p (some (Lb, (i * 8 + 0))))) (wf rfl) (fun he => (by exact (r_islr (b := Lb) (k := i) (len := cs.length) (cap := cs.length) (g := 0) (cond_pos he) (cond_pos he) (by omega)))) ?_
  refine O_gx (e := (!(decide (c.st = 1)))) (v := (.p (some (Lb, (i * 8 + 0))))) (wf rfl) (fun he => (r_fadd' (cond_pos he) rfl)) ?_
  refine O_gx (e := (!(decide (c.st = 1)))) (v := (.i .i64 c.st)) (wf rfl) (fun he => (by exact (r_ld (cond_pos he) hH14.get1 ((foc_get (rows_map Ch.row_len cs) (by rw [List.length_map]; omega) rfl (by decide)).trans rfl)))) ?_
  refine O_gx (e := (!(decide (c.st = 1)))) (v := (.b (decide (c.st = 2)))) (wf rfl) (fun he => (r_eql (cond_pos he) rfl)) ?_
  refine O_p (.b ((decide (c.st = 1)) || (decide (c.st = 2)))) (r_pick_or rfl rfl rfl rfl) ?_
  refine pv (.b ((decide (c.st = 1)) || (decide (c.st = 2)))) rfl ?_
  refine O_gx (e := ((decide (c.st = 1)) || (decide (c.st = 2)))) (v := (.p (some (T, 0)))) (wt rfl) (fun he => (r_mv hT8)) ?_
  refine O_gx (e := ((decide (c.st = 1)) || (decide (c.st = 2)))) (v := (.p (some (T, 0)))) (wt rfl) (fun he => (r_nilc (cond_pos he))) ?_
  refine O_gx (e := ((decide (c.st = 1)) || (decide (c.st = 2)))) (v := (.p (some (T, 0)))) (wt rfl) (fun he => (r_fadd' (cond_pos he) rfl)) ?_
  refine O_gx (e := ((decide (c.st = 1)) || (decide (c.st = 2)))) (v := (.sl (some (Lb, 0)) cs.length cs.length 0)) (wt rfl) (fun he => (r_ld (cond_pos he) hH14.get0 rfl)) ?_
  refine O_gx (e := ((decide (c.st = 1)) || (decide (c.st = 2)))) (v := (.i .i64 (((i : Nat)) : Int))) (wt rfl) (fun he => (r_mv hT10)) ?_
  refine O_gx (e := ((decide (c.st = 1)) || (decide (c.st = 2)))) (v := (.p (some (Lb, (i * 8 + 0))))) (wt rfl) (fun he => (by exact (r_islr (b := Lb) (k := i) (len := cs.length) (cap := cs.length) (g := 0) (cond_pos he) (cond_pos he) (by omega)))) ?_
  refine O_gx (e := ((decide (c.st = 1)) || (decide (c.st = 2)))) (v := (.p (some (Lb, (i * 8 + 1))))) (wt rfl) (fun he => (r_fadd' (cond_pos he) rfl)) ?_
  refine O_gx (e := ((decide (c.st = 1)) || (decide (c.st = 2)))) (v := (.p (some (Lb, (i * 8 + 4))))) (wt rfl) (fun he => (r_fadd' (cond_pos he) rfl)) ?_
  refine O_gx (e := ((decide (c.st = 1)) || (decide (c.st = 2)))) (v := (.s (txt c.label))) (wt rfl) (fun he => (by exact (r_ld (cond_pos he) hH14.get1 ((foc_get (rows_map Ch.row_len cs) (by rw [List.length_map]; omega) rfl (by decide)).trans rfl)))) ?_
  refine O_gx (e := ((decide (c.st = 1)) || (decide (c.st = 2)))) (v := (.s (txt lab))) (wt rfl) (fun he => (r_mv hT9)) ?_
  refine O_gx (e := ((decide (c.st = 1)) || (decide (c.st = 2)))) (v := (.b (decide (c.label = lab)))) (wt rfl) (fun he => (r_eqt (cond_pos he) (cond_pos he))) ?_
  refine O_p (.b (((decide (c.st = 1)) || (decide (c.st = 2))) && (decide (c.label = lab)))) (r_pick_and rfl rfl rfl rfl) ?_
  refine O_nil ?_
  refine C_cond (x := (((decide (c.st = 1)) || (decide (c.st = 2))) && (decide (c.label = lab)))) rfl (fun hc15 => ?_) (fun hc15 => ?_)
  ·
   have hr16 := hc15
   try simp only [decide_eq_true_eq, decide_eq_false_iff_not, Bool.not_eq_true', Bool.not_eq_false', Bool.and_eq_true, Bool.or_eq_true, Bool.or_eq_false_iff, Bool.not_not, Bool.and_eq_false_iff] at hc15
   have hab : findP cs lab i = true := by unfold findP; rw [hgd]; exact hr16
   have hK := find_range (n := cs.length) (by omega) hab hbefore
   refine sr ?_
   refine O_p (.i .i64 (((i : Nat)) : Int)) (r_mv hT10) ?_
   refine O_p (.i .u16 (((i : Nat)) : Int)) (by exact (r_cint' rfl (by rw [wrap_u16]; omega))) ?_
   refine pv (.i .u16 (((i : Nat)) : Int)) rfl ?_
   refine pv (.b true) rfl ?_
   refine O_nil ?_
   refine C_ret ?_
   refine bk_ret ?_
   refine nx_ret ?_
   refine nx_ret ?_
   refine bk_ret ?_
   refine nx_ret ?_
   exact ⟨.inr rfl, _, resL_cons (r_tmp (v := (.i .u16 (((i : Nat)) : Int))) rfl) (resL_one (r_tmp (v := (.b true)) rfl)), by rw [findR_s hK, show findK cs lab = _ from hK]; rfl, hH11⟩
  ·
   have hr17 := hc15
   try simp only [decide_eq_true_eq, decide_eq_false_iff_not, Bool.not_eq_true', Bool.not_eq_false', Bool.and_eq_true, Bool.or_eq_true, Bool.or_eq_false_iff, Bool.not_not, Bool.and_eq_false_iff] at hc15
   have hab : findP cs lab i = false := by unfold findP; rw [hgd]; exact hr17
   have hmiss := hab
   refine C_skip ?_
   refine C_region ?_
   refine O_p (.i .i64 (((i : Nat)) : Int)) (r_mv hT10) ?_
   refine O_p (.i .i64 ((((i : Nat)) : Int) + 1)) (by exact (r_addi rfl rfl (wrap_i64 (by omega) (by omega)))) ?_
   refine pv (.i .i64 ((((i : Nat)) : Int) + 1)) rfl ?_
   refine O_nil ?_
   exact ⟨cs.length - (i + 1), by omega, (i + 1), rfl, by omega, by intro j hj; rcases Nat.lt_succ_iff_lt_or_eq.1 hj with h | h; exact hbefore j h; subst h; exact hmiss, hH11, hT8, hT9, rfl⟩
 ·
  have hr18 := hc12
  try simp only [decide_eq_true_eq, decide_eq_false_iff_not, Bool.not_eq_true', Bool.not_eq_false', Bool.and_eq_true, Bool.or_eq_true, Bool.or_eq_false_iff, Bool.not_not, Bool.and_eq_false_iff] at hc12
  have hi : i = cs.length := by omega
  have hK : findK cs lab = none := find_range_none (fun j hj => hbefore j (by omega))
  refine C_exit ?_
  refine nx_exit ?_
  refine nx_exit ?_
  refine bk_hit ?_
  refine sr ?_
  refine pv (.i .u16 0) rfl ?_
  refine pv (.b false) rfl ?_
  refine O_nil ?_
  refine C_ret ?_
  exact ⟨.inr rfl, _, resL_cons (r_tmp (v := (.i .u16 0)) rfl) (resL_one (r_tmp (v := (.b false)) rfl)), by rw [findR_n hK, show findK cs lab = _ from hK]; rfl, hH11⟩
theorem find_lt {cs : List Ch} {lab : List UInt8} {q : Nat} (h : findK cs lab = some q) : q < cs.length := by
 have := List.mem_of_find?_eq_some h
 rwa [List.mem_range] at this
theorem find_ev {H : AH} {T Lb : Nat} {cs : List Ch} {even : Bool} {R : HL} {lab : List UInt8} (hcs : cs.length ≤ 64) (hH0 : Hs H ([(T, some (.cells [.sl (some (Lb, 0)) cs.length cs.length 0, .b even] true))] ++ ([(Lb, some (.cells ((cs).map Ch.row).flatten true))] ++ R))) : Ev tabV spV (.fn (.func 33) [] []) [.p (some (T, 0)), .s (txt lab)] H (fun r H' => r = .tup [.i .u16 (findR cs lab), .b (findK cs lab).isSome] ∧ Hs H' ([(T, some (.cells [.sl (some (Lb, 0)) cs.length cs.length 0, .b even] true))] ++ ([(Lb, some (.cells ((cs).map Ch.row).flatten true))] ++ R))) := by
  cases hK : findK cs lab with
  | none => rw [← hK]; exact find_none hK hcs hH0
  | some q => rw [← hK]; exact find_some hK (by have := find_lt hK; omega) hcs hH0
end Go.Proofs.YtfhbdddjclodhaaDoor.E
