/- Layer 18's table, walked (first part). It bears no condition. -/
import Derived.Test.YtfhbdddjclodhaaDoorE
import Derived.Test.YtfhbdddjclodhaaDoorE41
namespace Go.Proofs.YtfhbdddjclodhaaDoor.E
abbrev zTAA : List AV := [(.i .i64 0), (.i .u8 0), (.i .u16 0), (.i .u32 0), (.s ⟨#[]⟩), (.s ⟨#[]⟩), (.b false), (.b false)]

open Go.Lib
set_option linter.unusedVariables false
set_option linter.unusedSimpArgs false
/-- A stream's channel. -/
structure Ch where
 st : Int
 kind : Int
 prio : Int
 limit : Int
 label : List UInt8
 proto : List UInt8
 mine : Bool
 theirs : Bool
def Ch.row (c : Ch) : List AV := [.i .i64 c.st, .i .u8 c.kind, .i .u16 c.prio, .i .u32 c.limit, .s (txt c.label), .s (txt c.proto), .b c.mine, .b c.theirs]
theorem Ch.row_len (c : Ch) : c.row.length = 8 := rfl
def ch0 : Ch := ⟨0, 0, 0, 0, [], [], false, false⟩
def ownB (k : Nat) (even : Bool) : Bool := decide (((k % 2 : Nat) : Int) = 0) == even
def livesI (n : Int) : Bool := decide (n = 1) || decide (n = 2)
def Ch.shut (c : Ch) (m t : Bool) : Ch := if ((c.mine || m) && (c.theirs || t)) = true then ch0 else ⟨3, c.kind, c.prio, c.limit, c.label, c.proto, c.mine || m, c.theirs || t⟩
theorem and1 (k : Nat) : IntKind.i64.wrap ((BitVec.ofInt 64 (k : Int) &&& BitVec.ofInt 64 1).toNat : Int) = ((k % 2 : Nat) : Int) := by
 have e : (BitVec.ofInt 64 (k : Int) &&& BitVec.ofInt 64 1).toNat = k % 2 := by
  rw [BitVec.toNat_and, show BitVec.ofInt 64 1 = 1#64 from rfl, BitVec.toNat_ofInt]
  show _ &&& 1 = _
  rw [Nat.and_one_is_mod]
  omega
 rw [e]; exact wrap_i64 (by omega) (by omega)
def clampN (s : Int) : Nat := if s < 1 ∨ 64 < s then 64 else s.toNat
def askB (cs : List Ch) (even : Bool) (k : Nat) : Bool := ownB k even && decide ((cs.getD k ch0).st = 0)
def askK (cs : List Ch) (even : Bool) : Option Nat := (List.range cs.length).find? (askB cs even)
theorem askK_hit {cs : List Ch} {even : Bool} {k : Nat} (hk : k < cs.length) (h : askB cs even k = true) (hb : ∀ j, j < k → askB cs even j = false) : askK cs even = some k := by
 unfold askK
 rw [List.find?_eq_some_iff_append]
 refine ⟨h, List.range k, (List.range' (k + 1) (cs.length - (k + 1))), ?_, fun j hj => by rw [List.mem_range] at hj; rw [hb j hj]; rfl⟩
 rw [List.range_eq_range', List.range_eq_range']
 have e : cs.length = k + (cs.length - k) := by omega
 conv => lhs; rw [e]
 rw [List.range'_append_1.symm, Nat.zero_add]
 congr 1
 rw [show cs.length - k = (cs.length - (k + 1)) + 1 by omega, List.range'_succ]
theorem askK_none {cs : List Ch} {even : Bool} (hb : ∀ j, j < cs.length → askB cs even j = false) : askK cs even = none := by
 unfold askK
 rw [List.find?_eq_none]
 intro j hj
 rw [List.mem_range] at hj
 rw [hb j hj]; decide
def askE (cs : List Ch) (even : Bool) (kind : Int) (label proto : List UInt8) : Int := if encE kind label proto ≠ 0 then encE kind label proto else match askK cs even with | some _ => 0 | none => 9
def askS (cs : List Ch) (even : Bool) (kind : Int) (label proto : List UInt8) : Int := if encE kind label proto ≠ 0 then 0 else match askK cs even with | some k => (k : Int) | none => 0
def askO (cs : List Ch) (even : Bool) (kind prio limit : Int) (label proto : List UInt8) : List UInt8 := if encE kind label proto ≠ 0 then [] else match askK cs even with | some _ => encB kind prio limit label proto | none => []
def askC (cs : List Ch) (even : Bool) (kind prio limit : Int) (label proto : List UInt8) : List Ch := if encE kind label proto ≠ 0 then cs else match askK cs even with | some k => cs.set k ⟨1, kind, prio, limit, label, proto, false, false⟩ | none => cs
theorem getD_of {cs : List Ch} {k : Nat} {c : Ch} (h : cs[k]? = some c) : cs.getD k ch0 = c := by rw [List.getD_eq_getElem?_getD, h]; rfl
theorem ex_at {cs : List Ch} {k : Nat} (h : k < cs.length) : ∃ c, cs[k]? = some c := ⟨_, List.getElem?_eq_getElem h⟩
theorem Tb.ro {H H0 : AH} {R : HL} (h : Tb H0) (ho : H0.Ok) (hH : Hs H (allL H0 ++ R)) : Tb H := ⟨hH.ro ho h.t0, hH.ro ho h.t1⟩
theorem own_ev {H : AH} {T Lb : Nat} {cs : List Ch} {even : Bool} (hok : H.Ok) (hT : H.get T = some (.cells [.sl (some (Lb, 0)) cs.length cs.length 0, .b even] true)) (k : Nat) (hk : k < 9223372036854775808) : Ev tabV spV (.fn (.func 49) [] []) [.p (some (T, 0)), .i .i64 k] H (fun r H' => r = .b (ownB k even) ∧ H' = H) := by
 refine Ev_C (F := x49) rfl ?_
 have hO0 := Old.refl hok
 refine sr ?_
 refine pv (.b false) rfl ?_
 refine O_nil (sr ?_)
 refine pv (.i .i64 (((k : Nat)) : Int)) rfl ?_
 refine O_p (.i .i64 ((((k % 2) : Nat)) : Int)) (r_bin rfl rfl (congrArg (fun z => some (AV.i .i64 z)) (and1 k))) ?_
 refine O_p (.b (decide (((((k % 2) : Nat)) : Int) = 0))) (r_eql rfl rfl) ?_
 refine pv (.p (some (T, 0))) rfl ?_
 refine O_p (.p (some (T, 0))) (r_nilc rfl) ?_
 refine pf (.p (some (T, 1))) rfl rfl ?_
 refine O_p (.b even) (r_ld rfl hT rfl) ?_
 refine O_p (.b ((decide (((((k % 2) : Nat)) : Int) = 0)) == even)) (r_beq rfl rfl) ?_
 refine pv (.b ((decide (((((k % 2) : Nat)) : Int) = 0)) == even)) rfl ?_
 refine O_nil ?_
 refine C_ret ?_
 exact ⟨.inr rfl, _, resL_one (r_tmp (v := (.b ((decide (((((k % 2) : Nat)) : Int) = 0)) == even))) rfl), rfl, rfl⟩
theorem rown_ev {H : AH} {T Lb : Nat} {cs : List Ch} {even : Bool} (hok : H.Ok) (hT : H.get T = some (.cells [.sl (some (Lb, 0)) cs.length cs.length 0, .b even] true)) (k : Nat) (hk : k < 9223372036854775808) : Ev tabV spV (.fn (.func 67) [] []) [.p (some (T, 0)), .i .i64 k] H (fun r H' => r = .b (ownB k even) ∧ H' = H) := by
 refine Ev_C (F := x67) rfl ?_
 have hO0 := Old.refl hok
 refine sr ?_
 refine pv (.b false) rfl ?_
 refine O_nil (sr ?_)
 refine pv (.i .i64 (((k : Nat)) : Int)) rfl ?_
 refine O_p (.i .i64 ((((k % 2) : Nat)) : Int)) (by exact (r_remn (a := k) (b := 2) rfl rfl (by omega))) ?_
 refine O_p (.b (decide (((((k % 2) : Nat)) : Int) = 0))) (r_eql rfl rfl) ?_
 refine pv (.p (some (T, 0))) rfl ?_
 refine O_p (.p (some (T, 0))) (r_nilc rfl) ?_
 refine pf (.p (some (T, 1))) rfl rfl ?_
 refine O_p (.b even) (r_ld rfl hT rfl) ?_
 refine O_p (.b ((decide (((((k % 2) : Nat)) : Int) = 0)) == even)) (r_beq rfl rfl) ?_
 refine pv (.b ((decide (((((k % 2) : Nat)) : Int) = 0)) == even)) rfl ?_
 refine O_nil ?_
 refine C_ret ?_
 exact ⟨.inr rfl, _, resL_one (r_tmp (v := (.b ((decide (((((k % 2) : Nat)) : Int) = 0)) == even))) rfl), rfl, rfl⟩
theorem at_in {H : AH} {T Lb : Nat} {cs : List Ch} {even : Bool} (hok : H.Ok) (hT : H.get T = some (.cells [.sl (some (Lb, 0)) cs.length cs.length 0, .b even] true)) {k : Nat} (hk16 : k < 65536) (hk : k < cs.length) : Ev tabV spV (.fn (.func 50) [] []) [.p (some (T, 0)), .i .u16 k] H (fun r H' => r = .p (some (Lb, k * 8 + 0)) ∧ H' = H) := by
 refine Ev_C (F := x50) rfl ?_
 have hO0 := Old.refl hok
 refine sr ?_
 refine pv (.p none) rfl ?_
 refine O_nil ?_
 refine C_seq ?_
 refine sr ?_
 refine pv (.p (some (T, 0))) rfl ?_
 refine O_p (.b false) (r_nilq_s rfl) ?_
 refine pv (.b false) rfl ?_
 refine O_gs (v := (.i .u16 ((k : Nat) : Int))) rfl (r_mv rfl) ?_
 refine O_gs (v := (.i .i64 (((k : Nat)) : Int))) rfl (by exact (r_cint' rfl (wrap_i64 (by omega) (by omega)))) ?_
 refine O_gs (v := (.p (some (T, 0)))) rfl (r_mv rfl) ?_
 refine O_gs (v := (.p (some (T, 0)))) rfl (r_nilc rfl) ?_
 refine O_gs (v := (.p (some (T, 0)))) rfl (r_fadd' rfl rfl) ?_
 refine O_gs (v := (.sl (some (Lb, 0)) cs.length cs.length 0)) rfl (r_ld rfl hT rfl) ?_
 refine O_gs (v := (.i .i64 (((cs.length : Nat)) : Int))) rfl (r_len rfl) ?_
 refine O_gs (v := (.b (decide ((((cs.length : Nat)) : Int) ≤ (((k : Nat)) : Int))))) rfl (r_geq rfl rfl) ?_
 refine O_p (.b (decide ((((cs.length : Nat)) : Int) ≤ (((k : Nat)) : Int)))) (r_pick_f rfl rfl) ?_
 refine O_nil ?_
 refine C_cond (x := (decide ((((cs.length : Nat)) : Int) ≤ (((k : Nat)) : Int)))) rfl (fun hc1 => ?_) (fun hc1 => ?_)
 ·
  simp only [decide_eq_true_eq, decide_eq_false_iff_not, Bool.not_eq_true', Bool.not_eq_false', Bool.and_eq_true, Bool.or_eq_true, Bool.or_eq_false_iff, Bool.not_not] at hc1
  exfalso; omega
 ·
  simp only [decide_eq_true_eq, decide_eq_false_iff_not, Bool.not_eq_true', Bool.not_eq_false', Bool.and_eq_true, Bool.or_eq_true, Bool.or_eq_false_iff, Bool.not_not] at hc1
  refine C_skip ?_
  refine sr ?_
  refine pv (.p (some (T, 0))) rfl ?_
  refine O_p (.p (some (T, 0))) (r_nilc rfl) ?_
  refine pf (.p (some (T, 0))) rfl rfl ?_
  refine O_p (.sl (some (Lb, 0)) cs.length cs.length 0) (r_ld rfl hT rfl) ?_
  refine pv (.i .u16 ((k : Nat) : Int)) rfl ?_
  refine O_p (.p (some (Lb, (k * 8 + 0)))) (by exact (r_islr rfl rfl (by omega))) ?_
  refine pv (.p (some (Lb, (k * 8 + 0)))) rfl ?_
  refine O_nil ?_
  refine C_ret ?_
  exact ⟨.inr rfl, _, resL_one (r_tmp (v := (.p (some (Lb, (k * 8 + 0))))) rfl), rfl, rfl⟩
theorem at_out {H : AH} {T Lb : Nat} {cs : List Ch} {even : Bool} (hok : H.Ok) (hT : H.get T = some (.cells [.sl (some (Lb, 0)) cs.length cs.length 0, .b even] true)) {k : Nat} (hk16 : k < 65536) (hk : ¬ k < cs.length) : Ev tabV spV (.fn (.func 50) [] []) [.p (some (T, 0)), .i .u16 k] H (fun r H' => r = .p none ∧ H' = H) := by
 refine Ev_C (F := x50) rfl ?_
 have hO0 := Old.refl hok
 refine sr ?_
 refine pv (.p none) rfl ?_
 refine O_nil ?_
 refine C_seq ?_
 refine sr ?_
 refine pv (.p (some (T, 0))) rfl ?_
 refine O_p (.b false) (r_nilq_s rfl) ?_
 refine pv (.b false) rfl ?_
 refine O_gs (v := (.i .u16 ((k : Nat) : Int))) rfl (r_mv rfl) ?_
 refine O_gs (v := (.i .i64 (((k : Nat)) : Int))) rfl (by exact (r_cint' rfl (wrap_i64 (by omega) (by omega)))) ?_
 refine O_gs (v := (.p (some (T, 0)))) rfl (r_mv rfl) ?_
 refine O_gs (v := (.p (some (T, 0)))) rfl (r_nilc rfl) ?_
 refine O_gs (v := (.p (some (T, 0)))) rfl (r_fadd' rfl rfl) ?_
 refine O_gs (v := (.sl (some (Lb, 0)) cs.length cs.length 0)) rfl (r_ld rfl hT rfl) ?_
 refine O_gs (v := (.i .i64 (((cs.length : Nat)) : Int))) rfl (r_len rfl) ?_
 refine O_gs (v := (.b (decide ((((cs.length : Nat)) : Int) ≤ (((k : Nat)) : Int))))) rfl (r_geq rfl rfl) ?_
 refine O_p (.b (decide ((((cs.length : Nat)) : Int) ≤ (((k : Nat)) : Int)))) (r_pick_f rfl rfl) ?_
 refine O_nil ?_
 refine C_cond (x := (decide ((((cs.length : Nat)) : Int) ≤ (((k : Nat)) : Int)))) rfl (fun hc1 => ?_) (fun hc1 => ?_)
 ·
  simp only [decide_eq_true_eq, decide_eq_false_iff_not, Bool.not_eq_true', Bool.not_eq_false', Bool.and_eq_true, Bool.or_eq_true, Bool.or_eq_false_iff, Bool.not_not] at hc1
  refine sr ?_
  refine pv (.p none) rfl ?_
  refine O_nil ?_
  refine C_ret ?_
  refine nx_ret ?_
  exact ⟨.inr rfl, _, resL_one (r_tmp (v := (.p none)) rfl), rfl, rfl⟩
 ·
  simp only [decide_eq_true_eq, decide_eq_false_iff_not, Bool.not_eq_true', Bool.not_eq_false', Bool.and_eq_true, Bool.or_eq_true, Bool.or_eq_false_iff, Bool.not_not] at hc1
  exfalso; omega
theorem lives_ev {H : AH}  {b o : Nat} {cs : List AV} {mu : Bool} {st : Int} (hg : H.get b = some (.cells cs mu)) (hc : cs[o]? = some (.i .i64 st)) : Ev tabV spV (.fn (.func 51) [] []) [.p (some (b, o))] H (fun r H' => r = .b (livesI st) ∧ H' = H) := by
 refine Ev_C (F := x51) rfl ?_
 refine sr ?_
 refine pv (.b false) rfl ?_
 refine O_nil (sr ?_)
 refine pv (.p (some (b, o))) rfl ?_
 refine O_p (.p (some (b, o))) (r_nilc rfl) ?_
 refine pf (.p (some (b, o))) rfl rfl ?_
 refine O_p (.i .i64 st) (r_ld rfl hg hc) ?_
 refine O_p (.b (decide (st = 1))) (r_eql rfl rfl) ?_
 refine pv (.b (decide (st = 1))) rfl ?_
 refine O_gx (e := (!(decide (st = 1)))) (v := (.p (some (b, o)))) (wf rfl) (fun he => (r_mv rfl)) ?_
 refine O_gx (e := (!(decide (st = 1)))) (v := (.p (some (b, o)))) (wf rfl) (fun he => (r_nilc (cond_pos he))) ?_
 refine O_gx (e := (!(decide (st = 1)))) (v := (.p (some (b, o)))) (wf rfl) (fun he => (r_fadd' (cond_pos he) rfl)) ?_
 refine O_gx (e := (!(decide (st = 1)))) (v := (.i .i64 st)) (wf rfl) (fun he => (r_ld (cond_pos he) hg hc)) ?_
 refine O_gx (e := (!(decide (st = 1)))) (v := (.b (decide (st = 2)))) (wf rfl) (fun he => (r_eql (cond_pos he) rfl)) ?_
 refine O_p (.b ((decide (st = 1)) || (decide (st = 2)))) (r_pick_or rfl rfl rfl rfl) ?_
 refine pv (.b ((decide (st = 1)) || (decide (st = 2)))) rfl ?_
 refine O_nil ?_
 refine C_ret ?_
 exact ⟨.inr rfl, _, resL_one (r_tmp (v := (.b ((decide (st = 1)) || (decide (st = 2))))) rfl), rfl, rfl⟩
theorem shut_ev {H : AH} {Lb : Nat} {cs : List Ch} {R : HL} {k : Nat} (c : Ch) (hk : k < cs.length) (m t : Bool) (hH0 : Hs H ([(Lb, some (.cells ((cs.map Ch.row).set k (Ch.row c)).flatten true))] ++ R)) : Ev tabV spV (.fn (.func 52) [] []) [.p (some (Lb, k * 8 + 0)), .b m, .b t] H (fun r H' => r = .tup [] ∧ Hs H' ([(Lb, some (.cells ((cs.map Ch.row).set k (Ch.row (c.shut m t))).flatten true))] ++ R)) := by
 refine Ev_C (F := x52) rfl ?_
 refine sr ?_
 refine pv (.p (some (Lb, (k * 8 + 0)))) rfl ?_
 refine O_p (.p (some (Lb, (k * 8 + 0)))) (r_nilc rfl) ?_
 refine pf (.p (some (Lb, (k * 8 + 0)))) rfl rfl ?_
 refine O_store (vs := [(.i .i64 3)]) (c' := ((cs.map Ch.row).set k [(.i .i64 3), (.i .u8 c.kind), (.i .u16 c.prio), (.i .u32 c.limit), (.s (txt c.label)), (.s (txt c.proto)), (.b c.mine), (.b c.theirs)]).flatten) rfl (by rfl) hH0.get0 rfl (List.cons_ne_nil _ _) (foc_len (n := 1) (rows_map Ch.row_len cs) (by rw [List.length_map]; exact hk) rfl (Nat.le_of_ble_eq_true rfl)) (foc_put (rows_map Ch.row_len cs) (by rw [List.length_map]; exact hk) rfl (Nat.le_of_ble_eq_true rfl) rfl) fun H1 hW2 => ?_
 have hH3 := hH0.wr0 hW2
 refine O_nil ?_
 refine C_seq ?_
 refine C_draw fun b4 H5 hbase6 hA7 => ?_
 have hH8 := hH3.keep (by have := hA7.1; omega) (fun q _ => hA7.2 q) ((hH3.old).aside hA7).ok
 refine D_l (v := (.p (some (Lb, (k * 8 + 0))))) rfl rfl rfl (r_mv rfl) ?_
 refine D_l (v := (.p (some (Lb, (k * 8 + 0))))) rfl rfl rfl (r_mv rfl) ?_
 refine D_l (v := (.p (some (Lb, (k * 8 + 0))))) rfl rfl rfl (r_mv rfl) ?_
 refine D_l (v := (.p (some (Lb, (k * 8 + 0))))) rfl rfl rfl (r_nilc rfl) ?_
 refine D_l (v := (.p (some (Lb, (k * 8 + 6))))) rfl rfl rfl (r_fadd' rfl rfl) ?_
 refine D_l (v := (.p (some (Lb, (k * 8 + 0))))) rfl rfl rfl (r_mv rfl) ?_
 refine D_l (v := (.p (some (Lb, (k * 8 + 0))))) rfl rfl rfl (r_nilc rfl) ?_
 refine D_l (v := (.p (some (Lb, (k * 8 + 7))))) rfl rfl rfl (r_fadd' rfl rfl) ?_
 refine D_r (v := (.b c.mine)) rfl rfl rfl (by exact (r_ld rfl hH8.get0 ((foc_get (rows_map Ch.row_len cs) (by rw [List.length_map]; exact hk) rfl (by decide)).trans rfl))) ?_
 refine D_l (v := (.b c.mine)) rfl rfl rfl (r_mv rfl) ?_
 refine D_gx (e := (!c.mine)) (v := (.b m)) (wf rfl) rfl rfl rfl (fun he => (r_mv rfl)) ?_
 refine D_l (v := (.b (c.mine || m))) rfl rfl rfl (r_pick_or rfl rfl rfl rfl) ?_
 refine D_r (v := (.b c.theirs)) rfl rfl rfl (by exact (r_ld rfl hH8.get0 ((foc_get (rows_map Ch.row_len cs) (by rw [List.length_map]; exact hk) rfl (by decide)).trans rfl))) ?_
 refine D_l (v := (.b c.theirs)) rfl rfl rfl (r_mv rfl) ?_
 refine D_gx (e := (!c.theirs)) (v := (.b t)) (wf rfl) rfl rfl rfl (fun he => (r_mv rfl)) ?_
 refine D_l (v := (.b (c.theirs || t))) rfl rfl rfl (r_pick_or rfl rfl rfl rfl) ?_
 refine D_l (v := (.p (some (Lb, (k * 8 + 0))))) rfl rfl rfl (r_nilc rfl) ?_
 refine D_l (v := (.p (some (Lb, (k * 8 + 6))))) rfl rfl rfl (r_fadd' rfl rfl) ?_
 refine D_store (vs := [(.b (c.mine || m))]) (c' := ((cs.map Ch.row).set k [(.i .i64 3), (.i .u8 c.kind), (.i .u16 c.prio), (.i .u32 c.limit), (.s (txt c.label)), (.s (txt c.proto)), (.b (c.mine || m)), (.b c.theirs)]).flatten) rfl (by rfl) hH8.get0 rfl (List.cons_ne_nil _ _) (foc_len (n := 1) (rows_map Ch.row_len cs) (by rw [List.length_map]; exact hk) rfl (Nat.le_of_ble_eq_true rfl)) (foc_put (rows_map Ch.row_len cs) (by rw [List.length_map]; exact hk) rfl (Nat.le_of_ble_eq_true rfl) rfl) fun H9 hW10 => ?_
 have hH11 := hH8.wr0 hW10
 refine And.intro (And.intro (Or.inl rfl) (And.intro (Or.inl rfl) True.intro)) ?_
 refine D_l (v := (.p (some (Lb, (k * 8 + 0))))) rfl rfl rfl (r_nilc rfl) ?_
 refine D_l (v := (.p (some (Lb, (k * 8 + 7))))) rfl rfl rfl (r_fadd' rfl rfl) ?_
 refine D_store (vs := [(.b (c.theirs || t))]) (c' := ((cs.map Ch.row).set k [(.i .i64 3), (.i .u8 c.kind), (.i .u16 c.prio), (.i .u32 c.limit), (.s (txt c.label)), (.s (txt c.proto)), (.b (c.mine || m)), (.b (c.theirs || t))]).flatten) rfl (by rfl) hH11.get0 rfl (List.cons_ne_nil _ _) (foc_len (n := 1) (rows_map Ch.row_len cs) (by rw [List.length_map]; exact hk) rfl (Nat.le_of_ble_eq_true rfl)) (foc_put (rows_map Ch.row_len cs) (by rw [List.length_map]; exact hk) rfl (Nat.le_of_ble_eq_true rfl) rfl) fun H12 hW13 => ?_
 have hH14 := hH11.wr0 hW13
 refine And.intro True.intro ?_
 refine D_nil ?_
 refine sr ?_
 refine pv (.p (some (Lb, (k * 8 + 0)))) rfl ?_
 refine O_p (.p (some (Lb, (k * 8 + 0)))) (r_nilc rfl) ?_
 refine pf (.p (some (Lb, (k * 8 + 6)))) rfl rfl ?_
 refine O_p (.b (c.mine || m)) (by exact (r_ld rfl hH14.get0 ((foc_get (rows_map Ch.row_len cs) (by rw [List.length_map]; exact hk) rfl (by decide)).trans rfl))) ?_
 refine pv (.b (c.mine || m)) rfl ?_
 refine O_gx (e := (c.mine || m)) (v := (.p (some (Lb, (k * 8 + 0))))) (wt rfl) (fun he => (r_mv rfl)) ?_
 refine O_gx (e := (c.mine || m)) (v := (.p (some (Lb, (k * 8 + 0))))) (wt rfl) (fun he => (r_nilc (cond_pos he))) ?_
 refine O_gx (e := (c.mine || m)) (v := (.p (some (Lb, (k * 8 + 7))))) (wt rfl) (fun he => (r_fadd' (cond_pos he) rfl)) ?_
 refine O_gx (e := (c.mine || m)) (v := (.b (c.theirs || t))) (wt rfl) (fun he => (by exact (r_ld (cond_pos he) hH14.get0 ((foc_get (rows_map Ch.row_len cs) (by rw [List.length_map]; exact hk) rfl (by decide)).trans rfl)))) ?_
 refine O_p (.b ((c.mine || m) && (c.theirs || t))) (r_pick_and rfl rfl rfl rfl) ?_
 refine O_nil ?_
 refine C_cond (x := ((c.mine || m) && (c.theirs || t))) rfl (fun hc15 => ?_) (fun hc15 => ?_)
 ·
  refine C_region ?_
  refine pv (.p (some (Lb, (k * 8 + 0)))) rfl ?_
  refine O_p (.agg zTAA ) (r_build rfl) ?_
  refine O_p (.p (some (Lb, (k * 8 + 0)))) (r_nilc rfl) ?_
  refine O_store (vs := zTAA ) (c' := ((cs.map Ch.row).set k zTAA ).flatten) rfl (by rfl) hH14.get0 rfl (List.cons_ne_nil _ _) (foc_len (n := 8) (rows_map Ch.row_len cs) (by rw [List.length_map]; exact hk) rfl (Nat.le_of_ble_eq_true rfl)) (foc_put (rows_map Ch.row_len cs) (by rw [List.length_map]; exact hk) rfl (Nat.le_of_ble_eq_true rfl) rfl) fun H16 hW17 => ?_
  have hH18 := hH14.wr0 hW17
  refine O_nil ?_
  have hsh : c.shut m t = ch0 := if_pos hc15
  exact ⟨.inl rfl, _, rfl, rfl, by rw [hsh]; exact hH18⟩
 ·
  refine C_skip ?_
  have hsh : c.shut m t = ⟨3, c.kind, c.prio, c.limit, c.label, c.proto, c.mine || m, c.theirs || t⟩ := if_neg (by rw [hc15]; decide)
  exact ⟨.inl rfl, _, rfl, rfl, by rw [hsh]; exact hH14⟩
theorem tnew_ev {H : AH} {L : HL} (even : Bool) (st : Int) (hH0 : Hs H L) : Ev tabV spV (.fn (.func 22) [] []) [.b even, .i .i64 st] H (fun r H' => ∃ T Lb, r = .p (some (T, 0)) ∧ Hs H' ([(T, some (.cells [.sl (some (Lb, 0)) (List.replicate (clampN st) ch0).length (List.replicate (clampN st) ch0).length 0, .b even] true))] ++ ([(Lb, some (.cells ((List.replicate (clampN st) ch0).map Ch.row).flatten true))] ++ L))) := by
 refine Ev_C (F := x22) rfl ?_
 have hLL : Hs H L := hH0
 have hH0 := hLL
 refine sr ?_
 refine pv (.p none) rfl ?_
 refine O_nil ?_
 refine C_seq ?_
 refine sr ?_
 refine pv (.i .i64 st) rfl ?_
 refine O_p (.b (decide (st < 1))) (r_lss rfl rfl) ?_
 refine pv (.b (decide (st < 1))) rfl ?_
 refine O_gx (e := (!(decide (st < 1)))) (v := (.i .i64 st)) (wf rfl) (fun he => (r_mv rfl)) ?_
 refine O_gx (e := (!(decide (st < 1)))) (v := (.b (decide (64 < st)))) (wf rfl) (fun he => (r_gtr (cond_pos he) rfl)) ?_
 refine O_p (.b ((decide (st < 1)) || (decide (64 < st)))) (r_pick_or rfl rfl rfl rfl) ?_
 refine O_nil ?_
 refine C_cond (x := ((decide (st < 1)) || (decide (64 < st)))) rfl (fun hc1 => ?_) (fun hc1 => ?_)
 ·
  simp only [decide_eq_true_eq, decide_eq_false_iff_not, Bool.not_eq_true', Bool.not_eq_false', Bool.and_eq_true, Bool.or_eq_true, Bool.or_eq_false_iff, Bool.not_not] at hc1
  refine C_region ?_
  refine pv (.i .i64 64) rfl ?_
  refine O_nil (sr ?_)
  refine pv (.i .i64 64) rfl ?_
  refine O_mks (n := 64) (bytes := 56) (z := zTAA ) rfl rfl (by decide) (by omega) fun n2 H3 hN4 => ?_
  have hH5 := hLL.new hN4
  refine pv (.b even) rfl ?_
  refine O_p (.agg [(.sl (some (n2, 0)) 64 64 0), (.b even)]) (r_build rfl) ?_
  refine O_box (z := [(.sl (some (n2, 0)) 64 64 0), (.b even)]) rfl fun n6 H7 hN8 => ?_
  have hH9 := hH5.new hN8
  refine pv (.p (some (n6, 0))) rfl ?_
  refine O_nil ?_
  refine C_ret ?_
  have hcl : clampN st = 64 := by unfold clampN; rw [if_pos (by omega)]
  refine ⟨.inr rfl, _, resL_one (r_tmp (v := (.p (some (n6, 0)))) rfl), n6, n2, rfl, ?_⟩
  have hfin := hH9
  rw [List.map_replicate, List.length_replicate, hcl]; exact hfin
 ·
  simp only [decide_eq_true_eq, decide_eq_false_iff_not, Bool.not_eq_true', Bool.not_eq_false', Bool.and_eq_true, Bool.or_eq_true, Bool.or_eq_false_iff, Bool.not_not] at hc1
  refine C_skip ?_
  refine sr ?_
  refine pv (.i .i64 st) rfl ?_
  refine O_mks (n := st.toNat) (bytes := 56) (z := zTAA ) (by rw [Int.toNat_of_nonneg (by omega)]; rfl) (by rw [Int.toNat_of_nonneg (by omega)]; rfl) (by omega) (by omega) fun n10 H11 hN12 => ?_
  have hH13 := hLL.new hN12
  refine pv (.b even) rfl ?_
  refine O_p (.agg [(.sl (some (n10, 0)) st.toNat st.toNat 0), (.b even)]) (r_build rfl) ?_
  refine O_box (z := [(.sl (some (n10, 0)) st.toNat st.toNat 0), (.b even)]) rfl fun n14 H15 hN16 => ?_
  have hH17 := hH13.new hN16
  refine pv (.p (some (n14, 0))) rfl ?_
  refine O_nil ?_
  refine C_ret ?_
  have hcl : clampN st = st.toNat := by unfold clampN; rw [if_neg (by omega)]
  refine ⟨.inr rfl, _, resL_one (r_tmp (v := (.p (some (n14, 0)))) rfl), n14, n10, rfl, ?_⟩
  have hfin := hH17
  rw [List.map_replicate, List.length_replicate, hcl]; exact hfin
theorem rtnew_ev {H : AH} {L : HL} (even : Bool) (st : Int) (hH0 : Hs H L) : Ev tabV spV (.fn (.func 30) [] []) [.b even, .i .i64 st] H (fun r H' => ∃ T Lb, r = .p (some (T, 0)) ∧ Hs H' ([(T, some (.cells [.sl (some (Lb, 0)) (List.replicate (clampN st) ch0).length (List.replicate (clampN st) ch0).length 0, .b even] true))] ++ ([(Lb, some (.cells ((List.replicate (clampN st) ch0).map Ch.row).flatten true))] ++ L))) := by
 refine Ev_C (F := x30) rfl ?_
 have hLL : Hs H L := hH0
 have hH0 := hLL
 refine sr ?_
 refine pv (.p none) rfl ?_
 refine O_nil ?_
 refine C_seq ?_
 refine sr ?_
 refine pv (.i .i64 st) rfl ?_
 refine O_p (.b (decide (st < 1))) (r_lss rfl rfl) ?_
 refine pv (.b (decide (st < 1))) rfl ?_
 refine O_gx (e := (!(decide (st < 1)))) (v := (.i .i64 st)) (wf rfl) (fun he => (r_mv rfl)) ?_
 refine O_gx (e := (!(decide (st < 1)))) (v := (.b (decide (64 < st)))) (wf rfl) (fun he => (r_gtr (cond_pos he) rfl)) ?_
 refine O_p (.b ((decide (st < 1)) || (decide (64 < st)))) (r_pick_or rfl rfl rfl rfl) ?_
 refine O_nil ?_
 refine C_cond (x := ((decide (st < 1)) || (decide (64 < st)))) rfl (fun hc1 => ?_) (fun hc1 => ?_)
 ·
  simp only [decide_eq_true_eq, decide_eq_false_iff_not, Bool.not_eq_true', Bool.not_eq_false', Bool.and_eq_true, Bool.or_eq_true, Bool.or_eq_false_iff, Bool.not_not] at hc1
  refine C_region ?_
  refine pv (.i .i64 64) rfl ?_
  refine O_nil (sr ?_)
  refine pv (.i .i64 64) rfl ?_
  refine O_mks (n := 64) (bytes := 56) (z := zTAA ) rfl rfl (by decide) (by omega) fun n2 H3 hN4 => ?_
  have hH5 := hLL.new hN4
  refine pv (.b even) rfl ?_
  refine O_p (.agg [(.sl (some (n2, 0)) 64 64 0), (.b even)]) (r_build rfl) ?_
  refine O_box (z := [(.sl (some (n2, 0)) 64 64 0), (.b even)]) rfl fun n6 H7 hN8 => ?_
  have hH9 := hH5.new hN8
  refine pv (.p (some (n6, 0))) rfl ?_
  refine O_nil ?_
  refine C_ret ?_
  have hcl : clampN st = 64 := by unfold clampN; rw [if_pos (by omega)]
  refine ⟨.inr rfl, _, resL_one (r_tmp (v := (.p (some (n6, 0)))) rfl), n6, n2, rfl, ?_⟩
  have hfin := hH9
  rw [List.map_replicate, List.length_replicate, hcl]; exact hfin
 ·
  simp only [decide_eq_true_eq, decide_eq_false_iff_not, Bool.not_eq_true', Bool.not_eq_false', Bool.and_eq_true, Bool.or_eq_true, Bool.or_eq_false_iff, Bool.not_not] at hc1
  refine C_skip ?_
  refine sr ?_
  refine pv (.i .i64 st) rfl ?_
  refine O_mks (n := st.toNat) (bytes := 56) (z := zTAA ) (by rw [Int.toNat_of_nonneg (by omega)]; rfl) (by rw [Int.toNat_of_nonneg (by omega)]; rfl) (by omega) (by omega) fun n10 H11 hN12 => ?_
  have hH13 := hLL.new hN12
  refine pv (.b even) rfl ?_
  refine O_p (.agg [(.sl (some (n10, 0)) st.toNat st.toNat 0), (.b even)]) (r_build rfl) ?_
  refine O_box (z := [(.sl (some (n10, 0)) st.toNat st.toNat 0), (.b even)]) rfl fun n14 H15 hN16 => ?_
  have hH17 := hH13.new hN16
  refine pv (.p (some (n14, 0))) rfl ?_
  refine O_nil ?_
  refine C_ret ?_
  have hcl : clampN st = st.toNat := by unfold clampN; rw [if_neg (by omega)]
  refine ⟨.inr rfl, _, resL_one (r_tmp (v := (.p (some (n14, 0)))) rfl), n14, n10, rfl, ?_⟩
  have hfin := hH17
  rw [List.map_replicate, List.length_replicate, hcl]; exact hfin
set_option maxRecDepth 100000 in
theorem ask_ok {H : AH} {T Lb : Nat} {cs : List Ch} {even : Bool} {H0 : AH} {R : HL} (hok0 : H0.Ok) (htb0 : Tb H0) (kind prio limit : Int) (label proto : List UInt8) (hk : 0 ≤ kind ∧ kind < 256) (hp : 0 ≤ prio ∧ prio < 65536) (hl : 0 ≤ limit ∧ limit < 4294967296) (hll : label.length ≤ 9223372036854775807) (hpl : proto.length ≤ 9223372036854775807) (hE : encE kind label proto = 0) (hcs : cs.length ≤ 64) (hH0 : Hs H ([(T, some (.cells [.sl (some (Lb, 0)) cs.length cs.length 0, .b even] true))] ++ ([(Lb, some (.cells ((cs).map Ch.row).flatten true))] ++ (allL H0 ++ R)))) : Ev tabV spV (.fn (.func 23) [] []) [.p (some (T, 0)), .agg [(.i .u8 kind), (.i .u16 prio), (.i .u32 limit), (.s (txt label)), (.s (txt proto))]] H (fun r H' => ∃ v c, r = .tup [.i .u16 (askS cs even kind label proto), v, .i .i64 (askE cs even kind label proto)] ∧ Sq 1 v c (bcells (askO cs even kind prio limit label proto)) ∧ Hs H' (qseg v c ++ ([(T, some (.cells [.sl (some (Lb, 0)) (askC cs even kind prio limit label proto).length (askC cs even kind prio limit label proto).length 0, .b even] true))] ++ ([(Lb, some (.cells ((askC cs even kind prio limit label proto).map Ch.row).flatten true))] ++ (allL H0 ++ R))))) := by
 refine Ev_C (F := x23) rfl ?_
 refine sr ?_
 refine O_box (z := [(.i .u8 kind), (.i .u16 prio), (.i .u32 limit), (.s (txt label)), (.s (txt proto))]) rfl fun n1 H2 hN3 => ?_
 have hH4 := hH0.new hN3
 refine pv (.i .u16 0) rfl ?_
 refine pv (.sl none 0 0 0) rfl ?_
 refine pv (.i .i64 0) rfl ?_
 refine O_nil ?_
 refine C_seq ?_
 refine sr ?_
 refine pv (.p (some (T, 0))) rfl ?_
 refine O_p (.b false) (r_nilq_s rfl) ?_
 refine O_nil ?_
 refine C_cond (x := false) rfl (fun h => by cases h) (fun _ => ?_)
 refine C_skip ?_
 refine sr ?_
 refine O_p (.agg [(.i .u8 kind), (.i .u16 prio), (.i .u32 limit), (.s (txt label)), (.s (txt proto))]) (r_ldA rfl hH4.get0 rfl) ?_
 refine O_call (Ev.mono (enc_ev hH4.ok (Tb.ro htb0 hok0 hH4.top3) kind prio limit label proto hk hp hl hll hpl) fun v5 H6 hq7 => ?_)
 rw [hE, encR_ok hE] at hq7
 obtain ⟨o8, rfl, hM9, hK10⟩ := hq7
 have hsq11 := Sq.ofMine hH4 hM9 hK10
 have hH12 := Hs.ofMine hH4 hM9 hK10
 refine pv (.tup [o8, (.i .i64 0)]) rfl ?_
 refine O_p o8 (r_ext rfl rfl) ?_
 refine O_p (.i .i64 0) (r_ext rfl rfl) ?_
 refine pv o8 rfl ?_
 refine pv (.i .i64 0) rfl ?_
 refine O_nil ?_
 refine C_seq ?_
 refine sr ?_
 refine pv (.i .i64 0) rfl ?_
 refine O_p (.b false) (r_bin rfl rfl rfl) ?_
 refine O_nil ?_
 refine C_cond (x := false) rfl (fun h => by cases h) (fun _ => ?_)
 refine C_skip ?_
 refine C_seq ?_
 refine sr ?_
 refine pv (.p (some (T, 0))) rfl ?_
 refine O_p (.p (some (T, 0))) (r_nilc rfl) ?_
 refine pf (.p (some (T, 0))) rfl rfl ?_
 refine O_p (.sl (some (Lb, 0)) cs.length cs.length 0) (r_ld rfl hH12.get2 rfl) ?_
 refine O_p (.i .i64 (((cs.length : Nat)) : Int)) (r_len rfl) ?_
 refine pv (.i .i64 0) rfl ?_
 refine O_nil ?_
 refine C_block ?_
 refine C_while (fun m13 T14 H15 => ∃ i : Nat, m13 = cs.length - i ∧ i ≤ cs.length ∧ (∀ j, j < i → askB cs even j = false) ∧ Hs H15 ((qseg o8 (bcells (encB kind prio limit label proto))) ++ ([(n1, some (.cells ([(.i .u8 kind), (.i .u16 prio), (.i .u32 limit), (.s (txt label)), (.s (txt proto))]) true))] ++ ([(T, some (.cells ([(.sl (some (Lb, 0)) cs.length cs.length 0), (.b even)]) true))] ++ ([(Lb, some (.cells ((cs.map Ch.row).flatten) true))] ++ ((allL H0) ++ (R)))))) ∧ T14.get 0 = (.p (some (T, 0))) ∧ T14.get 3 = (.p (some (n1, 0))) ∧ T14.get 7 = o8 ∧ T14.get 24 = (.i .i64 (((cs.length : Nat)) : Int)) ∧ T14.get 25 = (.i .i64 (((i : Nat)) : Int))) (fun m13 T14 H15 hI16 => ?_) cs.length _ _ ⟨0, rfl, Nat.zero_le _, fun j hj => absurd hj (Nat.not_lt_zero _), hH12, rfl, rfl, rfl, rfl, rfl⟩
 obtain ⟨i, hm17, hp18, hp19, hH25, hT20, hT21, hT22, hT23, hT24⟩ := hI16
 have hbefore := hp19
 refine sr ?_
 refine O_p (.b (decide ((((i : Nat)) : Int) < (((cs.length : Nat)) : Int)))) (r_lss hT24 hT23) ?_
 refine O_nil ?_
 refine C_seq ?_
 refine C_cond (x := (decide ((((i : Nat)) : Int) < (((cs.length : Nat)) : Int)))) rfl (fun hc26 => ?_) (fun hc26 => ?_)
 ·
  have hr27 := hc26
  try simp only [decide_eq_true_eq, decide_eq_false_iff_not, Bool.not_eq_true', Bool.not_eq_false', Bool.and_eq_true, Bool.or_eq_true, Bool.or_eq_false_iff, Bool.not_not, Bool.and_eq_false_iff] at hc26
  refine C_skip ?_
  refine C_seq ?_
  refine C_block ?_
  refine sr ?_
  obtain ⟨c, hc⟩ := ex_at (cs := cs) (k := i) (by omega)
  have hgd := getD_of hc
  have hH28 := hH25.cong3 (seg_foc (n := Lb) (enc := Ch.row) hc)
  refine O_p (.i .i64 (((i : Nat)) : Int)) (r_mv hT24) ?_
  refine pv (.i .i64 (((i : Nat)) : Int)) rfl ?_
  refine O_nil (sr ?_)
  refine O_p (.p (some (T, 0))) (r_mv hT20) ?_
  refine pv (.i .i64 (((i : Nat)) : Int)) rfl ?_
  refine O_call (Ev.mono (own_ev hH28.ok (hH28.get2) i (by omega)) fun v29 H30 hq31 => ?_)
  obtain ⟨rfl, hq31⟩ := hq31
  subst H30
  refine pv (.b (ownB i even)) rfl ?_
  refine O_gx (e := (ownB i even)) (v := (.p (some (T, 0)))) (wt rfl) (fun he => (r_mv hT20)) ?_
  refine O_gx (e := (ownB i even)) (v := (.p (some (T, 0)))) (wt rfl) (fun he => (r_nilc (cond_pos he))) ?_
  refine O_gx (e := (ownB i even)) (v := (.p (some (T, 0)))) (wt rfl) (fun he => (r_fadd' (cond_pos he) rfl)) ?_
  refine O_gx (e := (ownB i even)) (v := (.sl (some (Lb, 0)) cs.length cs.length 0)) (wt rfl) (fun he => (r_ld (cond_pos he) hH28.get2 rfl)) ?_
  refine O_gx (e := (ownB i even)) (v := (.i .i64 (((i : Nat)) : Int))) (wt rfl) (fun he => (r_mv rfl)) ?_
  refine O_gx (e := (ownB i even)) (v := (.p (some (Lb, (i * 8 + 0))))) (wt rfl) (fun he => (by exact (r_islr (b := Lb) (k := i) (len := cs.length) (cap := cs.length) (g := 0) (cond_pos he) (cond_pos he) (by omega)))) ?_
  refine O_gx (e := (ownB i even)) (v := (.p (some (Lb, (i * 8 + 0))))) (wt rfl) (fun he => (r_fadd' (cond_pos he) rfl)) ?_
  refine O_gx (e := (ownB i even)) (v := (.i .i64 c.st)) (wt rfl) (fun he => (by exact (r_ld (cond_pos he) hH28.get3 ((foc_get (rows_map Ch.row_len cs) (by rw [List.length_map]; omega) rfl (by decide)).trans rfl)))) ?_
  refine O_gx (e := (ownB i even)) (v := (.b (decide (c.st = 0)))) (wt rfl) (fun he => (r_eql (cond_pos he) rfl)) ?_
  refine O_p (.b ((ownB i even) && (decide (c.st = 0)))) (r_pick_and rfl rfl rfl rfl) ?_
  refine O_nil ?_
  refine C_cond (x := ((ownB i even) && (decide (c.st = 0)))) rfl (fun hc32 => ?_) (fun hc32 => ?_)
  ·
   have hr33 := hc32
   try simp only [decide_eq_true_eq, decide_eq_false_iff_not, Bool.not_eq_true', Bool.not_eq_false', Bool.and_eq_true, Bool.or_eq_true, Bool.or_eq_false_iff, Bool.not_not, Bool.and_eq_false_iff] at hc32
   have hab : askB cs even i = true := by unfold askB; rw [hgd]; exact hr33
   have hK := askK_hit (by omega) hab hbefore
   refine C_seq ?_
   refine C_draw fun b34 H35 hbase36 hA37 => ?_
   have hH38 := hH28.keep (by have := hA37.1; omega) (fun q _ => hA37.2 q) ((hH28.old).aside hA37).ok
   refine D_l (v := (.p (some (T, 0)))) rfl rfl rfl (r_mv hT20) ?_
   refine D_l (v := (.p (some (T, 0)))) rfl rfl rfl (r_nilc rfl) ?_
   refine D_l (v := (.p (some (T, 0)))) rfl rfl rfl (r_fadd' rfl rfl) ?_
   refine D_l (v := (.i .i64 (((i : Nat)) : Int))) rfl rfl rfl (r_mv rfl) ?_
   refine D_r (v := (.sl (some (Lb, 0)) cs.length cs.length 0)) rfl rfl rfl (r_ld rfl hH38.get2 rfl) ?_
   refine D_r (v := (.agg [(.i .u8 kind), (.i .u16 prio), (.i .u32 limit), (.s (txt label)), (.s (txt proto))])) rfl rfl rfl (r_ldA hT21 hH38.get1 rfl) ?_
   refine D_l (v := (.agg [(.i .i64 1), (.i .u8 kind), (.i .u16 prio), (.i .u32 limit), (.s (txt label)), (.s (txt proto)), (.b false), (.b false)])) rfl rfl rfl (r_build rfl) ?_
   refine D_l (v := (.p (some (Lb, (i * 8 + 0))))) rfl rfl rfl (by exact (r_islr (b := Lb) (k := i) (len := cs.length) (cap := cs.length) (g := 0) rfl rfl (by omega))) ?_
   refine D_store (vs := [(.i .i64 1), (.i .u8 kind), (.i .u16 prio), (.i .u32 limit), (.s (txt label)), (.s (txt proto)), (.b false), (.b false)]) (c' := ((cs.map Ch.row).set i [(.i .i64 1), (.i .u8 kind), (.i .u16 prio), (.i .u32 limit), (.s (txt label)), (.s (txt proto)), (.b false), (.b false)]).flatten) rfl (by rfl) hH38.get3 rfl (List.cons_ne_nil _ _) (foc_len (n := 8) (rows_map Ch.row_len cs) (by rw [List.length_map]; omega) rfl (Nat.le_of_ble_eq_true rfl)) (foc_put (rows_map Ch.row_len cs) (by rw [List.length_map]; omega) rfl (Nat.le_of_ble_eq_true rfl) rfl) fun H39 hW40 => ?_
   have hH41 := hH38.wr3 hW40
   refine And.intro (And.intro (Or.inl rfl) (And.intro (Or.inl rfl) True.intro)) ?_
   refine D_nil ?_
   refine sr ?_
   refine pv (.i .i64 (((i : Nat)) : Int)) rfl ?_
   refine O_p (.i .u16 (((i : Nat)) : Int)) (by exact (r_cint' rfl (by rw [wrap_u16]; omega))) ?_
   refine O_p o8 (r_mv hT22) ?_
   refine pv (.i .u16 (((i : Nat)) : Int)) rfl ?_
   refine pv o8 rfl ?_
   refine pv (.i .i64 0) rfl ?_
   refine O_nil ?_
   refine C_ret ?_
   refine bk_ret ?_
   refine nx_ret ?_
   refine nx_ret ?_
   refine bk_ret ?_
   refine nx_ret ?_
   have h1 : askE cs even kind label proto = 0 := by unfold askE; rw [if_neg (by rw [hE]; decide), hK]
   have h2 : askS cs even kind label proto = (i : Int) := by unfold askS; rw [if_neg (by rw [hE]; decide), hK]
   have h3 : askO cs even kind prio limit label proto = encB kind prio limit label proto := by unfold askO; rw [if_neg (by rw [hE]; decide), hK]
   have h4 : askC cs even kind prio limit label proto = cs.set i ⟨1, kind, prio, limit, label, proto, false, false⟩ := by unfold askC; rw [if_neg (by rw [hE]; decide), hK]
   have hH42 := Hs.cong3 (B := [(Lb, some (.cells ((cs.set i (⟨1, kind, prio, limit, label, proto, false, false⟩)).map Ch.row).flatten true))]) hH41 (seg_shut (enc := Ch.row) (c := (⟨1, kind, prio, limit, label, proto, false, false⟩)))
   have hH43 := (hH42.sub1)
   have hH44 := ((((hH43.top3).top3).top3).top3)
   exact ⟨.inr rfl, _, resL_cons (r_tmp (v := (.i .u16 (((i : Nat)) : Int))) rfl) (resL_cons (r_tmp (v := o8) rfl) (resL_one (r_tmp (v := (.i .i64 0)) rfl))), _, _, by rw [h1, h2]; rfl, by rw [h3]; exact hsq11, by rw [h4, List.length_set]; exact hH44⟩
  ·
   have hr45 := hc32
   try simp only [decide_eq_true_eq, decide_eq_false_iff_not, Bool.not_eq_true', Bool.not_eq_false', Bool.and_eq_true, Bool.or_eq_true, Bool.or_eq_false_iff, Bool.not_not, Bool.and_eq_false_iff] at hc32
   have hab : askB cs even i = false := by unfold askB; rw [hgd]; exact hr45
   have hmiss := hab
   refine C_skip ?_
   refine C_region ?_
   refine O_p (.i .i64 ((((i : Nat)) : Int) + 1)) (by exact (r_addi hT24 rfl (wrap_i64 (by omega) (by omega)))) ?_
   refine pv (.i .i64 ((((i : Nat)) : Int) + 1)) rfl ?_
   refine O_nil ?_
   exact ⟨cs.length - (i + 1), by omega, (i + 1), rfl, by omega, by intro j hj; rcases Nat.lt_succ_iff_lt_or_eq.1 hj with h | h; exact hbefore j h; subst h; exact hmiss, hH25, hT20, hT21, hT22, hT23, rfl⟩
 ·
  have hr46 := hc26
  try simp only [decide_eq_true_eq, decide_eq_false_iff_not, Bool.not_eq_true', Bool.not_eq_false', Bool.and_eq_true, Bool.or_eq_true, Bool.or_eq_false_iff, Bool.not_not, Bool.and_eq_false_iff] at hc26
  have hi : i = cs.length := by omega
  have hK := askK_none (fun j hj => hbefore j (by omega))
  refine C_exit ?_
  refine nx_exit ?_
  refine nx_exit ?_
  refine bk_hit ?_
  refine sr ?_
  refine pv (.i .u16 0) rfl ?_
  refine pv (.sl none 0 0 0) rfl ?_
  refine pv (.i .i64 9) rfl ?_
  refine O_nil ?_
  refine C_ret ?_
  have h1 : askE cs even kind label proto = 9 := by unfold askE; rw [if_neg (by rw [hE]; decide), hK]
  have h2 : askS cs even kind label proto = 0 := by unfold askS; rw [if_neg (by rw [hE]; decide), hK]
  have h3 : askO cs even kind prio limit label proto = [] := by unfold askO; rw [if_neg (by rw [hE]; decide), hK]
  have h4 : askC cs even kind prio limit label proto = cs := by unfold askC; rw [if_neg (by rw [hE]; decide), hK]
  have hH47 := ((hH25.sub0).sub0)
  have hH48 := (((hH47.top2).top2).top2)
  exact ⟨.inr rfl, _, resL_cons (r_tmp (v := (.i .u16 0)) rfl) (resL_cons (r_tmp (v := (.sl none 0 0 0)) rfl) (resL_one (r_tmp (v := (.i .i64 9)) rfl))), _, [], by rw [h1, h2]; rfl, by rw [h3]; exact Sq.nil, by rw [h4]; exact hH48⟩
set_option maxRecDepth 100000 in
theorem rask_ok {H : AH} {T Lb : Nat} {cs : List Ch} {even : Bool} {H0 : AH} {R : HL} (hok0 : H0.Ok) (htb0 : Tb H0) (kind prio limit : Int) (label proto : List UInt8) (hk : 0 ≤ kind ∧ kind < 256) (hp : 0 ≤ prio ∧ prio < 65536) (hl : 0 ≤ limit ∧ limit < 4294967296) (hll : label.length ≤ 9223372036854775807) (hpl : proto.length ≤ 9223372036854775807) (hE : encE kind label proto = 0) (hcs : cs.length ≤ 64) (hH0 : Hs H ([(T, some (.cells [.sl (some (Lb, 0)) cs.length cs.length 0, .b even] true))] ++ ([(Lb, some (.cells ((cs).map Ch.row).flatten true))] ++ (allL H0 ++ R)))) : Ev tabV spV (.fn (.func 53) [] []) [.p (some (T, 0)), .agg [(.i .u8 kind), (.i .u16 prio), (.i .u32 limit), (.s (txt label)), (.s (txt proto))]] H (fun r H' => ∃ v c, r = .tup [.i .u16 (askS cs even kind label proto), v, .i .i64 (askE cs even kind label proto)] ∧ Sq 1 v c (bcells (askO cs even kind prio limit label proto)) ∧ Hs H' (qseg v c ++ ([(T, some (.cells [.sl (some (Lb, 0)) (askC cs even kind prio limit label proto).length (askC cs even kind prio limit label proto).length 0, .b even] true))] ++ ([(Lb, some (.cells ((askC cs even kind prio limit label proto).map Ch.row).flatten true))] ++ (allL H0 ++ R))))) := by
 refine Ev_C (F := x53) rfl ?_
 refine sr ?_
 refine O_box (z := [(.i .u8 kind), (.i .u16 prio), (.i .u32 limit), (.s (txt label)), (.s (txt proto))]) rfl fun n1 H2 hN3 => ?_
 have hH4 := hH0.new hN3
 refine pv (.i .u16 0) rfl ?_
 refine pv (.sl none 0 0 0) rfl ?_
 refine pv (.i .i64 0) rfl ?_
 refine O_nil (sr ?_)
 refine O_p (.agg [(.i .u8 kind), (.i .u16 prio), (.i .u32 limit), (.s (txt label)), (.s (txt proto))]) (r_ldA rfl hH4.get0 rfl) ?_
 refine O_call (Ev.mono (renc_ev hH4.ok kind prio limit label proto hk hp hl ) fun v5 H6 hq7 => ?_)
 rw [hE, encR_ok hE] at hq7
 obtain ⟨o8, rfl, hM9, hK10⟩ := hq7
 have hsq11 := Sq.ofMine hH4 hM9 hK10
 have hH12 := Hs.ofMine hH4 hM9 hK10
 refine pv (.tup [o8, (.i .i64 0)]) rfl ?_
 refine O_p o8 (r_ext rfl rfl) ?_
 refine O_p (.i .i64 0) (r_ext rfl rfl) ?_
 refine pv o8 rfl ?_
 refine pv (.i .i64 0) rfl ?_
 refine O_nil ?_
 refine C_seq ?_
 refine sr ?_
 refine pv (.i .i64 0) rfl ?_
 refine O_p (.b false) (r_bin rfl rfl rfl) ?_
 refine O_nil ?_
 refine C_cond (x := false) rfl (fun h => by cases h) (fun _ => ?_)
 refine C_skip ?_
 refine C_seq ?_
 refine sr ?_
 refine pv (.i .i64 0) rfl ?_
 refine O_nil ?_
 refine C_block ?_
 refine C_while (fun m13 T14 H15 => ∃ i : Nat, m13 = cs.length - i ∧ i ≤ cs.length ∧ (∀ j, j < i → askB cs even j = false) ∧ Hs H15 ((qseg o8 (bcells (encB kind prio limit label proto))) ++ ([(n1, some (.cells ([(.i .u8 kind), (.i .u16 prio), (.i .u32 limit), (.s (txt label)), (.s (txt proto))]) true))] ++ ([(T, some (.cells ([(.sl (some (Lb, 0)) cs.length cs.length 0), (.b even)]) true))] ++ ([(Lb, some (.cells ((cs.map Ch.row).flatten) true))] ++ ((allL H0) ++ (R)))))) ∧ T14.get 0 = (.p (some (T, 0))) ∧ T14.get 3 = (.p (some (n1, 0))) ∧ T14.get 7 = o8 ∧ T14.get 9 = (.i .i64 (((i : Nat)) : Int))) (fun m13 T14 H15 hI16 => ?_) cs.length _ _ ⟨0, rfl, Nat.zero_le _, fun j hj => absurd hj (Nat.not_lt_zero _), hH12, rfl, rfl, rfl, rfl⟩
 obtain ⟨i, hm17, hp18, hp19, hH24, hT20, hT21, hT22, hT23⟩ := hI16
 have hbefore := hp19
 refine C_seq ?_
 refine sr ?_
 refine O_p (.i .i64 (((i : Nat)) : Int)) (r_mv hT23) ?_
 refine O_p (.p (some (T, 0))) (r_mv hT20) ?_
 refine O_p (.p (some (T, 0))) (r_nilc rfl) ?_
 refine pf (.p (some (T, 0))) rfl rfl ?_
 refine O_p (.sl (some (Lb, 0)) cs.length cs.length 0) (r_ld rfl hH24.get2 rfl) ?_
 refine O_p (.i .i64 (((cs.length : Nat)) : Int)) (r_len rfl) ?_
 refine O_p (.b (decide ((((i : Nat)) : Int) < (((cs.length : Nat)) : Int)))) (r_lss rfl rfl) ?_
 refine O_nil ?_
 refine C_cond (x := (decide ((((i : Nat)) : Int) < (((cs.length : Nat)) : Int)))) rfl (fun hc25 => ?_) (fun hc25 => ?_)
 ·
  have hr26 := hc25
  try simp only [decide_eq_true_eq, decide_eq_false_iff_not, Bool.not_eq_true', Bool.not_eq_false', Bool.and_eq_true, Bool.or_eq_true, Bool.or_eq_false_iff, Bool.not_not, Bool.and_eq_false_iff] at hc25
  refine C_skip ?_
  refine C_seq ?_
  refine C_block ?_
  refine sr ?_
  obtain ⟨c, hc⟩ := ex_at (cs := cs) (k := i) (by omega)
  have hgd := getD_of hc
  have hH27 := hH24.cong3 (seg_foc (n := Lb) (enc := Ch.row) hc)
  refine O_p (.p (some (T, 0))) (r_mv hT20) ?_
  refine O_p (.i .i64 (((i : Nat)) : Int)) (r_mv hT23) ?_
  refine O_call (Ev.mono (rown_ev hH27.ok (hH27.get2) i (by omega)) fun v28 H29 hq30 => ?_)
  obtain ⟨rfl, hq30⟩ := hq30
  subst H29
  refine pv (.b (ownB i even)) rfl ?_
  refine O_gx (e := (ownB i even)) (v := (.p (some (T, 0)))) (wt rfl) (fun he => (r_mv hT20)) ?_
  refine O_gx (e := (ownB i even)) (v := (.p (some (T, 0)))) (wt rfl) (fun he => (r_nilc (cond_pos he))) ?_
  refine O_gx (e := (ownB i even)) (v := (.p (some (T, 0)))) (wt rfl) (fun he => (r_fadd' (cond_pos he) rfl)) ?_
  refine O_gx (e := (ownB i even)) (v := (.sl (some (Lb, 0)) cs.length cs.length 0)) (wt rfl) (fun he => (r_ld (cond_pos he) hH27.get2 rfl)) ?_
  refine O_gx (e := (ownB i even)) (v := (.i .i64 (((i : Nat)) : Int))) (wt rfl) (fun he => (r_mv hT23)) ?_
  refine O_gx (e := (ownB i even)) (v := (.p (some (Lb, (i * 8 + 0))))) (wt rfl) (fun he => (by exact (r_islr (b := Lb) (k := i) (len := cs.length) (cap := cs.length) (g := 0) (cond_pos he) (cond_pos he) (by omega)))) ?_
  refine O_gx (e := (ownB i even)) (v := (.p (some (Lb, (i * 8 + 0))))) (wt rfl) (fun he => (r_fadd' (cond_pos he) rfl)) ?_
  refine O_gx (e := (ownB i even)) (v := (.i .i64 c.st)) (wt rfl) (fun he => (by exact (r_ld (cond_pos he) hH27.get3 ((foc_get (rows_map Ch.row_len cs) (by rw [List.length_map]; omega) rfl (by decide)).trans rfl)))) ?_
  refine O_gx (e := (ownB i even)) (v := (.b (decide (c.st = 0)))) (wt rfl) (fun he => (r_eql (cond_pos he) rfl)) ?_
  refine O_p (.b ((ownB i even) && (decide (c.st = 0)))) (r_pick_and rfl rfl rfl rfl) ?_
  refine O_nil ?_
  refine C_cond (x := ((ownB i even) && (decide (c.st = 0)))) rfl (fun hc31 => ?_) (fun hc31 => ?_)
  ·
   have hr32 := hc31
   try simp only [decide_eq_true_eq, decide_eq_false_iff_not, Bool.not_eq_true', Bool.not_eq_false', Bool.and_eq_true, Bool.or_eq_true, Bool.or_eq_false_iff, Bool.not_not, Bool.and_eq_false_iff] at hc31
   have hab : askB cs even i = true := by unfold askB; rw [hgd]; exact hr32
   have hK := askK_hit (by omega) hab hbefore
   refine C_seq ?_
   refine C_draw fun b33 H34 hbase35 hA36 => ?_
   have hH37 := hH27.keep (by have := hA36.1; omega) (fun q _ => hA36.2 q) ((hH27.old).aside hA36).ok
   refine D_l (v := (.p (some (T, 0)))) rfl rfl rfl (r_mv hT20) ?_
   refine D_l (v := (.p (some (T, 0)))) rfl rfl rfl (r_nilc rfl) ?_
   refine D_l (v := (.p (some (T, 0)))) rfl rfl rfl (r_fadd' rfl rfl) ?_
   refine D_l (v := (.i .i64 (((i : Nat)) : Int))) rfl rfl rfl (r_mv hT23) ?_
   refine D_r (v := (.sl (some (Lb, 0)) cs.length cs.length 0)) rfl rfl rfl (r_ld rfl hH37.get2 rfl) ?_
   refine D_r (v := (.agg [(.i .u8 kind), (.i .u16 prio), (.i .u32 limit), (.s (txt label)), (.s (txt proto))])) rfl rfl rfl (r_ldA hT21 hH37.get1 rfl) ?_
   refine D_l (v := (.agg [(.i .i64 1), (.i .u8 kind), (.i .u16 prio), (.i .u32 limit), (.s (txt label)), (.s (txt proto)), (.b false), (.b false)])) rfl rfl rfl (r_build rfl) ?_
   refine D_l (v := (.p (some (Lb, (i * 8 + 0))))) rfl rfl rfl (by exact (r_islr (b := Lb) (k := i) (len := cs.length) (cap := cs.length) (g := 0) rfl rfl (by omega))) ?_
   refine D_store (vs := [(.i .i64 1), (.i .u8 kind), (.i .u16 prio), (.i .u32 limit), (.s (txt label)), (.s (txt proto)), (.b false), (.b false)]) (c' := ((cs.map Ch.row).set i [(.i .i64 1), (.i .u8 kind), (.i .u16 prio), (.i .u32 limit), (.s (txt label)), (.s (txt proto)), (.b false), (.b false)]).flatten) rfl (by rfl) hH37.get3 rfl (List.cons_ne_nil _ _) (foc_len (n := 8) (rows_map Ch.row_len cs) (by rw [List.length_map]; omega) rfl (Nat.le_of_ble_eq_true rfl)) (foc_put (rows_map Ch.row_len cs) (by rw [List.length_map]; omega) rfl (Nat.le_of_ble_eq_true rfl) rfl) fun H38 hW39 => ?_
   have hH40 := hH37.wr3 hW39
   refine And.intro (And.intro (Or.inl rfl) (And.intro (Or.inl rfl) True.intro)) ?_
   refine D_nil ?_
   refine sr ?_
   refine O_p (.i .i64 (((i : Nat)) : Int)) (r_mv hT23) ?_
   refine O_p (.i .u16 (((i : Nat)) : Int)) (by exact (r_cint' rfl (by rw [wrap_u16]; omega))) ?_
   refine O_p o8 (r_mv hT22) ?_
   refine pv (.i .u16 (((i : Nat)) : Int)) rfl ?_
   refine pv o8 rfl ?_
   refine pv (.i .i64 0) rfl ?_
   refine O_nil ?_
   refine C_ret ?_
   refine bk_ret ?_
   refine nx_ret ?_
   refine nx_ret ?_
   refine bk_ret ?_
   refine nx_ret ?_
   have h1 : askE cs even kind label proto = 0 := by unfold askE; rw [if_neg (by rw [hE]; decide), hK]
   have h2 : askS cs even kind label proto = (i : Int) := by unfold askS; rw [if_neg (by rw [hE]; decide), hK]
   have h3 : askO cs even kind prio limit label proto = encB kind prio limit label proto := by unfold askO; rw [if_neg (by rw [hE]; decide), hK]
   have h4 : askC cs even kind prio limit label proto = cs.set i ⟨1, kind, prio, limit, label, proto, false, false⟩ := by unfold askC; rw [if_neg (by rw [hE]; decide), hK]
   have hH41 := Hs.cong3 (B := [(Lb, some (.cells ((cs.set i (⟨1, kind, prio, limit, label, proto, false, false⟩)).map Ch.row).flatten true))]) hH40 (seg_shut (enc := Ch.row) (c := (⟨1, kind, prio, limit, label, proto, false, false⟩)))
   have hH42 := (hH41.sub1)
   have hH43 := ((((hH42.top3).top3).top3).top3)
   exact ⟨.inr rfl, _, resL_cons (r_tmp (v := (.i .u16 (((i : Nat)) : Int))) rfl) (resL_cons (r_tmp (v := o8) rfl) (resL_one (r_tmp (v := (.i .i64 0)) rfl))), _, _, by rw [h1, h2]; rfl, by rw [h3]; exact hsq11, by rw [h4, List.length_set]; exact hH43⟩
  ·
   have hr44 := hc31
   try simp only [decide_eq_true_eq, decide_eq_false_iff_not, Bool.not_eq_true', Bool.not_eq_false', Bool.and_eq_true, Bool.or_eq_true, Bool.or_eq_false_iff, Bool.not_not, Bool.and_eq_false_iff] at hc31
   have hab : askB cs even i = false := by unfold askB; rw [hgd]; exact hr44
   have hmiss := hab
   refine C_skip ?_
   refine C_region ?_
   refine O_p (.i .i64 (((i : Nat)) : Int)) (r_mv hT23) ?_
   refine O_p (.i .i64 ((((i : Nat)) : Int) + 1)) (by exact (r_addi rfl rfl (wrap_i64 (by omega) (by omega)))) ?_
   refine pv (.i .i64 ((((i : Nat)) : Int) + 1)) rfl ?_
   refine O_nil ?_
   exact ⟨cs.length - (i + 1), by omega, (i + 1), rfl, by omega, by intro j hj; rcases Nat.lt_succ_iff_lt_or_eq.1 hj with h | h; exact hbefore j h; subst h; exact hmiss, hH24, hT20, hT21, hT22, rfl⟩
 ·
  have hr45 := hc25
  try simp only [decide_eq_true_eq, decide_eq_false_iff_not, Bool.not_eq_true', Bool.not_eq_false', Bool.and_eq_true, Bool.or_eq_true, Bool.or_eq_false_iff, Bool.not_not, Bool.and_eq_false_iff] at hc25
  have hi : i = cs.length := by omega
  have hK := askK_none (fun j hj => hbefore j (by omega))
  refine C_exit ?_
  refine nx_exit ?_
  refine nx_exit ?_
  refine bk_hit ?_
  refine sr ?_
  refine pv (.i .u16 0) rfl ?_
  refine pv (.sl none 0 0 0) rfl ?_
  refine pv (.i .i64 9) rfl ?_
  refine O_nil ?_
  refine C_ret ?_
  have h1 : askE cs even kind label proto = 9 := by unfold askE; rw [if_neg (by rw [hE]; decide), hK]
  have h2 : askS cs even kind label proto = 0 := by unfold askS; rw [if_neg (by rw [hE]; decide), hK]
  have h3 : askO cs even kind prio limit label proto = [] := by unfold askO; rw [if_neg (by rw [hE]; decide), hK]
  have h4 : askC cs even kind prio limit label proto = cs := by unfold askC; rw [if_neg (by rw [hE]; decide), hK]
  have hH46 := ((hH24.sub0).sub0)
  have hH47 := (((hH46.top2).top2).top2)
  exact ⟨.inr rfl, _, resL_cons (r_tmp (v := (.i .u16 0)) rfl) (resL_cons (r_tmp (v := (.sl none 0 0 0)) rfl) (resL_one (r_tmp (v := (.i .i64 9)) rfl))), _, [], by rw [h1, h2]; rfl, by rw [h3]; exact Sq.nil, by rw [h4]; exact hH47⟩
set_option maxRecDepth 100000 in
theorem ask_bad {H : AH} {T Lb : Nat} {cs : List Ch} {even : Bool} {H0 : AH} {R : HL} (hok0 : H0.Ok) (htb0 : Tb H0) (kind prio limit : Int) (label proto : List UInt8) (hk : 0 ≤ kind ∧ kind < 256) (hp : 0 ≤ prio ∧ prio < 65536) (hl : 0 ≤ limit ∧ limit < 4294967296) (hll : label.length ≤ 9223372036854775807) (hpl : proto.length ≤ 9223372036854775807) (hE : ¬ encE kind label proto = 0) (hcs : cs.length ≤ 64) (hH0 : Hs H ([(T, some (.cells [.sl (some (Lb, 0)) cs.length cs.length 0, .b even] true))] ++ ([(Lb, some (.cells ((cs).map Ch.row).flatten true))] ++ (allL H0 ++ R)))) : Ev tabV spV (.fn (.func 23) [] []) [.p (some (T, 0)), .agg [(.i .u8 kind), (.i .u16 prio), (.i .u32 limit), (.s (txt label)), (.s (txt proto))]] H (fun r H' => ∃ v c, r = .tup [.i .u16 (askS cs even kind label proto), v, .i .i64 (askE cs even kind label proto)] ∧ Sq 1 v c (bcells (askO cs even kind prio limit label proto)) ∧ Hs H' (qseg v c ++ ([(T, some (.cells [.sl (some (Lb, 0)) (askC cs even kind prio limit label proto).length (askC cs even kind prio limit label proto).length 0, .b even] true))] ++ ([(Lb, some (.cells ((askC cs even kind prio limit label proto).map Ch.row).flatten true))] ++ (allL H0 ++ R))))) := by
 refine Ev_C (F := x23) rfl ?_
 refine sr ?_
 refine O_box (z := [(.i .u8 kind), (.i .u16 prio), (.i .u32 limit), (.s (txt label)), (.s (txt proto))]) rfl fun n1 H2 hN3 => ?_
 have hH4 := hH0.new hN3
 refine pv (.i .u16 0) rfl ?_
 refine pv (.sl none 0 0 0) rfl ?_
 refine pv (.i .i64 0) rfl ?_
 refine O_nil ?_
 refine C_seq ?_
 refine sr ?_
 refine pv (.p (some (T, 0))) rfl ?_
 refine O_p (.b false) (r_nilq_s rfl) ?_
 refine O_nil ?_
 refine C_cond (x := false) rfl (fun h => by cases h) (fun _ => ?_)
 refine C_skip ?_
 refine sr ?_
 refine O_p (.agg [(.i .u8 kind), (.i .u16 prio), (.i .u32 limit), (.s (txt label)), (.s (txt proto))]) (r_ldA rfl hH4.get0 rfl) ?_
 refine O_call (Ev.mono (enc_ev hH4.ok (Tb.ro htb0 hok0 hH4.top3) kind prio limit label proto hk hp hl hll hpl) fun v5 H6 hq7 => ?_)
 rw [encR_bad hE] at hq7
 obtain ⟨o8, rfl, hM9, hK10⟩ := hq7
 have hsq11 := Sq.ofMine hH4 hM9 hK10
 have hH12 := Hs.ofMine hH4 hM9 hK10
 refine pv (.tup [o8, (.i .i64 (encE kind label proto))]) rfl ?_
 refine O_p o8 (r_ext rfl rfl) ?_
 refine O_p (.i .i64 (encE kind label proto)) (r_ext rfl rfl) ?_
 refine pv o8 rfl ?_
 refine pv (.i .i64 (encE kind label proto)) rfl ?_
 refine O_nil ?_
 refine C_seq ?_
 refine sr ?_
 refine pv (.i .i64 (encE kind label proto)) rfl ?_
 refine O_p (.b true) (by exact (by rw [r_neq rfl rfl, decide_eq_false (by first | omega | assumption)]; rfl)) ?_
 refine O_nil ?_
 refine C_cond (x := true) rfl (fun _ => ?_) (fun h => by cases h)
 refine sr ?_
 refine pv (.i .i64 (encE kind label proto)) rfl ?_
 refine pv (.i .u16 0) rfl ?_
 refine pv (.sl none 0 0 0) rfl ?_
 refine pv (.i .i64 (encE kind label proto)) rfl ?_
 refine O_nil ?_
 refine C_ret ?_
 refine nx_ret ?_
 have h1 : askE cs even kind label proto = encE kind label proto := if_pos hE
 have h2 : askS cs even kind label proto = 0 := if_pos hE
 have h3 : askO cs even kind prio limit label proto = [] := if_pos hE
 have h4 : askC cs even kind prio limit label proto = cs := if_pos hE
 have hH13 := ((hH12.sub0).sub0)
 have hH14 := (((hH13.top2).top2).top2)
 exact ⟨.inr rfl, _, resL_cons (r_tmp (v := (.i .u16 0)) rfl) (resL_cons (r_tmp (v := (.sl none 0 0 0)) rfl) (resL_one (r_tmp (v := (.i .i64 (encE kind label proto))) rfl))), _, [], by rw [h1, h2]; rfl, by rw [h3]; exact Sq.nil, by rw [h4]; exact hH14⟩
set_option maxRecDepth 100000 in
theorem rask_bad {H : AH} {T Lb : Nat} {cs : List Ch} {even : Bool} {H0 : AH} {R : HL} (hok0 : H0.Ok) (htb0 : Tb H0) (kind prio limit : Int) (label proto : List UInt8) (hk : 0 ≤ kind ∧ kind < 256) (hp : 0 ≤ prio ∧ prio < 65536) (hl : 0 ≤ limit ∧ limit < 4294967296) (hll : label.length ≤ 9223372036854775807) (hpl : proto.length ≤ 9223372036854775807) (hE : ¬ encE kind label proto = 0) (hcs : cs.length ≤ 64) (hH0 : Hs H ([(T, some (.cells [.sl (some (Lb, 0)) cs.length cs.length 0, .b even] true))] ++ ([(Lb, some (.cells ((cs).map Ch.row).flatten true))] ++ (allL H0 ++ R)))) : Ev tabV spV (.fn (.func 53) [] []) [.p (some (T, 0)), .agg [(.i .u8 kind), (.i .u16 prio), (.i .u32 limit), (.s (txt label)), (.s (txt proto))]] H (fun r H' => ∃ v c, r = .tup [.i .u16 (askS cs even kind label proto), v, .i .i64 (askE cs even kind label proto)] ∧ Sq 1 v c (bcells (askO cs even kind prio limit label proto)) ∧ Hs H' (qseg v c ++ ([(T, some (.cells [.sl (some (Lb, 0)) (askC cs even kind prio limit label proto).length (askC cs even kind prio limit label proto).length 0, .b even] true))] ++ ([(Lb, some (.cells ((askC cs even kind prio limit label proto).map Ch.row).flatten true))] ++ (allL H0 ++ R))))) := by
 refine Ev_C (F := x53) rfl ?_
 refine sr ?_
 refine O_box (z := [(.i .u8 kind), (.i .u16 prio), (.i .u32 limit), (.s (txt label)), (.s (txt proto))]) rfl fun n1 H2 hN3 => ?_
 have hH4 := hH0.new hN3
 refine pv (.i .u16 0) rfl ?_
 refine pv (.sl none 0 0 0) rfl ?_
 refine pv (.i .i64 0) rfl ?_
 refine O_nil (sr ?_)
 refine O_p (.agg [(.i .u8 kind), (.i .u16 prio), (.i .u32 limit), (.s (txt label)), (.s (txt proto))]) (r_ldA rfl hH4.get0 rfl) ?_
 refine O_call (Ev.mono (renc_ev hH4.ok kind prio limit label proto hk hp hl ) fun v5 H6 hq7 => ?_)
 rw [encR_bad hE] at hq7
 obtain ⟨o8, rfl, hM9, hK10⟩ := hq7
 have hsq11 := Sq.ofMine hH4 hM9 hK10
 have hH12 := Hs.ofMine hH4 hM9 hK10
 refine pv (.tup [o8, (.i .i64 (encE kind label proto))]) rfl ?_
 refine O_p o8 (r_ext rfl rfl) ?_
 refine O_p (.i .i64 (encE kind label proto)) (r_ext rfl rfl) ?_
 refine pv o8 rfl ?_
 refine pv (.i .i64 (encE kind label proto)) rfl ?_
 refine O_nil ?_
 refine C_seq ?_
 refine sr ?_
 refine pv (.i .i64 (encE kind label proto)) rfl ?_
 refine O_p (.b true) (by exact (by rw [r_neq rfl rfl, decide_eq_false (by first | omega | assumption)]; rfl)) ?_
 refine O_nil ?_
 refine C_cond (x := true) rfl (fun _ => ?_) (fun h => by cases h)
 refine sr ?_
 refine pv (.i .i64 (encE kind label proto)) rfl ?_
 refine pv (.i .u16 0) rfl ?_
 refine pv (.sl none 0 0 0) rfl ?_
 refine pv (.i .i64 (encE kind label proto)) rfl ?_
 refine O_nil ?_
 refine C_ret ?_
 refine nx_ret ?_
 have h1 : askE cs even kind label proto = encE kind label proto := if_pos hE
 have h2 : askS cs even kind label proto = 0 := if_pos hE
 have h3 : askO cs even kind prio limit label proto = [] := if_pos hE
 have h4 : askC cs even kind prio limit label proto = cs := if_pos hE
 have hH13 := ((hH12.sub0).sub0)
 have hH14 := (((hH13.top2).top2).top2)
 exact ⟨.inr rfl, _, resL_cons (r_tmp (v := (.i .u16 0)) rfl) (resL_cons (r_tmp (v := (.sl none 0 0 0)) rfl) (resL_one (r_tmp (v := (.i .i64 (encE kind label proto))) rfl))), _, [], by rw [h1, h2]; rfl, by rw [h3]; exact Sq.nil, by rw [h4]; exact hH14⟩
end Go.Proofs.YtfhbdddjclodhaaDoor.E
