/- Layer 18's table, walked (first part). It bears no condition. -/
import Derived.Test.YtfhbdddjclodhaaDoorE
import Derived.Test.YtfhbdddjclodhaaDoorE41
namespace Go.Proofs.YtfhbdddjclodhaaDoor.E
abbrev zTAA : List AV := [(.i .i64 0), (.i .u8 0), (.i .u16 0), (.i .u32 0), (.s ⟨#[]⟩), (.s ⟨#[]⟩), (.b false), (.b false)]

open Go.Lib
set_option linter.unusedVariables false
set_option linter.unusedSimpArgs false
/-- A stream's channel. -/
structure Ch where
 st : Int
 kind : Int
 prio : Int
 limit : Int
 label : List UInt8
 proto : List UInt8
 mine : Bool
 theirs : Bool
def Ch.row (c : Ch) : List AV := [.i .i64 c.st, .i .u8 c.kind, .i .u16 c.prio, .i .u32 c.limit, .s (txt c.label), .s (txt c.proto), .b c.mine, .b c.theirs]
theorem Ch.row_len (c : Ch) : c.row.length = 8 := rfl
def ch0 : Ch := ⟨0, 0, 0, 0, [], [], false, false⟩
def ownB (k : Nat) (even : Bool) : Bool := decide (((k % 2 : Nat) : Int) = 0) == even
theorem and1 (k : Nat) : IntKind.i64.wrap ((BitVec.ofInt 64 (k : Int) &&& BitVec.ofInt 64 1).toNat : Int) = ((k % 2 : Nat) : Int) := by
 have e : (BitVec.ofInt 64 (k : Int) &&& BitVec.ofInt 64 1).toNat = k % 2 := by
  rw [BitVec.toNat_and, show BitVec.ofInt 64 1 = 1#64 from rfl, BitVec.toNat_ofInt]
  show _ &&& 1 = _
  rw [Nat.and_one_is_mod]
  omega
 rw [e]; exact wrap_i64 (by omega) (by omega)
def clampN (s : Int) : Nat := if s < 1 ∨ 64 < s then 64 else s.toNat
def askB (cs : List Ch) (even : Bool) (k : Nat) : Bool := ownB k even && decide ((cs.getD k ch0).st = 0)
def askK (cs : List Ch) (even : Bool) : Option Nat := (List.range cs.length).find? (askB cs even)
theorem askK_hit {cs : List Ch} {even : Bool} {k : Nat} (hk : k < cs.length) (h : askB cs even k = true) (hb : ∀ j, j < k → askB cs even j = false) : askK cs even = some k := by
 unfold askK
 rw [List.find?_eq_some_iff_append]
 refine ⟨h, List.range k, (List.range' (k + 1) (cs.length - (k + 1))), ?_, fun j hj => by rw [List.mem_range] at hj; rw [hb j hj]; rfl⟩
 rw [List.range_eq_range', List.range_eq_range']
 have e : cs.length = k + (cs.length - k) := by omega
 conv => lhs; rw [e]
 rw [List.range'_append_1.symm, Nat.zero_add]
 congr 1
 rw [show cs.length - k = (cs.length - (k + 1)) + 1 by omega, List.range'_succ]
theorem askK_none {cs : List Ch} {even : Bool} (hb : ∀ j, j < cs.length → askB cs even j = false) : askK cs even = none := by
 unfold askK
 rw [List.find?_eq_none]
 intro j hj
 rw [List.mem_range] at hj
 rw [hb j hj]; decide
def askE (cs : List Ch) (even : Bool) (kind : Int) (label proto : List UInt8) : Int := if encE kind label proto ≠ 0 then encE kind label proto else match askK cs even with | some _ => 0 | none => 9
def askS (cs : List Ch) (even : Bool) (kind : Int) (label proto : List UInt8) : Int := if encE kind label proto ≠ 0 then 0 else match askK cs even with | some k => (k : Int) | none => 0
def askO (cs : List Ch) (even : Bool) (kind prio limit : Int) (label proto : List UInt8) : List UInt8 := if encE kind label proto ≠ 0 then [] else match askK cs even with | some _ => encB kind prio limit label proto | none => []
def askC (cs : List Ch) (even : Bool) (kind prio limit : Int) (label proto : List UInt8) : List Ch := if encE kind label proto ≠ 0 then cs else match askK cs even with | some k => cs.set k ⟨1, kind, prio, limit, label, proto, false, false⟩ | none => cs
theorem getD_of {cs : List Ch} {k : Nat} {c : Ch} (h : cs[k]? = some c) : cs.getD k ch0 = c := by rw [List.getD_eq_getElem?_getD, h]; rfl
theorem ex_at {cs : List Ch} {k : Nat} (h : k < cs.length) : ∃ c, cs[k]? = some c := ⟨_, List.getElem?_eq_getElem h⟩
theorem Tb.ro {H H0 : AH} {R : HL} (h : Tb H0) (ho : H0.Ok) (hH : Hs H (allL H0 ++ R)) : Tb H := ⟨hH.ro ho h.t0, hH.ro ho h.t1⟩
theorem own_ev {H : AH} {T Lb : Nat} {cs : List Ch} {even : Bool} (hok : H.Ok) (hT : H.get T = some (.cells [.sl (some (Lb, 0)) cs.length cs.length 0, .b even] true)) (k : Nat) (hk : k < 9223372036854775808) : Ev tabV spV (.fn (.func 49) [] []) [.p (some (T, 0)), .i .i64 k] H (fun r H' => r = .b (ownB k even) ∧ H' = H) := by
 refine Ev_C (F := x49) rfl ?_
 have hO0 := Old.refl hok
 refine sr ?_
 refine pv (.b false) rfl ?_
 refine O_nil (sr ?_)
 refine pv (.i .i64 (((k : Nat)) : Int)) rfl ?_
 refine O_p (.i .i64 ((((k % 2) : Nat)) : Int)) (r_bin rfl rfl (congrArg (fun z => some (AV.i .i64 z)) (and1 k))) ?_
 refine O_p (.b (decide (((((k % 2) : Nat)) : Int) = 0))) (r_eql rfl rfl) ?_
 refine pv (.p (some (T, 0))) rfl ?_
 refine O_p (.p (some (T, 0))) (r_nilc rfl) ?_
 refine pf (.p (some (T, 1))) rfl rfl ?_
 refine O_p (.b even) (r_ld rfl hT rfl) ?_
 refine O_p (.b ((decide (((((k % 2) : Nat)) : Int) = 0)) == even)) (r_beq rfl rfl) ?_
 refine pv (.b ((decide (((((k % 2) : Nat)) : Int) = 0)) == even)) rfl ?_
 refine O_nil ?_
 refine C_ret ?_
 exact ⟨.inr rfl, _, resL_one (r_tmp (v := (.b ((decide (((((k % 2) : Nat)) : Int) = 0)) == even))) rfl), rfl, rfl⟩
theorem at_in {H : AH} {T Lb : Nat} {cs : List Ch} {even : Bool} (hok : H.Ok) (hT : H.get T = some (.cells [.sl (some (Lb, 0)) cs.length cs.length 0, .b even] true)) {k : Nat} (hk16 : k < 65536) (hk : k < cs.length) : Ev tabV spV (.fn (.func 50) [] []) [.p (some (T, 0)), .i .u16 k] H (fun r H' => r = .p (some (Lb, k * 8 + 0)) ∧ H' = H) := by
 refine Ev_C (F := x50) rfl ?_
 have hO0 := Old.refl hok
 refine sr ?_
 refine pv (.p none) rfl ?_
 refine O_nil ?_
 refine C_seq ?_
 refine sr ?_
 refine pv (.p (some (T, 0))) rfl ?_
 refine O_p (.b false) (r_nilq_s rfl) ?_
 refine pv (.b false) rfl ?_
 refine O_gs (v := (.i .u16 ((k : Nat) : Int))) rfl (r_mv rfl) ?_
 refine O_gs (v := (.i .i64 (((k : Nat)) : Int))) rfl (by exact (r_cint' rfl (wrap_i64 (by omega) (by omega)))) ?_
 refine O_gs (v := (.p (some (T, 0)))) rfl (r_mv rfl) ?_
 refine O_gs (v := (.p (some (T, 0)))) rfl (r_nilc rfl) ?_
 refine O_gs (v := (.p (some (T, 0)))) rfl (r_fadd' rfl rfl) ?_
 refine O_gs (v := (.sl (some (Lb, 0)) cs.length cs.length 0)) rfl (r_ld rfl hT rfl) ?_
 refine O_gs (v := (.i .i64 (((cs.length : Nat)) : Int))) rfl (r_len rfl) ?_
 refine O_gs (v := (.b (decide ((((cs.length : Nat)) : Int) ≤ (((k : Nat)) : Int))))) rfl (r_geq rfl rfl) ?_
 refine O_p (.b (decide ((((cs.length : Nat)) : Int) ≤ (((k : Nat)) : Int)))) (r_pick_f rfl rfl) ?_
 refine O_nil ?_
 refine C_cond (x := (decide ((((cs.length : Nat)) : Int) ≤ (((k : Nat)) : Int)))) rfl (fun hc1 => ?_) (fun hc1 => ?_)
 ·
  simp only [decide_eq_true_eq, decide_eq_false_iff_not, Bool.not_eq_true', Bool.not_eq_false', Bool.and_eq_true, Bool.or_eq_true, Bool.or_eq_false_iff, Bool.not_not] at hc1
  exfalso; omega
 ·
  simp only [decide_eq_true_eq, decide_eq_false_iff_not, Bool.not_eq_true', Bool.not_eq_false', Bool.and_eq_true, Bool.or_eq_true, Bool.or_eq_false_iff, Bool.not_not] at hc1
  refine C_skip ?_
  refine sr ?_
  refine pv (.p (some (T, 0))) rfl ?_
  refine O_p (.p (some (T, 0))) (r_nilc rfl) ?_
  refine pf (.p (some (T, 0))) rfl rfl ?_
  refine O_p (.sl (some (Lb, 0)) cs.length cs.length 0) (r_ld rfl hT rfl) ?_
  refine pv (.i .u16 ((k : Nat) : Int)) rfl ?_
  refine O_p (.p (some (Lb, (k * 8 + 0)))) (by exact (r_islr rfl rfl (by omega))) ?_
  refine pv (.p (some (Lb, (k * 8 + 0)))) rfl ?_
  refine O_nil ?_
  refine C_ret ?_
  exact ⟨.inr rfl, _, resL_one (r_tmp (v := (.p (some (Lb, (k * 8 + 0))))) rfl), rfl, rfl⟩
theorem at_out {H : AH} {T Lb : Nat} {cs : List Ch} {even : Bool} (hok : H.Ok) (hT : H.get T = some (.cells [.sl (some (Lb, 0)) cs.length cs.length 0, .b even] true)) {k : Nat} (hk16 : k < 65536) (hk : ¬ k < cs.length) : Ev tabV spV (.fn (.func 50) [] []) [.p (some (T, 0)), .i .u16 k] H (fun r H' => r = .p none ∧ H' = H) := by
 refine Ev_C (F := x50) rfl ?_
 have hO0 := Old.refl hok
 refine sr ?_
 refine pv (.p none) rfl ?_
 refine O_nil ?_
 refine C_seq ?_
 refine sr ?_
 refine pv (.p (some (T, 0))) rfl ?_
 refine O_p (.b false) (r_nilq_s rfl) ?_
 refine pv (.b false) rfl ?_
 refine O_gs (v := (.i .u16 ((k : Nat) : Int))) rfl (r_mv rfl) ?_
 refine O_gs (v := (.i .i64 (((k : Nat)) : Int))) rfl (by exact (r_cint' rfl (wrap_i64 (by omega) (by omega)))) ?_
 refine O_gs (v := (.p (some (T, 0)))) rfl (r_mv rfl) ?_
 refine O_gs (v := (.p (some (T, 0)))) rfl (r_nilc rfl) ?_
 refine O_gs (v := (.p (some (T, 0)))) rfl (r_fadd' rfl rfl) ?_
 refine O_gs (v := (.sl (some (Lb, 0)) cs.length cs.length 0)) rfl (r_ld rfl hT rfl) ?_
 refine O_gs (v := (.i .i64 (((cs.length : Nat)) : Int))) rfl (r_len rfl) ?_
 refine O_gs (v := (.b (decide ((((cs.length : Nat)) : Int) ≤ (((k : Nat)) : Int))))) rfl (r_geq rfl rfl) ?_
 refine O_p (.b (decide ((((cs.length : Nat)) : Int) ≤ (((k : Nat)) : Int)))) (r_pick_f rfl rfl) ?_
 refine O_nil ?_
 refine C_cond (x := (decide ((((cs.length : Nat)) : Int) ≤ (((k : Nat)) : Int)))) rfl (fun hc1 => ?_) (fun hc1 => ?_)
 ·
  simp only [decide_eq_true_eq, decide_eq_false_iff_not, Bool.not_eq_true', Bool.not_eq_false', Bool.and_eq_true, Bool.or_eq_true, Bool.or_eq_false_iff, Bool.not_not] at hc1
  refine sr ?_
  refine pv (.p none) rfl ?_
  refine O_nil ?_
  refine C_ret ?_
  refine nx_ret ?_
  exact ⟨.inr rfl, _, resL_one (r_tmp (v := (.p none)) rfl), rfl, rfl⟩
 ·
  simp only [decide_eq_true_eq, decide_eq_false_iff_not, Bool.not_eq_true', Bool.not_eq_false', Bool.and_eq_true, Bool.or_eq_true, Bool.or_eq_false_iff, Bool.not_not] at hc1
  exfalso; omega
theorem tnew_ev {H : AH} {L : HL} (even : Bool) (st : Int) (hH0 : Hs H L) : Ev tabV spV (.fn (.func 22) [] []) [.b even, .i .i64 st] H (fun r H' => ∃ T Lb, r = .p (some (T, 0)) ∧ Hs H' ([(T, some (.cells [.sl (some (Lb, 0)) (List.replicate (clampN st) ch0).length (List.replicate (clampN st) ch0).length 0, .b even] true))] ++ ([(Lb, some (.cells ((List.replicate (clampN st) ch0).map Ch.row).flatten true))] ++ L))) := by
 refine Ev_C (F := x22) rfl ?_
 have hLL : Hs H L := hH0
 have hH0 := hLL
 refine sr ?_
 refine pv (.p none) rfl ?_
 refine O_nil ?_
 refine C_seq ?_
 refine sr ?_
 refine pv (.i .i64 st) rfl ?_
 refine O_p (.b (decide (st < 1))) (r_lss rfl rfl) ?_
 refine pv (.b (decide (st < 1))) rfl ?_
 refine O_gx (e := (!(decide (st < 1)))) (v := (.i .i64 st)) (wf rfl) (fun he => (r_mv rfl)) ?_
 refine O_gx (e := (!(decide (st < 1)))) (v := (.b (decide (64 < st)))) (wf rfl) (fun he => (r_gtr (cond_pos he) rfl)) ?_
 refine O_p (.b ((decide (st < 1)) || (decide (64 < st)))) (r_pick_or rfl rfl rfl rfl) ?_
 refine O_nil ?_
 refine C_cond (x := ((decide (st < 1)) || (decide (64 < st)))) rfl (fun hc1 => ?_) (fun hc1 => ?_)
 ·
  simp only [decide_eq_true_eq, decide_eq_false_iff_not, Bool.not_eq_true', Bool.not_eq_false', Bool.and_eq_true, Bool.or_eq_true, Bool.or_eq_false_iff, Bool.not_not] at hc1
  refine C_region ?_
  refine pv (.i .i64 64) rfl ?_
  refine O_nil (sr ?_)
  refine pv (.i .i64 64) rfl ?_
  refine O_mks (n := 64) (bytes := 56) (z := zTAA ) rfl rfl (by decide) (by omega) fun n2 H3 hN4 => ?_
  have hH5 := hLL.new hN4
  refine pv (.b even) rfl ?_
  refine O_p (.agg [(.sl (some (n2, 0)) 64 64 0), (.b even)]) (r_build rfl) ?_
  refine O_box (z := [(.sl (some (n2, 0)) 64 64 0), (.b even)]) rfl fun n6 H7 hN8 => ?_
  have hH9 := hH5.new hN8
  refine pv (.p (some (n6, 0))) rfl ?_
  refine O_nil ?_
  refine C_ret ?_
  have hcl : clampN st = 64 := by unfold clampN; rw [if_pos (by omega)]
  refine ⟨.inr rfl, _, resL_one (r_tmp (v := (.p (some (n6, 0)))) rfl), n6, n2, rfl, ?_⟩
  have hfin := hH9
  rw [List.map_replicate, List.length_replicate, hcl]; exact hfin
 ·
  simp only [decide_eq_true_eq, decide_eq_false_iff_not, Bool.not_eq_true', Bool.not_eq_false', Bool.and_eq_true, Bool.or_eq_true, Bool.or_eq_false_iff, Bool.not_not] at hc1
  refine C_skip ?_
  refine sr ?_
  refine pv (.i .i64 st) rfl ?_
  refine O_mks (n := st.toNat) (bytes := 56) (z := zTAA ) (by rw [Int.toNat_of_nonneg (by omega)]; rfl) (by rw [Int.toNat_of_nonneg (by omega)]; rfl) (by omega) (by omega) fun n10 H11 hN12 => ?_
  have hH13 := hLL.new hN12
  refine pv (.b even) rfl ?_
  refine O_p (.agg [(.sl (some (n10, 0)) st.toNat st.toNat 0), (.b even)]) (r_build rfl) ?_
  refine O_box (z := [(.sl (some (n10, 0)) st.toNat st.toNat 0), (.b even)]) rfl fun n14 H15 hN16 => ?_
  have hH17 := hH13.new hN16
  refine pv (.p (some (n14, 0))) rfl ?_
  refine O_nil ?_
  refine C_ret ?_
  have hcl : clampN st = st.toNat := by unfold clampN; rw [if_neg (by omega)]
  refine ⟨.inr rfl, _, resL_one (r_tmp (v := (.p (some (n14, 0)))) rfl), n14, n10, rfl, ?_⟩
  have hfin := hH17
  rw [List.map_replicate, List.length_replicate, hcl]; exact hfin
end Go.Proofs.YtfhbdddjclodhaaDoor.E
