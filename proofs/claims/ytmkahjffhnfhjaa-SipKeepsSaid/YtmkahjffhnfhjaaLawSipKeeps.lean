/- SipKeeps, for every input, without conditions. -/
import Derived.Test.YtmkahjffhnfhjaaB
import Derived.Test.YtmkahjffhnfhjaaRows
import Derived.ProofKit
import Derived.OpenShut
namespace Go.Proofs.Ytmkahjffhnfhjaa.E
open Go.RowKit (Below)
set_option linter.unusedVariables false
set_option linter.unusedSimpArgs false
theorem run5 (H : AH) (hok : H.Ok) (ka : Option (Nat × Nat)) (kcap : Nat) (key : List UInt8) (hk : Bs H (.sl ka key.length kcap 0) key) (hkc : key.length ≤ kcap) (hkm0 : kcap ≤ maxLen) (a : Option (Nat × Nat)) (cap : Nat) (a1 : List UInt8) (ha1 : Bs H (.sl a a1.length cap 0) a1) (hc : a1.length ≤ cap) (hm0 : cap ≤ maxLen) (b : Option (Nat × Nat)) (bcap : Nat) (b1 : List UInt8) (hb1 : Bs H (.sl b b1.length bcap 0) b1) (hbc : b1.length ≤ bcap) (hbm0 : bcap ≤ maxLen) : Ev tabA spA (.fn (.func 5) [] []) [.sl ka key.length kcap 0, .sl a a1.length cap 0, .sl b b1.length bcap 0] H (fun v _ => v = .b true) := by
  refine Ev_C (F := x5) rfl ?_
  have hO0 := Old.refl hok
  have hkm : kcap ≤ 9223372036854775807 := hkm0
  have hm : cap ≤ 9223372036854775807 := hm0
  have hbm : bcap ≤ 9223372036854775807 := hbm0
  refine C_seq ?_
  refine C_region ?_
  refine O_p (.b false) (r_mv rfl) ?_
  refine O_nil ?_
  refine C_seq ?_
  refine C_region ?_
  refine O_call (Ev_sp (v := (.b true)) rfl rfl ?_)
  refine O_p (.b true) (r_mv rfl) ?_
  refine O_nil ?_
  refine C_seq ?_
  refine C_seq ?_
  refine C_region ?_
  refine O_p (.sl a a1.length cap 0) (r_mv rfl) ?_
  refine O_p (.i .i64 (((a1.length : Nat)) : Int)) (r_len rfl) ?_
  refine O_p (.b (decide (1000 < (((a1.length : Nat)) : Int)))) (r_gtr rfl rfl) ?_
  refine O_p (.b (decide (1000 < (((a1.length : Nat)) : Int)))) (r_mv rfl) ?_
  refine O_gx (e := (!(decide (1000 < (((a1.length : Nat)) : Int))))) (v := (.sl b b1.length bcap 0)) (wf rfl) (fun he => (r_mv rfl)) ?_
  refine O_gx (e := (!(decide (1000 < (((a1.length : Nat)) : Int))))) (v := (.i .i64 (((b1.length : Nat)) : Int))) (wf rfl) (fun he => (r_len (cond_pos he))) ?_
  refine O_gx (e := (!(decide (1000 < (((a1.length : Nat)) : Int))))) (v := (.b (decide (1000 < (((b1.length : Nat)) : Int))))) (wf rfl) (fun he => (r_gtr (cond_pos he) rfl)) ?_
  refine O_p (.b ((decide (1000 < (((a1.length : Nat)) : Int))) || (decide (1000 < (((b1.length : Nat)) : Int))))) (r_pick_or rfl rfl rfl rfl) ?_
  refine O_p (.b ((decide (1000 < (((a1.length : Nat)) : Int))) || (decide (1000 < (((b1.length : Nat)) : Int))))) (r_mv rfl) ?_
  refine O_gx (e := (!((decide (1000 < (((a1.length : Nat)) : Int))) || (decide (1000 < (((b1.length : Nat)) : Int)))))) (v := (.sl ka key.length kcap 0)) (wf rfl) (fun he => (r_mv rfl)) ?_
  refine O_gx (e := (!((decide (1000 < (((a1.length : Nat)) : Int))) || (decide (1000 < (((b1.length : Nat)) : Int)))))) (v := (.i .i64 (((key.length : Nat)) : Int))) (wf rfl) (fun he => (r_len (cond_pos he))) ?_
  refine O_gx (e := (!((decide (1000 < (((a1.length : Nat)) : Int))) || (decide (1000 < (((b1.length : Nat)) : Int)))))) (v := (.b (decide (300 < (((key.length : Nat)) : Int))))) (wf rfl) (fun he => (r_gtr (cond_pos he) rfl)) ?_
  refine O_p (.b (((decide (1000 < (((a1.length : Nat)) : Int))) || (decide (1000 < (((b1.length : Nat)) : Int)))) || (decide (300 < (((key.length : Nat)) : Int))))) (r_pick_or rfl rfl rfl rfl) ?_
  refine O_nil ?_
  refine C_cond (x := (((decide (1000 < (((a1.length : Nat)) : Int))) || (decide (1000 < (((b1.length : Nat)) : Int)))) || (decide (300 < (((key.length : Nat)) : Int))))) rfl (fun hc1 => ?_) (fun hc1 => ?_)
  ·
    simp only [decide_eq_true_eq, decide_eq_false_iff_not, Bool.not_eq_true', Bool.not_eq_false', Bool.and_eq_true, Bool.or_eq_true, Bool.or_eq_false_iff, Bool.not_not] at hc1
    refine C_seq ?_
    refine C_region ?_
    refine O_p (.b true) (r_mv rfl) ?_
    refine O_p (.b true) (r_mv rfl) ?_
    refine O_nil ?_
    refine C_ret ?_
    refine nx_ret ?_
    exact ⟨.inr rfl, _, resL_one (r_tmp (v := .b true) rfl), rfl⟩
  ·
    simp only [decide_eq_true_eq, decide_eq_false_iff_not, Bool.not_eq_true', Bool.not_eq_false', Bool.and_eq_true, Bool.or_eq_true, Bool.or_eq_false_iff, Bool.not_not] at hc1
    refine C_skip ?_
    refine C_seq ?_
    refine C_region ?_
    refine O_bslice (c := []) rfl fun n2 H3 hN4 => ?_
    have hF5 := hN4.fr (fun _ => False)
    have hO6 := hO0.new hN4
    have hx_hO6 := hO6.next
    have hnm_n2 : n2 = H.next := hN4.1
    have hnx_H3 : H3.next = H.next + 1 := hN4.2.1
    have hlt_n2 : n2 < H3.next := by omega
    refine O_p (.sl a a1.length cap 0) (r_mv rfl) ?_
    have hM7 : Mine H.next 1 H3 (.sl (some (n2, 0)) 0 0 0) [] := ⟨.mk (n := 0) hN4.2.2.1 (by omega) (.inl rfl) rfl, fun q hq => by rw [nameOf_sl] at hq; omega⟩
    refine O_qh (by exact r_app (n := 0) (k := a1.length) (new := (bcells a1)) hO6.ok hO6.next hM7 rfl rfl rfl ((ha1.old hok hO6).len) ((ha1.old hok hO6).src) ((bcells_len _).trans (Nat.mul_one _).symm) (by decide) (by decide) (by omega)) fun o8 H9 hA10 => ?_
    have hx_H9 := hA10.2.1
    have hO11 := hA10.old hM7 hO6
    have hx_hO11 := hO11.next
    refine O_p (.sl b b1.length bcap 0) (r_mv rfl) ?_
    refine O_qh (by exact r_app (n := (0 + a1.length)) (k := b1.length) (new := (bcells b1)) hO11.ok hO11.next hA10.1 (len_app rfl ((bcells_len _).trans (Nat.mul_one _).symm)) rfl rfl ((hb1.old hok hO11).len) ((hb1.old hok hO11).src) ((bcells_len _).trans (Nat.mul_one _).symm) (by decide) (by decide) (by omega)) fun o12 H13 hA14 => ?_
    have hx_H13 := hA14.2.1
    have hO15 := hA14.old hA10.1 hO11
    have hx_hO15 := hO15.next
    have hself := hA14.1.own
    rw [show ((([] ++ (bcells a1)) ++ (bcells b1)) : List AV) = bcells (a1 ++ b1) by simp [bcells]] at hself
    obtain ⟨oa16, og17, rfl, hog18, hob19⟩ := hself.bs
    have base20 := Old.refl hO15.ok
    have hlen1 : (a1 ++ b1).length = a1.length + b1.length := List.length_append
    refine O_p (.sl oa16 (a1 ++ b1).length (a1 ++ b1).length og17) (r_mv rfl) ?_
    refine O_nil ?_
    refine C_seq ?_
    refine C_region ?_
    refine O_p (.sl oa16 (a1 ++ b1).length (a1 ++ b1).length og17) (r_mv rfl) ?_
    refine O_p (.s (txt (a1 ++ b1))) ((hob19.old hO15.ok base20).text rfl) ?_
    refine O_p (.s (txt (a1 ++ b1))) (r_mv rfl) ?_
    refine O_nil ?_
    refine C_seq ?_
    refine C_region ?_
    refine O_p (.sl ka key.length kcap 0) (r_mv rfl) ?_
    refine O_p (.s (txt key)) ((hk.old hok hO15).text rfl) ?_
    refine O_p (.s (txt key)) (r_mv rfl) ?_
    refine O_nil ?_
    refine C_seq ?_
    refine C_region ?_
    refine O_p (.sl ka key.length kcap 0) (r_mv rfl) ?_
    refine O_p (.sl oa16 (a1 ++ b1).length (a1 ++ b1).length og17) (r_mv rfl) ?_
    refine O_p (.sl a a1.length cap 0) (r_mv rfl) ?_
    refine O_p (.i .i64 (((a1.length : Nat)) : Int)) (r_len rfl) ?_
    refine O_q (by exact Bs.lo hob19 hog18 rfl (i := a1.length) rfl (by first | omega | (simp only [List.length_take, List.length_drop]; omega)) (by first | omega | (simp only [List.length_take, List.length_drop]; omega))) fun v24 hv23 => ?_
    obtain ⟨a21, rfl, hb22⟩ := hv23
    refine O_call (Ev.mono (code10 hO15.ok (.inl rfl) (hk.old hok hO15) (by omega) (by omega) hog18 (hb22.old hO15.ok base20) (by first | omega | (simp only [List.length_take, List.length_drop]; omega)) (by first | omega | (simp only [List.length_take, List.length_drop]; omega)) (by first | omega | (simp only [List.length_take, List.length_drop]; omega))) fun v25 H26 hq27 => ?_)
    obtain ⟨rfl, hK28⟩ := hq27
    have hx_hK28 := hK28.next
    have hO29 := hO15.trans hK28
    have hx_hO29 := hO29.next
    have hO30 := base20.trans hK28
    refine O_p (.tup [(.i .u64 (if (key).length = 16 then code key ((a1 ++ b1).drop a1.length) else 0)), (.b (decide ((key).length = 16)))]) (r_mv rfl) ?_
    refine O_p (.i .u64 (if (key).length = 16 then code key ((a1 ++ b1).drop a1.length) else 0)) (r_ext rfl rfl) ?_
    refine O_p (.b (decide ((key).length = 16))) (r_ext rfl rfl) ?_
    refine O_p (.i .u64 (if (key).length = 16 then code key ((a1 ++ b1).drop a1.length) else 0)) (r_mv rfl) ?_
    refine O_p (.b (decide ((key).length = 16))) (r_mv rfl) ?_
    refine O_nil ?_
    refine C_seq ?_
    refine C_region ?_
    refine O_p (.sl ka key.length kcap 0) (r_mv rfl) ?_
    refine O_p (.sl b b1.length bcap 0) (r_mv rfl) ?_
    refine O_call (Ev.mono (code10 hO29.ok (.inl rfl) (hk.old hok hO29) (by omega) (by omega) (.inl rfl) (hb1.old hok hO29) (by first | omega | (simp only [List.length_take, List.length_drop]; omega)) (by first | omega | (simp only [List.length_take, List.length_drop]; omega)) (by first | omega | (simp only [List.length_take, List.length_drop]; omega))) fun v31 H32 hq33 => ?_)
    obtain ⟨rfl, hK34⟩ := hq33
    have hx_hK34 := hK34.next
    have hO35 := hO29.trans hK34
    have hx_hO35 := hO35.next
    have hO36 := hO30.trans hK34
    refine O_p (.tup [(.i .u64 (if (key).length = 16 then code key b1 else 0)), (.b (decide ((key).length = 16)))]) (r_mv rfl) ?_
    refine O_p (.i .u64 (if (key).length = 16 then code key b1 else 0)) (r_ext rfl rfl) ?_
    refine O_p (.b (decide ((key).length = 16))) (r_ext rfl rfl) ?_
    refine O_p (.i .u64 (if (key).length = 16 then code key b1 else 0)) (r_mv rfl) ?_
    refine O_p (.b (decide ((key).length = 16))) (r_mv rfl) ?_
    refine O_nil ?_
    refine C_seq ?_
    refine C_region ?_
    refine O_p (.b true) (r_mv rfl) ?_
    refine O_p (.b true) (r_mv rfl) ?_
    refine O_gs (v := (.i .u64 (if (key).length = 16 then code key ((a1 ++ b1).drop a1.length) else 0))) rfl (r_mv rfl) ?_
    refine O_gs (v := (.i .u64 (if (key).length = 16 then code key b1 else 0))) rfl (r_mv rfl) ?_
    refine O_gs (v := (.b (decide ((if (key).length = 16 then code key ((a1 ++ b1).drop a1.length) else 0) = (if (key).length = 16 then code key b1 else 0))))) rfl (r_eql rfl rfl) ?_
    refine O_p (.b (decide ((if (key).length = 16 then code key ((a1 ++ b1).drop a1.length) else 0) = (if (key).length = 16 then code key b1 else 0)))) (r_pick_t rfl rfl) ?_
    refine O_p (.b (decide ((if (key).length = 16 then code key ((a1 ++ b1).drop a1.length) else 0) = (if (key).length = 16 then code key b1 else 0)))) (r_mv rfl) ?_
    refine O_gx (e := (decide ((if (key).length = 16 then code key ((a1 ++ b1).drop a1.length) else 0) = (if (key).length = 16 then code key b1 else 0)))) (v := (.b (decide ((key).length = 16)))) (wt rfl) (fun he => (r_mv rfl)) ?_
    refine O_gx (e := (decide ((if (key).length = 16 then code key ((a1 ++ b1).drop a1.length) else 0) = (if (key).length = 16 then code key b1 else 0)))) (v := (.b (decide ((key).length = 16)))) (wt rfl) (fun he => (r_mv rfl)) ?_
    refine O_gx (e := (decide ((if (key).length = 16 then code key ((a1 ++ b1).drop a1.length) else 0) = (if (key).length = 16 then code key b1 else 0)))) (v := (.b ((decide ((key).length = 16)) == (decide ((key).length = 16))))) (wt rfl) (fun he => (r_beq (cond_pos he) (cond_pos he))) ?_
    refine O_p (.b ((decide ((if (key).length = 16 then code key ((a1 ++ b1).drop a1.length) else 0) = (if (key).length = 16 then code key b1 else 0))) && ((decide ((key).length = 16)) == (decide ((key).length = 16))))) (r_pick_and rfl rfl rfl rfl) ?_
    refine O_p (.b ((decide ((if (key).length = 16 then code key ((a1 ++ b1).drop a1.length) else 0) = (if (key).length = 16 then code key b1 else 0))) && ((decide ((key).length = 16)) == (decide ((key).length = 16))))) (r_mv rfl) ?_
    refine O_gx (e := ((decide ((if (key).length = 16 then code key ((a1 ++ b1).drop a1.length) else 0) = (if (key).length = 16 then code key b1 else 0))) && ((decide ((key).length = 16)) == (decide ((key).length = 16))))) (v := (.b (decide ((key).length = 16)))) (wt rfl) (fun he => (r_mv rfl)) ?_
    refine O_gx (e := ((decide ((if (key).length = 16 then code key ((a1 ++ b1).drop a1.length) else 0) = (if (key).length = 16 then code key b1 else 0))) && ((decide ((key).length = 16)) == (decide ((key).length = 16))))) (v := (.sl ka key.length kcap 0)) (wt rfl) (fun he => (r_mv rfl)) ?_
    refine O_gx (e := ((decide ((if (key).length = 16 then code key ((a1 ++ b1).drop a1.length) else 0) = (if (key).length = 16 then code key b1 else 0))) && ((decide ((key).length = 16)) == (decide ((key).length = 16))))) (v := (.i .i64 (((key.length : Nat)) : Int))) (wt rfl) (fun he => (r_len (cond_pos he))) ?_
    refine O_gx (e := ((decide ((if (key).length = 16 then code key ((a1 ++ b1).drop a1.length) else 0) = (if (key).length = 16 then code key b1 else 0))) && ((decide ((key).length = 16)) == (decide ((key).length = 16))))) (v := (.b (decide ((((key.length : Nat)) : Int) = 16)))) (wt rfl) (fun he => (r_eql (cond_pos he) rfl)) ?_
    refine O_gx (e := ((decide ((if (key).length = 16 then code key ((a1 ++ b1).drop a1.length) else 0) = (if (key).length = 16 then code key b1 else 0))) && ((decide ((key).length = 16)) == (decide ((key).length = 16))))) (v := (.b ((decide ((key).length = 16)) == (decide ((((key.length : Nat)) : Int) = 16))))) (wt rfl) (fun he => (r_beq (cond_pos he) (cond_pos he))) ?_
    refine O_p (.b (((decide ((if (key).length = 16 then code key ((a1 ++ b1).drop a1.length) else 0) = (if (key).length = 16 then code key b1 else 0))) && ((decide ((key).length = 16)) == (decide ((key).length = 16)))) && ((decide ((key).length = 16)) == (decide ((((key.length : Nat)) : Int) = 16))))) (r_pick_and rfl rfl rfl rfl) ?_
    refine O_p (.b (((decide ((if (key).length = 16 then code key ((a1 ++ b1).drop a1.length) else 0) = (if (key).length = 16 then code key b1 else 0))) && ((decide ((key).length = 16)) == (decide ((key).length = 16)))) && ((decide ((key).length = 16)) == (decide ((((key.length : Nat)) : Int) = 16))))) (r_mv rfl) ?_
    refine O_gx (e := (((decide ((if (key).length = 16 then code key ((a1 ++ b1).drop a1.length) else 0) = (if (key).length = 16 then code key b1 else 0))) && ((decide ((key).length = 16)) == (decide ((key).length = 16)))) && ((decide ((key).length = 16)) == (decide ((((key.length : Nat)) : Int) = 16))))) (v := (.sl oa16 (a1 ++ b1).length (a1 ++ b1).length og17)) (wt rfl) (fun he => (r_mv rfl)) ?_
    refine O_gx (e := (((decide ((if (key).length = 16 then code key ((a1 ++ b1).drop a1.length) else 0) = (if (key).length = 16 then code key b1 else 0))) && ((decide ((key).length = 16)) == (decide ((key).length = 16)))) && ((decide ((key).length = 16)) == (decide ((((key.length : Nat)) : Int) = 16))))) (v := (.s (txt (a1 ++ b1)))) (wt rfl) (fun he => ((hob19.old hO15.ok hO36).text (cond_pos he))) ?_
    refine O_gx (e := (((decide ((if (key).length = 16 then code key ((a1 ++ b1).drop a1.length) else 0) = (if (key).length = 16 then code key b1 else 0))) && ((decide ((key).length = 16)) == (decide ((key).length = 16)))) && ((decide ((key).length = 16)) == (decide ((((key.length : Nat)) : Int) = 16))))) (v := (.s (txt (a1 ++ b1)))) (wt rfl) (fun he => (r_mv rfl)) ?_
    refine O_gx (e := (((decide ((if (key).length = 16 then code key ((a1 ++ b1).drop a1.length) else 0) = (if (key).length = 16 then code key b1 else 0))) && ((decide ((key).length = 16)) == (decide ((key).length = 16)))) && ((decide ((key).length = 16)) == (decide ((((key.length : Nat)) : Int) = 16))))) (v := (.b (decide ((a1 ++ b1) = (a1 ++ b1))))) (wt rfl) (fun he => (r_eqt (cond_pos he) (cond_pos he))) ?_
    refine O_p (.b ((((decide ((if (key).length = 16 then code key ((a1 ++ b1).drop a1.length) else 0) = (if (key).length = 16 then code key b1 else 0))) && ((decide ((key).length = 16)) == (decide ((key).length = 16)))) && ((decide ((key).length = 16)) == (decide ((((key.length : Nat)) : Int) = 16)))) && (decide ((a1 ++ b1) = (a1 ++ b1))))) (r_pick_and rfl rfl rfl rfl) ?_
    refine O_p (.b ((((decide ((if (key).length = 16 then code key ((a1 ++ b1).drop a1.length) else 0) = (if (key).length = 16 then code key b1 else 0))) && ((decide ((key).length = 16)) == (decide ((key).length = 16)))) && ((decide ((key).length = 16)) == (decide ((((key.length : Nat)) : Int) = 16)))) && (decide ((a1 ++ b1) = (a1 ++ b1))))) (r_mv rfl) ?_
    refine O_gx (e := ((((decide ((if (key).length = 16 then code key ((a1 ++ b1).drop a1.length) else 0) = (if (key).length = 16 then code key b1 else 0))) && ((decide ((key).length = 16)) == (decide ((key).length = 16)))) && ((decide ((key).length = 16)) == (decide ((((key.length : Nat)) : Int) = 16)))) && (decide ((a1 ++ b1) = (a1 ++ b1))))) (v := (.sl ka key.length kcap 0)) (wt rfl) (fun he => (r_mv rfl)) ?_
    refine O_gx (e := ((((decide ((if (key).length = 16 then code key ((a1 ++ b1).drop a1.length) else 0) = (if (key).length = 16 then code key b1 else 0))) && ((decide ((key).length = 16)) == (decide ((key).length = 16)))) && ((decide ((key).length = 16)) == (decide ((((key.length : Nat)) : Int) = 16)))) && (decide ((a1 ++ b1) = (a1 ++ b1))))) (v := (.s (txt key))) (wt rfl) (fun he => ((hk.old hok hO35).text (cond_pos he))) ?_
    refine O_gx (e := ((((decide ((if (key).length = 16 then code key ((a1 ++ b1).drop a1.length) else 0) = (if (key).length = 16 then code key b1 else 0))) && ((decide ((key).length = 16)) == (decide ((key).length = 16)))) && ((decide ((key).length = 16)) == (decide ((((key.length : Nat)) : Int) = 16)))) && (decide ((a1 ++ b1) = (a1 ++ b1))))) (v := (.s (txt key))) (wt rfl) (fun he => (r_mv rfl)) ?_
    refine O_gx (e := ((((decide ((if (key).length = 16 then code key ((a1 ++ b1).drop a1.length) else 0) = (if (key).length = 16 then code key b1 else 0))) && ((decide ((key).length = 16)) == (decide ((key).length = 16)))) && ((decide ((key).length = 16)) == (decide ((((key.length : Nat)) : Int) = 16)))) && (decide ((a1 ++ b1) = (a1 ++ b1))))) (v := (.b (decide (key = key)))) (wt rfl) (fun he => (r_eqt (cond_pos he) (cond_pos he))) ?_
    refine O_p (.b (((((decide ((if (key).length = 16 then code key ((a1 ++ b1).drop a1.length) else 0) = (if (key).length = 16 then code key b1 else 0))) && ((decide ((key).length = 16)) == (decide ((key).length = 16)))) && ((decide ((key).length = 16)) == (decide ((((key.length : Nat)) : Int) = 16)))) && (decide ((a1 ++ b1) = (a1 ++ b1)))) && (decide (key = key)))) (r_pick_and rfl rfl rfl rfl) ?_
    refine O_p (.b (((((decide ((if (key).length = 16 then code key ((a1 ++ b1).drop a1.length) else 0) = (if (key).length = 16 then code key b1 else 0))) && ((decide ((key).length = 16)) == (decide ((key).length = 16)))) && ((decide ((key).length = 16)) == (decide ((((key.length : Nat)) : Int) = 16)))) && (decide ((a1 ++ b1) = (a1 ++ b1)))) && (decide (key = key)))) (r_mv rfl) ?_
    refine O_gx (e := (((((decide ((if (key).length = 16 then code key ((a1 ++ b1).drop a1.length) else 0) = (if (key).length = 16 then code key b1 else 0))) && ((decide ((key).length = 16)) == (decide ((key).length = 16)))) && ((decide ((key).length = 16)) == (decide ((((key.length : Nat)) : Int) = 16)))) && (decide ((a1 ++ b1) = (a1 ++ b1)))) && (decide (key = key)))) (v := (.b (decide ((key).length = 16)))) (wt rfl) (fun he => (r_mv rfl)) ?_
    refine O_gx (e := (((((decide ((if (key).length = 16 then code key ((a1 ++ b1).drop a1.length) else 0) = (if (key).length = 16 then code key b1 else 0))) && ((decide ((key).length = 16)) == (decide ((key).length = 16)))) && ((decide ((key).length = 16)) == (decide ((((key.length : Nat)) : Int) = 16)))) && (decide ((a1 ++ b1) = (a1 ++ b1)))) && (decide (key = key)))) (v := (.b (decide ((key).length = 16)))) (wt rfl) (fun he => (r_mv (cond_pos he))) ?_
    refine O_gx (e := ((((((decide ((if (key).length = 16 then code key ((a1 ++ b1).drop a1.length) else 0) = (if (key).length = 16 then code key b1 else 0))) && ((decide ((key).length = 16)) == (decide ((key).length = 16)))) && ((decide ((key).length = 16)) == (decide ((((key.length : Nat)) : Int) = 16)))) && (decide ((a1 ++ b1) = (a1 ++ b1)))) && (decide (key = key))) && (!(decide ((key).length = 16))))) (v := (.i .u64 (if (key).length = 16 then code key ((a1 ++ b1).drop a1.length) else 0))) (wfg rfl) (fun he => (r_mv rfl)) ?_
    refine O_gx (e := ((((((decide ((if (key).length = 16 then code key ((a1 ++ b1).drop a1.length) else 0) = (if (key).length = 16 then code key b1 else 0))) && ((decide ((key).length = 16)) == (decide ((key).length = 16)))) && ((decide ((key).length = 16)) == (decide ((((key.length : Nat)) : Int) = 16)))) && (decide ((a1 ++ b1) = (a1 ++ b1)))) && (decide (key = key))) && (!(decide ((key).length = 16))))) (v := (.b (decide ((if (key).length = 16 then code key ((a1 ++ b1).drop a1.length) else 0) = 0)))) (wfg rfl) (fun he => (r_eql (cond_pos he) rfl)) ?_
    refine O_gx (e := (((((decide ((if (key).length = 16 then code key ((a1 ++ b1).drop a1.length) else 0) = (if (key).length = 16 then code key b1 else 0))) && ((decide ((key).length = 16)) == (decide ((key).length = 16)))) && ((decide ((key).length = 16)) == (decide ((((key.length : Nat)) : Int) = 16)))) && (decide ((a1 ++ b1) = (a1 ++ b1)))) && (decide (key = key)))) (v := (.b ((decide ((key).length = 16)) || (decide ((if (key).length = 16 then code key ((a1 ++ b1).drop a1.length) else 0) = 0))))) (wt rfl) (fun he => (r_pick_or (cond_pos he) rfl rfl (and_t he))) ?_
    refine O_p (.b ((((((decide ((if (key).length = 16 then code key ((a1 ++ b1).drop a1.length) else 0) = (if (key).length = 16 then code key b1 else 0))) && ((decide ((key).length = 16)) == (decide ((key).length = 16)))) && ((decide ((key).length = 16)) == (decide ((((key.length : Nat)) : Int) = 16)))) && (decide ((a1 ++ b1) = (a1 ++ b1)))) && (decide (key = key))) && ((decide ((key).length = 16)) || (decide ((if (key).length = 16 then code key ((a1 ++ b1).drop a1.length) else 0) = 0))))) (r_pick_and rfl rfl rfl rfl) ?_
    refine O_p (.b ((((((decide ((if (key).length = 16 then code key ((a1 ++ b1).drop a1.length) else 0) = (if (key).length = 16 then code key b1 else 0))) && ((decide ((key).length = 16)) == (decide ((key).length = 16)))) && ((decide ((key).length = 16)) == (decide ((((key.length : Nat)) : Int) = 16)))) && (decide ((a1 ++ b1) = (a1 ++ b1)))) && (decide (key = key))) && ((decide ((key).length = 16)) || (decide ((if (key).length = 16 then code key ((a1 ++ b1).drop a1.length) else 0) = 0))))) (r_mv rfl) ?_
    refine O_nil ?_
    refine C_ret ?_
    refine ⟨.inr rfl, _, resL_one (r_tmp (v := (.b ((((((decide ((if (key).length = 16 then code key ((a1 ++ b1).drop a1.length) else 0) = (if (key).length = 16 then code key b1 else 0))) && ((decide ((key).length = 16)) == (decide ((key).length = 16)))) && ((decide ((key).length = 16)) == (decide ((((key.length : Nat)) : Int) = 16)))) && (decide ((a1 ++ b1) = (a1 ++ b1)))) && (decide (key = key))) && ((decide ((key).length = 16)) || (decide ((if (key).length = 16 then code key ((a1 ++ b1).drop a1.length) else 0) = 0)))))) rfl), ?_⟩
    by_cases h16 : key.length = 16
    · have h17 : ((key.length : Nat) : Int) = 16 := by omega
      simp [resV, h16, h17]
    · have h17 : ¬ ((key.length : Nat) : Int) = 16 := by omega
      simp [resV, h16, h17]
theorem law5 (W : World) (ρ : Rho) (H : AH) (xs : List AV) (args : Array Value) (hR : Rel Try.prog W.heap.size W ρ H W) (hro : RO H) (hv : VRL ρ xs args.toList) (ht : TypedVs Try.prog H 9 Try.f5.params.toList xs) :
    Calls Try.prog 5 args W fun e w' => e = .returned (.bool true) ∧ Below W.heap.size W w' := by
  rw [Try.params5] at ht
  obtain ⟨a0, xs, rfl, h0, a1, xs, rfl, h1, a2, xs, rfl, h2, rfl⟩ := ht
  obtain ⟨p0, n0, c0, key, rfl, hb0, rfl, hc0, hm0⟩ := typed_bytes Try.underlying29 Try.underlying5 (by kernel_rfl) (typedV_slice Try.underlying29 h0)
  obtain ⟨p1, n1, c1, a1, rfl, hb1, rfl, hc1, hm1⟩ := typed_bytes Try.underlying29 Try.underlying5 (by kernel_rfl) (typedV_slice Try.underlying29 h1)
  obtain ⟨p2, n2, c2, b1, rfl, hb2, rfl, hc2, hm2⟩ := typed_bytes Try.underlying29 Try.underlying5 (by kernel_rfl) (typedV_slice Try.underlying29 h2)
  obtain ⟨k, v, H', hex, rfl⟩ := run5 H hR.aok p0 c0 key hb0 hc0 hm0 p1 c1 a1 hb1 hc1 hm1 p2 c2 b1 hb2 hc2 hm2
  exact law_of mixed tabA_ok spA_ok hex hR hv
end Go.Proofs.Ytmkahjffhnfhjaa.E
namespace Go.Proofs.Ytmkahjffhnfhjaa.sipKeeps
open Go.ChangeShapes Go.WideShapes Go.RowKit
set_option linter.unusedVariables false
theorem own : ownKnob Try.prog.godebug = none := by kernel_rfl
theorem types : (Try.f5.params.toList.all fun t => E.fit Try.prog 9 t && (Try.prog.readableRec t && decide (t < Try.prog.types.size))) = true := by kernel_rfl
set_option maxRecDepth 100000 in
theorem lifted (os : Os) (started : os.Started) (H : Type) (enc : TypeId × Value → H) :
    ReturnsInHanded {} Try.checked os 5 .any (Rows.sipKeepsSpec.pre6 enc Try.prog Try.f5 Rows.sipKeepsRow.domain false) (Rows.sipKeepsSpec.post enc Try.prog Try.f5 false true false false) :=
  E.law_lifted (C := Try.checked) (k := 9) (tb := 4) E.globals0 E.laid own started (by kernel_rfl) Try.func5
    (ChangeSpec.witness6 (enc := enc) (C := Try.checked) false ⟨#[], #[.slice none 0 0, .slice none 0 0, .slice none 0 0], []⟩ 8 (by kernel_rfl) (by kernel_rfl) (by kernel_rfl) (by kernel_rfl))
    rfl rfl Try.underlying4 (fun t ht => by have h := List.all_eq_true.1 types t ht; simp only [Bool.and_eq_true, decide_eq_true_eq] at h; exact h)
    (fun ds hd => by
      rw [Try.params5] at hd
      match ds, hd with
      | [d0, d1, d2], _ => rfl) E.law5
theorem over : Rows.sipKeepsRow.holds Try.pinned (OpenSpec.ofChange Rows.sipKeepsSpec) :=
  OpenClaim.holds_of_wide 5 Try.f5 rfl rfl rfl rfl rfl rfl rfl ⟨rfl, rfl, rfl, rfl, rfl⟩ rfl rfl rfl rfl rfl (by kernel_rfl) Try.func5 (by kernel_rfl)
    (of_decide_eq_true (by kernel_rfl)) (by unfold Func.isWrapper; first | (rw [if_pos (by decide +kernel)]; kernel_rfl) | (rw [if_neg (by decide +kernel)]; exact ⟨rfl, rfl⟩))
    (fun os started H enc _ => lifted os started H enc)
end Go.Proofs.Ytmkahjffhnfhjaa.sipKeeps
namespace Go.Proofs.Ytmkahjffhnfhjaa
/-- The row, under a short name, for the claim. -/
theorem sipKeeps_holds : Rows.SipKeepsSaid := sipKeeps.over
#print axioms sipKeeps_holds
end Go.Proofs.Ytmkahjffhnfhjaa
