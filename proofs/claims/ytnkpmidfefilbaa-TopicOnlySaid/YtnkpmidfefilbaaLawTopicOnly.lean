/- TopicOnly, for every input, without conditions. -/
import Derived.Test.YtnkpmidfefilbaaO1
import Derived.Test.YtnkpmidfefilbaaRows
import Derived.ProofKit
import Derived.OpenShut
namespace Go.Proofs.Ytnkpmidfefilbaa.E
open Go.RowKit (Below)
set_option linter.unusedVariables false
set_option linter.unusedSimpArgs false
set_option maxRecDepth 100000 in
set_option maxHeartbeats 4000000 in
theorem run6 (H0 : AH) (hok0 : H0.Ok) (a b : List UInt8) (da : Option (Nat × Nat)) (dc : Nat) (d : List UInt8) (hdb : Bs H0 (.sl da d.length dc 0) d) (hdc : d.length ≤ dc) (hdm : dc ≤ maxLen) : Ev tabA spA (.fn (.func 6) [] []) [.s (txt a), .s (txt b), .sl da d.length dc 0] H0 (fun v _ => v = .b true) := by
  have hH0 := allL_hs hok0
  have dB : ∀ H', Hs H' (allL H0) → Bs H' (.sl da d.length dc 0) d := fun H' hh => Bs.ro (R := []) hdb hok0 (by rw [List.append_nil]; exact hh)
  refine Ev_C (F := x6) rfl ?_
  refine C_seq ?_
  refine C_region ?_
  refine O_p (.b false) (r_mv rfl) ?_
  refine O_nil ?_
  refine C_seq ?_
  refine C_region ?_
  refine O_call (Ev_sp (v := (.b true)) rfl rfl ?_)
  refine O_p (.b true) (r_mv rfl) ?_
  refine O_nil ?_
  refine C_seq ?_
  refine C_seq ?_
  refine C_region ?_
  refine O_p (.s (txt a)) (r_mv rfl) ?_
  refine O_p (.s (txt b)) (r_mv rfl) ?_
  refine O_p (.b (decide (a = b))) (r_eqt rfl rfl) ?_
  refine O_p (.b (decide (a = b))) (r_mv rfl) ?_
  refine O_gx (e := (!(decide (a = b)))) (v := (.s (txt a))) (wf rfl) (fun he => (r_mv rfl)) ?_
  refine O_gx (e := (!(decide (a = b)))) (v := (.b (decide (a = ([] : List UInt8))))) (wf rfl) (fun he => (r_eqt (cond_pos he) rfl)) ?_
  refine O_p (.b ((decide (a = b)) || (decide (a = ([] : List UInt8))))) (r_pick_or rfl rfl rfl rfl) ?_
  refine O_p (.b ((decide (a = b)) || (decide (a = ([] : List UInt8))))) (r_mv rfl) ?_
  refine O_gx (e := (!((decide (a = b)) || (decide (a = ([] : List UInt8)))))) (v := (.s (txt b))) (wf rfl) (fun he => (r_mv rfl)) ?_
  refine O_gx (e := (!((decide (a = b)) || (decide (a = ([] : List UInt8)))))) (v := (.b (decide (b = ([] : List UInt8))))) (wf rfl) (fun he => (r_eqt (cond_pos he) rfl)) ?_
  refine O_p (.b (((decide (a = b)) || (decide (a = ([] : List UInt8)))) || (decide (b = ([] : List UInt8))))) (r_pick_or rfl rfl rfl rfl) ?_
  refine O_p (.b (((decide (a = b)) || (decide (a = ([] : List UInt8)))) || (decide (b = ([] : List UInt8))))) (r_mv rfl) ?_
  refine O_gx (e := (!(((decide (a = b)) || (decide (a = ([] : List UInt8)))) || (decide (b = ([] : List UInt8)))))) (v := (.s (txt a))) (wf rfl) (fun he => (r_mv rfl)) ?_
  refine O_gx (e := (!(((decide (a = b)) || (decide (a = ([] : List UInt8)))) || (decide (b = ([] : List UInt8)))))) (v := (.i .i64 ((((a).length : Nat)) : Int))) (wf rfl) (fun he => (r_lent (l := a) (cond_pos he))) ?_
  refine O_gx (e := (!(((decide (a = b)) || (decide (a = ([] : List UInt8)))) || (decide (b = ([] : List UInt8)))))) (v := (.b (decide (256 < ((((a).length : Nat)) : Int))))) (wf rfl) (fun he => (r_gtr (cond_pos he) rfl)) ?_
  refine O_p (.b ((((decide (a = b)) || (decide (a = ([] : List UInt8)))) || (decide (b = ([] : List UInt8)))) || (decide (256 < ((((a).length : Nat)) : Int))))) (r_pick_or rfl rfl rfl rfl) ?_
  refine O_p (.b ((((decide (a = b)) || (decide (a = ([] : List UInt8)))) || (decide (b = ([] : List UInt8)))) || (decide (256 < ((((a).length : Nat)) : Int))))) (r_mv rfl) ?_
  refine O_gx (e := (!((((decide (a = b)) || (decide (a = ([] : List UInt8)))) || (decide (b = ([] : List UInt8)))) || (decide (256 < ((((a).length : Nat)) : Int)))))) (v := (.s (txt b))) (wf rfl) (fun he => (r_mv rfl)) ?_
  refine O_gx (e := (!((((decide (a = b)) || (decide (a = ([] : List UInt8)))) || (decide (b = ([] : List UInt8)))) || (decide (256 < ((((a).length : Nat)) : Int)))))) (v := (.i .i64 ((((b).length : Nat)) : Int))) (wf rfl) (fun he => (r_lent (l := b) (cond_pos he))) ?_
  refine O_gx (e := (!((((decide (a = b)) || (decide (a = ([] : List UInt8)))) || (decide (b = ([] : List UInt8)))) || (decide (256 < ((((a).length : Nat)) : Int)))))) (v := (.b (decide (256 < ((((b).length : Nat)) : Int))))) (wf rfl) (fun he => (r_gtr (cond_pos he) rfl)) ?_
  refine O_p (.b (((((decide (a = b)) || (decide (a = ([] : List UInt8)))) || (decide (b = ([] : List UInt8)))) || (decide (256 < ((((a).length : Nat)) : Int)))) || (decide (256 < ((((b).length : Nat)) : Int))))) (r_pick_or rfl rfl rfl rfl) ?_
  refine O_p (.b (((((decide (a = b)) || (decide (a = ([] : List UInt8)))) || (decide (b = ([] : List UInt8)))) || (decide (256 < ((((a).length : Nat)) : Int)))) || (decide (256 < ((((b).length : Nat)) : Int))))) (r_mv rfl) ?_
  refine O_gx (e := (!(((((decide (a = b)) || (decide (a = ([] : List UInt8)))) || (decide (b = ([] : List UInt8)))) || (decide (256 < ((((a).length : Nat)) : Int)))) || (decide (256 < ((((b).length : Nat)) : Int)))))) (v := (.sl da d.length dc 0)) (wf rfl) (fun he => (r_mv rfl)) ?_
  refine O_gx (e := (!(((((decide (a = b)) || (decide (a = ([] : List UInt8)))) || (decide (b = ([] : List UInt8)))) || (decide (256 < ((((a).length : Nat)) : Int)))) || (decide (256 < ((((b).length : Nat)) : Int)))))) (v := (.i .i64 (((d.length : Nat)) : Int))) (wf rfl) (fun he => (r_len (cond_pos he))) ?_
  refine O_gx (e := (!(((((decide (a = b)) || (decide (a = ([] : List UInt8)))) || (decide (b = ([] : List UInt8)))) || (decide (256 < ((((a).length : Nat)) : Int)))) || (decide (256 < ((((b).length : Nat)) : Int)))))) (v := (.b (decide (1000 < (((d.length : Nat)) : Int))))) (wf rfl) (fun he => (r_gtr (cond_pos he) rfl)) ?_
  refine O_p (.b ((((((decide (a = b)) || (decide (a = ([] : List UInt8)))) || (decide (b = ([] : List UInt8)))) || (decide (256 < ((((a).length : Nat)) : Int)))) || (decide (256 < ((((b).length : Nat)) : Int)))) || (decide (1000 < (((d.length : Nat)) : Int))))) (r_pick_or rfl rfl rfl rfl) ?_
  refine O_nil ?_
  refine C_cond (x := ((((((decide (a = b)) || (decide (a = ([] : List UInt8)))) || (decide (b = ([] : List UInt8)))) || (decide (256 < ((((a).length : Nat)) : Int)))) || (decide (256 < ((((b).length : Nat)) : Int)))) || (decide (1000 < (((d.length : Nat)) : Int))))) rfl (fun hc1 => ?_) (fun hc1 => ?_)
  ·
    try simp only [decide_eq_true_eq, decide_eq_false_iff_not, Bool.not_eq_true', Bool.not_eq_false', Bool.and_eq_true, Bool.or_eq_true, Bool.or_eq_false_iff, Bool.not_not, Bool.and_eq_false_iff] at hc1
    refine C_seq ?_
    refine C_region ?_
    refine O_p (.b true) (r_mv rfl) ?_
    refine O_p (.b true) (r_mv rfl) ?_
    refine O_nil ?_
    refine C_ret ?_
    refine nx_ret ?_
    exact ⟨.inr rfl, _, resL_one (r_tmp (v := .b true) rfl), rfl⟩
  ·
    try simp only [decide_eq_true_eq, decide_eq_false_iff_not, Bool.not_eq_true', Bool.not_eq_false', Bool.and_eq_true, Bool.or_eq_true, Bool.or_eq_false_iff, Bool.not_not, Bool.and_eq_false_iff] at hc1
    refine C_skip ?_
    refine C_seq ?_
    refine C_region ?_
    obtain ⟨⟨⟨⟨⟨hab, ha0⟩, hb0⟩, hal⟩, hbl⟩, hdl⟩ := hc1
    have hta : 0 < a.length ∧ a.length ≤ 256 := ⟨List.length_pos_iff.2 ha0, by omega⟩
    have htb : 0 < b.length ∧ b.length ≤ 256 := ⟨List.length_pos_iff.2 hb0, by omega⟩
    refine O_call (Ev.mono (new5_ev (room := 9) hH0) fun v2 H3 hq4 => ?_)
    obtain ⟨F5, Lb6, cm7, rfl, hH8⟩ := hq4
    refine O_p (.p (some (F5, 0))) (r_mv rfl) ?_
    refine O_nil ?_
    refine C_seq ?_
    refine C_seq ?_
    refine C_region ?_
    refine O_p (.i .i64 0) (r_mv rfl) ?_
    refine O_nil ?_
    refine C_block ?_
    refine C_loop ?_
    refine C_seq ?_
    refine C_seq ?_
    refine C_region ?_
    refine O_p (.i .i64 0) (r_mv rfl) ?_
    refine O_p (.b true) (r_bin rfl rfl rfl) ?_
    refine O_nil ?_
    refine C_cond (x := true) rfl (fun _ => ?_) (fun h => by cases h)
    refine C_skip ?_
    refine C_seq ?_
    refine C_block ?_
    refine C_seq ?_
    refine C_region ?_
    refine O_p (.p (some (F5, 0))) (r_mv rfl) ?_
    refine O_p (.i .i64 0) (r_mv rfl) ?_
    have hall9 : ∀ x ∈ ([zrow, zrow, zrow, zrow, zrow] : List (List AV)), x.length = 4 := fun x hx => by simp only [List.mem_cons, List.not_mem_nil, or_false] at hx; rcases hx with rfl | rfl | rfl | rfl | rfl <;> rfl
    have hH10 := ((hH8.top1).top1)
    have hH11 : Hs H3 ([(F5, some (.cells ([(.sl (some (Lb6, 0)) 5 5 0), (.i .i64 (((9) : Nat) : Int)), (.m (some cm7))]) true))] ++ ([(Lb6, some (.cells ((([zrow, zrow, zrow, zrow, zrow] : List (List AV)).set 0 zrow).flatten) true))] ++ ([(cm7, some (.map [] 0))] ++ ((allL H0) ++ ([]))))) := hH10
    have hH12 := ((hH11.top1).top1)
    refine O_call (Ev.mono (join_ev (np := 5) (i := 0) (rws := ([zrow, zrow, zrow, zrow, zrow] : List (List AV))) (by decide) hall9 (Nat.le_of_ble_eq_true rfl) hH12) fun v13 H14 hq15 => ?_)
    obtain ⟨mr16, rfl, hH17⟩ := hq15
    refine O_p (.b false) (by exact (by rw [r_neq rfl rfl, decide_eq_true (by decide)]; rfl)) ?_
    refine O_nil ?_
    refine C_cond (x := false) rfl (fun h => by cases h) (fun _ => ?_)
    refine C_skip ?_
    refine C_region ?_
    refine O_p (.i .i64 0) (r_mv rfl) ?_
    refine O_p (.i .i64 1) (r_bin rfl rfl rfl) ?_
    refine O_p (.i .i64 1) (r_mv rfl) ?_
    refine O_nil ?_
    refine C_loop ?_
    refine C_seq ?_
    refine C_seq ?_
    refine C_region ?_
    refine O_p (.i .i64 1) (r_mv rfl) ?_
    refine O_p (.b true) (r_bin rfl rfl rfl) ?_
    refine O_nil ?_
    refine C_cond (x := true) rfl (fun _ => ?_) (fun h => by cases h)
    refine C_skip ?_
    refine C_seq ?_
    refine C_block ?_
    refine C_seq ?_
    refine C_region ?_
    refine O_p (.p (some (F5, 0))) (r_mv rfl) ?_
    refine O_p (.i .i64 1) (r_mv rfl) ?_
    have hall18 : ∀ x ∈ ([(prow true (some mr16) (.sl none 0 0 0) 0), zrow, zrow, zrow, zrow] : List (List AV)), x.length = 4 := fun x hx => by simp only [List.mem_cons, List.not_mem_nil, or_false] at hx; rcases hx with rfl | rfl | rfl | rfl | rfl <;> rfl
    have hH19 := ((hH17.top1).top1)
    have hH20 : Hs H14 ([(F5, some (.cells ([(.sl (some (Lb6, 0)) 5 5 0), (.i .i64 (((9) : Nat) : Int)), (.m (some cm7))]) true))] ++ ([(Lb6, some (.cells ((([(prow true (some mr16) (.sl none 0 0 0) 0), zrow, zrow, zrow, zrow] : List (List AV)).set 1 zrow).flatten) true))] ++ ([(mr16, some (.map [] 0))] ++ ([(cm7, some (.map [] 0))] ++ ((allL H0) ++ ([])))))) := hH19
    have hH21 := ((hH20.top1).top1)
    refine O_call (Ev.mono (join_ev (np := 5) (i := 1) (rws := ([(prow true (some mr16) (.sl none 0 0 0) 0), zrow, zrow, zrow, zrow] : List (List AV))) (by decide) hall18 (Nat.le_of_ble_eq_true rfl) hH21) fun v22 H23 hq24 => ?_)
    obtain ⟨mr25, rfl, hH26⟩ := hq24
    refine O_p (.b false) (by exact (by rw [r_neq rfl rfl, decide_eq_true (by decide)]; rfl)) ?_
    refine O_nil ?_
    refine C_cond (x := false) rfl (fun h => by cases h) (fun _ => ?_)
    refine C_skip ?_
    refine C_region ?_
    refine O_p (.i .i64 1) (r_mv rfl) ?_
    refine O_p (.i .i64 2) (r_bin rfl rfl rfl) ?_
    refine O_p (.i .i64 2) (r_mv rfl) ?_
    refine O_nil ?_
    refine C_loop ?_
    refine C_seq ?_
    refine C_seq ?_
    refine C_region ?_
    refine O_p (.i .i64 2) (r_mv rfl) ?_
    refine O_p (.b true) (r_bin rfl rfl rfl) ?_
    refine O_nil ?_
    refine C_cond (x := true) rfl (fun _ => ?_) (fun h => by cases h)
    refine C_skip ?_
    refine C_seq ?_
    refine C_block ?_
    refine C_seq ?_
    refine C_region ?_
    refine O_p (.p (some (F5, 0))) (r_mv rfl) ?_
    refine O_p (.i .i64 2) (r_mv rfl) ?_
    have hall27 : ∀ x ∈ ([(prow true (some mr16) (.sl none 0 0 0) 0), (prow true (some mr25) (.sl none 0 0 0) 0), zrow, zrow, zrow] : List (List AV)), x.length = 4 := fun x hx => by simp only [List.mem_cons, List.not_mem_nil, or_false] at hx; rcases hx with rfl | rfl | rfl | rfl | rfl <;> rfl
    have hH28 := ((hH26.top1).top1)
    have hH29 : Hs H23 ([(F5, some (.cells ([(.sl (some (Lb6, 0)) 5 5 0), (.i .i64 (((9) : Nat) : Int)), (.m (some cm7))]) true))] ++ ([(Lb6, some (.cells ((([(prow true (some mr16) (.sl none 0 0 0) 0), (prow true (some mr25) (.sl none 0 0 0) 0), zrow, zrow, zrow] : List (List AV)).set 2 zrow).flatten) true))] ++ ([(mr25, some (.map [] 0))] ++ ([(mr16, some (.map [] 0))] ++ ([(cm7, some (.map [] 0))] ++ ((allL H0) ++ ([]))))))) := hH28
    have hH30 := ((hH29.top1).top1)
    refine O_call (Ev.mono (join_ev (np := 5) (i := 2) (rws := ([(prow true (some mr16) (.sl none 0 0 0) 0), (prow true (some mr25) (.sl none 0 0 0) 0), zrow, zrow, zrow] : List (List AV))) (by decide) hall27 (Nat.le_of_ble_eq_true rfl) hH30) fun v31 H32 hq33 => ?_)
    obtain ⟨mr34, rfl, hH35⟩ := hq33
    refine O_p (.b false) (by exact (by rw [r_neq rfl rfl, decide_eq_true (by decide)]; rfl)) ?_
    refine O_nil ?_
    refine C_cond (x := false) rfl (fun h => by cases h) (fun _ => ?_)
    refine C_skip ?_
    refine C_region ?_
    refine O_p (.i .i64 2) (r_mv rfl) ?_
    refine O_p (.i .i64 3) (r_bin rfl rfl rfl) ?_
    refine O_p (.i .i64 3) (r_mv rfl) ?_
    refine O_nil ?_
    refine C_loop ?_
    refine C_seq ?_
    refine C_seq ?_
    refine C_region ?_
    refine O_p (.i .i64 3) (r_mv rfl) ?_
    refine O_p (.b true) (r_bin rfl rfl rfl) ?_
    refine O_nil ?_
    refine C_cond (x := true) rfl (fun _ => ?_) (fun h => by cases h)
    refine C_skip ?_
    refine C_seq ?_
    refine C_block ?_
    refine C_seq ?_
    refine C_region ?_
    refine O_p (.p (some (F5, 0))) (r_mv rfl) ?_
    refine O_p (.i .i64 3) (r_mv rfl) ?_
    have hall36 : ∀ x ∈ ([(prow true (some mr16) (.sl none 0 0 0) 0), (prow true (some mr25) (.sl none 0 0 0) 0), (prow true (some mr34) (.sl none 0 0 0) 0), zrow, zrow] : List (List AV)), x.length = 4 := fun x hx => by simp only [List.mem_cons, List.not_mem_nil, or_false] at hx; rcases hx with rfl | rfl | rfl | rfl | rfl <;> rfl
    have hH37 := ((hH35.top1).top1)
    have hH38 : Hs H32 ([(F5, some (.cells ([(.sl (some (Lb6, 0)) 5 5 0), (.i .i64 (((9) : Nat) : Int)), (.m (some cm7))]) true))] ++ ([(Lb6, some (.cells ((([(prow true (some mr16) (.sl none 0 0 0) 0), (prow true (some mr25) (.sl none 0 0 0) 0), (prow true (some mr34) (.sl none 0 0 0) 0), zrow, zrow] : List (List AV)).set 3 zrow).flatten) true))] ++ ([(mr34, some (.map [] 0))] ++ ([(mr25, some (.map [] 0))] ++ ([(mr16, some (.map [] 0))] ++ ([(cm7, some (.map [] 0))] ++ ((allL H0) ++ ([])))))))) := hH37
    have hH39 := ((hH38.top1).top1)
    refine O_call (Ev.mono (join_ev (np := 5) (i := 3) (rws := ([(prow true (some mr16) (.sl none 0 0 0) 0), (prow true (some mr25) (.sl none 0 0 0) 0), (prow true (some mr34) (.sl none 0 0 0) 0), zrow, zrow] : List (List AV))) (by decide) hall36 (Nat.le_of_ble_eq_true rfl) hH39) fun v40 H41 hq42 => ?_)
    obtain ⟨mr43, rfl, hH44⟩ := hq42
    refine O_p (.b false) (by exact (by rw [r_neq rfl rfl, decide_eq_true (by decide)]; rfl)) ?_
    refine O_nil ?_
    refine C_cond (x := false) rfl (fun h => by cases h) (fun _ => ?_)
    refine C_skip ?_
    refine C_region ?_
    refine O_p (.i .i64 3) (r_mv rfl) ?_
    refine O_p (.i .i64 4) (r_bin rfl rfl rfl) ?_
    refine O_p (.i .i64 4) (r_mv rfl) ?_
    refine O_nil ?_
    refine C_loop ?_
    refine C_seq ?_
    refine C_seq ?_
    refine C_region ?_
    refine O_p (.i .i64 4) (r_mv rfl) ?_
    refine O_p (.b true) (r_bin rfl rfl rfl) ?_
    refine O_nil ?_
    refine C_cond (x := true) rfl (fun _ => ?_) (fun h => by cases h)
    refine C_skip ?_
    refine C_seq ?_
    refine C_block ?_
    refine C_seq ?_
    refine C_region ?_
    refine O_p (.p (some (F5, 0))) (r_mv rfl) ?_
    refine O_p (.i .i64 4) (r_mv rfl) ?_
    have hall45 : ∀ x ∈ ([(prow true (some mr16) (.sl none 0 0 0) 0), (prow true (some mr25) (.sl none 0 0 0) 0), (prow true (some mr34) (.sl none 0 0 0) 0), (prow true (some mr43) (.sl none 0 0 0) 0), zrow] : List (List AV)), x.length = 4 := fun x hx => by simp only [List.mem_cons, List.not_mem_nil, or_false] at hx; rcases hx with rfl | rfl | rfl | rfl | rfl <;> rfl
    have hH46 := ((hH44.top1).top1)
    have hH47 : Hs H41 ([(F5, some (.cells ([(.sl (some (Lb6, 0)) 5 5 0), (.i .i64 (((9) : Nat) : Int)), (.m (some cm7))]) true))] ++ ([(Lb6, some (.cells ((([(prow true (some mr16) (.sl none 0 0 0) 0), (prow true (some mr25) (.sl none 0 0 0) 0), (prow true (some mr34) (.sl none 0 0 0) 0), (prow true (some mr43) (.sl none 0 0 0) 0), zrow] : List (List AV)).set 4 zrow).flatten) true))] ++ ([(mr43, some (.map [] 0))] ++ ([(mr34, some (.map [] 0))] ++ ([(mr25, some (.map [] 0))] ++ ([(mr16, some (.map [] 0))] ++ ([(cm7, some (.map [] 0))] ++ ((allL H0) ++ ([]))))))))) := hH46
    have hH48 := ((hH47.top1).top1)
    refine O_call (Ev.mono (join_ev (np := 5) (i := 4) (rws := ([(prow true (some mr16) (.sl none 0 0 0) 0), (prow true (some mr25) (.sl none 0 0 0) 0), (prow true (some mr34) (.sl none 0 0 0) 0), (prow true (some mr43) (.sl none 0 0 0) 0), zrow] : List (List AV))) (by decide) hall45 (Nat.le_of_ble_eq_true rfl) hH48) fun v49 H50 hq51 => ?_)
    obtain ⟨mr52, rfl, hH53⟩ := hq51
    refine O_p (.b false) (by exact (by rw [r_neq rfl rfl, decide_eq_true (by decide)]; rfl)) ?_
    refine O_nil ?_
    refine C_cond (x := false) rfl (fun h => by cases h) (fun _ => ?_)
    refine C_skip ?_
    refine C_region ?_
    refine O_p (.i .i64 4) (r_mv rfl) ?_
    refine O_p (.i .i64 5) (r_bin rfl rfl rfl) ?_
    refine O_p (.i .i64 5) (r_mv rfl) ?_
    refine O_nil ?_
    refine C_loop ?_
    refine C_seq ?_
    refine C_seq ?_
    refine C_region ?_
    refine O_p (.i .i64 5) (r_mv rfl) ?_
    refine O_p (.b false) (r_bin rfl rfl rfl) ?_
    refine O_nil ?_
    refine C_cond (x := false) rfl (fun h => by cases h) (fun _ => ?_)
    refine C_exit ?_
    refine nx_exit ?_
    refine nx_exit ?_
    refine bk_hit ?_
    refine C_seq ?_
    refine C_region ?_
    refine O_p (.p (some (F5, 0))) (r_mv rfl) ?_
    refine O_p (.s (txt a)) (r_mv rfl) ?_
    have hall54 : ∀ x ∈ ([(prow true (some mr16) (.sl none 0 0 0) 0), (prow true (some mr25) (.sl none 0 0 0) 0), (prow true (some mr34) (.sl none 0 0 0) 0), (prow true (some mr43) (.sl none 0 0 0) 0), (prow true (some mr52) (.sl none 0 0 0) 0)] : List (List AV)), x.length = 4 := fun x hx => by simp only [List.mem_cons, List.not_mem_nil, or_false] at hx; rcases hx with rfl | rfl | rfl | rfl | rfl <;> rfl
    have hH55 := (((hH53.top6).top2).top2)
    have hH56 : Hs H50 ([(F5, some (.cells ([(.sl (some (Lb6, 0)) 5 5 0), (.i .i64 (((9) : Nat) : Int)), (.m (some cm7))]) true))] ++ ([(Lb6, some (.cells ((([(prow true (some mr16) (.sl none 0 0 0) 0), (prow true (some mr25) (.sl none 0 0 0) 0), (prow true (some mr34) (.sl none 0 0 0) 0), (prow true (some mr43) (.sl none 0 0 0) 0), (prow true (some mr52) (.sl none 0 0 0) 0)] : List (List AV)).set 0 (prow true (some mr16) (.sl none 0 0 0) 0)).flatten) true))] ++ ([(mr16, some (.map [] 0))] ++ ([(mr52, some (.map [] 0))] ++ ([(mr43, some (.map [] 0))] ++ ([(mr34, some (.map [] 0))] ++ ([(mr25, some (.map [] 0))] ++ ([(cm7, some (.map [] 0))] ++ ((allL H0) ++ ([])))))))))) := hH55
    have hH57 := (((hH56.top2).top2).top2)
    refine O_call (Ev.mono (sub_ev (np := 5) (i := 0) (rws := ([(prow true (some mr16) (.sl none 0 0 0) 0), (prow true (some mr25) (.sl none 0 0 0) 0), (prow true (some mr34) (.sl none 0 0 0) 0), (prow true (some mr43) (.sl none 0 0 0) 0), (prow true (some mr52) (.sl none 0 0 0) 0)] : List (List AV))) (m := []) (tp := a) (mode := 0) (by decide) hall54 (Nat.le_of_ble_eq_true rfl) Mb.nil rfl (by show 0 < 64; decide) hta (by decide) hH57) fun v58 H59 hq60 => ?_)
    obtain ⟨mb61, hMb62, rfl, hH63⟩ := hq60
    refine O_nil ?_
    refine C_seq ?_
    refine C_region ?_
    refine O_p (.p (some (F5, 0))) (r_mv rfl) ?_
    refine O_p (.s (txt b)) (r_mv rfl) ?_
    have hall64 : ∀ x ∈ ([(prow true (some mr16) (.sl none 0 0 0) 0), (prow true (some mr25) (.sl none 0 0 0) 0), (prow true (some mr34) (.sl none 0 0 0) 0), (prow true (some mr43) (.sl none 0 0 0) 0), (prow true (some mr52) (.sl none 0 0 0) 0)] : List (List AV)), x.length = 4 := fun x hx => by simp only [List.mem_cons, List.not_mem_nil, or_false] at hx; rcases hx with rfl | rfl | rfl | rfl | rfl <;> rfl
    have hH65 := (((hH63.top6).top2).top2)
    have hH66 : Hs H59 ([(F5, some (.cells ([(.sl (some (Lb6, 0)) 5 5 0), (.i .i64 (((9) : Nat) : Int)), (.m (some cm7))]) true))] ++ ([(Lb6, some (.cells ((([(prow true (some mr16) (.sl none 0 0 0) 0), (prow true (some mr25) (.sl none 0 0 0) 0), (prow true (some mr34) (.sl none 0 0 0) 0), (prow true (some mr43) (.sl none 0 0 0) 0), (prow true (some mr52) (.sl none 0 0 0) 0)] : List (List AV)).set 1 (prow true (some mr25) (.sl none 0 0 0) 0)).flatten) true))] ++ ([(mr25, some (.map [] 0))] ++ ([(mr16, some mb61)] ++ ([(mr52, some (.map [] 0))] ++ ([(mr43, some (.map [] 0))] ++ ([(mr34, some (.map [] 0))] ++ ([(cm7, some (.map [] 0))] ++ ((allL H0) ++ ([])))))))))) := hH65
    have hH67 := (((hH66.top2).top2).top2)
    refine O_call (Ev.mono (sub_ev (np := 5) (i := 1) (rws := ([(prow true (some mr16) (.sl none 0 0 0) 0), (prow true (some mr25) (.sl none 0 0 0) 0), (prow true (some mr34) (.sl none 0 0 0) 0), (prow true (some mr43) (.sl none 0 0 0) 0), (prow true (some mr52) (.sl none 0 0 0) 0)] : List (List AV))) (m := []) (tp := b) (mode := 0) (by decide) hall64 (Nat.le_of_ble_eq_true rfl) Mb.nil rfl (by show 0 < 64; decide) htb (by decide) hH67) fun v68 H69 hq70 => ?_)
    obtain ⟨mb71, hMb72, rfl, hH73⟩ := hq70
    refine O_nil ?_
    refine C_seq ?_
    refine C_region ?_
    refine O_p (.p (some (F5, 0))) (r_mv rfl) ?_
    refine O_p (.s (txt a)) (r_mv rfl) ?_
    have hall74 : ∀ x ∈ ([(prow true (some mr16) (.sl none 0 0 0) 0), (prow true (some mr25) (.sl none 0 0 0) 0), (prow true (some mr34) (.sl none 0 0 0) 0), (prow true (some mr43) (.sl none 0 0 0) 0), (prow true (some mr52) (.sl none 0 0 0) 0)] : List (List AV)), x.length = 4 := fun x hx => by simp only [List.mem_cons, List.not_mem_nil, or_false] at hx; rcases hx with rfl | rfl | rfl | rfl | rfl <;> rfl
    have hH75 := (((hH73.top6).top2).top2)
    have hH76 : Hs H69 ([(F5, some (.cells ([(.sl (some (Lb6, 0)) 5 5 0), (.i .i64 (((9) : Nat) : Int)), (.m (some cm7))]) true))] ++ ([(Lb6, some (.cells ((([(prow true (some mr16) (.sl none 0 0 0) 0), (prow true (some mr25) (.sl none 0 0 0) 0), (prow true (some mr34) (.sl none 0 0 0) 0), (prow true (some mr43) (.sl none 0 0 0) 0), (prow true (some mr52) (.sl none 0 0 0) 0)] : List (List AV)).set 2 (prow true (some mr34) (.sl none 0 0 0) 0)).flatten) true))] ++ ([(mr34, some (.map [] 0))] ++ ([(mr25, some mb71)] ++ ([(mr16, some mb61)] ++ ([(mr52, some (.map [] 0))] ++ ([(mr43, some (.map [] 0))] ++ ([(cm7, some (.map [] 0))] ++ ((allL H0) ++ ([])))))))))) := hH75
    have hH77 := (((hH76.top2).top2).top2)
    refine O_call (Ev.mono (sub_ev (np := 5) (i := 2) (rws := ([(prow true (some mr16) (.sl none 0 0 0) 0), (prow true (some mr25) (.sl none 0 0 0) 0), (prow true (some mr34) (.sl none 0 0 0) 0), (prow true (some mr43) (.sl none 0 0 0) 0), (prow true (some mr52) (.sl none 0 0 0) 0)] : List (List AV))) (m := []) (tp := a) (mode := 0) (by decide) hall74 (Nat.le_of_ble_eq_true rfl) Mb.nil rfl (by show 0 < 64; decide) hta (by decide) hH77) fun v78 H79 hq80 => ?_)
    obtain ⟨mb81, hMb82, rfl, hH83⟩ := hq80
    refine O_nil ?_
    refine C_seq ?_
    refine C_region ?_
    refine O_p (.p (some (F5, 0))) (r_mv rfl) ?_
    refine O_p (.s (txt a)) (r_mv rfl) ?_
    have hall84 : ∀ x ∈ ([(prow true (some mr16) (.sl none 0 0 0) 0), (prow true (some mr25) (.sl none 0 0 0) 0), (prow true (some mr34) (.sl none 0 0 0) 0), (prow true (some mr43) (.sl none 0 0 0) 0), (prow true (some mr52) (.sl none 0 0 0) 0)] : List (List AV)), x.length = 4 := fun x hx => by simp only [List.mem_cons, List.not_mem_nil, or_false] at hx; rcases hx with rfl | rfl | rfl | rfl | rfl <;> rfl
    have hH85 := (((hH83.top2).top2).top2)
    have hH86 : Hs H79 ([(F5, some (.cells ([(.sl (some (Lb6, 0)) 5 5 0), (.i .i64 (((9) : Nat) : Int)), (.m (some cm7))]) true))] ++ ([(Lb6, some (.cells ((([(prow true (some mr16) (.sl none 0 0 0) 0), (prow true (some mr25) (.sl none 0 0 0) 0), (prow true (some mr34) (.sl none 0 0 0) 0), (prow true (some mr43) (.sl none 0 0 0) 0), (prow true (some mr52) (.sl none 0 0 0) 0)] : List (List AV)).set 2 (prow true (some mr34) (.sl none 0 0 0) 0)).flatten) true))] ++ ([(mr34, some mb81)] ++ ([(mr25, some mb71)] ++ ([(mr16, some mb61)] ++ ([(mr52, some (.map [] 0))] ++ ([(mr43, some (.map [] 0))] ++ ([(cm7, some (.map [] 0))] ++ ((allL H0) ++ ([])))))))))) := hH85
    have hH87 := (((hH86.top2).top2).top2)
    refine O_call (Ev.mono (drop_ev (np := 5) (i := 2) (rws := ([(prow true (some mr16) (.sl none 0 0 0) 0), (prow true (some mr25) (.sl none 0 0 0) 0), (prow true (some mr34) (.sl none 0 0 0) 0), (prow true (some mr43) (.sl none 0 0 0) 0), (prow true (some mr52) (.sl none 0 0 0) 0)] : List (List AV))) (m := (mset (mdel [] a) a (sub 0 false))) (tp := a) (mode := 0) (fl := false) (by decide) hall84 (Nat.le_of_ble_eq_true rfl) hMb82 (by rw [mget_set, if_pos rfl]) hH87) fun v88 H89 hq90 => ?_)
    obtain ⟨mb91, hMb92, rfl, hH93⟩ := hq90
    refine O_p (.i .i64 0) (r_mv rfl) ?_
    refine O_nil ?_
    refine C_seq ?_
    refine C_region ?_
    refine O_p (.p (some (F5, 0))) (r_mv rfl) ?_
    refine O_p (.s (txt a)) (r_mv rfl) ?_
    have hall94 : ∀ x ∈ ([(prow true (some mr16) (.sl none 0 0 0) 0), (prow true (some mr25) (.sl none 0 0 0) 0), (prow true (some mr34) (.sl none 0 0 0) 0), (prow true (some mr43) (.sl none 0 0 0) 0), (prow true (some mr52) (.sl none 0 0 0) 0)] : List (List AV)), x.length = 4 := fun x hx => by simp only [List.mem_cons, List.not_mem_nil, or_false] at hx; rcases hx with rfl | rfl | rfl | rfl | rfl <;> rfl
    have hH95 := (((hH93.top6).top2).top2)
    have hH96 : Hs H89 ([(F5, some (.cells ([(.sl (some (Lb6, 0)) 5 5 0), (.i .i64 (((9) : Nat) : Int)), (.m (some cm7))]) true))] ++ ([(Lb6, some (.cells ((([(prow true (some mr16) (.sl none 0 0 0) 0), (prow true (some mr25) (.sl none 0 0 0) 0), (prow true (some mr34) (.sl none 0 0 0) 0), (prow true (some mr43) (.sl none 0 0 0) 0), (prow true (some mr52) (.sl none 0 0 0) 0)] : List (List AV)).set 3 (prow true (some mr43) (.sl none 0 0 0) 0)).flatten) true))] ++ ([(mr43, some (.map [] 0))] ++ ([(mr34, some mb91)] ++ ([(mr25, some mb71)] ++ ([(mr16, some mb61)] ++ ([(mr52, some (.map [] 0))] ++ ([(cm7, some (.map [] 0))] ++ ((allL H0) ++ ([])))))))))) := hH95
    have hH97 := (((hH96.top2).top2).top2)
    refine O_call (Ev.mono (sub_ev (np := 5) (i := 3) (rws := ([(prow true (some mr16) (.sl none 0 0 0) 0), (prow true (some mr25) (.sl none 0 0 0) 0), (prow true (some mr34) (.sl none 0 0 0) 0), (prow true (some mr43) (.sl none 0 0 0) 0), (prow true (some mr52) (.sl none 0 0 0) 0)] : List (List AV))) (m := []) (tp := a) (mode := 0) (by decide) hall94 (Nat.le_of_ble_eq_true rfl) Mb.nil rfl (by show 0 < 64; decide) hta (by decide) hH97) fun v98 H99 hq100 => ?_)
    obtain ⟨mb101, hMb102, rfl, hH103⟩ := hq100
    refine O_nil ?_
    refine C_seq ?_
    refine C_region ?_
    refine O_p (.p (some (F5, 0))) (r_mv rfl) ?_
    have hall104 : ∀ x ∈ ([(prow true (some mr16) (.sl none 0 0 0) 0), (prow true (some mr25) (.sl none 0 0 0) 0), (prow true (some mr34) (.sl none 0 0 0) 0), (prow true (some mr43) (.sl none 0 0 0) 0), (prow true (some mr52) (.sl none 0 0 0) 0)] : List (List AV)), x.length = 4 := fun x hx => by simp only [List.mem_cons, List.not_mem_nil, or_false] at hx; rcases hx with rfl | rfl | rfl | rfl | rfl <;> rfl
    have hH105 := ((hH103.top1).top1)
    have hH106 : Hs H99 ([(F5, some (.cells ([(.sl (some (Lb6, 0)) 5 5 0), (.i .i64 (((9) : Nat) : Int)), (.m (some cm7))]) true))] ++ ([(Lb6, some (.cells ((([(prow true (some mr16) (.sl none 0 0 0) 0), (prow true (some mr25) (.sl none 0 0 0) 0), (prow true (some mr34) (.sl none 0 0 0) 0), (prow true (some mr43) (.sl none 0 0 0) 0), (prow true (some mr52) (.sl none 0 0 0) 0)] : List (List AV)).set 3 (prow true (some mr43) (.sl none 0 0 0) 0)).flatten) true))] ++ ([(mr43, some mb101)] ++ ([(mr34, some mb91)] ++ ([(mr25, some mb71)] ++ ([(mr16, some mb61)] ++ ([(mr52, some (.map [] 0))] ++ ([(cm7, some (.map [] 0))] ++ ((allL H0) ++ ([])))))))))) := hH105
    have hH107 := ((hH106.top1).top1)
    refine O_call (Ev.mono (leave_ev (np := 5) (i := 3) (rws := ([(prow true (some mr16) (.sl none 0 0 0) 0), (prow true (some mr25) (.sl none 0 0 0) 0), (prow true (some mr34) (.sl none 0 0 0) 0), (prow true (some mr43) (.sl none 0 0 0) 0), (prow true (some mr52) (.sl none 0 0 0) 0)] : List (List AV))) (by decide) hall104 (Nat.le_of_ble_eq_true rfl) hH107) fun v108 H109 hq110 => ?_)
    obtain ⟨rfl, hH111⟩ := hq110
    refine O_p (.i .i64 0) (r_mv rfl) ?_
    refine O_nil ?_
    refine C_seq ?_
    refine C_region ?_
    refine O_p (.p (some (F5, 0))) (r_mv rfl) ?_
    refine O_p (.s (txt a)) (r_mv rfl) ?_
    have hall112 : ∀ x ∈ ([(prow true (some mr16) (.sl none 0 0 0) 0), (prow true (some mr25) (.sl none 0 0 0) 0), (prow true (some mr34) (.sl none 0 0 0) 0), zrow, (prow true (some mr52) (.sl none 0 0 0) 0)] : List (List AV)), x.length = 4 := fun x hx => by simp only [List.mem_cons, List.not_mem_nil, or_false] at hx; rcases hx with rfl | rfl | rfl | rfl | rfl <;> rfl
    have hH113 := (((hH111.top6).top2).top2)
    have hH114 : Hs H109 ([(F5, some (.cells ([(.sl (some (Lb6, 0)) 5 5 0), (.i .i64 (((9) : Nat) : Int)), (.m (some cm7))]) true))] ++ ([(Lb6, some (.cells ((([(prow true (some mr16) (.sl none 0 0 0) 0), (prow true (some mr25) (.sl none 0 0 0) 0), (prow true (some mr34) (.sl none 0 0 0) 0), zrow, (prow true (some mr52) (.sl none 0 0 0) 0)] : List (List AV)).set 4 (prow true (some mr52) (.sl none 0 0 0) 0)).flatten) true))] ++ ([(mr52, some (.map [] 0))] ++ ([(mr43, some mb101)] ++ ([(mr34, some mb91)] ++ ([(mr25, some mb71)] ++ ([(mr16, some mb61)] ++ ([(cm7, some (.map [] 0))] ++ ((allL H0) ++ ([])))))))))) := hH113
    have hH115 := (((hH114.top2).top2).top2)
    refine O_call (Ev.mono (sub_ev (np := 5) (i := 4) (rws := ([(prow true (some mr16) (.sl none 0 0 0) 0), (prow true (some mr25) (.sl none 0 0 0) 0), (prow true (some mr34) (.sl none 0 0 0) 0), zrow, (prow true (some mr52) (.sl none 0 0 0) 0)] : List (List AV))) (m := []) (tp := a) (mode := 2) (by decide) hall112 (Nat.le_of_ble_eq_true rfl) Mb.nil rfl (by show 0 < 64; decide) hta (by decide) hH115) fun v116 H117 hq118 => ?_)
    obtain ⟨mb119, hMb120, rfl, hH121⟩ := hq118
    refine O_nil ?_
    refine C_seq ?_
    refine C_region ?_
    refine O_p (.p (some (F5, 0))) (r_mv rfl) ?_
    refine O_p (.s (txt a)) (r_mv rfl) ?_
    refine O_p (.sl da d.length dc 0) (r_mv rfl) ?_
    have hH122 := (((((((hH121.top8).top3).top5).top6).top8).top6).top6)
    have hH123 := (((((((hH122.top6).top6).top6).top6).top6).top6).top6)
    refine O_call (Ev.mono (publish5_ev (tp := a) (dd := d) (tx := true) (da := da) (dc := dc) (dg := 0) (B := (allL H0)) (m0 := mr16) (m1 := mr25) (m2 := mr34) (m4 := mr52) Mb.nil rfl hta (by omega) (.inl rfl) hdc (Nat.le_trans hdm (by decide)) dB hMb72 hMb92 hMb120 (by rw [mget_set, if_neg (fun h => hab h.symm)]; rfl) (by simp [mset, mdel, mget]) (by rw [mget_set, if_pos rfl]) hH123) fun v124 H125 hq126 => ?_)
    obtain ⟨D2, v2, c2, r4, rfl, hsq4, hit4, hh4⟩ := hq126
    obtain ⟨ka, kc, kg, rfl, hkg, hkc, hkm, hkb⟩ := hit4
    refine O_p (.tup [(.i .i64 1), (.i .i64 0)]) (r_mv rfl) ?_
    refine O_p (.i .i64 1) (r_ext rfl rfl) ?_
    refine O_p (.i .i64 0) (r_ext rfl rfl) ?_
    refine O_p (.i .i64 1) (r_mv rfl) ?_
    refine O_p (.i .i64 0) (r_mv rfl) ?_
    refine O_nil ?_
    refine C_seq ?_
    refine C_region ?_
    refine O_p (.p (some (F5, 0))) (r_mv rfl) ?_
    have hall127 : ∀ x ∈ ([(prow true (some mr16) (.sl none 0 0 0) 0), (prow true (some mr25) (.sl none 0 0 0) 0), (prow true (some mr34) (.sl none 0 0 0) 0), zrow, (prow true (some mr52) v2 0)] : List (List AV)), x.length = 4 := fun x hx => by simp only [List.mem_cons, List.not_mem_nil, or_false] at hx; rcases hx with rfl | rfl | rfl | rfl | rfl <;> rfl
    have hH128 := (((hh4.top5).top2).top2)
    have hH129 : Hs H125 ([(F5, some (.cells ([(.sl (some (Lb6, 0)) 5 5 0), (.i .i64 (((9) : Nat) : Int)), (.m (some cm7))]) true))] ++ ([(Lb6, some (.cells ((([(prow true (some mr16) (.sl none 0 0 0) 0), (prow true (some mr25) (.sl none 0 0 0) 0), (prow true (some mr34) (.sl none 0 0 0) 0), zrow, (prow true (some mr52) v2 0)] : List (List AV)).set 4 (prow true (some mr52) v2 0)).flatten) true))] ++ ((qseg v2 c2) ++ ([(mr25, some mb71)] ++ ([(mr34, some mb91)] ++ ([(mr52, some mb119)] ++ (D2 ++ ((allL H0) ++ ([(mr43, some mb101)] ++ ([(mr16, some mb61)] ++ ([]))))))))))) := hH128
    have hH130 := (((hH129.top2).top2).top2)
    refine O_call (Ev.mono (pull_ev (np := 5) (i := 4) (rws := ([(prow true (some mr16) (.sl none 0 0 0) 0), (prow true (some mr25) (.sl none 0 0 0) 0), (prow true (some mr34) (.sl none 0 0 0) 0), zrow, (prow true (some mr52) v2 0)] : List (List AV))) (rows := []) (by decide) hall127 (Nat.le_of_ble_eq_true rfl) hsq4 (fun x hx => by rw [List.mem_singleton] at hx; subst hx; rfl) hH130) fun v131 H132 hq133 => ?_)
    obtain ⟨v3, c3, rfl, hsq5, hh5⟩ := hq133
    refine O_p (.tup [(.agg [(.s (txt a)), (.i .i64 0), (.i .i64 0), (.b true), (.sl ka d.length kc kg)]), (.b true)]) (r_mv rfl) ?_
    refine O_p (.agg [(.s (txt a)), (.i .i64 0), (.i .i64 0), (.b true), (.sl ka d.length kc kg)]) (r_ext rfl rfl) ?_
    refine O_p (.b true) (r_ext rfl rfl) ?_
    refine O_alloc fun n134 H135 hN136 => ?_
    have hH137 := hh5.new hN136
    refine O_store (vs := [(.s (txt a)), (.i .i64 0), (.i .i64 0), (.b true), (.sl ka d.length kc kg)]) (c' := [(.s (txt a)), (.i .i64 0), (.i .i64 0), (.b true), (.sl ka d.length kc kg)]) rfl (by rfl) hH137.get0 rfl (List.cons_ne_nil _ _) (Nat.le_of_ble_eq_true rfl) rfl fun H138 hW139 => ?_
    have hH140 := hH137.wr0 hW139
    refine O_p (.b true) (r_mv rfl) ?_
    refine O_nil ?_
    refine C_seq ?_
    refine C_region ?_
    refine O_p (.b true) (r_mv rfl) ?_
    refine O_p (.b true) (r_mv rfl) ?_
    refine O_gk rfl ?_
    refine O_p (.i .i64 0) (r_mv rfl) ?_
    refine O_gk rfl ?_
    refine O_p (.b true) (r_bin rfl rfl rfl) ?_
    refine O_p (.b true) (r_pick_t rfl rfl) ?_
    refine O_p (.b true) (r_mv rfl) ?_
    refine O_gk rfl ?_
    refine O_p (.i .i64 0) (r_mv rfl) ?_
    refine O_gk rfl ?_
    refine O_p (.b true) (r_bin rfl rfl rfl) ?_
    refine O_p (.b true) (r_pick_t rfl rfl) ?_
    refine O_p (.b true) (r_mv rfl) ?_
    refine O_gk rfl ?_
    refine O_p (.i .i64 1) (r_mv rfl) ?_
    refine O_gk rfl ?_
    refine O_p (.b true) (r_bin rfl rfl rfl) ?_
    refine O_p (.b true) (r_pick_t rfl rfl) ?_
    refine O_p (.b true) (r_mv rfl) ?_
    refine O_gk rfl ?_
    refine O_p (.i .i64 0) (r_mv rfl) ?_
    refine O_gk rfl ?_
    refine O_p (.b true) (r_bin rfl rfl rfl) ?_
    refine O_p (.b true) (r_pick_t rfl rfl) ?_
    refine O_p (.b true) (r_mv rfl) ?_
    refine O_gk rfl ?_
    refine O_p (.b true) (r_mv rfl) ?_
    refine O_p (.b true) (r_pick_t rfl rfl) ?_
    refine O_p (.b true) (r_mv rfl) ?_
    refine O_gk rfl ?_
    refine O_p (.p (some (n134, 0))) (r_fadd' rfl rfl) ?_
    refine O_gk rfl ?_
    refine O_p (.s (txt a)) (r_ld rfl hH140.get0 rfl) ?_
    refine O_gk rfl ?_
    refine O_p (.s (txt a)) (r_mv rfl) ?_
    refine O_gk rfl ?_
    refine O_p (.b true) (by exact (by rw [r_eqt (a := a) (b := a) rfl rfl, decide_eq_true rfl])) ?_
    refine O_p (.b true) (r_pick_t rfl rfl) ?_
    refine O_p (.b true) (r_mv rfl) ?_
    refine O_gk rfl ?_
    refine O_p (.p (some (n134, 4))) (r_fadd' rfl rfl) ?_
    refine O_gk rfl ?_
    refine O_p (.sl ka d.length kc kg) (r_ld rfl hH140.get0 rfl) ?_
    refine O_gk rfl ?_
    refine O_p (.s (txt d)) ((hkb _ hH140.top7.fst).text rfl) ?_
    refine O_gk rfl ?_
    refine O_p (.sl da d.length dc 0) (r_mv rfl) ?_
    refine O_gk rfl ?_
    refine O_p (.s (txt d)) ((dB _ hH140.top8.fst).text rfl) ?_
    refine O_gk rfl ?_
    refine O_p (.b true) (by exact (by rw [r_eqt (a := d) (b := d) rfl rfl, decide_eq_true rfl])) ?_
    refine O_p (.b true) (r_pick_t rfl rfl) ?_
    refine O_p (.b true) (r_mv rfl) ?_
    refine O_gk rfl ?_
    refine O_p (.p (some (F5, 0))) (r_mv rfl) ?_
    refine O_gk rfl ?_
    have hall141 : ∀ x ∈ ([(prow true (some mr16) (.sl none 0 0 0) 0), (prow true (some mr25) (.sl none 0 0 0) 0), (prow true (some mr34) (.sl none 0 0 0) 0), zrow, (prow true (some mr52) v3 0)] : List (List AV)), x.length = 4 := fun x hx => by simp only [List.mem_cons, List.not_mem_nil, or_false] at hx; rcases hx with rfl | rfl | rfl | rfl | rfl <;> rfl
    have hH142 := ((hH140.top2).top2)
    have hH143 : Hs H138 ([(F5, some (.cells ([(.sl (some (Lb6, 0)) 5 5 0), (.i .i64 (((9) : Nat) : Int)), (.m (some cm7))]) true))] ++ ([(Lb6, some (.cells ((([(prow true (some mr16) (.sl none 0 0 0) 0), (prow true (some mr25) (.sl none 0 0 0) 0), (prow true (some mr34) (.sl none 0 0 0) 0), zrow, (prow true (some mr52) v3 0)] : List (List AV)).set 0 (prow true (some mr16) (.sl none 0 0 0) 0)).flatten) true))] ++ ([(n134, some (.cells ([(.s (txt a)), (.i .i64 0), (.i .i64 0), (.b true), (.sl ka d.length kc kg)]) true))] ++ ((qseg v3 c3) ++ ([(mr25, some mb71)] ++ ([(mr34, some mb91)] ++ ([(mr52, some mb119)] ++ (D2 ++ ((allL H0) ++ ([(mr43, some mb101)] ++ ([(mr16, some mb61)] ++ ([])))))))))))) := hH142
    have hH144 := ((hH143.top1).top1)
    refine O_call (Ev.mono (waiting_ev (np := 5) (i := 0) (rws := ([(prow true (some mr16) (.sl none 0 0 0) 0), (prow true (some mr25) (.sl none 0 0 0) 0), (prow true (some mr34) (.sl none 0 0 0) 0), zrow, (prow true (some mr52) v3 0)] : List (List AV))) (rows := []) (by decide) hall141 (Nat.le_of_ble_eq_true rfl) (Sq.nil : Sq 5 (.sl none 0 0 0) [] ([] : List (List AV)).flatten) (fun x hx => absurd hx (List.not_mem_nil)) hH144) fun v145 H146 hq147 => ?_)
    obtain ⟨rfl, hH148⟩ := hq147
    refine O_gk rfl ?_
    refine O_p (.p (some (F5, 0))) (r_mv rfl) ?_
    refine O_gk rfl ?_
    have hall149 : ∀ x ∈ ([(prow true (some mr16) (.sl none 0 0 0) 0), (prow true (some mr25) (.sl none 0 0 0) 0), (prow true (some mr34) (.sl none 0 0 0) 0), zrow, (prow true (some mr52) v3 0)] : List (List AV)), x.length = 4 := fun x hx => by simp only [List.mem_cons, List.not_mem_nil, or_false] at hx; rcases hx with rfl | rfl | rfl | rfl | rfl <;> rfl
    have hH150 := ((hH148.top1).top1)
    have hH151 : Hs H146 ([(F5, some (.cells ([(.sl (some (Lb6, 0)) 5 5 0), (.i .i64 (((9) : Nat) : Int)), (.m (some cm7))]) true))] ++ ([(Lb6, some (.cells ((([(prow true (some mr16) (.sl none 0 0 0) 0), (prow true (some mr25) (.sl none 0 0 0) 0), (prow true (some mr34) (.sl none 0 0 0) 0), zrow, (prow true (some mr52) v3 0)] : List (List AV)).set 1 (prow true (some mr25) (.sl none 0 0 0) 0)).flatten) true))] ++ ([(n134, some (.cells ([(.s (txt a)), (.i .i64 0), (.i .i64 0), (.b true), (.sl ka d.length kc kg)]) true))] ++ ((qseg v3 c3) ++ ([(mr25, some mb71)] ++ ([(mr34, some mb91)] ++ ([(mr52, some mb119)] ++ (D2 ++ ((allL H0) ++ ([(mr43, some mb101)] ++ ([(mr16, some mb61)] ++ ([])))))))))))) := hH150
    have hH152 := ((hH151.top1).top1)
    refine O_call (Ev.mono (waiting_ev (np := 5) (i := 1) (rws := ([(prow true (some mr16) (.sl none 0 0 0) 0), (prow true (some mr25) (.sl none 0 0 0) 0), (prow true (some mr34) (.sl none 0 0 0) 0), zrow, (prow true (some mr52) v3 0)] : List (List AV))) (rows := []) (by decide) hall149 (Nat.le_of_ble_eq_true rfl) (Sq.nil : Sq 5 (.sl none 0 0 0) [] ([] : List (List AV)).flatten) (fun x hx => absurd hx (List.not_mem_nil)) hH152) fun v153 H154 hq155 => ?_)
    obtain ⟨rfl, hH156⟩ := hq155
    refine O_gk rfl ?_
    refine O_p (.i .i64 0) (r_bin rfl rfl rfl) ?_
    refine O_gk rfl ?_
    refine O_p (.p (some (F5, 0))) (r_mv rfl) ?_
    refine O_gk rfl ?_
    have hall157 : ∀ x ∈ ([(prow true (some mr16) (.sl none 0 0 0) 0), (prow true (some mr25) (.sl none 0 0 0) 0), (prow true (some mr34) (.sl none 0 0 0) 0), zrow, (prow true (some mr52) v3 0)] : List (List AV)), x.length = 4 := fun x hx => by simp only [List.mem_cons, List.not_mem_nil, or_false] at hx; rcases hx with rfl | rfl | rfl | rfl | rfl <;> rfl
    have hH158 := ((hH156.top1).top1)
    have hH159 : Hs H154 ([(F5, some (.cells ([(.sl (some (Lb6, 0)) 5 5 0), (.i .i64 (((9) : Nat) : Int)), (.m (some cm7))]) true))] ++ ([(Lb6, some (.cells ((([(prow true (some mr16) (.sl none 0 0 0) 0), (prow true (some mr25) (.sl none 0 0 0) 0), (prow true (some mr34) (.sl none 0 0 0) 0), zrow, (prow true (some mr52) v3 0)] : List (List AV)).set 2 (prow true (some mr34) (.sl none 0 0 0) 0)).flatten) true))] ++ ([(n134, some (.cells ([(.s (txt a)), (.i .i64 0), (.i .i64 0), (.b true), (.sl ka d.length kc kg)]) true))] ++ ((qseg v3 c3) ++ ([(mr25, some mb71)] ++ ([(mr34, some mb91)] ++ ([(mr52, some mb119)] ++ (D2 ++ ((allL H0) ++ ([(mr43, some mb101)] ++ ([(mr16, some mb61)] ++ ([])))))))))))) := hH158
    have hH160 := ((hH159.top1).top1)
    refine O_call (Ev.mono (waiting_ev (np := 5) (i := 2) (rws := ([(prow true (some mr16) (.sl none 0 0 0) 0), (prow true (some mr25) (.sl none 0 0 0) 0), (prow true (some mr34) (.sl none 0 0 0) 0), zrow, (prow true (some mr52) v3 0)] : List (List AV))) (rows := []) (by decide) hall157 (Nat.le_of_ble_eq_true rfl) (Sq.nil : Sq 5 (.sl none 0 0 0) [] ([] : List (List AV)).flatten) (fun x hx => absurd hx (List.not_mem_nil)) hH160) fun v161 H162 hq163 => ?_)
    obtain ⟨rfl, hH164⟩ := hq163
    refine O_gk rfl ?_
    refine O_p (.i .i64 0) (r_bin rfl rfl rfl) ?_
    refine O_gk rfl ?_
    refine O_p (.p (some (F5, 0))) (r_mv rfl) ?_
    refine O_gk rfl ?_
    have hall165 : ∀ x ∈ ([(prow true (some mr16) (.sl none 0 0 0) 0), (prow true (some mr25) (.sl none 0 0 0) 0), (prow true (some mr34) (.sl none 0 0 0) 0), zrow, (prow true (some mr52) v3 0)] : List (List AV)), x.length = 4 := fun x hx => by simp only [List.mem_cons, List.not_mem_nil, or_false] at hx; rcases hx with rfl | rfl | rfl | rfl | rfl <;> rfl
    have hH166 := ((hH164.top1).top1)
    have hH167 : Hs H162 ([(F5, some (.cells ([(.sl (some (Lb6, 0)) 5 5 0), (.i .i64 (((9) : Nat) : Int)), (.m (some cm7))]) true))] ++ ([(Lb6, some (.cells ((([(prow true (some mr16) (.sl none 0 0 0) 0), (prow true (some mr25) (.sl none 0 0 0) 0), (prow true (some mr34) (.sl none 0 0 0) 0), zrow, (prow true (some mr52) v3 0)] : List (List AV)).set 3 zrow).flatten) true))] ++ ([(n134, some (.cells ([(.s (txt a)), (.i .i64 0), (.i .i64 0), (.b true), (.sl ka d.length kc kg)]) true))] ++ ((qseg v3 c3) ++ ([(mr25, some mb71)] ++ ([(mr34, some mb91)] ++ ([(mr52, some mb119)] ++ (D2 ++ ((allL H0) ++ ([(mr43, some mb101)] ++ ([(mr16, some mb61)] ++ ([])))))))))))) := hH166
    have hH168 := ((hH167.top1).top1)
    refine O_call (Ev.mono (waiting_ev (np := 5) (i := 3) (rws := ([(prow true (some mr16) (.sl none 0 0 0) 0), (prow true (some mr25) (.sl none 0 0 0) 0), (prow true (some mr34) (.sl none 0 0 0) 0), zrow, (prow true (some mr52) v3 0)] : List (List AV))) (rows := []) (by decide) hall165 (Nat.le_of_ble_eq_true rfl) (Sq.nil : Sq 5 (.sl none 0 0 0) [] ([] : List (List AV)).flatten) (fun x hx => absurd hx (List.not_mem_nil)) hH168) fun v169 H170 hq171 => ?_)
    obtain ⟨rfl, hH172⟩ := hq171
    refine O_gk rfl ?_
    refine O_p (.i .i64 0) (r_bin rfl rfl rfl) ?_
    refine O_gk rfl ?_
    refine O_p (.p (some (F5, 0))) (r_mv rfl) ?_
    refine O_gk rfl ?_
    have hall173 : ∀ x ∈ ([(prow true (some mr16) (.sl none 0 0 0) 0), (prow true (some mr25) (.sl none 0 0 0) 0), (prow true (some mr34) (.sl none 0 0 0) 0), zrow, (prow true (some mr52) v3 0)] : List (List AV)), x.length = 4 := fun x hx => by simp only [List.mem_cons, List.not_mem_nil, or_false] at hx; rcases hx with rfl | rfl | rfl | rfl | rfl <;> rfl
    have hH174 := ((hH172.top1).top1)
    have hH175 : Hs H170 ([(F5, some (.cells ([(.sl (some (Lb6, 0)) 5 5 0), (.i .i64 (((9) : Nat) : Int)), (.m (some cm7))]) true))] ++ ([(Lb6, some (.cells ((([(prow true (some mr16) (.sl none 0 0 0) 0), (prow true (some mr25) (.sl none 0 0 0) 0), (prow true (some mr34) (.sl none 0 0 0) 0), zrow, (prow true (some mr52) v3 0)] : List (List AV)).set 4 (prow true (some mr52) v3 0)).flatten) true))] ++ ([(n134, some (.cells ([(.s (txt a)), (.i .i64 0), (.i .i64 0), (.b true), (.sl ka d.length kc kg)]) true))] ++ ((qseg v3 c3) ++ ([(mr25, some mb71)] ++ ([(mr34, some mb91)] ++ ([(mr52, some mb119)] ++ (D2 ++ ((allL H0) ++ ([(mr43, some mb101)] ++ ([(mr16, some mb61)] ++ ([])))))))))))) := hH174
    have hH176 := ((hH175.top1).top1)
    refine O_call (Ev.mono (waiting_ev (np := 5) (i := 4) (rws := ([(prow true (some mr16) (.sl none 0 0 0) 0), (prow true (some mr25) (.sl none 0 0 0) 0), (prow true (some mr34) (.sl none 0 0 0) 0), zrow, (prow true (some mr52) v3 0)] : List (List AV))) (rows := []) (by decide) hall173 (Nat.le_of_ble_eq_true rfl) (show Sq 5 v3 c3 ([] : List (List AV)).flatten from hsq5) (fun x hx => absurd hx (List.not_mem_nil)) hH176) fun v177 H178 hq179 => ?_)
    obtain ⟨rfl, hH180⟩ := hq179
    refine O_gk rfl ?_
    refine O_p (.i .i64 0) (r_bin rfl rfl rfl) ?_
    refine O_gk rfl ?_
    refine O_p (.b true) (r_bin rfl rfl rfl) ?_
    refine O_p (.b true) (r_pick_t rfl rfl) ?_
    refine O_p (.b true) (r_mv rfl) ?_
    refine O_nil ?_
    refine C_ret ?_
    exact ⟨.inr rfl, _, resL_one (r_tmp (v := .b true) rfl), rfl⟩
set_option maxRecDepth 100000 in
theorem law6 (W : World) (ρ : Rho) (H : AH) (xs : List AV) (args : Array Value) (hR : Rel Try.prog W.heap.size W ρ H W) (hro : RO H) (hv : VRL ρ xs args.toList) (ht : TypedVs Try.prog H 9 Try.f6.params.toList xs) :
    Calls Try.prog 6 args W fun e w' => e = .returned (.bool true) ∧ Below W.heap.size W w' := by
  rw [Try.params6] at ht
  obtain ⟨a0, xs, rfl, g0, a1, xs, rfl, g1, a2, xs, rfl, g2, rfl⟩ := ht
  obtain ⟨sa, rfl, wa⟩ := typedV_string Try.underlying9 g0
  obtain ⟨sb, rfl, wb⟩ := typedV_string Try.underlying9 g1
  obtain ⟨a, rfl⟩ : ∃ a, sa = txt a := ⟨_, (txt_of sa).symm⟩
  obtain ⟨b, rfl⟩ : ∃ a, sb = txt a := ⟨_, (txt_of sb).symm⟩
  obtain ⟨da, dn, dc, d, rfl, hdb, rfl, hdc, hdm⟩ := typed_bytes Try.underlying30 Try.underlying5 (by kernel_rfl) (typedV_slice Try.underlying30 g2)
  obtain ⟨k, v, H', hex, rfl⟩ := run6 H hR.aok a b da dc d hdb hdc hdm
  exact law_of mixed tabA_ok spA_ok hex hR hv
end Go.Proofs.Ytnkpmidfefilbaa.E
namespace Go.Proofs.Ytnkpmidfefilbaa.topicOnly
open Go.ChangeShapes Go.WideShapes Go.RowKit
set_option linter.unusedVariables false
theorem own : ownKnob Try.prog.godebug = none := by kernel_rfl
theorem types : (Try.f6.params.toList.all fun t => E.fit Try.prog 9 t && (Try.prog.readableRec t && decide (t < Try.prog.types.size))) = true := by kernel_rfl
set_option maxRecDepth 100000 in
theorem lifted (os : Os) (started : os.Started) (H : Type) (enc : TypeId × Value → H) :
    ReturnsInHanded {} Try.checked os 6 .any (Rows.topicOnlySpec.pre6 enc Try.prog Try.f6 Rows.topicOnlyRow.domain false) (Rows.topicOnlySpec.post enc Try.prog Try.f6 false true false false) :=
  E.law_lifted (C := Try.checked) (k := 9) (tb := 4) E.globals0 E.laid own started (by kernel_rfl) Try.func6
    (ChangeSpec.witness6 (enc := enc) (C := Try.checked) false ⟨#[], #[.string .empty, .string .empty, .slice none 0 0], []⟩ 8 (by kernel_rfl) (by kernel_rfl) (by kernel_rfl) (by kernel_rfl))
    rfl rfl Try.underlying4 (fun t ht => by have h := List.all_eq_true.1 types t ht; simp only [Bool.and_eq_true, decide_eq_true_eq] at h; exact h)
    (fun ds hd => by
      rw [Try.params6] at hd
      match ds, hd with
      | [d0, d1, d2], _ => rfl) E.law6
theorem over : Rows.topicOnlyRow.holds Try.pinned (OpenSpec.ofChange Rows.topicOnlySpec) :=
  OpenClaim.holds_of_wide 6 Try.f6 rfl rfl rfl rfl rfl rfl rfl ⟨rfl, rfl, rfl, rfl, rfl⟩ rfl rfl rfl rfl rfl (by kernel_rfl) Try.func6 (by kernel_rfl)
    (of_decide_eq_true (by kernel_rfl)) (by unfold Func.isWrapper; first | (rw [if_pos (by decide +kernel)]; kernel_rfl) | (rw [if_neg (by decide +kernel)]; exact ⟨rfl, rfl⟩))
    (fun os started H enc _ => lifted os started H enc)
end Go.Proofs.Ytnkpmidfefilbaa.topicOnly
namespace Go.Proofs.Ytnkpmidfefilbaa
/-- The row, under a short name, for the claim. -/
theorem topicOnly_holds : Rows.TopicOnlySaid := topicOnly.over
#print axioms topicOnly_holds
end Go.Proofs.Ytnkpmidfefilbaa
