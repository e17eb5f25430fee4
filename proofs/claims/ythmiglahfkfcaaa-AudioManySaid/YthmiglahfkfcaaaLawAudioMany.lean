/- AudioMany, for every input, without conditions. -/
import Derived.Test.YthmiglahfkfcaaaH3
import Derived.Test.YthmiglahfkfcaaaRows
import Derived.ProofKit
import Derived.OpenShut
namespace Go.Proofs.Ythmiglahfkfcaaa.E
open Go.RowKit (Below)
set_option linter.unusedVariables false
set_option linter.unusedSimpArgs false
def skA (a : Int) (i : Nat) : Spk := if i = 0 then spk0 else ⟨true, 9, (a + ((i - 1 : Nat) : Int)) % 65536, ((i - 1 : Nat) : Int)⟩
def skB (b : Int) (i : Nat) : Spk := if i = 0 then spk0 else ⟨true, 9, (b + ((2 * (i - 1) : Nat) : Int)) % 65536, ((2 * (i - 1) : Nat) : Int)⟩
def pkA (i : Nat) : Pk := ⟨false, 0, ((i : Nat) : Int), 0, 1, []⟩
def pkB (i : Nat) : Pk := ⟨false, 0, ((2 * i : Nat) : Int), 0, 2, []⟩
def wA (i : Nat) : List Pk := (List.range i).map pkA
def wB (i : Nat) : List Pk := (List.range i).map pkB
def wAB (i : Nat) : List Pk := (List.range i).flatMap fun j => [pkA j, pkB j]
theorem wA_len (i : Nat) : (wA i).length = i := by unfold wA; simp
theorem wB_len (i : Nat) : (wB i).length = i := by unfold wB; simp
theorem wA_succ (i : Nat) : wA (i + 1) = wA i ++ [pkA i] := by unfold wA; rw [List.range_succ, List.map_append]; rfl
theorem wB_succ (i : Nat) : wB (i + 1) = wB i ++ [pkB i] := by unfold wB; rw [List.range_succ, List.map_append]; rfl
theorem wAB_succ (i : Nat) : wAB (i + 1) = (wAB i ++ [pkA i]) ++ [pkB i] := by unfold wAB; rw [List.range_succ, List.flatMap_append]; simp
theorem wAB_len : ∀ i, (wAB i).length = 2 * i
  | 0 => rfl
  | i + 1 => by rw [wAB_succ, List.length_append, List.length_append, wAB_len i]; simp; omega
theorem wAB_at : ∀ k n, n < 2 * k → (wAB k)[n]? = some (if n % 2 = 0 then pkA (n / 2) else pkB (n / 2))
  | 0, n, h => by omega
  | k + 1, n, h => by
    rw [wAB_succ]
    have hl := wAB_len k
    by_cases h1 : n < 2 * k
    · rw [List.getElem?_append_left (by rw [List.length_append, hl]; simp; omega), List.getElem?_append_left (by omega), wAB_at k n h1]
    · by_cases h2 : n = 2 * k
      · subst h2
        rw [List.getElem?_append_left (by rw [List.length_append, hl]; simp), List.getElem?_append_right (by omega), hl, Nat.sub_self, if_pos (by omega), show 2 * k / 2 = k by omega]; rfl
      · have e : n = 2 * k + 1 := by omega
        subst e
        rw [List.getElem?_append_right (by rw [List.length_append, hl]; simp), List.length_append, hl, if_neg (by omega), show (2 * k + 1) / 2 = k by omega, show 2 * k + 1 - (2 * k + [pkA k].length) = 0 by simp]; rfl
def pA (a : Int) (i : Nat) : Pk := ⟨false, 0, IntKind.u16.wrap (a + IntKind.u16.wrap ((i : Nat) : Int)), 0, 9, []⟩
def pB (b : Int) (i : Nat) : Pk := ⟨false, 0, IntKind.u16.wrap (b + IntKind.u16.wrap ((2 * i : Nat) : Int)), 0, 9, []⟩
theorem handA {a : Int} {i : Nat} {w : List Pk} (hi : i < 1000) (hw : w.length < 64) : handW (skA a i) 64 w 0 1 (pA a i) = (skA a (i + 1), w ++ [pkA i], 0, true) := by
  have hn : (skA a i).next (pA a i).seq (pA a i).src = (((i : Nat) : Int), true) := by
    unfold Spk.next skA pA
    by_cases h0 : i = 0
    · subst h0; rfl
    · rw [if_neg h0]
      simp only [if_true]
      have h1 : less16 ((a + ((i - 1 : Nat) : Int)) % 65536) (IntKind.u16.wrap (a + IntKind.u16.wrap ((i : Nat) : Int))) = true := by
        unfold less16
        simp only [wrap_u16, Bool.and_eq_true, Bool.not_eq_true', decide_eq_false_iff_not, decide_eq_true_eq]
        omega
      rw [h1]
      congr 1
      simp only [wrap_u16]
      omega
  unfold handW
  rw [hn]
  simp only [Bool.true_eq_false, if_false, if_pos hw]
  congr 1
  unfold skA pA
  rw [if_neg (by omega)]
  simp only [wrap_u16, Nat.add_sub_cancel, Spk.mk.injEq, true_and, and_true]
  omega
theorem handB {b : Int} {i : Nat} {w : List Pk} (hi : i < 1000) (hw : w.length < 64) : handW (skB b i) 64 w 0 2 (pB b i) = (skB b (i + 1), w ++ [pkB i], 0, true) := by
  have hn : (skB b i).next (pB b i).seq (pB b i).src = (((2 * i : Nat) : Int), true) := by
    unfold Spk.next skB pB
    by_cases h0 : i = 0
    · subst h0; rfl
    · rw [if_neg h0]
      simp only [if_true]
      have h1 : less16 ((b + ((2 * (i - 1) : Nat) : Int)) % 65536) (IntKind.u16.wrap (b + IntKind.u16.wrap ((2 * i : Nat) : Int))) = true := by
        unfold less16
        simp only [wrap_u16, Bool.and_eq_true, Bool.not_eq_true', decide_eq_false_iff_not, decide_eq_true_eq]
        omega
      rw [h1]
      congr 1
      simp only [wrap_u16]
      omega
  unfold handW
  rw [hn]
  simp only [Bool.true_eq_false, if_false, if_pos hw]
  congr 1
  unfold skB pB
  rw [if_neg (by omega)]
  simp only [wrap_u16, Nat.add_sub_cancel, Spk.mk.injEq, true_and, and_true]
  omega
set_option maxRecDepth 100000 in
set_option maxHeartbeats 2000000 in
theorem run3 (H0 : AH) (hok0 : H0.Ok) (a b n0 : Int) : Ev tabA spA (.fn (.func 3) [] []) [.i .u16 a, .i .u16 b, .i .i64 n0] H0 (fun v _ => v = .b true) := by
  have hH0 : Hs H0 [] := ⟨by simp, fun p hp => by simp at hp, hok0⟩
  refine Ev_C (F := x3) rfl ?_
  refine C_seq ?_
  refine C_region ?_
  refine O_p (.b false) (r_mv rfl) ?_
  refine O_nil ?_
  refine C_seq ?_
  refine C_region ?_
  refine O_call (Ev_sp (v := (.b true)) rfl rfl ?_)
  refine O_p (.b true) (r_mv rfl) ?_
  refine O_nil ?_
  refine C_seq ?_
  refine C_region ?_
  refine O_p (.i .i64 n0) (r_mv rfl) ?_
  obtain ⟨q1, hq1, hlq1⟩ := and_nat n0 15 (by decide)
  refine O_p (.i .i64 (((q1 : Nat)) : Int)) (by exact (by rw [← hq1]; exact r_bin rfl rfl rfl)) ?_
  refine O_p (.i .i64 (1 + (((q1 : Nat)) : Int))) (by exact (r_addi rfl rfl (wrap_i64 (by omega) (by omega)))) ?_
  refine O_p (.i .i64 (1 + (((q1 : Nat)) : Int))) (r_mv rfl) ?_
  refine O_nil ?_
  refine C_seq ?_
  refine C_region ?_
  refine O_call (Ev.mono (new3_ev (room := 64) hH0) fun v2 H3 hq4 => ?_)
  obtain ⟨F5, Lb6, rfl, hH7⟩ := hq4
  refine O_p (.p (some (F5, 0))) (r_mv rfl) ?_
  refine O_nil ?_
  refine C_seq ?_
  refine C_seq ?_
  refine C_region ?_
  refine O_p (.i .i64 0) (r_mv rfl) ?_
  refine O_nil ?_
  refine C_block ?_
  refine C_loop ?_
  refine C_seq ?_
  refine C_seq ?_
  refine C_region ?_
  refine O_p (.i .i64 0) (r_mv rfl) ?_
  refine O_p (.b true) (r_bin rfl rfl rfl) ?_
  refine O_nil ?_
  refine C_cond (x := true) rfl (fun _ => ?_) (fun h => by cases h)
  refine C_skip ?_
  refine C_seq ?_
  refine C_block ?_
  refine C_seq ?_
  refine C_region ?_
  refine O_p (.p (some (F5, 0))) (r_mv rfl) ?_
  refine O_p (.i .i64 0) (r_mv rfl) ?_
  have hall8 : ∀ x ∈ ([zrow, zrow, zrow] : List (List AV)), x.length = 67 := fun x hx => by simp only [List.mem_cons, List.not_mem_nil, or_false] at hx; rcases hx with rfl | rfl | rfl <;> rfl
  have hH9 := ((hH7.top1).top1)
  have hH10 : Hs H3 ([(F5, some (.cells ([(.sl (some (Lb6, 0)) 3 3 0), (.i .i64 (((64) : Nat) : Int))]) true))] ++ ([(Lb6, some (.cells ((([zrow, zrow, zrow] : List (List AV)).set 0 zrow).flatten) true))] ++ ([]))) := hH9
  have hH11 := ((hH10.top1).top1)
  refine O_call (Ev.mono (listen_ev (np := 3) (i := 0) (rws := ([zrow, zrow, zrow] : List (List AV))) (by decide) hall8 (Nat.le_of_ble_eq_true rfl) hH11) fun v12 H13 hq14 => ?_)
  obtain ⟨rfl, hH15⟩ := hq14
  refine O_p (.b false) (r_bin rfl rfl rfl) ?_
  refine O_nil ?_
  refine C_cond (x := false) rfl (fun h => by cases h) (fun _ => ?_)
  refine C_skip ?_
  refine C_region ?_
  refine O_p (.i .i64 0) (r_mv rfl) ?_
  refine O_p (.i .i64 1) (r_bin rfl rfl rfl) ?_
  refine O_p (.i .i64 1) (r_mv rfl) ?_
  refine O_nil ?_
  refine C_loop ?_
  refine C_seq ?_
  refine C_seq ?_
  refine C_region ?_
  refine O_p (.i .i64 1) (r_mv rfl) ?_
  refine O_p (.b true) (r_bin rfl rfl rfl) ?_
  refine O_nil ?_
  refine C_cond (x := true) rfl (fun _ => ?_) (fun h => by cases h)
  refine C_skip ?_
  refine C_seq ?_
  refine C_block ?_
  refine C_seq ?_
  refine C_region ?_
  refine O_p (.p (some (F5, 0))) (r_mv rfl) ?_
  refine O_p (.i .i64 1) (r_mv rfl) ?_
  have hall16 : ∀ x ∈ ([(lrowS true spk0 spk0 (.sl none 0 0 0) 0), zrow, zrow] : List (List AV)), x.length = 67 := fun x hx => by simp only [List.mem_cons, List.not_mem_nil, or_false] at hx; rcases hx with rfl | rfl | rfl <;> rfl
  have hH17 := ((hH15.top1).top1)
  have hH18 : Hs H13 ([(F5, some (.cells ([(.sl (some (Lb6, 0)) 3 3 0), (.i .i64 (((64) : Nat) : Int))]) true))] ++ ([(Lb6, some (.cells ((([(lrowS true spk0 spk0 (.sl none 0 0 0) 0), zrow, zrow] : List (List AV)).set 1 zrow).flatten) true))] ++ ([]))) := hH17
  have hH19 := ((hH18.top1).top1)
  refine O_call (Ev.mono (listen_ev (np := 3) (i := 1) (rws := ([(lrowS true spk0 spk0 (.sl none 0 0 0) 0), zrow, zrow] : List (List AV))) (by decide) hall16 (Nat.le_of_ble_eq_true rfl) hH19) fun v20 H21 hq22 => ?_)
  obtain ⟨rfl, hH23⟩ := hq22
  refine O_p (.b false) (r_bin rfl rfl rfl) ?_
  refine O_nil ?_
  refine C_cond (x := false) rfl (fun h => by cases h) (fun _ => ?_)
  refine C_skip ?_
  refine C_region ?_
  refine O_p (.i .i64 1) (r_mv rfl) ?_
  refine O_p (.i .i64 2) (r_bin rfl rfl rfl) ?_
  refine O_p (.i .i64 2) (r_mv rfl) ?_
  refine O_nil ?_
  refine C_loop ?_
  refine C_seq ?_
  refine C_seq ?_
  refine C_region ?_
  refine O_p (.i .i64 2) (r_mv rfl) ?_
  refine O_p (.b true) (r_bin rfl rfl rfl) ?_
  refine O_nil ?_
  refine C_cond (x := true) rfl (fun _ => ?_) (fun h => by cases h)
  refine C_skip ?_
  refine C_seq ?_
  refine C_block ?_
  refine C_seq ?_
  refine C_region ?_
  refine O_p (.p (some (F5, 0))) (r_mv rfl) ?_
  refine O_p (.i .i64 2) (r_mv rfl) ?_
  have hall24 : ∀ x ∈ ([(lrowS true spk0 spk0 (.sl none 0 0 0) 0), (lrowS true spk0 spk0 (.sl none 0 0 0) 0), zrow] : List (List AV)), x.length = 67 := fun x hx => by simp only [List.mem_cons, List.not_mem_nil, or_false] at hx; rcases hx with rfl | rfl | rfl <;> rfl
  have hH25 := ((hH23.top1).top1)
  have hH26 : Hs H21 ([(F5, some (.cells ([(.sl (some (Lb6, 0)) 3 3 0), (.i .i64 (((64) : Nat) : Int))]) true))] ++ ([(Lb6, some (.cells ((([(lrowS true spk0 spk0 (.sl none 0 0 0) 0), (lrowS true spk0 spk0 (.sl none 0 0 0) 0), zrow] : List (List AV)).set 2 zrow).flatten) true))] ++ ([]))) := hH25
  have hH27 := ((hH26.top1).top1)
  refine O_call (Ev.mono (listen_ev (np := 3) (i := 2) (rws := ([(lrowS true spk0 spk0 (.sl none 0 0 0) 0), (lrowS true spk0 spk0 (.sl none 0 0 0) 0), zrow] : List (List AV))) (by decide) hall24 (Nat.le_of_ble_eq_true rfl) hH27) fun v28 H29 hq30 => ?_)
  obtain ⟨rfl, hH31⟩ := hq30
  refine O_p (.b false) (r_bin rfl rfl rfl) ?_
  refine O_nil ?_
  refine C_cond (x := false) rfl (fun h => by cases h) (fun _ => ?_)
  refine C_skip ?_
  refine C_region ?_
  refine O_p (.i .i64 2) (r_mv rfl) ?_
  refine O_p (.i .i64 3) (r_bin rfl rfl rfl) ?_
  refine O_p (.i .i64 3) (r_mv rfl) ?_
  refine O_nil ?_
  refine C_loop ?_
  refine C_seq ?_
  refine C_seq ?_
  refine C_region ?_
  refine O_p (.i .i64 3) (r_mv rfl) ?_
  refine O_p (.b false) (r_bin rfl rfl rfl) ?_
  refine O_nil ?_
  refine C_cond (x := false) rfl (fun h => by cases h) (fun _ => ?_)
  refine C_exit ?_
  refine nx_exit ?_
  refine nx_exit ?_
  refine bk_hit ?_
  refine C_seq ?_
  refine C_seq ?_
  refine C_region ?_
  refine O_p (.i .i64 0) (r_mv rfl) ?_
  refine O_nil ?_
  refine C_block ?_
  have hH32 := ((hH31.top1).top1)
  refine C_while (fun m33 T34 H35 => ∃ v0 : AV, ∃ c0 : List AV, ∃ rows0 : List (List AV), ∃ v1 : AV, ∃ c1 : List AV, ∃ rows1 : List (List AV), ∃ v2 : AV, ∃ c2 : List AV, ∃ rows2 : List (List AV), ∃ D : HL, ∃ i : Nat, m33 = (1 + q1) - i ∧ i ≤ (1 + q1) ∧ Sq 6 v0 c0 rows0.flatten ∧ Sq 6 v1 c1 rows1.flatten ∧ Sq 6 v2 c2 rows2.flatten ∧ PksR D rows0 (wB i) ∧ PksR D rows1 (wA i) ∧ PksR D rows2 (wAB i) ∧ Hs H35 ([(F5, some (.cells ([(.sl (some (Lb6, 0)) 3 3 0), (.i .i64 (((64) : Nat) : Int))]) true))] ++ ([(Lb6, some (.cells (([(lrowS true spk0 (skB b i) v0 0), (lrowS true (skA a i) spk0 v1 0), (lrowS true (skA a i) (skB b i) v2 0)] : List (List AV)).flatten) true))] ++ ((qseg v0 c0) ++ ((qseg v1 c1) ++ ((qseg v2 c2) ++ (D ++ ([] ++ ([])))))))) ∧ T34.get 0 = (.i .u16 a) ∧ T34.get 1 = (.i .u16 b) ∧ T34.get 6 = (.b false) ∧ T34.get 7 = (.b true) ∧ T34.get 8 = (.i .i64 (1 + (((q1 : Nat)) : Int))) ∧ T34.get 9 = (.p (some (F5, 0))) ∧ T34.get 11 = (.i .i64 (((i : Nat)) : Int))) (fun m33 T34 H35 hI36 => ?_) (1 + q1) _ _ ⟨.sl none 0 0 0, [], [], .sl none 0 0 0, [], [], .sl none 0 0 0, [], [], [], 0, rfl, Nat.zero_le _, Sq.nil, Sq.nil, Sq.nil, PksR.nil, PksR.nil, PksR.nil, hH32, rfl, rfl, rfl, rfl, rfl, rfl, rfl⟩
  obtain ⟨v0, c0, rows0, v1, c1, rows1, v2, c2, rows2, D, i, hm37, hp38, hp39, hp40, hp41, hp42, hp43, hp44, hH52, hT45, hT46, hT47, hT48, hT49, hT50, hT51⟩ := hI36
  refine C_seq ?_
  refine C_seq ?_
  refine C_region ?_
  refine O_p (.i .i64 (((i : Nat)) : Int)) (r_mv hT51) ?_
  refine O_p (.i .i64 (1 + (((q1 : Nat)) : Int))) (r_mv hT49) ?_
  refine O_p (.b (decide ((((i : Nat)) : Int) < (1 + (((q1 : Nat)) : Int))))) (r_lss rfl rfl) ?_
  refine O_nil ?_
  refine C_cond (x := (decide ((((i : Nat)) : Int) < (1 + (((q1 : Nat)) : Int))))) rfl (fun hc53 => ?_) (fun hc53 => ?_)
  ·
    try simp only [decide_eq_true_eq, decide_eq_false_iff_not, Bool.not_eq_true', Bool.not_eq_false', Bool.and_eq_true, Bool.or_eq_true, Bool.or_eq_false_iff, Bool.not_not, Bool.and_eq_false_iff] at hc53
    refine C_skip ?_
    refine C_seq ?_
    refine C_block ?_
    refine C_seq ?_
    refine C_region ?_
    refine O_p (.p (some (F5, 0))) (r_mv hT50) ?_
    refine O_p (.i .u16 a) (r_mv hT45) ?_
    refine O_p (.i .i64 (((i : Nat)) : Int)) (r_mv hT51) ?_
    refine O_p (.i .u16 (IntKind.u16.wrap (((i : Nat)) : Int))) (r_cint rfl) ?_
    refine O_p (.i .u16 (IntKind.u16.wrap (a + (IntKind.u16.wrap (((i : Nat)) : Int))))) (r_bin rfl rfl rfl) ?_
    refine O_p (.agg [(.b false), (.i .u8 0), (.i .u16 (IntKind.u16.wrap (a + (IntKind.u16.wrap (((i : Nat)) : Int))))), (.i .u32 0), (.i .u32 9), (.sl none 0 0 0)]) (r_build rfl) ?_
    have hH54 := (((((((hH52.top6).top6).top6).top6).top6).top6).top6)
    have hW01 : handW (skA a i) 64 (wA i) 0 1 (pA a i) = (skA a (i + 1), (wA i) ++ [(pkA i)], 0, true) := handA (by omega) (by rw [wA_len]; omega)
    have hW02 : handW (skA a i) 64 (wAB i) 0 1 (pA a i) = (skA a (i + 1), (wAB i) ++ [(pkA i)], 0, true) := handA (by omega) (by rw [wAB_len]; omega)
    have hH55 := (((((((hH54.top6).top6).top6).top6).top6).top6).top6)
    refine O_call (Ev.mono (hear30_ev (p := (pA a i)) (da := none) (dc := 0) (dg := 0) (B := []) (room := 64) (by show (0 : Int) ≤ 127; decide) (Nat.zero_le _) (.inl rfl) (Nat.le_refl 0) (by decide) (fun _ _ => Bs.nil) hp40 hp43 ⟨Int.le_refl 0, by decide⟩ hp41 hp44 ⟨Int.le_refl 0, by decide⟩ (Nat.le_refl _) hH55) fun v56 H57 hq58 => ?_)
    rw [hW01, hW02] at hq58
    obtain ⟨n59, D60, v63, c64, rows65, v68, c69, rows70, rfl, hm61, hsq66, hpr67, hsq71, hpr72, hH62⟩ := hq58
    have hpr73 := hp42.mono hm61
    refine O_nil ?_
    refine C_region ?_
    refine O_p (.p (some (F5, 0))) (r_mv hT50) ?_
    refine O_p (.i .u16 b) (r_mv hT46) ?_
    refine O_p (.i .i64 (((i : Nat)) : Int)) (r_mv hT51) ?_
    refine O_p (.i .i64 (2 * (((i : Nat)) : Int))) (by exact (r_muli rfl rfl (wrap_i64 (by omega) (by omega)))) ?_
    refine O_p (.i .u16 (IntKind.u16.wrap (2 * (((i : Nat)) : Int)))) (r_cint rfl) ?_
    refine O_p (.i .u16 (IntKind.u16.wrap (b + (IntKind.u16.wrap (2 * (((i : Nat)) : Int)))))) (r_bin rfl rfl rfl) ?_
    refine O_p (.agg [(.b false), (.i .u8 0), (.i .u16 (IntKind.u16.wrap (b + (IntKind.u16.wrap (2 * (((i : Nat)) : Int)))))), (.i .u32 0), (.i .u32 9), (.sl none 0 0 0)]) (r_build rfl) ?_
    have hH74 := (((((((hH62.top6).top6).top6).top6).top6).top6).top6)
    have hW10 : handW (skB b i) 64 (wB i) 0 2 (pB b i) = (skB b (i + 1), (wB i) ++ [(pkB i)], 0, true) := handB (by omega) (by rw [wB_len]; omega)
    have hW12 : handW (skB b i) 64 ((wAB i) ++ [(pkA i)]) 0 2 (pB b i) = (skB b (i + 1), ((wAB i) ++ [(pkA i)]) ++ [(pkB i)], 0, true) := handB (by omega) (by rw [List.length_append, wAB_len]; simp; omega)
    have hH75 := (((((((hH74.top6).top6).top6).top6).top6).top6).top6)
    refine O_call (Ev.mono (hear31_ev (p := (pB b i)) (da := none) (dc := 0) (dg := 0) (B := []) (room := 64) (by show (0 : Int) ≤ 127; decide) (Nat.zero_le _) (.inl rfl) (Nat.le_refl 0) (by decide) (fun _ _ => Bs.nil) hp39 hpr73 ⟨Int.le_refl 0, by decide⟩ hsq71 hpr72 ⟨Int.le_refl 0, by decide⟩ (Nat.le_refl _) hH75) fun v76 H77 hq78 => ?_)
    rw [hW10, hW12] at hq78
    obtain ⟨n79, D80, v83, c84, rows85, v88, c89, rows90, rfl, hm81, hsq86, hpr87, hsq91, hpr92, hH82⟩ := hq78
    have hpr93 := hpr67.mono hm81
    refine O_nil ?_
    refine C_region ?_
    refine O_p (.i .i64 (((i : Nat)) : Int)) (r_mv hT51) ?_
    refine O_p (.i .i64 ((((i : Nat)) : Int) + 1)) (by exact (r_addi rfl rfl (wrap_i64 (by omega) (by omega)))) ?_
    refine O_p (.i .i64 ((((i : Nat)) : Int) + 1)) (r_mv rfl) ?_
    refine O_nil ?_
    have hH94 := (((((((hH82.top6).top6).top6).top6).top6).top6).top6)
    exact ⟨(1 + q1) - (i + 1), by omega, v83, c84, rows85, v63, c64, rows65, v88, c89, rows90, D80, (i + 1), rfl, by omega, hsq86, hsq66, hsq91, by rw [wB_succ]; exact hpr87, by rw [wA_succ]; exact hpr93, by rw [wAB_succ]; exact hpr92, hH94, hT45, hT46, hT47, hT48, hT49, hT50, rfl⟩
  ·
    try simp only [decide_eq_true_eq, decide_eq_false_iff_not, Bool.not_eq_true', Bool.not_eq_false', Bool.and_eq_true, Bool.or_eq_true, Bool.or_eq_false_iff, Bool.not_not, Bool.and_eq_false_iff] at hc53
    refine C_exit ?_
    refine nx_exit ?_
    refine nx_exit ?_
    refine bk_hit ?_
    refine C_seq ?_
    refine C_region ?_
    refine O_p (.i .i64 0) (r_mv rfl) ?_
    refine O_nil ?_
    refine C_seq ?_
    refine C_region ?_
    refine O_p (.i .i64 0) (r_mv rfl) ?_
    refine O_nil ?_
    refine C_seq ?_
    refine C_block ?_
    have hik : i = (1 + q1) := by omega
    have hpr95 := hp44
    rw [hik] at hpr95
    have hH96 := ((hH52.sub5).sub5)
    have hH97 := (((((hH96.top4).top4).top4).top4).top4)
    refine C_while (fun m98 T99 H100 => ∃ vz : AV, ∃ cz : List AV, ∃ rowz : List (List AV), ∃ n : Nat, m98 = 2 * (1 + q1) - n ∧ n ≤ 2 * (1 + q1) ∧ Sq 6 vz cz rowz.flatten ∧ PksR D rowz ((wAB (1 + q1)).drop n) ∧ Hs H100 ([(F5, some (.cells ([(.sl (some (Lb6, 0)) 3 3 0), (.i .i64 (((64) : Nat) : Int))]) true))] ++ ([(Lb6, some (.cells (([(lrowS true spk0 (skB b i) v0 0), (lrowS true (skA a i) spk0 v1 0), (lrowS true (skA a i) (skB b i) vz 0)] : List (List AV)).flatten) true))] ++ ((qseg v0 c0) ++ ((qseg v1 c1) ++ ((qseg vz cz) ++ ([])))))) ∧ T99.get 6 = (.b false) ∧ T99.get 7 = (.b true) ∧ T99.get 8 = (.i .i64 (1 + (((q1 : Nat)) : Int))) ∧ T99.get 9 = (.p (some (F5, 0))) ∧ T99.get 12 = (.i .i64 (((((n + 1) / 2) : Nat)) : Int)) ∧ T99.get 13 = (.i .i64 ((((n / 2) : Nat)) : Int))) (fun m98 T99 H100 hI101 => ?_) (2 * (1 + q1)) _ _ ⟨v2, c2, rows2, 0, rfl, Nat.zero_le _, hp41, by rw [List.drop_zero]; exact hpr95, hH97, hT47, hT48, hT49, hT50, rfl, rfl⟩
    obtain ⟨vz, cz, rowz, n, hm102, hp103, hp104, hp105, hH112, hT106, hT107, hT108, hT109, hT110, hT111⟩ := hI101
    refine C_block ?_
    refine C_seq ?_
    by_cases hend : n = 2 * (1 + q1)
    ·
      have hd0 : (wAB (1 + q1)).drop n = [] := List.drop_eq_nil_of_le (by rw [wAB_len]; omega)
      have hp0 := hp105
      rw [hd0] at hp0
      obtain rfl : rowz = [] := List.length_eq_zero_iff.1 hp0.1
      refine C_region ?_
      refine O_p (.p (some (F5, 0))) (r_mv hT109) ?_
      have hall113 : ∀ x ∈ ([(lrowS true spk0 (skB b i) v0 0), (lrowS true (skA a i) spk0 v1 0), (lrowS true (skA a i) (skB b i) vz 0)] : List (List AV)), x.length = 67 := fun x hx => by simp only [List.mem_cons, List.not_mem_nil, or_false] at hx; rcases hx with rfl | rfl | rfl <;> rfl
      have hH114 := (((hH112.top4).top2).top2)
      have hH115 : Hs H100 ([(F5, some (.cells ([(.sl (some (Lb6, 0)) 3 3 0), (.i .i64 (((64) : Nat) : Int))]) true))] ++ ([(Lb6, some (.cells ((([(lrowS true spk0 (skB b i) v0 0), (lrowS true (skA a i) spk0 v1 0), (lrowS true (skA a i) (skB b i) vz 0)] : List (List AV)).set 2 (lrowS true (skA a i) (skB b i) vz 0)).flatten) true))] ++ ((qseg vz cz) ++ ((qseg v0 c0) ++ ((qseg v1 c1) ++ ([])))))) := hH114
      have hH116 := (((hH115.top2).top2).top2)
      refine O_call (Ev.mono (pull0_ev (np := 3) (i := 2) (rws := ([(lrowS true spk0 (skB b i) v0 0), (lrowS true (skA a i) spk0 v1 0), (lrowS true (skA a i) (skB b i) vz 0)] : List (List AV))) (by decide) hall113 (Nat.le_of_ble_eq_true rfl) hp104 hH116) fun v117 H118 hq119 => ?_)
      obtain ⟨rfl, hH120⟩ := hq119
      refine O_p (.tup [(.agg [(.b false), (.i .u8 0), (.i .u16 0), (.i .u32 0), (.i .u32 0), (.sl none 0 0 0)]), (.b false)]) (r_mv rfl) ?_
      refine O_p (.agg [(.b false), (.i .u8 0), (.i .u16 0), (.i .u32 0), (.i .u32 0), (.sl none 0 0 0)]) (r_ext rfl rfl) ?_
      refine O_p (.b false) (r_ext rfl rfl) ?_
      refine O_alloc fun n121 H122 hN123 => ?_
      have hH124 := hH120.new hN123
      refine O_store (vs := [(.b false), (.i .u8 0), (.i .u16 0), (.i .u32 0), (.i .u32 0), (.sl none 0 0 0)]) (c' := [(.b false), (.i .u8 0), (.i .u16 0), (.i .u32 0), (.i .u32 0), (.sl none 0 0 0)]) rfl (by rfl) hH124.get0 rfl (List.cons_ne_nil _ _) (Nat.le_of_ble_eq_true rfl) rfl fun H125 hW126 => ?_
      have hH127 := hH124.wr0 hW126
      refine O_p (.b false) (r_mv rfl) ?_
      refine O_nil ?_
      refine C_seq ?_
      refine C_seq ?_
      refine C_region ?_
      refine O_p (.b false) (r_mv rfl) ?_
      refine O_p (.b true) (r_un rfl rfl) ?_
      refine O_nil ?_
      refine C_cond (x := true) rfl (fun _ => ?_) (fun h => by cases h)
      refine C_exit ?_
      refine nx_exit ?_
      refine bk_miss (by decide) ?_
      refine nx_exit ?_
      refine bk_hit ?_
      refine C_seq ?_
      refine C_region ?_
      refine O_p (.b true) (r_mv hT107) ?_
      refine O_p (.b true) (r_mv rfl) ?_
      have hn2 : n = 2 * (1 + q1) := hend
      have hr0 := hp42.1
      have hr1 := hp43.1
      rw [wB_len] at hr0
      rw [wA_len] at hr1
      refine O_gk rfl ?_
      refine O_p (.i .i64 (((((n + 1) / 2) : Nat)) : Int)) (r_mv hT110) ?_
      refine O_gk rfl ?_
      refine O_p (.i .i64 (1 + (((q1 : Nat)) : Int))) (r_mv hT108) ?_
      refine O_gk rfl ?_
      refine O_p (.b true) (by exact (by rw [r_eql rfl rfl, decide_eq_true (by omega)])) ?_
      refine O_p (.b true) (r_pick_t rfl rfl) ?_
      refine O_p (.b true) (r_mv rfl) ?_
      refine O_gk rfl ?_
      refine O_p (.i .i64 ((((n / 2) : Nat)) : Int)) (r_mv hT111) ?_
      refine O_gk rfl ?_
      refine O_p (.i .i64 (1 + (((q1 : Nat)) : Int))) (r_mv hT108) ?_
      refine O_gk rfl ?_
      refine O_p (.b true) (by exact (by rw [r_eql rfl rfl, decide_eq_true (by omega)])) ?_
      refine O_p (.b true) (r_pick_t rfl rfl) ?_
      refine O_p (.b true) (r_mv rfl) ?_
      refine O_gk rfl ?_
      refine O_p (.p (some (F5, 0))) (r_mv hT109) ?_
      refine O_gk rfl ?_
      have hall128 : ∀ x ∈ ([(lrowS true spk0 (skB b i) v0 0), (lrowS true (skA a i) spk0 v1 0), (lrowS true (skA a i) (skB b i) vz 0)] : List (List AV)), x.length = 67 := fun x hx => by simp only [List.mem_cons, List.not_mem_nil, or_false] at hx; rcases hx with rfl | rfl | rfl <;> rfl
      have hH129 := ((hH127.top2).top2)
      have hH130 : Hs H125 ([(F5, some (.cells ([(.sl (some (Lb6, 0)) 3 3 0), (.i .i64 (((64) : Nat) : Int))]) true))] ++ ([(Lb6, some (.cells ((([(lrowS true spk0 (skB b i) v0 0), (lrowS true (skA a i) spk0 v1 0), (lrowS true (skA a i) (skB b i) vz 0)] : List (List AV)).set 0 (lrowS true spk0 (skB b i) v0 0)).flatten) true))] ++ ([(n121, some (.cells ([(.b false), (.i .u8 0), (.i .u16 0), (.i .u32 0), (.i .u32 0), (.sl none 0 0 0)]) true))] ++ ((qseg vz cz) ++ ((qseg v0 c0) ++ ((qseg v1 c1) ++ ([]))))))) := hH129
      have hH131 := ((hH130.top1).top1)
      refine O_call (Ev.mono (waiting_ev (np := 3) (i := 0) (rws := ([(lrowS true spk0 (skB b i) v0 0), (lrowS true (skA a i) spk0 v1 0), (lrowS true (skA a i) (skB b i) vz 0)] : List (List AV))) (by decide) hall128 (Nat.le_of_ble_eq_true rfl) hp39 hp42.lens hH131) fun v132 H133 hq134 => ?_)
      obtain ⟨rfl, hH135⟩ := hq134
      refine O_gk rfl ?_
      refine O_p (.i .i64 (1 + (((q1 : Nat)) : Int))) (r_mv hT108) ?_
      refine O_gk rfl ?_
      refine O_p (.b true) (by exact (by rw [r_eql rfl rfl, decide_eq_true (by omega)])) ?_
      refine O_p (.b true) (r_pick_t rfl rfl) ?_
      refine O_p (.b true) (r_mv rfl) ?_
      refine O_gk rfl ?_
      refine O_p (.p (some (F5, 0))) (r_mv hT109) ?_
      refine O_gk rfl ?_
      have hall136 : ∀ x ∈ ([(lrowS true spk0 (skB b i) v0 0), (lrowS true (skA a i) spk0 v1 0), (lrowS true (skA a i) (skB b i) vz 0)] : List (List AV)), x.length = 67 := fun x hx => by simp only [List.mem_cons, List.not_mem_nil, or_false] at hx; rcases hx with rfl | rfl | rfl <;> rfl
      have hH137 := ((hH135.top1).top1)
      have hH138 : Hs H133 ([(F5, some (.cells ([(.sl (some (Lb6, 0)) 3 3 0), (.i .i64 (((64) : Nat) : Int))]) true))] ++ ([(Lb6, some (.cells ((([(lrowS true spk0 (skB b i) v0 0), (lrowS true (skA a i) spk0 v1 0), (lrowS true (skA a i) (skB b i) vz 0)] : List (List AV)).set 1 (lrowS true (skA a i) spk0 v1 0)).flatten) true))] ++ ([(n121, some (.cells ([(.b false), (.i .u8 0), (.i .u16 0), (.i .u32 0), (.i .u32 0), (.sl none 0 0 0)]) true))] ++ ((qseg vz cz) ++ ((qseg v0 c0) ++ ((qseg v1 c1) ++ ([]))))))) := hH137
      have hH139 := ((hH138.top1).top1)
      refine O_call (Ev.mono (waiting_ev (np := 3) (i := 1) (rws := ([(lrowS true spk0 (skB b i) v0 0), (lrowS true (skA a i) spk0 v1 0), (lrowS true (skA a i) (skB b i) vz 0)] : List (List AV))) (by decide) hall136 (Nat.le_of_ble_eq_true rfl) hp40 hp43.lens hH139) fun v140 H141 hq142 => ?_)
      obtain ⟨rfl, hH143⟩ := hq142
      refine O_gk rfl ?_
      refine O_p (.i .i64 (1 + (((q1 : Nat)) : Int))) (r_mv hT108) ?_
      refine O_gk rfl ?_
      refine O_p (.b true) (by exact (by rw [r_eql rfl rfl, decide_eq_true (by omega)])) ?_
      refine O_p (.b true) (r_pick_t rfl rfl) ?_
      refine O_p (.b true) (r_mv rfl) ?_
      refine O_nil ?_
      refine C_ret ?_
      exact ⟨.inr rfl, _, resL_one (r_tmp (v := .b true) rfl), rfl⟩
    ·
      have hdW : (wAB (1 + q1)).drop n = (if n % 2 = 0 then pkA (n / 2) else pkB (n / 2)) :: (wAB (1 + q1)).drop (n + 1) := by
        have h1 := wAB_at (1 + q1) n (by omega)
        obtain ⟨h2, h3⟩ := List.getElem?_eq_some_iff.1 h1
        rw [List.drop_eq_getElem_cons h2, h3]
      have hp0 := hp105
      rw [hdW] at hp0
      obtain ⟨r0, rz, rfl⟩ : ∃ r rz, rowz = r :: rz := by
        cases rowz with
        | nil => have := hp0.1; simp at this
        | cons r rz => exact ⟨r, rz, rfl⟩
      have hl60 := hp0.lens
      have hpt := hp0.tail
      obtain ⟨rr, hrr, hpk⟩ := hp0.2 0 _ rfl
      simp only [List.getElem?_cons_zero, Option.some.injEq] at hrr
      subst hrr
      by_cases hpar : n % 2 = 0
      ·
        rw [if_pos hpar] at hpk
        obtain ⟨ka, kc, kg, rfl, _⟩ := hpk
        refine C_region ?_
        refine O_p (.p (some (F5, 0))) (r_mv hT109) ?_
        have hall144 : ∀ x ∈ ([(lrowS true spk0 (skB b i) v0 0), (lrowS true (skA a i) spk0 v1 0), (lrowS true (skA a i) (skB b i) vz 0)] : List (List AV)), x.length = 67 := fun x hx => by simp only [List.mem_cons, List.not_mem_nil, or_false] at hx; rcases hx with rfl | rfl | rfl <;> rfl
        have hH145 := (((hH112.top4).top2).top2)
        have hH146 : Hs H100 ([(F5, some (.cells ([(.sl (some (Lb6, 0)) 3 3 0), (.i .i64 (((64) : Nat) : Int))]) true))] ++ ([(Lb6, some (.cells ((([(lrowS true spk0 (skB b i) v0 0), (lrowS true (skA a i) spk0 v1 0), (lrowS true (skA a i) (skB b i) vz 0)] : List (List AV)).set 2 (lrowS true (skA a i) (skB b i) vz 0)).flatten) true))] ++ ((qseg vz cz) ++ ((qseg v0 c0) ++ ((qseg v1 c1) ++ ([])))))) := hH145
        have hH147 := (((hH146.top2).top2).top2)
        refine O_call (Ev.mono (pull_ev (np := 3) (i := 2) (rws := ([(lrowS true spk0 (skB b i) v0 0), (lrowS true (skA a i) spk0 v1 0), (lrowS true (skA a i) (skB b i) vz 0)] : List (List AV))) (by decide) hall144 (Nat.le_of_ble_eq_true rfl) hp104 hl60 hH147) fun v148 H149 hq150 => ?_)
        obtain ⟨v151, c152, rfl, hsq153, hH154⟩ := hq150
        refine O_p (.tup [(.agg [(.b false), (.i .u8 0), (.i .u16 (((n / 2) : Nat) : Int)), (.i .u32 0), (.i .u32 1), (.sl ka 0 kc kg)]), (.b true)]) (r_mv rfl) ?_
        refine O_p (.agg [(.b false), (.i .u8 0), (.i .u16 (((n / 2) : Nat) : Int)), (.i .u32 0), (.i .u32 1), (.sl ka 0 kc kg)]) (r_ext rfl rfl) ?_
        refine O_p (.b true) (r_ext rfl rfl) ?_
        refine O_alloc fun n155 H156 hN157 => ?_
        have hH158 := hH154.new hN157
        refine O_store (vs := [(.b false), (.i .u8 0), (.i .u16 (((n / 2) : Nat) : Int)), (.i .u32 0), (.i .u32 1), (.sl ka 0 kc kg)]) (c' := [(.b false), (.i .u8 0), (.i .u16 (((n / 2) : Nat) : Int)), (.i .u32 0), (.i .u32 1), (.sl ka 0 kc kg)]) rfl (by rfl) hH158.get0 rfl (List.cons_ne_nil _ _) (Nat.le_of_ble_eq_true rfl) rfl fun H159 hW160 => ?_
        have hH161 := hH158.wr0 hW160
        refine O_p (.b true) (r_mv rfl) ?_
        refine O_nil ?_
        refine C_seq ?_
        refine C_seq ?_
        refine C_region ?_
        refine O_p (.b true) (r_mv rfl) ?_
        refine O_p (.b false) (r_un rfl rfl) ?_
        refine O_nil ?_
        refine C_cond (x := false) rfl (fun h => by cases h) (fun _ => ?_)
        refine C_skip ?_
        refine C_seq ?_
        refine C_region ?_
        refine O_p (.p (some (n155, 4))) (r_fadd' rfl rfl) ?_
        refine O_p (.i .u32 1) (r_ld rfl hH161.get0 rfl) ?_
        refine O_p (.b true) (by exact (by rw [r_eql rfl rfl, decide_eq_true (by decide)])) ?_
        refine O_p (.b true) (r_mv rfl) ?_
        refine O_gk rfl ?_
        refine O_p (.p (some (n155, 2))) (r_fadd' rfl rfl) ?_
        refine O_gk rfl ?_
        refine O_p (.i .u16 (((n / 2) : Nat) : Int)) (r_ld rfl hH161.get0 rfl) ?_
        refine O_gk rfl ?_
        refine O_p (.i .i64 (((n / 2) : Nat) : Int)) (by exact (r_cint' rfl (wrap_i64 (by omega) (by omega)))) ?_
        refine O_gk rfl ?_
        refine O_p (.i .i64 (((((n + 1) / 2) : Nat)) : Int)) (r_mv hT110) ?_
        refine O_gk rfl ?_
        refine O_p (.b true) (by exact (by rw [r_eql rfl rfl, decide_eq_true (by omega)])) ?_
        refine O_p (.b true) (r_pick_t rfl rfl) ?_
        refine O_nil ?_
        refine C_cond (x := true) rfl (fun _ => ?_) (fun h => by cases h)
        refine C_region ?_
        refine O_p (.i .i64 (((((n + 1) / 2) : Nat)) : Int)) (r_mv hT110) ?_
        refine O_p (.i .i64 ((((((n + 1) / 2) : Nat)) : Int) + 1)) (by exact (r_addi rfl rfl (wrap_i64 (by omega) (by omega)))) ?_
        refine O_p (.i .i64 ((((((n + 1) / 2) : Nat)) : Int) + 1)) (r_mv rfl) ?_
        refine O_nil ?_
        have hH162 := (hH161.sub0)
        have hH163 := (((((hH162.top2).top4).top4).top4).top4)
        exact ⟨2 * (1 + q1) - (n + 1), by omega, v151, c152, rz, (n + 1), rfl, by omega, hsq153, by rw [← List.drop_drop, hdW] at *; exact hpt, hH163, hT106, hT107, hT108, hT109, (by rw [show (n + 1 + 1) / 2 = (n + 1) / 2 + 1 by omega]; rfl), (by rw [show (n + 1) / 2 = n / 2 by omega]; exact hT111)⟩
      ·
        rw [if_neg hpar] at hpk
        obtain ⟨ka, kc, kg, rfl, _⟩ := hpk
        refine C_region ?_
        refine O_p (.p (some (F5, 0))) (r_mv hT109) ?_
        have hall164 : ∀ x ∈ ([(lrowS true spk0 (skB b i) v0 0), (lrowS true (skA a i) spk0 v1 0), (lrowS true (skA a i) (skB b i) vz 0)] : List (List AV)), x.length = 67 := fun x hx => by simp only [List.mem_cons, List.not_mem_nil, or_false] at hx; rcases hx with rfl | rfl | rfl <;> rfl
        have hH165 := (((hH112.top4).top2).top2)
        have hH166 : Hs H100 ([(F5, some (.cells ([(.sl (some (Lb6, 0)) 3 3 0), (.i .i64 (((64) : Nat) : Int))]) true))] ++ ([(Lb6, some (.cells ((([(lrowS true spk0 (skB b i) v0 0), (lrowS true (skA a i) spk0 v1 0), (lrowS true (skA a i) (skB b i) vz 0)] : List (List AV)).set 2 (lrowS true (skA a i) (skB b i) vz 0)).flatten) true))] ++ ((qseg vz cz) ++ ((qseg v0 c0) ++ ((qseg v1 c1) ++ ([])))))) := hH165
        have hH167 := (((hH166.top2).top2).top2)
        refine O_call (Ev.mono (pull_ev (np := 3) (i := 2) (rws := ([(lrowS true spk0 (skB b i) v0 0), (lrowS true (skA a i) spk0 v1 0), (lrowS true (skA a i) (skB b i) vz 0)] : List (List AV))) (by decide) hall164 (Nat.le_of_ble_eq_true rfl) hp104 hl60 hH167) fun v168 H169 hq170 => ?_)
        obtain ⟨v171, c172, rfl, hsq173, hH174⟩ := hq170
        refine O_p (.tup [(.agg [(.b false), (.i .u8 0), (.i .u16 ((2 * (n / 2) : Nat) : Int)), (.i .u32 0), (.i .u32 2), (.sl ka 0 kc kg)]), (.b true)]) (r_mv rfl) ?_
        refine O_p (.agg [(.b false), (.i .u8 0), (.i .u16 ((2 * (n / 2) : Nat) : Int)), (.i .u32 0), (.i .u32 2), (.sl ka 0 kc kg)]) (r_ext rfl rfl) ?_
        refine O_p (.b true) (r_ext rfl rfl) ?_
        refine O_alloc fun n175 H176 hN177 => ?_
        have hH178 := hH174.new hN177
        refine O_store (vs := [(.b false), (.i .u8 0), (.i .u16 ((2 * (n / 2) : Nat) : Int)), (.i .u32 0), (.i .u32 2), (.sl ka 0 kc kg)]) (c' := [(.b false), (.i .u8 0), (.i .u16 ((2 * (n / 2) : Nat) : Int)), (.i .u32 0), (.i .u32 2), (.sl ka 0 kc kg)]) rfl (by rfl) hH178.get0 rfl (List.cons_ne_nil _ _) (Nat.le_of_ble_eq_true rfl) rfl fun H179 hW180 => ?_
        have hH181 := hH178.wr0 hW180
        refine O_p (.b true) (r_mv rfl) ?_
        refine O_nil ?_
        refine C_seq ?_
        refine C_seq ?_
        refine C_region ?_
        refine O_p (.b true) (r_mv rfl) ?_
        refine O_p (.b false) (r_un rfl rfl) ?_
        refine O_nil ?_
        refine C_cond (x := false) rfl (fun h => by cases h) (fun _ => ?_)
        refine C_skip ?_
        refine C_seq ?_
        refine C_region ?_
        refine O_p (.p (some (n175, 4))) (r_fadd' rfl rfl) ?_
        refine O_p (.i .u32 2) (r_ld rfl hH181.get0 rfl) ?_
        refine O_p (.b false) (by exact (by rw [r_eql rfl rfl, decide_eq_false (by decide)])) ?_
        refine O_p (.b false) (r_mv rfl) ?_
        refine O_gf rfl ?_
        refine O_gf rfl ?_
        refine O_gf rfl ?_
        refine O_gf rfl ?_
        refine O_gf rfl ?_
        refine O_p (.b false) (r_pick_f rfl rfl) ?_
        refine O_nil ?_
        refine C_cond (x := false) rfl (fun h => by cases h) (fun _ => ?_)
        refine C_seq ?_
        refine C_region ?_
        refine O_p (.p (some (n175, 4))) (r_fadd' rfl rfl) ?_
        refine O_p (.i .u32 2) (r_ld rfl hH181.get0 rfl) ?_
        refine O_p (.b true) (by exact (by rw [r_eql rfl rfl, decide_eq_true (by decide)])) ?_
        refine O_p (.b true) (r_mv rfl) ?_
        refine O_gk rfl ?_
        refine O_p (.p (some (n175, 2))) (r_fadd' rfl rfl) ?_
        refine O_gk rfl ?_
        refine O_p (.i .u16 ((2 * (n / 2) : Nat) : Int)) (r_ld rfl hH181.get0 rfl) ?_
        refine O_gk rfl ?_
        refine O_p (.i .i64 ((2 * (n / 2) : Nat) : Int)) (by exact (r_cint' rfl (wrap_i64 (by omega) (by omega)))) ?_
        refine O_gk rfl ?_
        refine O_p (.i .i64 ((((n / 2) : Nat)) : Int)) (r_mv hT111) ?_
        refine O_gk rfl ?_
        refine O_p (.i .i64 (2 * ((((n / 2) : Nat)) : Int))) (by exact (r_muli rfl rfl (wrap_i64 (by omega) (by omega)))) ?_
        refine O_gk rfl ?_
        refine O_p (.b true) (by exact (by rw [r_eql rfl rfl, decide_eq_true (by omega)])) ?_
        refine O_p (.b true) (r_pick_t rfl rfl) ?_
        refine O_nil ?_
        refine C_cond (x := true) rfl (fun _ => ?_) (fun h => by cases h)
        refine C_region ?_
        refine O_p (.i .i64 ((((n / 2) : Nat)) : Int)) (r_mv hT111) ?_
        refine O_p (.i .i64 (((((n / 2) : Nat)) : Int) + 1)) (by exact (r_addi rfl rfl (wrap_i64 (by omega) (by omega)))) ?_
        refine O_p (.i .i64 (((((n / 2) : Nat)) : Int) + 1)) (r_mv rfl) ?_
        refine O_nil ?_
        have hH182 := (hH181.sub0)
        have hH183 := (((((hH182.top2).top4).top4).top4).top4)
        exact ⟨2 * (1 + q1) - (n + 1), by omega, v171, c172, rz, (n + 1), rfl, by omega, hsq173, by rw [← List.drop_drop, hdW] at *; exact hpt, hH183, hT106, hT107, hT108, hT109, (by rw [show (n + 1 + 1) / 2 = (n + 1) / 2 by omega]; exact hT110), (by rw [show (n + 1) / 2 = n / 2 + 1 by omega]; rfl)⟩
set_option maxRecDepth 100000 in
theorem law3 (W : World) (ρ : Rho) (H : AH) (xs : List AV) (args : Array Value) (hR : Rel Try.prog W.heap.size W ρ H W) (hro : RO H) (hv : VRL ρ xs args.toList) (ht : TypedVs Try.prog H 9 Try.f3.params.toList xs) :
    Calls Try.prog 3 args W fun e w' => e = .returned (.bool true) ∧ Below W.heap.size W w' := by
  rw [Try.params3] at ht
  obtain ⟨a0, xs, rfl, g0, a1, xs, rfl, g1, a2, xs, rfl, g2, rfl⟩ := ht
  obtain ⟨a, rfl, wa⟩ := typedV_int Try.underlying22 g0
  obtain ⟨b, rfl, wb⟩ := typedV_int Try.underlying22 g1
  obtain ⟨n0, rfl, wn0⟩ := typedV_int Try.underlying3 g2
  obtain ⟨k, v, H', hex, rfl⟩ := run3 H hR.aok a b n0
  exact law_of mixed tabA_ok spA_ok hex hR hv
end Go.Proofs.Ythmiglahfkfcaaa.E
namespace Go.Proofs.Ythmiglahfkfcaaa.audioMany
open Go.ChangeShapes Go.WideShapes Go.RowKit
set_option linter.unusedVariables false
theorem own : ownKnob Try.prog.godebug = none := by kernel_rfl
theorem types : (Try.f3.params.toList.all fun t => E.fit Try.prog 9 t && (Try.prog.readableRec t && decide (t < Try.prog.types.size))) = true := by kernel_rfl
set_option maxRecDepth 100000 in
theorem lifted (os : Os) (started : os.Started) (H : Type) (enc : TypeId × Value → H) :
    ReturnsInHanded {} Try.checked os 3 .any (Rows.audioManySpec.pre6 enc Try.prog Try.f3 Rows.audioManyRow.domain false) (Rows.audioManySpec.post enc Try.prog Try.f3 false true false false) :=
  E.law_lifted (C := Try.checked) (k := 9) (tb := 4) E.globals0 E.laid own started (by kernel_rfl) Try.func3
    (ChangeSpec.witness6 (enc := enc) (C := Try.checked) false ⟨#[], #[.int .u16 0, .int .u16 0, .int .i64 0], []⟩ 8 (by kernel_rfl) (by kernel_rfl) (by kernel_rfl) (by kernel_rfl))
    rfl rfl Try.underlying4 (fun t ht => by have h := List.all_eq_true.1 types t ht; simp only [Bool.and_eq_true, decide_eq_true_eq] at h; exact h)
    (fun ds hd => by
      rw [Try.params3] at hd
      match ds, hd with
      | [d0, d1, d2], _ => rfl) E.law3
theorem over : Rows.audioManyRow.holds Try.pinned (OpenSpec.ofChange Rows.audioManySpec) :=
  OpenClaim.holds_of_wide 3 Try.f3 rfl rfl rfl rfl rfl rfl rfl ⟨rfl, rfl, rfl, rfl, rfl⟩ rfl rfl rfl rfl rfl (by kernel_rfl) Try.func3 (by kernel_rfl)
    (of_decide_eq_true (by kernel_rfl)) (by unfold Func.isWrapper; first | (rw [if_pos (by decide +kernel)]; kernel_rfl) | (rw [if_neg (by decide +kernel)]; exact ⟨rfl, rfl⟩))
    (fun os started H enc _ => lifted os started H enc)
end Go.Proofs.Ythmiglahfkfcaaa.audioMany
namespace Go.Proofs.Ythmiglahfkfcaaa
/-- The row, under a short name, for the claim. -/
theorem audioMany_holds : Rows.AudioManySaid := audioMany.over
#print axioms audioMany_holds
end Go.Proofs.Ythmiglahfkfcaaa
