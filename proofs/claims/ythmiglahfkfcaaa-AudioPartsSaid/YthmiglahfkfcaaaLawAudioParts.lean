/- AudioParts, for every input, without conditions. -/
import Derived.Test.YthmiglahfkfcaaaH3
import Derived.Test.YthmiglahfkfcaaaRows
import Derived.ProofKit
import Derived.OpenShut
namespace Go.Proofs.Ythmiglahfkfcaaa.E
open Go.RowKit (Below)
set_option linter.unusedVariables false
set_option linter.unusedSimpArgs false
def octs (i : Nat) : List UInt8 := [UInt8.ofNat (i % 256), UInt8.ofNat (i / 256 % 256)]
def pkP (sq : List Int) (f : Int) (j : Nat) : Pk := ⟨decide (((j % 2 : Nat) : Int) = 0), 5, (sq.getD j 0 - f) % 65536, ((j : Nat) : Int), 1, octs j⟩
def pIn (sq : List Int) (src : Int) (i : Nat) : Pk := ⟨decide (((i % 2 : Nat) : Int) = 0), 5, sq.getD i 0, ((i : Nat) : Int), src, octs i⟩
theorem u8_lo (i : Nat) : ((UInt8.ofNat (i % 256)).toNat : Int) = IntKind.u8.wrap ((i : Nat) : Int) := by
  rw [wrap_u8, UInt8.toNat_ofNat']; omega
theorem u8_hi (i : Nat) : ((UInt8.ofNat (i / 256 % 256)).toNat : Int) = IntKind.u8.wrap (Int.fdiv ((i : Nat) : Int) (2 ^ 8)) := by
  rw [wrap_u8, UInt8.toNat_ofNat', Int.fdiv_eq_ediv_of_nonneg _ (by decide)]; omega
theorem octs2 {H : AH} {n : Nat} {mu : Bool} {i : Nat} (h : H.get n = some (.cells [.i .u8 ((UInt8.ofNat (i % 256)).toNat : Int), .i .u8 ((UInt8.ofNat (i / 256 % 256)).toNat : Int)] mu)) : Bs H (.sl (some (n, 0)) 2 2 0) (octs i) := Bs.mk (cap := 2) (g := 0) (l := octs i) h rfl
theorem seq_row {sq : List Int} {k : IntKind} {i : Nat} (h : i < sq.length) : (sq.map fun x => [AV.i k x])[i]? = some [.i k (sq.getD i 0)] := by
  rw [List.getElem?_map, List.getElem?_eq_getElem h, List.getD_eq_getElem?_getD, List.getElem?_eq_getElem h]; rfl
theorem handP {sq : List Int} {f src : Int} {s : Spk} {room : Nat} {js : List Nat} {l : Int} {i : Nat} (h0 : i = 0 → s = spk0) (h1 : 0 < i → s.k = true ∧ s.src = src ∧ s.new = (s.own - f) % 65536) (hf : i = 0 → f = sq.getD 0 0) (hl : 0 ≤ l ∧ l ≤ i) :
    ∃ s' js' l' b, handW s room (js.map (pkP sq f)) l 1 (pIn sq src i) = (s', js'.map (pkP sq f), l', b) ∧ (s'.k = true ∧ s'.src = src ∧ s'.new = (s'.own - f) % 65536) ∧ (js' = js ∨ js' = js ++ [i]) ∧ 0 ≤ l' ∧ l' ≤ l + 1 := by
  have key : (s.next (pIn sq src i).seq (pIn sq src i).src).2 = true → (s.next (pIn sq src i).seq (pIn sq src i).src).1 = (sq.getD i 0 - f) % 65536 := by
    intro _
    unfold Spk.next pIn
    by_cases hi : i = 0
    · rw [h0 hi, hf hi, hi]
      simp [spk0]
    · obtain ⟨k1, k2, k3⟩ := h1 (by omega)
      rw [if_pos k1, if_pos k2, k3]
      simp only [wrap_u16]; omega
  unfold handW
  by_cases hn : (s.next (pIn sq src i).seq (pIn sq src i).src).2 = false
  · rw [if_pos hn]
    have hi : 0 < i := by
      rcases Nat.eq_zero_or_pos i with hi | hi
      · rw [h0 hi] at hn
        unfold Spk.next spk0 at hn
        simp at hn
      · exact hi
    exact ⟨s, js, l, false, rfl, h1 hi, .inl rfl, hl.1, by omega⟩
  · have hk := key (by simpa using hn)
    rw [if_neg hn]
    by_cases hr : (js.map (pkP sq f)).length < room
    · rw [if_pos hr]
      have e : js.map (pkP sq f) ++ [{ pIn sq src i with seq := (s.next (pIn sq src i).seq (pIn sq src i).src).1, src := 1 }] = (js ++ [i]).map (pkP sq f) := by
        rw [List.map_append, List.map_cons, List.map_nil, hk]; rfl
      exact ⟨⟨true, (pIn sq src i).src, (pIn sq src i).seq, (s.next (pIn sq src i).seq (pIn sq src i).src).1⟩, js ++ [i], l, true, by rw [e], ⟨rfl, rfl, by show _ = (sq.getD i 0 - f) % 65536; exact hk⟩, .inr rfl, hl.1, by omega⟩
    · rw [if_neg hr]
      exact ⟨_, js, l + 1, false, rfl, ⟨rfl, rfl, by show _ = (sq.getD i 0 - f) % 65536; exact hk⟩, .inl rfl, by omega, by omega⟩
theorem js_next {js js' : List Nat} {i att : Nat} (hp : js.Pairwise (· < ·)) (hr : ∀ x ∈ js, att ≤ x ∧ x < i) (ha : att ≤ i) (hl : js.length ≤ i) (h : js' = js ∨ js' = js ++ [i]) : js'.Pairwise (· < ·) ∧ (∀ x ∈ js', att ≤ x ∧ x < i + 1) ∧ js'.length ≤ i + 1 := by
  rcases h with rfl | rfl
  · exact ⟨hp, fun x hx => ⟨(hr x hx).1, by have := (hr x hx).2; omega⟩, by omega⟩
  · refine ⟨List.pairwise_append.2 ⟨hp, List.pairwise_singleton _ _, fun a hma b hb => ?_⟩, fun x hx => ?_, by rw [List.length_append]; simp; omega⟩
    · rw [List.mem_singleton] at hb; rw [hb]; exact (hr a hma).2
    · rcases List.mem_append.1 hx with hx | hx
      · have := hr x hx; omega
      · rw [List.mem_singleton] at hx; omega
theorem ints_ex {k : IntKind} : ∀ {rows : List (List AV)}, (∀ (i : Nat) (r : List AV), rows[i]? = some r → ∃ x, r = [AV.i k x]) → ∃ l : List Int, rows = l.map fun x => [AV.i k x]
  | [], _ => ⟨[], rfl⟩
  | r :: rows, h => by
    obtain ⟨x, rfl⟩ := h 0 r rfl
    obtain ⟨l, rfl⟩ := ints_ex (rows := rows) fun i r hi => h (i + 1) r (by simpa using hi)
    exact ⟨x :: l, rfl⟩
theorem same14_ev {H : AH} {B R : HL} {va vb : AV} {l : List UInt8} (ha : ∀ H', Hs H' B → Bs H' va l) (hb : ∀ H', Hs H' B → Bs H' vb l) (hH0 : Hs H (B ++ R)) : Ev tabA spA (.fn (.func 14) [] []) [va, vb] H (fun r H' => r = .b true ∧ Hs H' (B ++ R)) := by
  refine Ev_C (F := x14) rfl ?_
  refine C_seq ?_
  refine C_region ?_
  refine O_p (.b false) (r_mv rfl) ?_
  refine O_nil ?_
  refine C_seq ?_
  refine C_region ?_
  refine O_p va (r_mv rfl) ?_
  refine O_p (.s (txt l)) ((ha _ hH0.top0.fst).text rfl) ?_
  refine O_p vb (r_mv rfl) ?_
  refine O_p (.s (txt l)) ((hb _ hH0.top0.fst).text rfl) ?_
  refine O_p (.b true) (by exact (by rw [r_eqt (a := l) (b := l) rfl rfl, decide_eq_true rfl])) ?_
  refine O_p (.b true) (r_mv rfl) ?_
  refine O_nil ?_
  refine C_ret ?_
  exact ⟨.inr rfl, _, resL_one (r_tmp (v := (.b true)) rfl), rfl, hH0⟩
set_option maxRecDepth 100000 in
set_option maxHeartbeats 4000000 in
theorem run4 (H0 : AH) (hok0 : H0.Ok) (room source : Int) (sv pv : AV) (sq pl : List Int) (hsv : ∀ H', Hs H' (allL H0) → Rw 1 H' sv (sq.map fun x => [AV.i .u16 x])) (hpv : ∀ H', Hs H' (allL H0) → Rw 1 H' pv (pl.map fun x => [AV.i .i64 x])) : Ev tabA spA (.fn (.func 4) [] []) [.i .i64 room, .i .u32 source, sv, pv] H0 (fun v _ => v = .b true) := by
  have hH0 := allL_hs hok0
  refine Ev_C (F := x4) rfl ?_
  refine C_seq ?_
  refine C_region ?_
  refine O_p (.b false) (r_mv rfl) ?_
  refine O_nil ?_
  refine C_seq ?_
  refine C_region ?_
  refine O_call (Ev_sp (v := (.b true)) rfl rfl ?_)
  refine O_p (.b true) (r_mv rfl) ?_
  refine O_nil ?_
  refine C_seq ?_
  refine C_seq ?_
  refine C_region ?_
  refine O_p sv (r_mv rfl) ?_
  refine O_p (.i .i64 (((sq.length : Nat)) : Int)) (r_lenOf (v := sv) (n := sq.length) rfl ((hsv _ hH0.top0.fst).lenOf (List.length_map ..)) (hsv _ hH0.top0.fst).isSl) ?_
  refine O_p (.b (decide (100 < (((sq.length : Nat)) : Int)))) (r_gtr rfl rfl) ?_
  refine O_p (.b (decide (100 < (((sq.length : Nat)) : Int)))) (r_mv rfl) ?_
  refine O_gx (e := (!(decide (100 < (((sq.length : Nat)) : Int))))) (v := pv) (wf rfl) (fun he => (r_mv rfl)) ?_
  refine O_gx (e := (!(decide (100 < (((sq.length : Nat)) : Int))))) (v := (.i .i64 (((pl.length : Nat)) : Int))) (wf rfl) (fun he => (r_lenOf (v := pv) (n := pl.length) (cond_pos he) ((hpv _ hH0.top0.fst).lenOf (List.length_map ..)) (hpv _ hH0.top0.fst).isSl)) ?_
  refine O_gx (e := (!(decide (100 < (((sq.length : Nat)) : Int))))) (v := (.b (decide (200 < (((pl.length : Nat)) : Int))))) (wf rfl) (fun he => (r_gtr (cond_pos he) rfl)) ?_
  refine O_p (.b ((decide (100 < (((sq.length : Nat)) : Int))) || (decide (200 < (((pl.length : Nat)) : Int))))) (r_pick_or rfl rfl rfl rfl) ?_
  refine O_nil ?_
  refine C_cond (x := ((decide (100 < (((sq.length : Nat)) : Int))) || (decide (200 < (((pl.length : Nat)) : Int))))) rfl (fun hc1 => ?_) (fun hc1 => ?_)
  ·
    try simp only [decide_eq_true_eq, decide_eq_false_iff_not, Bool.not_eq_true', Bool.not_eq_false', Bool.and_eq_true, Bool.or_eq_true, Bool.or_eq_false_iff, Bool.not_not, Bool.and_eq_false_iff] at hc1
    refine C_seq ?_
    refine C_region ?_
    refine O_p (.b true) (r_mv rfl) ?_
    refine O_p (.b true) (r_mv rfl) ?_
    refine O_nil ?_
    refine C_ret ?_
    refine nx_ret ?_
    exact ⟨.inr rfl, _, resL_one (r_tmp (v := .b true) rfl), rfl⟩
  ·
    try simp only [decide_eq_true_eq, decide_eq_false_iff_not, Bool.not_eq_true', Bool.not_eq_false', Bool.and_eq_true, Bool.or_eq_true, Bool.or_eq_false_iff, Bool.not_not, Bool.and_eq_false_iff] at hc1
    refine C_skip ?_
    refine C_seq ?_
    refine C_region ?_
    refine O_p (.i .i64 room) (r_mv rfl) ?_
    refine O_call (Ev.mono (new2_ev (room := room) hH0) fun v2 H3 hq4 => ?_)
    obtain ⟨F5, Lb6, rfl, hH7⟩ := hq4
    refine O_p (.p (some (F5, 0))) (r_mv rfl) ?_
    refine O_nil ?_
    refine C_seq ?_
    refine C_seq ?_
    refine C_region ?_
    refine O_p (.p (some (F5, 0))) (r_mv rfl) ?_
    have hall8 : ∀ x ∈ ([zrow, zrow] : List (List AV)), x.length = 67 := fun x hx => by simp only [List.mem_cons, List.not_mem_nil, or_false] at hx; rcases hx with rfl | rfl <;> rfl
    have hH9 := ((hH7.top1).top1)
    have hH10 : Hs H3 ([(F5, some (.cells ([(.sl (some (Lb6, 0)) 2 2 0), (.i .i64 (((clampR room) : Nat) : Int))]) true))] ++ ([(Lb6, some (.cells ((([zrow, zrow] : List (List AV)).set 0 zrow).flatten) true))] ++ ((allL H0) ++ ([])))) := hH9
    have hH11 := ((hH10.top1).top1)
    refine O_call (Ev.mono (listen_ev (np := 2) (i := 0) (rws := ([zrow, zrow] : List (List AV))) (by decide) hall8 (Nat.le_of_ble_eq_true rfl) hH11) fun v12 H13 hq14 => ?_)
    obtain ⟨rfl, hH15⟩ := hq14
    refine O_p (.b false) (r_bin rfl rfl rfl) ?_
    refine O_p (.b false) (r_mv rfl) ?_
    refine O_gk rfl ?_
    refine O_p (.p (some (F5, 0))) (r_mv rfl) ?_
    refine O_gk rfl ?_
    have hall16 : ∀ x ∈ ([(lrowS true spk0 spk0 (.sl none 0 0 0) 0), zrow] : List (List AV)), x.length = 67 := fun x hx => by simp only [List.mem_cons, List.not_mem_nil, or_false] at hx; rcases hx with rfl | rfl <;> rfl
    have hH17 := ((hH15.top1).top1)
    have hH18 : Hs H13 ([(F5, some (.cells ([(.sl (some (Lb6, 0)) 2 2 0), (.i .i64 (((clampR room) : Nat) : Int))]) true))] ++ ([(Lb6, some (.cells ((([(lrowS true spk0 spk0 (.sl none 0 0 0) 0), zrow] : List (List AV)).set 1 zrow).flatten) true))] ++ ((allL H0) ++ ([])))) := hH17
    have hH19 := ((hH18.top1).top1)
    refine O_call (Ev.mono (listen_ev (np := 2) (i := 1) (rws := ([(lrowS true spk0 spk0 (.sl none 0 0 0) 0), zrow] : List (List AV))) (by decide) hall16 (Nat.le_of_ble_eq_true rfl) hH19) fun v20 H21 hq22 => ?_)
    obtain ⟨rfl, hH23⟩ := hq22
    refine O_gk rfl ?_
    refine O_p (.b false) (r_bin rfl rfl rfl) ?_
    refine O_p (.b false) (r_pick_f rfl rfl) ?_
    refine O_nil ?_
    refine C_cond (x := false) rfl (fun h => by cases h) (fun _ => ?_)
    refine C_skip ?_
    refine C_seq ?_
    refine C_region ?_
    refine O_p (.i .i64 0) (r_mv rfl) ?_
    refine O_nil ?_
    refine C_seq ?_
    refine C_region ?_
    refine O_p (.i .u16 0) (r_mv rfl) ?_
    refine O_nil ?_
    refine C_seq ?_
    refine C_seq ?_
    refine C_region ?_
    refine O_p (.i .i64 0) (r_mv rfl) ?_
    refine O_nil ?_
    refine C_block ?_
    have hH24 := (((hH23.top2).top2).top2)
    refine C_while (fun m25 T26 H27 => ∃ f : Int, ∃ att : Nat, ∃ s : Spk, ∃ v : AV, ∃ c : List AV, ∃ rows : List (List AV), ∃ js : List Nat, ∃ l : Int, ∃ D : HL, ∃ i : Nat, m25 = sq.length - i ∧ i ≤ sq.length ∧ Sq 6 v c rows.flatten ∧ PksR D rows (js.map (pkP sq f)) ∧ (i = 0 → s = spk0) ∧ (0 < i → s.k = true ∧ s.src = source ∧ s.new = (s.own - f) % 65536) ∧ (0 < i → f = sq.getD 0 0) ∧ js.Pairwise (· < ·) ∧ (∀ x ∈ js, att ≤ x ∧ x < i) ∧ att ≤ i ∧ js.length ≤ i ∧ 0 ≤ l ∧ l ≤ i ∧ (i = sq.length → js = []) ∧ Hs H27 ([(F5, some (.cells ([(.sl (some (Lb6, 0)) 2 2 0), (.i .i64 (((clampR room) : Nat) : Int))]) true))] ++ ([(Lb6, some (.cells (([(lrowS true spk0 spk0 (.sl none 0 0 0) 0), (lrowS true s spk0 v l)] : List (List AV)).flatten) true))] ++ ((qseg v c) ++ (D ++ ((allL H0) ++ ([])))))) ∧ T26.get 0 = (.i .i64 room) ∧ T26.get 1 = (.i .u32 source) ∧ T26.get 2 = sv ∧ T26.get 3 = pv ∧ T26.get 8 = (.b false) ∧ T26.get 9 = (.b true) ∧ T26.get 10 = (.p (some (F5, 0))) ∧ T26.get 11 = (.i .i64 (((att : Nat)) : Int)) ∧ T26.get 12 = (.i .u16 f) ∧ T26.get 13 = (.i .i64 (((i : Nat)) : Int))) (fun m25 T26 H27 hI28 => ?_) sq.length _ _ ⟨0, 0, spk0, .sl none 0 0 0, [], [], [], 0, [], 0, rfl, Nat.zero_le _, Sq.nil, PksR.nil, fun _ => rfl, fun h => absurd h (Nat.lt_irrefl _), fun h => absurd h (Nat.lt_irrefl _), List.Pairwise.nil, fun x hx => absurd hx (List.not_mem_nil), Nat.le_refl _, Nat.zero_le _, Int.le_refl _, Int.le_refl _, fun _ => rfl, hH24, rfl, rfl, rfl, rfl, rfl, rfl, rfl, rfl, rfl, rfl⟩
    obtain ⟨f, att, s, v, c, rows, js, l, D, i, hm29, hp30, hp31, hp32, hp33, hp34, hp35, hp36, hp37, hp38, hp39, hp40, hp41, hp42, hH53, hT43, hT44, hT45, hT46, hT47, hT48, hT49, hT50, hT51, hT52⟩ := hI28
    refine C_seq ?_
    refine C_seq ?_
    refine C_region ?_
    refine O_p (.i .i64 (((i : Nat)) : Int)) (r_mv hT52) ?_
    refine O_p sv (r_mv hT45) ?_
    refine O_p (.i .i64 (((sq.length : Nat)) : Int)) (r_lenOf (v := sv) (n := sq.length) rfl ((hsv _ hH53.top4.fst).lenOf (List.length_map ..)) (hsv _ hH53.top4.fst).isSl) ?_
    refine O_p (.b (decide ((((i : Nat)) : Int) < (((sq.length : Nat)) : Int)))) (r_lss rfl rfl) ?_
    refine O_nil ?_
    refine C_cond (x := (decide ((((i : Nat)) : Int) < (((sq.length : Nat)) : Int)))) rfl (fun hc54 => ?_) (fun hc54 => ?_)
    ·
      try simp only [decide_eq_true_eq, decide_eq_false_iff_not, Bool.not_eq_true', Bool.not_eq_false', Bool.and_eq_true, Bool.or_eq_true, Bool.or_eq_false_iff, Bool.not_not, Bool.and_eq_false_iff] at hc54
      refine C_skip ?_
      refine C_seq ?_
      refine C_block ?_
      refine C_seq ?_
      refine C_seq ?_
      refine C_region ?_
      refine O_p (.i .i64 (((i : Nat)) : Int)) (r_mv hT52) ?_
      refine O_p (.b (decide ((((i : Nat)) : Int) = 0))) (r_eql rfl rfl) ?_
      refine O_nil ?_
      refine C_cond (x := (decide ((((i : Nat)) : Int) = 0))) rfl (fun hc55 => ?_) (fun hc55 => ?_)
      ·
        try simp only [decide_eq_true_eq, decide_eq_false_iff_not, Bool.not_eq_true', Bool.not_eq_false', Bool.and_eq_true, Bool.or_eq_true, Bool.or_eq_false_iff, Bool.not_not, Bool.and_eq_false_iff] at hc55
        refine C_region ?_
        refine O_p sv (r_mv hT45) ?_
        refine O_q (by exact Rw.row (hsv _ hH53.top4.fst) rfl (i := 0) rfl (r := [(.i .u16 (sq.getD 0 0))]) (seq_row (by omega))) fun v57 hv56 => ?_
        obtain ⟨rb58, ro59, rfl, hr60⟩ := hv56
        refine O_p (.i .u16 (sq.getD 0 0)) (r_ldR (q := 0) rfl (hr60 _ (hsv _ hH53.top4.fst)) rfl) ?_
        refine O_p (.i .u16 (sq.getD 0 0)) (r_mv rfl) ?_
        refine O_nil ?_
        refine C_seq ?_
        refine C_region ?_
        have hin : i < sq.length := by omega
        have hi0 : i = 0 := by omega
        have hjs0 : js = [] := List.eq_nil_iff_forall_not_mem.2 fun x hx => by have := hp37 x hx; omega
        have hprF : PksR D rows (js.map (pkP sq (sq.getD 0 0))) := by have h := hp32; rw [hjs0] at h ⊢; exact h
        have hF0 : (sq.getD 0 0) = sq.getD 0 0 := rfl
        have hs1 : 0 < i → s.k = true ∧ s.src = source ∧ s.new = (s.own - (sq.getD 0 0)) % 65536 := fun h => absurd hi0 (by omega)
        obtain ⟨s2, js2, l2, bb, hW, hs2, hj2, hl2a, hl2b⟩ := handP (sq := sq) (f := (sq.getD 0 0)) (src := source) (s := s) (room := clampR room) (js := js) (l := l) (i := i) hp33 hs1 (fun _ => hF0) ⟨hp40, hp41⟩
        obtain ⟨hpw2, hrg2, hln2⟩ := js_next hp36 hp37 hp38 hp39 hj2
        refine O_p (.p (some (F5, 0))) (r_mv hT49) ?_
        refine O_p (.i .i64 (((i : Nat)) : Int)) (r_mv hT52) ?_
        refine O_p (.i .i64 ((((i % 2) : Nat)) : Int)) (by exact (r_remn (a := i) (b := 2) rfl rfl (by omega))) ?_
        refine O_p (.b (decide (((((i % 2) : Nat)) : Int) = 0))) (r_eql rfl rfl) ?_
        refine O_p sv (r_mv hT45) ?_
        refine O_p (.i .i64 (((i : Nat)) : Int)) (r_mv hT52) ?_
        refine O_q (by exact Rw.row (hsv _ hH53.top4.fst) rfl (i := i) rfl (r := [(.i .u16 (sq.getD i 0))]) (seq_row (by omega))) fun v62 hv61 => ?_
        obtain ⟨rb63, ro64, rfl, hr65⟩ := hv61
        refine O_p (.i .u16 (sq.getD i 0)) (r_ldR (q := 0) rfl (hr65 _ (hsv _ hH53.top4.fst)) rfl) ?_
        refine O_p (.i .i64 (((i : Nat)) : Int)) (r_mv hT52) ?_
        refine O_p (.i .u32 (((i : Nat)) : Int)) (by exact (r_cint' rfl (by rw [wrap_u32]; omega))) ?_
        refine O_p (.i .u32 source) (r_mv hT44) ?_
        refine O_p (.i .i64 (((i : Nat)) : Int)) (r_mv hT52) ?_
        refine O_p (.i .u8 ((UInt8.ofNat (i % 256)).toNat : Int)) (by exact (by rw [u8_lo]; exact r_cint rfl)) ?_
        refine O_p (.i .i64 (((i : Nat)) : Int)) (r_mv hT52) ?_
        refine O_p (.i .i64 (Int.fdiv (((i : Nat)) : Int) (2 ^ 8))) (r_bin rfl rfl rfl) ?_
        refine O_p (.i .u8 ((UInt8.ofNat (i / 256 % 256)).toNat : Int)) (by exact (by rw [u8_hi]; exact r_cint rfl)) ?_
        refine O_bslice (c := [(.i .u8 ((UInt8.ofNat (i % 256)).toNat : Int)), (.i .u8 ((UInt8.ofNat (i / 256 % 256)).toNat : Int))]) rfl fun n66 H67 hN68 => ?_
        have hH69 := hH53.new hN68
        refine O_p (.agg [(.b (decide (((((i % 2) : Nat)) : Int) = 0))), (.i .u8 5), (.i .u16 (sq.getD i 0)), (.i .u32 (((i : Nat)) : Int)), (.i .u32 source), (.sl (some (n66, 0)) 2 2 0)]) (r_build rfl) ?_
        have hH70 := (Hs.addnil hH69 : Hs _ (qseg (.sl none 0 0 0) [] ++ _))
        have hH71 := ((((((hH70.top1).top5).top5).top3).top5).top5)
        have hH72 := ((((((hH71.top5).top5).top5).top5).top5).top5)
        refine O_call (Ev.mono (hear20_ev (p := (pIn sq source i)) (da := some (n66, 0)) (dc := 2) (dg := 0) (B := [(n66, some (.cells [.i .u8 ((UInt8.ofNat (i % 256)).toNat : Int), .i .u8 ((UInt8.ofNat (i / 256 % 256)).toNat : Int)] true))]) (room := clampR room) (c0 := []) (s1 := s) (t1 := spk0) (l1 := l) (w1 := js.map (pkP sq (sq.getD 0 0))) (by show (5 : Int) ≤ 127; decide) (by show 2 ≤ 1188; decide) (.inl rfl) (Nat.le_refl 2) (by decide) (fun H' hh => octs2 (Hs.get (R := []) (by rw [List.append_nil]; exact hh))) hp31 hprF ⟨hp40, by omega⟩ (clampR_le room).2 hH72) fun v73 H74 hq75 => ?_)
        rw [hW] at hq75
        obtain ⟨n76, D77, v80, c81, rows82, rfl, hm78, hsq83, hpr84, hH79⟩ := hq75
        refine O_nil ?_
        refine C_seq ?_
        refine C_region ?_
        refine O_p (.i .i64 0) (r_mv rfl) ?_
        refine O_nil ?_
        refine C_seq ?_
        refine C_seq ?_
        refine C_region ?_
        refine O_p (.i .i64 (((i : Nat)) : Int)) (r_mv hT52) ?_
        refine O_p pv (r_mv hT46) ?_
        refine O_p (.i .i64 (((pl.length : Nat)) : Int)) (r_lenOf (v := pv) (n := pl.length) rfl ((hpv _ hH79.top6.fst).lenOf (List.length_map ..)) (hpv _ hH79.top6.fst).isSl) ?_
        refine O_p (.b (decide ((((i : Nat)) : Int) < (((pl.length : Nat)) : Int)))) (r_lss rfl rfl) ?_
        refine O_nil ?_
        refine C_cond (x := (decide ((((i : Nat)) : Int) < (((pl.length : Nat)) : Int)))) rfl (fun hc85 => ?_) (fun hc85 => ?_)
        ·
          try simp only [decide_eq_true_eq, decide_eq_false_iff_not, Bool.not_eq_true', Bool.not_eq_false', Bool.and_eq_true, Bool.or_eq_true, Bool.or_eq_false_iff, Bool.not_not, Bool.and_eq_false_iff] at hc85
          refine C_region ?_
          refine O_p pv (r_mv hT46) ?_
          refine O_p (.i .i64 (((i : Nat)) : Int)) (r_mv hT52) ?_
          refine O_q (by exact Rw.row (hpv _ hH79.top6.fst) rfl (i := i) rfl (r := [(.i .i64 (pl.getD i 0))]) (seq_row (by omega))) fun v87 hv86 => ?_
          obtain ⟨rb88, ro89, rfl, hr90⟩ := hv86
          refine O_p (.i .i64 (pl.getD i 0)) (r_ldR (q := 0) rfl (hr90 _ (hpv _ hH79.top6.fst)) rfl) ?_
          obtain ⟨q91, hq91, hlq91⟩ := and_nat (pl.getD i 0) 3 (by decide)
          refine O_p (.i .i64 (((q91 : Nat)) : Int)) (by exact (by rw [← hq91]; exact r_bin rfl rfl rfl)) ?_
          refine O_p (.i .i64 (((q91 : Nat)) : Int)) (r_mv rfl) ?_
          refine O_nil ?_
          refine C_seq ?_
          refine C_region ?_
          refine O_p (.i .i64 0) (r_mv rfl) ?_
          refine O_nil ?_
          refine C_block ?_
          have hH92 := ((hH79.sub2).sub4)
          have hH93 := (((((hH92.top4).top4).top4).top4).top4)
          have hj100 : i + 1 ≤ 100 := by omega
          refine C_while (fun m94 T95 H96 => ∃ at2 : Nat, ∃ w : AV, ∃ wc : List AV, ∃ wr : List (List AV), ∃ js3 : List Nat, ∃ j : Nat, m94 = js3.length ∧ Sq 6 w wc wr.flatten ∧ PksR D77 wr (js3.map (pkP sq (sq.getD 0 0))) ∧ js3.Pairwise (· < ·) ∧ (∀ x ∈ js3, at2 ≤ x ∧ x < i + 1) ∧ at2 ≤ i + 1 ∧ js3.length ≤ i + 1 ∧ j + js3.length ≤ 101 ∧ Hs H96 ([(F5, some (.cells ([(.sl (some (Lb6, 0)) 2 2 0), (.i .i64 (((clampR room) : Nat) : Int))]) true))] ++ ([(Lb6, some (.cells (([(lrowS true spk0 spk0 (.sl none 0 0 0) 0), (lrowS true s2 spk0 w l2)] : List (List AV)).flatten) true))] ++ ((qseg w wc) ++ (D77 ++ ((allL H0) ++ ([])))))) ∧ T95.get 0 = (.i .i64 room) ∧ T95.get 1 = (.i .u32 source) ∧ T95.get 2 = sv ∧ T95.get 3 = pv ∧ T95.get 8 = (.b false) ∧ T95.get 9 = (.b true) ∧ T95.get 10 = (.p (some (F5, 0))) ∧ T95.get 12 = (.i .u16 (sq.getD 0 0)) ∧ T95.get 13 = (.i .i64 (((i : Nat)) : Int)) ∧ T95.get 14 = (.i .i64 (((q91 : Nat)) : Int)) ∧ T95.get 11 = (.i .i64 (((at2 : Nat)) : Int)) ∧ T95.get 15 = (.i .i64 (((j : Nat)) : Int))) (fun m94 T95 H96 hI97 => ?_) js2.length _ _ ⟨att, v80, c81, rows82, js2, 0, rfl, hsq83, hpr84, hpw2, hrg2, by omega, hln2, by omega, hH93, hT43, hT44, hT45, hT46, hT47, hT48, hT49, rfl, hT52, rfl, hT50, rfl⟩
          obtain ⟨at2, w, wc, wr, js3, j, hm98, hp99, hp100, hp101, hp102, hp103, hp104, hp105, hH118, hT106, hT107, hT108, hT109, hT110, hT111, hT112, hT113, hT114, hT115, hT116, hT117⟩ := hI97
          refine C_seq ?_
          refine C_seq ?_
          refine C_region ?_
          refine O_p (.i .i64 (((j : Nat)) : Int)) (r_mv hT117) ?_
          refine O_p (.i .i64 (((q91 : Nat)) : Int)) (r_mv hT115) ?_
          refine O_p (.b (decide ((((j : Nat)) : Int) < (((q91 : Nat)) : Int)))) (r_lss rfl rfl) ?_
          refine O_p (.b (decide ((((j : Nat)) : Int) < (((q91 : Nat)) : Int)))) (r_mv rfl) ?_
          refine O_gx (e := (!(decide ((((j : Nat)) : Int) < (((q91 : Nat)) : Int))))) (v := (.i .i64 (((i : Nat)) : Int))) (wf rfl) (fun he => (r_mv hT114)) ?_
          refine O_gx (e := (!(decide ((((j : Nat)) : Int) < (((q91 : Nat)) : Int))))) (v := sv) (wf rfl) (fun he => (r_mv hT108)) ?_
          refine O_gx (e := (!(decide ((((j : Nat)) : Int) < (((q91 : Nat)) : Int))))) (v := (.i .i64 (((sq.length : Nat)) : Int))) (wf rfl) (fun he => (r_lenOf (v := sv) (n := sq.length) (cond_pos he) ((hsv _ hH118.top4.fst).lenOf (List.length_map ..)) (hsv _ hH118.top4.fst).isSl)) ?_
          refine O_gx (e := (!(decide ((((j : Nat)) : Int) < (((q91 : Nat)) : Int))))) (v := (.i .i64 ((((sq.length - 1) : Nat)) : Int))) (wf rfl) (fun he => (by exact (r_subn (a := sq.length) (b := 1) (cond_pos he) rfl (by omega) (by omega)))) ?_
          refine O_gx (e := (!(decide ((((j : Nat)) : Int) < (((q91 : Nat)) : Int))))) (v := (.b (decide ((((i : Nat)) : Int) = ((((sq.length - 1) : Nat)) : Int))))) (wf rfl) (fun he => (r_eql (cond_pos he) (cond_pos he))) ?_
          refine O_p (.b ((decide ((((j : Nat)) : Int) < (((q91 : Nat)) : Int))) || (decide ((((i : Nat)) : Int) = ((((sq.length - 1) : Nat)) : Int))))) (r_pick_or rfl rfl rfl rfl) ?_
          refine O_nil ?_
          refine C_cond (x := ((decide ((((j : Nat)) : Int) < (((q91 : Nat)) : Int))) || (decide ((((i : Nat)) : Int) = ((((sq.length - 1) : Nat)) : Int))))) rfl (fun hc119 => ?_) (fun hc119 => ?_)
          ·
            try simp only [decide_eq_true_eq, decide_eq_false_iff_not, Bool.not_eq_true', Bool.not_eq_false', Bool.and_eq_true, Bool.or_eq_true, Bool.or_eq_false_iff, Bool.not_not, Bool.and_eq_false_iff] at hc119
            refine C_skip ?_
            refine C_seq ?_
            refine C_block ?_
            refine C_seq ?_
            by_cases hjn : js3 = []
            ·
              have hp3 := hp100
              rw [hjn] at hp3
              obtain rfl : wr = [] := List.length_eq_zero_iff.1 hp3.1
              refine C_region ?_
              refine O_p (.p (some (F5, 0))) (r_mv hT112) ?_
              have hall120 : ∀ x ∈ ([(lrowS true spk0 spk0 (.sl none 0 0 0) 0), (lrowS true s2 spk0 w l2)] : List (List AV)), x.length = 67 := fun x hx => by simp only [List.mem_cons, List.not_mem_nil, or_false] at hx; rcases hx with rfl | rfl <;> rfl
              have hH121 := (((hH118.top2).top2).top2)
              have hH122 : Hs H96 ([(F5, some (.cells ([(.sl (some (Lb6, 0)) 2 2 0), (.i .i64 (((clampR room) : Nat) : Int))]) true))] ++ ([(Lb6, some (.cells ((([(lrowS true spk0 spk0 (.sl none 0 0 0) 0), (lrowS true s2 spk0 w l2)] : List (List AV)).set 1 (lrowS true s2 spk0 w l2)).flatten) true))] ++ ((qseg w wc) ++ (D77 ++ ((allL H0) ++ ([])))))) := hH121
              have hH123 := (((hH122.top2).top2).top2)
              refine O_call (Ev.mono (pull0_ev (np := 2) (i := 1) (rws := ([(lrowS true spk0 spk0 (.sl none 0 0 0) 0), (lrowS true s2 spk0 w l2)] : List (List AV))) (by decide) hall120 (Nat.le_of_ble_eq_true rfl) hp99 hH123) fun v124 H125 hq126 => ?_)
              obtain ⟨rfl, hH127⟩ := hq126
              refine O_p (.tup [(.agg [(.b false), (.i .u8 0), (.i .u16 0), (.i .u32 0), (.i .u32 0), (.sl none 0 0 0)]), (.b false)]) (r_mv rfl) ?_
              refine O_p (.agg [(.b false), (.i .u8 0), (.i .u16 0), (.i .u32 0), (.i .u32 0), (.sl none 0 0 0)]) (r_ext rfl rfl) ?_
              refine O_p (.b false) (r_ext rfl rfl) ?_
              refine O_alloc fun n128 H129 hN130 => ?_
              have hH131 := hH127.new hN130
              refine O_store (vs := [(.b false), (.i .u8 0), (.i .u16 0), (.i .u32 0), (.i .u32 0), (.sl none 0 0 0)]) (c' := [(.b false), (.i .u8 0), (.i .u16 0), (.i .u32 0), (.i .u32 0), (.sl none 0 0 0)]) rfl (by rfl) hH131.get0 rfl (List.cons_ne_nil _ _) (Nat.le_of_ble_eq_true rfl) rfl fun H132 hW133 => ?_
              have hH134 := hH131.wr0 hW133
              refine O_p (.b false) (r_mv rfl) ?_
              refine O_nil ?_
              refine C_seq ?_
              refine C_seq ?_
              refine C_region ?_
              refine O_p (.b false) (r_mv rfl) ?_
              refine O_p (.b true) (r_un rfl rfl) ?_
              refine O_nil ?_
              refine C_cond (x := true) rfl (fun _ => ?_) (fun h => by cases h)
              refine C_exit ?_
              refine nx_exit ?_
              refine bk_miss (by decide) ?_
              refine nx_exit ?_
              refine nx_exit ?_
              refine bk_hit ?_
              refine C_region ?_
              refine O_p (.i .i64 (((i : Nat)) : Int)) (r_mv hT114) ?_
              refine O_p (.i .i64 ((((i : Nat)) : Int) + 1)) (by exact (r_addi rfl rfl (wrap_i64 (by omega) (by omega)))) ?_
              refine O_p (.i .i64 ((((i : Nat)) : Int) + 1)) (r_mv rfl) ?_
              refine O_nil ?_
              have hH135 := (hH134.sub0)
              have hH136 := (((((hH135.top4).top4).top4).top4).top4)
              exact ⟨sq.length - (i + 1), by omega, (sq.getD 0 0), at2, s2, w, wc, ([] : List (List AV)), js3, l2, D77, (i + 1), rfl, by omega, hp99, hp100, fun h => absurd h (Nat.succ_ne_zero _), fun _ => hs2, fun _ => hF0, hp101, hp102, by omega, by omega, by omega, by omega, fun h => by first | exact hjn | (exfalso; omega), hH136, hT106, hT107, hT108, hT109, hT110, hT111, hT112, hT116, hT113, rfl⟩
            ·
              obtain ⟨j0, js4, rfl⟩ : ∃ x y, js3 = x :: y := by
                cases js3 with
                | nil => exact absurd rfl hjn
                | cons x y => exact ⟨x, y, rfl⟩
              have hp3 := hp100
              obtain ⟨r0, rz, rfl⟩ : ∃ r rz, wr = r :: rz := by
                cases wr with
                | nil => have := hp3.1; simp at this
                | cons r rz => exact ⟨r, rz, rfl⟩
              have hl60 := hp3.lens
              have hpt := hp3.tail
              obtain ⟨rr, hrr, hpk⟩ := hp3.2 0 _ rfl
              simp only [List.getElem?_cons_zero, Option.some.injEq] at hrr
              subst hrr
              obtain ⟨ka, kc, kg, rfl, _, _, _, hkb⟩ := hpk
              obtain ⟨hlt4, hpw4⟩ := List.pairwise_cons.1 hp101
              have hj0 := hp102 j0 (List.mem_cons_self ..)
              have hrg4 : ∀ x ∈ js4, j0 + 1 ≤ x ∧ x < i + 1 := fun x hx => ⟨hlt4 x hx, (hp102 x (List.mem_cons_of_mem _ hx)).2⟩
              have hlc : (j0 :: js4).length = js4.length + 1 := rfl
              have hjsq : j0 < sq.length := by omega
              refine C_region ?_
              refine O_p (.p (some (F5, 0))) (r_mv hT112) ?_
              have hall137 : ∀ x ∈ ([(lrowS true spk0 spk0 (.sl none 0 0 0) 0), (lrowS true s2 spk0 w l2)] : List (List AV)), x.length = 67 := fun x hx => by simp only [List.mem_cons, List.not_mem_nil, or_false] at hx; rcases hx with rfl | rfl <;> rfl
              have hH138 := (((hH118.top2).top2).top2)
              have hH139 : Hs H96 ([(F5, some (.cells ([(.sl (some (Lb6, 0)) 2 2 0), (.i .i64 (((clampR room) : Nat) : Int))]) true))] ++ ([(Lb6, some (.cells ((([(lrowS true spk0 spk0 (.sl none 0 0 0) 0), (lrowS true s2 spk0 w l2)] : List (List AV)).set 1 (lrowS true s2 spk0 w l2)).flatten) true))] ++ ((qseg w wc) ++ (D77 ++ ((allL H0) ++ ([])))))) := hH138
              have hH140 := (((hH139.top2).top2).top2)
              refine O_call (Ev.mono (pull_ev (np := 2) (i := 1) (rws := ([(lrowS true spk0 spk0 (.sl none 0 0 0) 0), (lrowS true s2 spk0 w l2)] : List (List AV))) (by decide) hall137 (Nat.le_of_ble_eq_true rfl) hp99 hl60 hH140) fun v141 H142 hq143 => ?_)
              obtain ⟨v144, c145, rfl, hsq146, hH147⟩ := hq143
              refine O_p (.tup [(.agg [(.b (decide (((((j0 % 2) : Nat)) : Int) = 0))), (.i .u8 5), (.i .u16 ((sq.getD j0 0 - (sq.getD 0 0)) % 65536)), (.i .u32 ((j0 : Nat) : Int)), (.i .u32 1), (.sl ka 2 kc kg)]), (.b true)]) (r_mv rfl) ?_
              refine O_p (.agg [(.b (decide (((((j0 % 2) : Nat)) : Int) = 0))), (.i .u8 5), (.i .u16 ((sq.getD j0 0 - (sq.getD 0 0)) % 65536)), (.i .u32 ((j0 : Nat) : Int)), (.i .u32 1), (.sl ka 2 kc kg)]) (r_ext rfl rfl) ?_
              refine O_p (.b true) (r_ext rfl rfl) ?_
              refine O_alloc fun n148 H149 hN150 => ?_
              have hH151 := hH147.new hN150
              refine O_store (vs := [(.b (decide (((((j0 % 2) : Nat)) : Int) = 0))), (.i .u8 5), (.i .u16 ((sq.getD j0 0 - (sq.getD 0 0)) % 65536)), (.i .u32 ((j0 : Nat) : Int)), (.i .u32 1), (.sl ka 2 kc kg)]) (c' := [(.b (decide (((((j0 % 2) : Nat)) : Int) = 0))), (.i .u8 5), (.i .u16 ((sq.getD j0 0 - (sq.getD 0 0)) % 65536)), (.i .u32 ((j0 : Nat) : Int)), (.i .u32 1), (.sl ka 2 kc kg)]) rfl (by rfl) hH151.get0 rfl (List.cons_ne_nil _ _) (Nat.le_of_ble_eq_true rfl) rfl fun H152 hW153 => ?_
              have hH154 := hH151.wr0 hW153
              refine O_p (.b true) (r_mv rfl) ?_
              refine O_nil ?_
              refine C_seq ?_
              refine C_seq ?_
              refine C_region ?_
              refine O_p (.b true) (r_mv rfl) ?_
              refine O_p (.b false) (r_un rfl rfl) ?_
              refine O_nil ?_
              refine C_cond (x := false) rfl (fun h => by cases h) (fun _ => ?_)
              refine C_skip ?_
              refine C_seq ?_
              refine C_region ?_
              refine O_p (.p (some (n148, 3))) (r_fadd' rfl rfl) ?_
              refine O_p (.i .u32 ((j0 : Nat) : Int)) (r_ld rfl hH154.get0 rfl) ?_
              refine O_p (.i .i64 (((j0 : Nat)) : Int)) (by exact (r_cint' rfl (wrap_i64 (by omega) (by omega)))) ?_
              refine O_p (.i .i64 (((j0 : Nat)) : Int)) (r_mv rfl) ?_
              refine O_nil ?_
              refine C_seq ?_
              refine C_seq ?_
              refine C_draw fun b155 H156 hbase157 hA158 => ?_
              have hH159 : Hs H156 (asideL b155 [34] ++ _) := hH154.aside hA158 [34] hbase157 rfl (by decide)
              have hH160 : Hs H156 ([(b155 + 34, none)] ++ _) := hH159
              refine D_l (v := (.i .i64 (((j0 : Nat)) : Int))) rfl rfl rfl (r_mv rfl) ?_
              refine D_l (v := (.i .i64 (((at2 : Nat)) : Int))) rfl rfl rfl (r_mv hT116) ?_
              refine D_l (v := (.b false)) rfl rfl rfl (by exact (by rw [r_lss rfl rfl, decide_eq_false (by omega)])) ?_
              refine D_l (v := (.b false)) rfl rfl rfl (r_mv rfl) ?_
              refine D_gk rfl ?_
              refine D_l (v := (.i .i64 (((j0 : Nat)) : Int))) rfl rfl rfl (r_mv rfl) ?_
              refine D_gk rfl ?_
              refine D_l (v := (.i .i64 (((i : Nat)) : Int))) rfl rfl rfl (r_mv hT114) ?_
              refine D_gk rfl ?_
              refine D_l (v := (.b false)) rfl rfl rfl (by exact (by rw [r_gtr rfl rfl, decide_eq_false (by omega)])) ?_
              refine D_l (v := (.b false)) rfl rfl rfl (r_pick_f rfl rfl) ?_
              refine D_l (v := (.b false)) rfl rfl rfl (r_mv rfl) ?_
              refine D_gk rfl ?_
              refine D_l (v := (.p (some (n148, 1)))) rfl rfl rfl (r_fadd' rfl rfl) ?_
              refine D_gk rfl ?_
              refine D_r (v := (.i .u8 5)) rfl rfl rfl (r_ld rfl hH160.get1 rfl) ?_
              refine D_gk rfl ?_
              refine D_l (v := (.b false)) rfl rfl rfl (r_nqq rfl rfl) ?_
              refine D_l (v := (.b false)) rfl rfl rfl (r_pick_f rfl rfl) ?_
              refine D_l (v := (.b false)) rfl rfl rfl (r_mv rfl) ?_
              refine D_gk rfl ?_
              refine D_l (v := (.p (some (n148, 0)))) rfl rfl rfl (r_fadd' rfl rfl) ?_
              refine D_gk rfl ?_
              refine D_l (v := (.i .i64 (((j0 : Nat)) : Int))) rfl rfl rfl (r_mv rfl) ?_
              refine D_gk rfl ?_
              refine D_l (v := (.i .i64 ((((j0 % 2) : Nat)) : Int))) rfl rfl rfl (by exact (r_remn (a := j0) (b := 2) rfl rfl (by omega))) ?_
              refine D_gk rfl ?_
              refine D_l (v := (.b (decide (((((j0 % 2) : Nat)) : Int) = 0)))) rfl rfl rfl (r_eql rfl rfl) ?_
              refine D_gk rfl ?_
              refine D_r (v := (.b (decide (((((j0 % 2) : Nat)) : Int) = 0)))) rfl rfl rfl (r_ld rfl hH160.get1 rfl) ?_
              refine D_gk rfl ?_
              have hpar : (!((decide (((((j0 % 2) : Nat)) : Int) = 0)) == (decide (((((j0 % 2) : Nat)) : Int) = 0)))) = false := by simp
              refine D_l (v := (.b false)) rfl rfl rfl (by exact ((r_beq rfl rfl).trans (by rw [if_pos rfl, hpar]))) ?_
              refine D_l (v := (.b false)) rfl rfl rfl (r_pick_f rfl rfl) ?_
              refine D_l (v := (.b false)) rfl rfl rfl (r_mv rfl) ?_
              refine D_gk rfl ?_
              refine D_l (v := (.p (some (n148, 4)))) rfl rfl rfl (r_fadd' rfl rfl) ?_
              refine D_gk rfl ?_
              refine D_r (v := (.i .u32 1)) rfl rfl rfl (r_ld rfl hH160.get1 rfl) ?_
              refine D_gk rfl ?_
              refine D_l (v := (.b false)) rfl rfl rfl (r_nqq rfl rfl) ?_
              refine D_l (v := (.b false)) rfl rfl rfl (r_pick_f rfl rfl) ?_
              refine D_l (v := (.b false)) rfl rfl rfl (r_mv rfl) ?_
              refine D_gk rfl ?_
              refine D_l (v := (.p (some (n148, 5)))) rfl rfl rfl (r_fadd' rfl rfl) ?_
              refine D_gk rfl ?_
              refine D_l (v := (.i .i64 (((j0 : Nat)) : Int))) rfl rfl rfl (r_mv rfl) ?_
              refine D_gk rfl ?_
              refine D_l (v := (.i .u8 ((UInt8.ofNat (j0 % 256)).toNat : Int))) rfl rfl rfl (by exact (by rw [u8_lo]; exact r_cint rfl)) ?_
              refine D_gk rfl ?_
              refine D_l (v := (.i .i64 (((j0 : Nat)) : Int))) rfl rfl rfl (r_mv rfl) ?_
              refine D_gk rfl ?_
              refine D_l (v := (.i .i64 (Int.fdiv (((j0 : Nat)) : Int) (2 ^ 8)))) rfl rfl rfl (r_bin rfl rfl rfl) ?_
              refine D_gk rfl ?_
              refine D_l (v := (.i .u8 ((UInt8.ofNat (j0 / 256 % 256)).toNat : Int))) rfl rfl rfl (by exact (by rw [u8_hi]; exact r_cint rfl)) ?_
              refine D_gk rfl ?_
              refine D_r (v := (.sl ka 2 kc kg)) rfl rfl rfl (r_ld rfl hH160.get1 rfl) ?_
              refine D_gk rfl ?_
              refine D_m (f := fun n => ((.sl (some (n, 0)) 2 2 0), .cells [(.i .u8 ((UInt8.ofNat (j0 % 256)).toNat : Int)), (.i .u8 ((UInt8.ofNat (j0 / 256 % 256)).toNat : Int))] true)) rfl rfl fun H162 hW163 => ?_
              have hH165 := hH160.wr0 hW163
              generalize hn164 : b155 + 34 = n161 at hW163 hH165 ⊢
              refine And.intro (And.intro (Or.inr (look_run rfl rfl (r_ld rfl hH165.get1 rfl))) (And.intro (Or.inl rfl) (And.intro (Or.inl rfl) (And.intro (Or.inl rfl) True.intro)))) ?_
              refine D_gk rfl ?_
              have hH166 := (hH165.top5)
              have hH167 := Hs.unassoc hH166
              refine D_call (Ev.mono (same14_ev (l := octs j0) (fun _ hh => hkb _ hh.fst) (fun _ hh => octs2 (Hs.get (R := []) (by rw [List.append_nil]; exact hh.sub))) hH167) fun v168 H169 hq170 => ?_)
              obtain ⟨rfl, hH171⟩ := hq170
              refine And.intro (And.intro (Or.inl rfl) True.intro) ?_
              refine D_gk rfl ?_
              refine D_l (v := (.b false)) rfl rfl rfl (r_un rfl rfl) ?_
              refine D_l (v := (.b false)) rfl rfl rfl (r_pick_f rfl rfl) ?_
              refine D_l (v := (.b false)) rfl rfl rfl (r_mv rfl) ?_
              refine D_gk rfl ?_
              refine D_l (v := (.p (some (n148, 2)))) rfl rfl rfl (r_fadd' rfl rfl) ?_
              refine D_gk rfl ?_
              refine D_l (v := sv) rfl rfl rfl (r_mv hT108) ?_
              refine D_gk rfl ?_
              refine D_l (v := (.i .i64 (((j0 : Nat)) : Int))) rfl rfl rfl (r_mv rfl) ?_
              refine D_gk rfl ?_
              refine D_q rfl rfl rfl (by exact Rw.row (hsv _ hH171.assoc.top6.fst) rfl (i := j0) rfl (r := [(.i .u16 (sq.getD j0 0))]) (seq_row (by omega))) fun v173 hv172 => ?_
              obtain ⟨rb174, ro175, rfl, hr176⟩ := hv172
              refine D_gk rfl ?_
              refine D_l (v := (.i .u16 (sq.getD 0 0))) rfl rfl rfl (r_mv hT113) ?_
              refine D_gk rfl ?_
              refine D_r (v := (.i .u16 ((sq.getD j0 0 - (sq.getD 0 0)) % 65536))) rfl rfl rfl (r_ld rfl hH171.assoc.get2 rfl) ?_
              refine D_gk rfl ?_
              refine D_r (v := (.i .u16 (sq.getD j0 0))) rfl rfl rfl (r_ldR (q := 0) rfl (hr176 _ (hsv _ hH171.assoc.top6.fst)) rfl) ?_
              refine D_gk rfl ?_
              refine D_l (v := (.i .u16 (IntKind.u16.wrap ((sq.getD j0 0) - (sq.getD 0 0))))) rfl rfl rfl (r_bin rfl rfl rfl) ?_
              refine D_gk rfl ?_
              refine D_l (v := (.b false)) rfl rfl rfl (by exact (by rw [r_neq rfl rfl, decide_eq_true (by rw [wrap_u16])]; rfl)) ?_
              refine D_l (v := (.b false)) rfl rfl rfl (r_pick_f rfl rfl) ?_
              refine D_nil ?_
              refine C_cond (x := false) rfl (fun h => by cases h) (fun _ => ?_)
              refine C_skip ?_
              refine C_region ?_
              refine O_p (.i .i64 (((j0 : Nat)) : Int)) (r_mv rfl) ?_
              refine O_p (.i .i64 ((((j0 : Nat)) : Int) + 1)) (by exact (r_addi rfl rfl (wrap_i64 (by omega) (by omega)))) ?_
              refine O_p (.i .i64 ((((j0 : Nat)) : Int) + 1)) (r_mv rfl) ?_
              refine O_nil ?_
              refine C_region ?_
              refine O_p (.i .i64 (((j : Nat)) : Int)) (r_mv hT117) ?_
              refine O_p (.i .i64 ((((j : Nat)) : Int) + 1)) (by exact (r_addi rfl rfl (wrap_i64 (by omega) (by omega)))) ?_
              refine O_p (.i .i64 ((((j : Nat)) : Int) + 1)) (r_mv rfl) ?_
              refine O_nil ?_
              have hH177 := ((hH171.assoc.sub1).sub1)
              have hH178 := (((((hH177.top4).top1).top4).top4).top4)
              exact ⟨js4.length, by omega, (j0 + 1), v144, c145, rz, js4, (j + 1), rfl, hsq146, hpt, hpw4, hrg4, by omega, by omega, by omega, hH178, hT106, hT107, hT108, hT109, hT110, hT111, hT112, hT113, hT114, hT115, rfl, rfl⟩
          ·
            try simp only [decide_eq_true_eq, decide_eq_false_iff_not, Bool.not_eq_true', Bool.not_eq_false', Bool.and_eq_true, Bool.or_eq_true, Bool.or_eq_false_iff, Bool.not_not, Bool.and_eq_false_iff] at hc119
            refine C_exit ?_
            refine nx_exit ?_
            refine nx_exit ?_
            refine bk_hit ?_
            refine C_region ?_
            refine O_p (.i .i64 (((i : Nat)) : Int)) (r_mv hT114) ?_
            refine O_p (.i .i64 ((((i : Nat)) : Int) + 1)) (by exact (r_addi rfl rfl (wrap_i64 (by omega) (by omega)))) ?_
            refine O_p (.i .i64 ((((i : Nat)) : Int) + 1)) (r_mv rfl) ?_
            refine O_nil ?_
            have hH179 := (((((hH118.top4).top4).top4).top4).top4)
            exact ⟨sq.length - (i + 1), by omega, (sq.getD 0 0), at2, s2, w, wc, wr, js3, l2, D77, (i + 1), rfl, by omega, hp99, hp100, fun h => absurd h (Nat.succ_ne_zero _), fun _ => hs2, fun _ => hF0, hp101, hp102, by omega, by omega, by omega, by omega, fun h => by first | exact hnone | (exfalso; omega), hH179, hT106, hT107, hT108, hT109, hT110, hT111, hT112, hT116, hT113, rfl⟩
        ·
          try simp only [decide_eq_true_eq, decide_eq_false_iff_not, Bool.not_eq_true', Bool.not_eq_false', Bool.and_eq_true, Bool.or_eq_true, Bool.or_eq_false_iff, Bool.not_not, Bool.and_eq_false_iff] at hc85
          refine C_skip ?_
          refine C_seq ?_
          refine C_region ?_
          refine O_p (.i .i64 0) (r_mv rfl) ?_
          refine O_nil ?_
          refine C_block ?_
          have hH180 := ((hH79.sub2).sub4)
          have hH181 := (((((hH180.top4).top4).top4).top4).top4)
          have hj100 : i + 1 ≤ 100 := by omega
          refine C_while (fun m182 T183 H184 => ∃ at2 : Nat, ∃ w : AV, ∃ wc : List AV, ∃ wr : List (List AV), ∃ js3 : List Nat, ∃ j : Nat, m182 = js3.length ∧ Sq 6 w wc wr.flatten ∧ PksR D77 wr (js3.map (pkP sq (sq.getD 0 0))) ∧ js3.Pairwise (· < ·) ∧ (∀ x ∈ js3, at2 ≤ x ∧ x < i + 1) ∧ at2 ≤ i + 1 ∧ js3.length ≤ i + 1 ∧ j + js3.length ≤ 101 ∧ Hs H184 ([(F5, some (.cells ([(.sl (some (Lb6, 0)) 2 2 0), (.i .i64 (((clampR room) : Nat) : Int))]) true))] ++ ([(Lb6, some (.cells (([(lrowS true spk0 spk0 (.sl none 0 0 0) 0), (lrowS true s2 spk0 w l2)] : List (List AV)).flatten) true))] ++ ((qseg w wc) ++ (D77 ++ ((allL H0) ++ ([])))))) ∧ T183.get 0 = (.i .i64 room) ∧ T183.get 1 = (.i .u32 source) ∧ T183.get 2 = sv ∧ T183.get 3 = pv ∧ T183.get 8 = (.b false) ∧ T183.get 9 = (.b true) ∧ T183.get 10 = (.p (some (F5, 0))) ∧ T183.get 12 = (.i .u16 (sq.getD 0 0)) ∧ T183.get 13 = (.i .i64 (((i : Nat)) : Int)) ∧ T183.get 14 = (.i .i64 0) ∧ T183.get 11 = (.i .i64 (((at2 : Nat)) : Int)) ∧ T183.get 15 = (.i .i64 (((j : Nat)) : Int))) (fun m182 T183 H184 hI185 => ?_) js2.length _ _ ⟨att, v80, c81, rows82, js2, 0, rfl, hsq83, hpr84, hpw2, hrg2, by omega, hln2, by omega, hH181, hT43, hT44, hT45, hT46, hT47, hT48, hT49, rfl, hT52, rfl, hT50, rfl⟩
          obtain ⟨at2, w, wc, wr, js3, j, hm186, hp187, hp188, hp189, hp190, hp191, hp192, hp193, hH206, hT194, hT195, hT196, hT197, hT198, hT199, hT200, hT201, hT202, hT203, hT204, hT205⟩ := hI185
          refine C_seq ?_
          refine C_seq ?_
          refine C_region ?_
          refine O_p (.i .i64 (((j : Nat)) : Int)) (r_mv hT205) ?_
          refine O_p (.i .i64 0) (r_mv hT203) ?_
          refine O_p (.b false) (by exact (by rw [r_lss rfl rfl, decide_eq_false (by omega)])) ?_
          refine O_p (.b false) (r_mv rfl) ?_
          refine O_gk rfl ?_
          refine O_p (.i .i64 (((i : Nat)) : Int)) (r_mv hT202) ?_
          refine O_gk rfl ?_
          refine O_p sv (r_mv hT196) ?_
          refine O_gk rfl ?_
          refine O_p (.i .i64 (((sq.length : Nat)) : Int)) (r_lenOf (v := sv) (n := sq.length) rfl ((hsv _ hH206.top4.fst).lenOf (List.length_map ..)) (hsv _ hH206.top4.fst).isSl) ?_
          refine O_gk rfl ?_
          refine O_p (.i .i64 ((((sq.length - 1) : Nat)) : Int)) (by exact (r_subn (a := sq.length) (b := 1) rfl rfl (by omega) (by omega))) ?_
          refine O_gk rfl ?_
          refine O_p (.b (decide ((((i : Nat)) : Int) = ((((sq.length - 1) : Nat)) : Int)))) (r_eql rfl rfl) ?_
          refine O_p (.b (decide ((((i : Nat)) : Int) = ((((sq.length - 1) : Nat)) : Int)))) (r_pick_f rfl rfl) ?_
          refine O_nil ?_
          refine C_cond (x := (decide ((((i : Nat)) : Int) = ((((sq.length - 1) : Nat)) : Int)))) rfl (fun hc207 => ?_) (fun hc207 => ?_)
          ·
            try simp only [decide_eq_true_eq, decide_eq_false_iff_not, Bool.not_eq_true', Bool.not_eq_false', Bool.and_eq_true, Bool.or_eq_true, Bool.or_eq_false_iff, Bool.not_not, Bool.and_eq_false_iff] at hc207
            refine C_skip ?_
            refine C_seq ?_
            refine C_block ?_
            refine C_seq ?_
            by_cases hjn : js3 = []
            ·
              have hp3 := hp188
              rw [hjn] at hp3
              obtain rfl : wr = [] := List.length_eq_zero_iff.1 hp3.1
              refine C_region ?_
              refine O_p (.p (some (F5, 0))) (r_mv hT200) ?_
              have hall208 : ∀ x ∈ ([(lrowS true spk0 spk0 (.sl none 0 0 0) 0), (lrowS true s2 spk0 w l2)] : List (List AV)), x.length = 67 := fun x hx => by simp only [List.mem_cons, List.not_mem_nil, or_false] at hx; rcases hx with rfl | rfl <;> rfl
              have hH209 := (((hH206.top2).top2).top2)
              have hH210 : Hs H184 ([(F5, some (.cells ([(.sl (some (Lb6, 0)) 2 2 0), (.i .i64 (((clampR room) : Nat) : Int))]) true))] ++ ([(Lb6, some (.cells ((([(lrowS true spk0 spk0 (.sl none 0 0 0) 0), (lrowS true s2 spk0 w l2)] : List (List AV)).set 1 (lrowS true s2 spk0 w l2)).flatten) true))] ++ ((qseg w wc) ++ (D77 ++ ((allL H0) ++ ([])))))) := hH209
              have hH211 := (((hH210.top2).top2).top2)
              refine O_call (Ev.mono (pull0_ev (np := 2) (i := 1) (rws := ([(lrowS true spk0 spk0 (.sl none 0 0 0) 0), (lrowS true s2 spk0 w l2)] : List (List AV))) (by decide) hall208 (Nat.le_of_ble_eq_true rfl) hp187 hH211) fun v212 H213 hq214 => ?_)
              obtain ⟨rfl, hH215⟩ := hq214
              refine O_p (.tup [(.agg [(.b false), (.i .u8 0), (.i .u16 0), (.i .u32 0), (.i .u32 0), (.sl none 0 0 0)]), (.b false)]) (r_mv rfl) ?_
              refine O_p (.agg [(.b false), (.i .u8 0), (.i .u16 0), (.i .u32 0), (.i .u32 0), (.sl none 0 0 0)]) (r_ext rfl rfl) ?_
              refine O_p (.b false) (r_ext rfl rfl) ?_
              refine O_alloc fun n216 H217 hN218 => ?_
              have hH219 := hH215.new hN218
              refine O_store (vs := [(.b false), (.i .u8 0), (.i .u16 0), (.i .u32 0), (.i .u32 0), (.sl none 0 0 0)]) (c' := [(.b false), (.i .u8 0), (.i .u16 0), (.i .u32 0), (.i .u32 0), (.sl none 0 0 0)]) rfl (by rfl) hH219.get0 rfl (List.cons_ne_nil _ _) (Nat.le_of_ble_eq_true rfl) rfl fun H220 hW221 => ?_
              have hH222 := hH219.wr0 hW221
              refine O_p (.b false) (r_mv rfl) ?_
              refine O_nil ?_
              refine C_seq ?_
              refine C_seq ?_
              refine C_region ?_
              refine O_p (.b false) (r_mv rfl) ?_
              refine O_p (.b true) (r_un rfl rfl) ?_
              refine O_nil ?_
              refine C_cond (x := true) rfl (fun _ => ?_) (fun h => by cases h)
              refine C_exit ?_
              refine nx_exit ?_
              refine bk_miss (by decide) ?_
              refine nx_exit ?_
              refine nx_exit ?_
              refine bk_hit ?_
              refine C_region ?_
              refine O_p (.i .i64 (((i : Nat)) : Int)) (r_mv hT202) ?_
              refine O_p (.i .i64 ((((i : Nat)) : Int) + 1)) (by exact (r_addi rfl rfl (wrap_i64 (by omega) (by omega)))) ?_
              refine O_p (.i .i64 ((((i : Nat)) : Int) + 1)) (r_mv rfl) ?_
              refine O_nil ?_
              have hH223 := (hH222.sub0)
              have hH224 := (((((hH223.top4).top4).top4).top4).top4)
              exact ⟨sq.length - (i + 1), by omega, (sq.getD 0 0), at2, s2, w, wc, ([] : List (List AV)), js3, l2, D77, (i + 1), rfl, by omega, hp187, hp188, fun h => absurd h (Nat.succ_ne_zero _), fun _ => hs2, fun _ => hF0, hp189, hp190, by omega, by omega, by omega, by omega, fun h => by first | exact hjn | (exfalso; omega), hH224, hT194, hT195, hT196, hT197, hT198, hT199, hT200, hT204, hT201, rfl⟩
            ·
              obtain ⟨j0, js4, rfl⟩ : ∃ x y, js3 = x :: y := by
                cases js3 with
                | nil => exact absurd rfl hjn
                | cons x y => exact ⟨x, y, rfl⟩
              have hp3 := hp188
              obtain ⟨r0, rz, rfl⟩ : ∃ r rz, wr = r :: rz := by
                cases wr with
                | nil => have := hp3.1; simp at this
                | cons r rz => exact ⟨r, rz, rfl⟩
              have hl60 := hp3.lens
              have hpt := hp3.tail
              obtain ⟨rr, hrr, hpk⟩ := hp3.2 0 _ rfl
              simp only [List.getElem?_cons_zero, Option.some.injEq] at hrr
              subst hrr
              obtain ⟨ka, kc, kg, rfl, _, _, _, hkb⟩ := hpk
              obtain ⟨hlt4, hpw4⟩ := List.pairwise_cons.1 hp189
              have hj0 := hp190 j0 (List.mem_cons_self ..)
              have hrg4 : ∀ x ∈ js4, j0 + 1 ≤ x ∧ x < i + 1 := fun x hx => ⟨hlt4 x hx, (hp190 x (List.mem_cons_of_mem _ hx)).2⟩
              have hlc : (j0 :: js4).length = js4.length + 1 := rfl
              have hjsq : j0 < sq.length := by omega
              refine C_region ?_
              refine O_p (.p (some (F5, 0))) (r_mv hT200) ?_
              have hall225 : ∀ x ∈ ([(lrowS true spk0 spk0 (.sl none 0 0 0) 0), (lrowS true s2 spk0 w l2)] : List (List AV)), x.length = 67 := fun x hx => by simp only [List.mem_cons, List.not_mem_nil, or_false] at hx; rcases hx with rfl | rfl <;> rfl
              have hH226 := (((hH206.top2).top2).top2)
              have hH227 : Hs H184 ([(F5, some (.cells ([(.sl (some (Lb6, 0)) 2 2 0), (.i .i64 (((clampR room) : Nat) : Int))]) true))] ++ ([(Lb6, some (.cells ((([(lrowS true spk0 spk0 (.sl none 0 0 0) 0), (lrowS true s2 spk0 w l2)] : List (List AV)).set 1 (lrowS true s2 spk0 w l2)).flatten) true))] ++ ((qseg w wc) ++ (D77 ++ ((allL H0) ++ ([])))))) := hH226
              have hH228 := (((hH227.top2).top2).top2)
              refine O_call (Ev.mono (pull_ev (np := 2) (i := 1) (rws := ([(lrowS true spk0 spk0 (.sl none 0 0 0) 0), (lrowS true s2 spk0 w l2)] : List (List AV))) (by decide) hall225 (Nat.le_of_ble_eq_true rfl) hp187 hl60 hH228) fun v229 H230 hq231 => ?_)
              obtain ⟨v232, c233, rfl, hsq234, hH235⟩ := hq231
              refine O_p (.tup [(.agg [(.b (decide (((((j0 % 2) : Nat)) : Int) = 0))), (.i .u8 5), (.i .u16 ((sq.getD j0 0 - (sq.getD 0 0)) % 65536)), (.i .u32 ((j0 : Nat) : Int)), (.i .u32 1), (.sl ka 2 kc kg)]), (.b true)]) (r_mv rfl) ?_
              refine O_p (.agg [(.b (decide (((((j0 % 2) : Nat)) : Int) = 0))), (.i .u8 5), (.i .u16 ((sq.getD j0 0 - (sq.getD 0 0)) % 65536)), (.i .u32 ((j0 : Nat) : Int)), (.i .u32 1), (.sl ka 2 kc kg)]) (r_ext rfl rfl) ?_
              refine O_p (.b true) (r_ext rfl rfl) ?_
              refine O_alloc fun n236 H237 hN238 => ?_
              have hH239 := hH235.new hN238
              refine O_store (vs := [(.b (decide (((((j0 % 2) : Nat)) : Int) = 0))), (.i .u8 5), (.i .u16 ((sq.getD j0 0 - (sq.getD 0 0)) % 65536)), (.i .u32 ((j0 : Nat) : Int)), (.i .u32 1), (.sl ka 2 kc kg)]) (c' := [(.b (decide (((((j0 % 2) : Nat)) : Int) = 0))), (.i .u8 5), (.i .u16 ((sq.getD j0 0 - (sq.getD 0 0)) % 65536)), (.i .u32 ((j0 : Nat) : Int)), (.i .u32 1), (.sl ka 2 kc kg)]) rfl (by rfl) hH239.get0 rfl (List.cons_ne_nil _ _) (Nat.le_of_ble_eq_true rfl) rfl fun H240 hW241 => ?_
              have hH242 := hH239.wr0 hW241
              refine O_p (.b true) (r_mv rfl) ?_
              refine O_nil ?_
              refine C_seq ?_
              refine C_seq ?_
              refine C_region ?_
              refine O_p (.b true) (r_mv rfl) ?_
              refine O_p (.b false) (r_un rfl rfl) ?_
              refine O_nil ?_
              refine C_cond (x := false) rfl (fun h => by cases h) (fun _ => ?_)
              refine C_skip ?_
              refine C_seq ?_
              refine C_region ?_
              refine O_p (.p (some (n236, 3))) (r_fadd' rfl rfl) ?_
              refine O_p (.i .u32 ((j0 : Nat) : Int)) (r_ld rfl hH242.get0 rfl) ?_
              refine O_p (.i .i64 (((j0 : Nat)) : Int)) (by exact (r_cint' rfl (wrap_i64 (by omega) (by omega)))) ?_
              refine O_p (.i .i64 (((j0 : Nat)) : Int)) (r_mv rfl) ?_
              refine O_nil ?_
              refine C_seq ?_
              refine C_seq ?_
              refine C_draw fun b243 H244 hbase245 hA246 => ?_
              have hH247 : Hs H244 (asideL b243 [34] ++ _) := hH242.aside hA246 [34] hbase245 rfl (by decide)
              have hH248 : Hs H244 ([(b243 + 34, none)] ++ _) := hH247
              refine D_l (v := (.i .i64 (((j0 : Nat)) : Int))) rfl rfl rfl (r_mv rfl) ?_
              refine D_l (v := (.i .i64 (((at2 : Nat)) : Int))) rfl rfl rfl (r_mv hT204) ?_
              refine D_l (v := (.b false)) rfl rfl rfl (by exact (by rw [r_lss rfl rfl, decide_eq_false (by omega)])) ?_
              refine D_l (v := (.b false)) rfl rfl rfl (r_mv rfl) ?_
              refine D_gk rfl ?_
              refine D_l (v := (.i .i64 (((j0 : Nat)) : Int))) rfl rfl rfl (r_mv rfl) ?_
              refine D_gk rfl ?_
              refine D_l (v := (.i .i64 (((i : Nat)) : Int))) rfl rfl rfl (r_mv hT202) ?_
              refine D_gk rfl ?_
              refine D_l (v := (.b false)) rfl rfl rfl (by exact (by rw [r_gtr rfl rfl, decide_eq_false (by omega)])) ?_
              refine D_l (v := (.b false)) rfl rfl rfl (r_pick_f rfl rfl) ?_
              refine D_l (v := (.b false)) rfl rfl rfl (r_mv rfl) ?_
              refine D_gk rfl ?_
              refine D_l (v := (.p (some (n236, 1)))) rfl rfl rfl (r_fadd' rfl rfl) ?_
              refine D_gk rfl ?_
              refine D_r (v := (.i .u8 5)) rfl rfl rfl (r_ld rfl hH248.get1 rfl) ?_
              refine D_gk rfl ?_
              refine D_l (v := (.b false)) rfl rfl rfl (r_nqq rfl rfl) ?_
              refine D_l (v := (.b false)) rfl rfl rfl (r_pick_f rfl rfl) ?_
              refine D_l (v := (.b false)) rfl rfl rfl (r_mv rfl) ?_
              refine D_gk rfl ?_
              refine D_l (v := (.p (some (n236, 0)))) rfl rfl rfl (r_fadd' rfl rfl) ?_
              refine D_gk rfl ?_
              refine D_l (v := (.i .i64 (((j0 : Nat)) : Int))) rfl rfl rfl (r_mv rfl) ?_
              refine D_gk rfl ?_
              refine D_l (v := (.i .i64 ((((j0 % 2) : Nat)) : Int))) rfl rfl rfl (by exact (r_remn (a := j0) (b := 2) rfl rfl (by omega))) ?_
              refine D_gk rfl ?_
              refine D_l (v := (.b (decide (((((j0 % 2) : Nat)) : Int) = 0)))) rfl rfl rfl (r_eql rfl rfl) ?_
              refine D_gk rfl ?_
              refine D_r (v := (.b (decide (((((j0 % 2) : Nat)) : Int) = 0)))) rfl rfl rfl (r_ld rfl hH248.get1 rfl) ?_
              refine D_gk rfl ?_
              have hpar : (!((decide (((((j0 % 2) : Nat)) : Int) = 0)) == (decide (((((j0 % 2) : Nat)) : Int) = 0)))) = false := by simp
              refine D_l (v := (.b false)) rfl rfl rfl (by exact ((r_beq rfl rfl).trans (by rw [if_pos rfl, hpar]))) ?_
              refine D_l (v := (.b false)) rfl rfl rfl (r_pick_f rfl rfl) ?_
              refine D_l (v := (.b false)) rfl rfl rfl (r_mv rfl) ?_
              refine D_gk rfl ?_
              refine D_l (v := (.p (some (n236, 4)))) rfl rfl rfl (r_fadd' rfl rfl) ?_
              refine D_gk rfl ?_
              refine D_r (v := (.i .u32 1)) rfl rfl rfl (r_ld rfl hH248.get1 rfl) ?_
              refine D_gk rfl ?_
              refine D_l (v := (.b false)) rfl rfl rfl (r_nqq rfl rfl) ?_
              refine D_l (v := (.b false)) rfl rfl rfl (r_pick_f rfl rfl) ?_
              refine D_l (v := (.b false)) rfl rfl rfl (r_mv rfl) ?_
              refine D_gk rfl ?_
              refine D_l (v := (.p (some (n236, 5)))) rfl rfl rfl (r_fadd' rfl rfl) ?_
              refine D_gk rfl ?_
              refine D_l (v := (.i .i64 (((j0 : Nat)) : Int))) rfl rfl rfl (r_mv rfl) ?_
              refine D_gk rfl ?_
              refine D_l (v := (.i .u8 ((UInt8.ofNat (j0 % 256)).toNat : Int))) rfl rfl rfl (by exact (by rw [u8_lo]; exact r_cint rfl)) ?_
              refine D_gk rfl ?_
              refine D_l (v := (.i .i64 (((j0 : Nat)) : Int))) rfl rfl rfl (r_mv rfl) ?_
              refine D_gk rfl ?_
              refine D_l (v := (.i .i64 (Int.fdiv (((j0 : Nat)) : Int) (2 ^ 8)))) rfl rfl rfl (r_bin rfl rfl rfl) ?_
              refine D_gk rfl ?_
              refine D_l (v := (.i .u8 ((UInt8.ofNat (j0 / 256 % 256)).toNat : Int))) rfl rfl rfl (by exact (by rw [u8_hi]; exact r_cint rfl)) ?_
              refine D_gk rfl ?_
              refine D_r (v := (.sl ka 2 kc kg)) rfl rfl rfl (r_ld rfl hH248.get1 rfl) ?_
              refine D_gk rfl ?_
              refine D_m (f := fun n => ((.sl (some (n, 0)) 2 2 0), .cells [(.i .u8 ((UInt8.ofNat (j0 % 256)).toNat : Int)), (.i .u8 ((UInt8.ofNat (j0 / 256 % 256)).toNat : Int))] true)) rfl rfl fun H250 hW251 => ?_
              have hH253 := hH248.wr0 hW251
              generalize hn252 : b243 + 34 = n249 at hW251 hH253 ⊢
              refine And.intro (And.intro (Or.inr (look_run rfl rfl (r_ld rfl hH253.get1 rfl))) (And.intro (Or.inl rfl) (And.intro (Or.inl rfl) (And.intro (Or.inl rfl) True.intro)))) ?_
              refine D_gk rfl ?_
              have hH254 := (hH253.top5)
              have hH255 := Hs.unassoc hH254
              refine D_call (Ev.mono (same14_ev (l := octs j0) (fun _ hh => hkb _ hh.fst) (fun _ hh => octs2 (Hs.get (R := []) (by rw [List.append_nil]; exact hh.sub))) hH255) fun v256 H257 hq258 => ?_)
              obtain ⟨rfl, hH259⟩ := hq258
              refine And.intro (And.intro (Or.inl rfl) True.intro) ?_
              refine D_gk rfl ?_
              refine D_l (v := (.b false)) rfl rfl rfl (r_un rfl rfl) ?_
              refine D_l (v := (.b false)) rfl rfl rfl (r_pick_f rfl rfl) ?_
              refine D_l (v := (.b false)) rfl rfl rfl (r_mv rfl) ?_
              refine D_gk rfl ?_
              refine D_l (v := (.p (some (n236, 2)))) rfl rfl rfl (r_fadd' rfl rfl) ?_
              refine D_gk rfl ?_
              refine D_l (v := sv) rfl rfl rfl (r_mv hT196) ?_
              refine D_gk rfl ?_
              refine D_l (v := (.i .i64 (((j0 : Nat)) : Int))) rfl rfl rfl (r_mv rfl) ?_
              refine D_gk rfl ?_
              refine D_q rfl rfl rfl (by exact Rw.row (hsv _ hH259.assoc.top6.fst) rfl (i := j0) rfl (r := [(.i .u16 (sq.getD j0 0))]) (seq_row (by omega))) fun v261 hv260 => ?_
              obtain ⟨rb262, ro263, rfl, hr264⟩ := hv260
              refine D_gk rfl ?_
              refine D_l (v := (.i .u16 (sq.getD 0 0))) rfl rfl rfl (r_mv hT201) ?_
              refine D_gk rfl ?_
              refine D_r (v := (.i .u16 ((sq.getD j0 0 - (sq.getD 0 0)) % 65536))) rfl rfl rfl (r_ld rfl hH259.assoc.get2 rfl) ?_
              refine D_gk rfl ?_
              refine D_r (v := (.i .u16 (sq.getD j0 0))) rfl rfl rfl (r_ldR (q := 0) rfl (hr264 _ (hsv _ hH259.assoc.top6.fst)) rfl) ?_
              refine D_gk rfl ?_
              refine D_l (v := (.i .u16 (IntKind.u16.wrap ((sq.getD j0 0) - (sq.getD 0 0))))) rfl rfl rfl (r_bin rfl rfl rfl) ?_
              refine D_gk rfl ?_
              refine D_l (v := (.b false)) rfl rfl rfl (by exact (by rw [r_neq rfl rfl, decide_eq_true (by rw [wrap_u16])]; rfl)) ?_
              refine D_l (v := (.b false)) rfl rfl rfl (r_pick_f rfl rfl) ?_
              refine D_nil ?_
              refine C_cond (x := false) rfl (fun h => by cases h) (fun _ => ?_)
              refine C_skip ?_
              refine C_region ?_
              refine O_p (.i .i64 (((j0 : Nat)) : Int)) (r_mv rfl) ?_
              refine O_p (.i .i64 ((((j0 : Nat)) : Int) + 1)) (by exact (r_addi rfl rfl (wrap_i64 (by omega) (by omega)))) ?_
              refine O_p (.i .i64 ((((j0 : Nat)) : Int) + 1)) (r_mv rfl) ?_
              refine O_nil ?_
              refine C_region ?_
              refine O_p (.i .i64 (((j : Nat)) : Int)) (r_mv hT205) ?_
              refine O_p (.i .i64 ((((j : Nat)) : Int) + 1)) (by exact (r_addi rfl rfl (wrap_i64 (by omega) (by omega)))) ?_
              refine O_p (.i .i64 ((((j : Nat)) : Int) + 1)) (r_mv rfl) ?_
              refine O_nil ?_
              have hH265 := ((hH259.assoc.sub1).sub1)
              have hH266 := (((((hH265.top4).top1).top4).top4).top4)
              exact ⟨js4.length, by omega, (j0 + 1), v232, c233, rz, js4, (j + 1), rfl, hsq234, hpt, hpw4, hrg4, by omega, by omega, by omega, hH266, hT194, hT195, hT196, hT197, hT198, hT199, hT200, hT201, hT202, hT203, rfl, rfl⟩
          ·
            try simp only [decide_eq_true_eq, decide_eq_false_iff_not, Bool.not_eq_true', Bool.not_eq_false', Bool.and_eq_true, Bool.or_eq_true, Bool.or_eq_false_iff, Bool.not_not, Bool.and_eq_false_iff] at hc207
            refine C_exit ?_
            refine nx_exit ?_
            refine nx_exit ?_
            refine bk_hit ?_
            refine C_region ?_
            refine O_p (.i .i64 (((i : Nat)) : Int)) (r_mv hT202) ?_
            refine O_p (.i .i64 ((((i : Nat)) : Int) + 1)) (by exact (r_addi rfl rfl (wrap_i64 (by omega) (by omega)))) ?_
            refine O_p (.i .i64 ((((i : Nat)) : Int) + 1)) (r_mv rfl) ?_
            refine O_nil ?_
            have hH267 := (((((hH206.top4).top4).top4).top4).top4)
            exact ⟨sq.length - (i + 1), by omega, (sq.getD 0 0), at2, s2, w, wc, wr, js3, l2, D77, (i + 1), rfl, by omega, hp187, hp188, fun h => absurd h (Nat.succ_ne_zero _), fun _ => hs2, fun _ => hF0, hp189, hp190, by omega, by omega, by omega, by omega, fun h => by first | exact hnone | (exfalso; omega), hH267, hT194, hT195, hT196, hT197, hT198, hT199, hT200, hT204, hT201, rfl⟩
      ·
        try simp only [decide_eq_true_eq, decide_eq_false_iff_not, Bool.not_eq_true', Bool.not_eq_false', Bool.and_eq_true, Bool.or_eq_true, Bool.or_eq_false_iff, Bool.not_not, Bool.and_eq_false_iff] at hc55
        refine C_skip ?_
        refine C_seq ?_
        refine C_region ?_
        have hin : i < sq.length := by omega
        have hi0 : 0 < i := by omega
        have hprF := hp32
        have hF0 := hp35 hi0
        have hs1 := hp34
        obtain ⟨s2, js2, l2, bb, hW, hs2, hj2, hl2a, hl2b⟩ := handP (sq := sq) (f := f) (src := source) (s := s) (room := clampR room) (js := js) (l := l) (i := i) hp33 hs1 (fun _ => hF0) ⟨hp40, hp41⟩
        obtain ⟨hpw2, hrg2, hln2⟩ := js_next hp36 hp37 hp38 hp39 hj2
        refine O_p (.p (some (F5, 0))) (r_mv hT49) ?_
        refine O_p (.i .i64 (((i : Nat)) : Int)) (r_mv hT52) ?_
        refine O_p (.i .i64 ((((i % 2) : Nat)) : Int)) (by exact (r_remn (a := i) (b := 2) rfl rfl (by omega))) ?_
        refine O_p (.b (decide (((((i % 2) : Nat)) : Int) = 0))) (r_eql rfl rfl) ?_
        refine O_p sv (r_mv hT45) ?_
        refine O_p (.i .i64 (((i : Nat)) : Int)) (r_mv hT52) ?_
        refine O_q (by exact Rw.row (hsv _ hH53.top4.fst) rfl (i := i) rfl (r := [(.i .u16 (sq.getD i 0))]) (seq_row (by omega))) fun v269 hv268 => ?_
        obtain ⟨rb270, ro271, rfl, hr272⟩ := hv268
        refine O_p (.i .u16 (sq.getD i 0)) (r_ldR (q := 0) rfl (hr272 _ (hsv _ hH53.top4.fst)) rfl) ?_
        refine O_p (.i .i64 (((i : Nat)) : Int)) (r_mv hT52) ?_
        refine O_p (.i .u32 (((i : Nat)) : Int)) (by exact (r_cint' rfl (by rw [wrap_u32]; omega))) ?_
        refine O_p (.i .u32 source) (r_mv hT44) ?_
        refine O_p (.i .i64 (((i : Nat)) : Int)) (r_mv hT52) ?_
        refine O_p (.i .u8 ((UInt8.ofNat (i % 256)).toNat : Int)) (by exact (by rw [u8_lo]; exact r_cint rfl)) ?_
        refine O_p (.i .i64 (((i : Nat)) : Int)) (r_mv hT52) ?_
        refine O_p (.i .i64 (Int.fdiv (((i : Nat)) : Int) (2 ^ 8))) (r_bin rfl rfl rfl) ?_
        refine O_p (.i .u8 ((UInt8.ofNat (i / 256 % 256)).toNat : Int)) (by exact (by rw [u8_hi]; exact r_cint rfl)) ?_
        refine O_bslice (c := [(.i .u8 ((UInt8.ofNat (i % 256)).toNat : Int)), (.i .u8 ((UInt8.ofNat (i / 256 % 256)).toNat : Int))]) rfl fun n273 H274 hN275 => ?_
        have hH276 := hH53.new hN275
        refine O_p (.agg [(.b (decide (((((i % 2) : Nat)) : Int) = 0))), (.i .u8 5), (.i .u16 (sq.getD i 0)), (.i .u32 (((i : Nat)) : Int)), (.i .u32 source), (.sl (some (n273, 0)) 2 2 0)]) (r_build rfl) ?_
        have hH277 := (Hs.addnil hH276 : Hs _ (qseg (.sl none 0 0 0) [] ++ _))
        have hH278 := ((((((hH277.top1).top5).top5).top3).top5).top5)
        have hH279 := ((((((hH278.top5).top5).top5).top5).top5).top5)
        refine O_call (Ev.mono (hear20_ev (p := (pIn sq source i)) (da := some (n273, 0)) (dc := 2) (dg := 0) (B := [(n273, some (.cells [.i .u8 ((UInt8.ofNat (i % 256)).toNat : Int), .i .u8 ((UInt8.ofNat (i / 256 % 256)).toNat : Int)] true))]) (room := clampR room) (c0 := []) (s1 := s) (t1 := spk0) (l1 := l) (w1 := js.map (pkP sq f)) (by show (5 : Int) ≤ 127; decide) (by show 2 ≤ 1188; decide) (.inl rfl) (Nat.le_refl 2) (by decide) (fun H' hh => octs2 (Hs.get (R := []) (by rw [List.append_nil]; exact hh))) hp31 hprF ⟨hp40, by omega⟩ (clampR_le room).2 hH279) fun v280 H281 hq282 => ?_)
        rw [hW] at hq282
        obtain ⟨n283, D284, v287, c288, rows289, rfl, hm285, hsq290, hpr291, hH286⟩ := hq282
        refine O_nil ?_
        refine C_seq ?_
        refine C_region ?_
        refine O_p (.i .i64 0) (r_mv rfl) ?_
        refine O_nil ?_
        refine C_seq ?_
        refine C_seq ?_
        refine C_region ?_
        refine O_p (.i .i64 (((i : Nat)) : Int)) (r_mv hT52) ?_
        refine O_p pv (r_mv hT46) ?_
        refine O_p (.i .i64 (((pl.length : Nat)) : Int)) (r_lenOf (v := pv) (n := pl.length) rfl ((hpv _ hH286.top6.fst).lenOf (List.length_map ..)) (hpv _ hH286.top6.fst).isSl) ?_
        refine O_p (.b (decide ((((i : Nat)) : Int) < (((pl.length : Nat)) : Int)))) (r_lss rfl rfl) ?_
        refine O_nil ?_
        refine C_cond (x := (decide ((((i : Nat)) : Int) < (((pl.length : Nat)) : Int)))) rfl (fun hc292 => ?_) (fun hc292 => ?_)
        ·
          try simp only [decide_eq_true_eq, decide_eq_false_iff_not, Bool.not_eq_true', Bool.not_eq_false', Bool.and_eq_true, Bool.or_eq_true, Bool.or_eq_false_iff, Bool.not_not, Bool.and_eq_false_iff] at hc292
          refine C_region ?_
          refine O_p pv (r_mv hT46) ?_
          refine O_p (.i .i64 (((i : Nat)) : Int)) (r_mv hT52) ?_
          refine O_q (by exact Rw.row (hpv _ hH286.top6.fst) rfl (i := i) rfl (r := [(.i .i64 (pl.getD i 0))]) (seq_row (by omega))) fun v294 hv293 => ?_
          obtain ⟨rb295, ro296, rfl, hr297⟩ := hv293
          refine O_p (.i .i64 (pl.getD i 0)) (r_ldR (q := 0) rfl (hr297 _ (hpv _ hH286.top6.fst)) rfl) ?_
          obtain ⟨q298, hq298, hlq298⟩ := and_nat (pl.getD i 0) 3 (by decide)
          refine O_p (.i .i64 (((q298 : Nat)) : Int)) (by exact (by rw [← hq298]; exact r_bin rfl rfl rfl)) ?_
          refine O_p (.i .i64 (((q298 : Nat)) : Int)) (r_mv rfl) ?_
          refine O_nil ?_
          refine C_seq ?_
          refine C_region ?_
          refine O_p (.i .i64 0) (r_mv rfl) ?_
          refine O_nil ?_
          refine C_block ?_
          have hH299 := ((hH286.sub2).sub4)
          have hH300 := (((((hH299.top4).top4).top4).top4).top4)
          have hj100 : i + 1 ≤ 100 := by omega
          refine C_while (fun m301 T302 H303 => ∃ at2 : Nat, ∃ w : AV, ∃ wc : List AV, ∃ wr : List (List AV), ∃ js3 : List Nat, ∃ j : Nat, m301 = js3.length ∧ Sq 6 w wc wr.flatten ∧ PksR D284 wr (js3.map (pkP sq f)) ∧ js3.Pairwise (· < ·) ∧ (∀ x ∈ js3, at2 ≤ x ∧ x < i + 1) ∧ at2 ≤ i + 1 ∧ js3.length ≤ i + 1 ∧ j + js3.length ≤ 101 ∧ Hs H303 ([(F5, some (.cells ([(.sl (some (Lb6, 0)) 2 2 0), (.i .i64 (((clampR room) : Nat) : Int))]) true))] ++ ([(Lb6, some (.cells (([(lrowS true spk0 spk0 (.sl none 0 0 0) 0), (lrowS true s2 spk0 w l2)] : List (List AV)).flatten) true))] ++ ((qseg w wc) ++ (D284 ++ ((allL H0) ++ ([])))))) ∧ T302.get 0 = (.i .i64 room) ∧ T302.get 1 = (.i .u32 source) ∧ T302.get 2 = sv ∧ T302.get 3 = pv ∧ T302.get 8 = (.b false) ∧ T302.get 9 = (.b true) ∧ T302.get 10 = (.p (some (F5, 0))) ∧ T302.get 12 = (.i .u16 f) ∧ T302.get 13 = (.i .i64 (((i : Nat)) : Int)) ∧ T302.get 14 = (.i .i64 (((q298 : Nat)) : Int)) ∧ T302.get 11 = (.i .i64 (((at2 : Nat)) : Int)) ∧ T302.get 15 = (.i .i64 (((j : Nat)) : Int))) (fun m301 T302 H303 hI304 => ?_) js2.length _ _ ⟨att, v287, c288, rows289, js2, 0, rfl, hsq290, hpr291, hpw2, hrg2, by omega, hln2, by omega, hH300, hT43, hT44, hT45, hT46, hT47, hT48, hT49, hT51, hT52, rfl, hT50, rfl⟩
          obtain ⟨at2, w, wc, wr, js3, j, hm305, hp306, hp307, hp308, hp309, hp310, hp311, hp312, hH325, hT313, hT314, hT315, hT316, hT317, hT318, hT319, hT320, hT321, hT322, hT323, hT324⟩ := hI304
          refine C_seq ?_
          refine C_seq ?_
          refine C_region ?_
          refine O_p (.i .i64 (((j : Nat)) : Int)) (r_mv hT324) ?_
          refine O_p (.i .i64 (((q298 : Nat)) : Int)) (r_mv hT322) ?_
          refine O_p (.b (decide ((((j : Nat)) : Int) < (((q298 : Nat)) : Int)))) (r_lss rfl rfl) ?_
          refine O_p (.b (decide ((((j : Nat)) : Int) < (((q298 : Nat)) : Int)))) (r_mv rfl) ?_
          refine O_gx (e := (!(decide ((((j : Nat)) : Int) < (((q298 : Nat)) : Int))))) (v := (.i .i64 (((i : Nat)) : Int))) (wf rfl) (fun he => (r_mv hT321)) ?_
          refine O_gx (e := (!(decide ((((j : Nat)) : Int) < (((q298 : Nat)) : Int))))) (v := sv) (wf rfl) (fun he => (r_mv hT315)) ?_
          refine O_gx (e := (!(decide ((((j : Nat)) : Int) < (((q298 : Nat)) : Int))))) (v := (.i .i64 (((sq.length : Nat)) : Int))) (wf rfl) (fun he => (r_lenOf (v := sv) (n := sq.length) (cond_pos he) ((hsv _ hH325.top4.fst).lenOf (List.length_map ..)) (hsv _ hH325.top4.fst).isSl)) ?_
          refine O_gx (e := (!(decide ((((j : Nat)) : Int) < (((q298 : Nat)) : Int))))) (v := (.i .i64 ((((sq.length - 1) : Nat)) : Int))) (wf rfl) (fun he => (by exact (r_subn (a := sq.length) (b := 1) (cond_pos he) rfl (by omega) (by omega)))) ?_
          refine O_gx (e := (!(decide ((((j : Nat)) : Int) < (((q298 : Nat)) : Int))))) (v := (.b (decide ((((i : Nat)) : Int) = ((((sq.length - 1) : Nat)) : Int))))) (wf rfl) (fun he => (r_eql (cond_pos he) (cond_pos he))) ?_
          refine O_p (.b ((decide ((((j : Nat)) : Int) < (((q298 : Nat)) : Int))) || (decide ((((i : Nat)) : Int) = ((((sq.length - 1) : Nat)) : Int))))) (r_pick_or rfl rfl rfl rfl) ?_
          refine O_nil ?_
          refine C_cond (x := ((decide ((((j : Nat)) : Int) < (((q298 : Nat)) : Int))) || (decide ((((i : Nat)) : Int) = ((((sq.length - 1) : Nat)) : Int))))) rfl (fun hc326 => ?_) (fun hc326 => ?_)
          ·
            try simp only [decide_eq_true_eq, decide_eq_false_iff_not, Bool.not_eq_true', Bool.not_eq_false', Bool.and_eq_true, Bool.or_eq_true, Bool.or_eq_false_iff, Bool.not_not, Bool.and_eq_false_iff] at hc326
            refine C_skip ?_
            refine C_seq ?_
            refine C_block ?_
            refine C_seq ?_
            by_cases hjn : js3 = []
            ·
              have hp3 := hp307
              rw [hjn] at hp3
              obtain rfl : wr = [] := List.length_eq_zero_iff.1 hp3.1
              refine C_region ?_
              refine O_p (.p (some (F5, 0))) (r_mv hT319) ?_
              have hall327 : ∀ x ∈ ([(lrowS true spk0 spk0 (.sl none 0 0 0) 0), (lrowS true s2 spk0 w l2)] : List (List AV)), x.length = 67 := fun x hx => by simp only [List.mem_cons, List.not_mem_nil, or_false] at hx; rcases hx with rfl | rfl <;> rfl
              have hH328 := (((hH325.top2).top2).top2)
              have hH329 : Hs H303 ([(F5, some (.cells ([(.sl (some (Lb6, 0)) 2 2 0), (.i .i64 (((clampR room) : Nat) : Int))]) true))] ++ ([(Lb6, some (.cells ((([(lrowS true spk0 spk0 (.sl none 0 0 0) 0), (lrowS true s2 spk0 w l2)] : List (List AV)).set 1 (lrowS true s2 spk0 w l2)).flatten) true))] ++ ((qseg w wc) ++ (D284 ++ ((allL H0) ++ ([])))))) := hH328
              have hH330 := (((hH329.top2).top2).top2)
              refine O_call (Ev.mono (pull0_ev (np := 2) (i := 1) (rws := ([(lrowS true spk0 spk0 (.sl none 0 0 0) 0), (lrowS true s2 spk0 w l2)] : List (List AV))) (by decide) hall327 (Nat.le_of_ble_eq_true rfl) hp306 hH330) fun v331 H332 hq333 => ?_)
              obtain ⟨rfl, hH334⟩ := hq333
              refine O_p (.tup [(.agg [(.b false), (.i .u8 0), (.i .u16 0), (.i .u32 0), (.i .u32 0), (.sl none 0 0 0)]), (.b false)]) (r_mv rfl) ?_
              refine O_p (.agg [(.b false), (.i .u8 0), (.i .u16 0), (.i .u32 0), (.i .u32 0), (.sl none 0 0 0)]) (r_ext rfl rfl) ?_
              refine O_p (.b false) (r_ext rfl rfl) ?_
              refine O_alloc fun n335 H336 hN337 => ?_
              have hH338 := hH334.new hN337
              refine O_store (vs := [(.b false), (.i .u8 0), (.i .u16 0), (.i .u32 0), (.i .u32 0), (.sl none 0 0 0)]) (c' := [(.b false), (.i .u8 0), (.i .u16 0), (.i .u32 0), (.i .u32 0), (.sl none 0 0 0)]) rfl (by rfl) hH338.get0 rfl (List.cons_ne_nil _ _) (Nat.le_of_ble_eq_true rfl) rfl fun H339 hW340 => ?_
              have hH341 := hH338.wr0 hW340
              refine O_p (.b false) (r_mv rfl) ?_
              refine O_nil ?_
              refine C_seq ?_
              refine C_seq ?_
              refine C_region ?_
              refine O_p (.b false) (r_mv rfl) ?_
              refine O_p (.b true) (r_un rfl rfl) ?_
              refine O_nil ?_
              refine C_cond (x := true) rfl (fun _ => ?_) (fun h => by cases h)
              refine C_exit ?_
              refine nx_exit ?_
              refine bk_miss (by decide) ?_
              refine nx_exit ?_
              refine nx_exit ?_
              refine bk_hit ?_
              refine C_region ?_
              refine O_p (.i .i64 (((i : Nat)) : Int)) (r_mv hT321) ?_
              refine O_p (.i .i64 ((((i : Nat)) : Int) + 1)) (by exact (r_addi rfl rfl (wrap_i64 (by omega) (by omega)))) ?_
              refine O_p (.i .i64 ((((i : Nat)) : Int) + 1)) (r_mv rfl) ?_
              refine O_nil ?_
              have hH342 := (hH341.sub0)
              have hH343 := (((((hH342.top4).top4).top4).top4).top4)
              exact ⟨sq.length - (i + 1), by omega, f, at2, s2, w, wc, ([] : List (List AV)), js3, l2, D284, (i + 1), rfl, by omega, hp306, hp307, fun h => absurd h (Nat.succ_ne_zero _), fun _ => hs2, fun _ => hF0, hp308, hp309, by omega, by omega, by omega, by omega, fun h => by first | exact hjn | (exfalso; omega), hH343, hT313, hT314, hT315, hT316, hT317, hT318, hT319, hT323, hT320, rfl⟩
            ·
              obtain ⟨j0, js4, rfl⟩ : ∃ x y, js3 = x :: y := by
                cases js3 with
                | nil => exact absurd rfl hjn
                | cons x y => exact ⟨x, y, rfl⟩
              have hp3 := hp307
              obtain ⟨r0, rz, rfl⟩ : ∃ r rz, wr = r :: rz := by
                cases wr with
                | nil => have := hp3.1; simp at this
                | cons r rz => exact ⟨r, rz, rfl⟩
              have hl60 := hp3.lens
              have hpt := hp3.tail
              obtain ⟨rr, hrr, hpk⟩ := hp3.2 0 _ rfl
              simp only [List.getElem?_cons_zero, Option.some.injEq] at hrr
              subst hrr
              obtain ⟨ka, kc, kg, rfl, _, _, _, hkb⟩ := hpk
              obtain ⟨hlt4, hpw4⟩ := List.pairwise_cons.1 hp308
              have hj0 := hp309 j0 (List.mem_cons_self ..)
              have hrg4 : ∀ x ∈ js4, j0 + 1 ≤ x ∧ x < i + 1 := fun x hx => ⟨hlt4 x hx, (hp309 x (List.mem_cons_of_mem _ hx)).2⟩
              have hlc : (j0 :: js4).length = js4.length + 1 := rfl
              have hjsq : j0 < sq.length := by omega
              refine C_region ?_
              refine O_p (.p (some (F5, 0))) (r_mv hT319) ?_
              have hall344 : ∀ x ∈ ([(lrowS true spk0 spk0 (.sl none 0 0 0) 0), (lrowS true s2 spk0 w l2)] : List (List AV)), x.length = 67 := fun x hx => by simp only [List.mem_cons, List.not_mem_nil, or_false] at hx; rcases hx with rfl | rfl <;> rfl
              have hH345 := (((hH325.top2).top2).top2)
              have hH346 : Hs H303 ([(F5, some (.cells ([(.sl (some (Lb6, 0)) 2 2 0), (.i .i64 (((clampR room) : Nat) : Int))]) true))] ++ ([(Lb6, some (.cells ((([(lrowS true spk0 spk0 (.sl none 0 0 0) 0), (lrowS true s2 spk0 w l2)] : List (List AV)).set 1 (lrowS true s2 spk0 w l2)).flatten) true))] ++ ((qseg w wc) ++ (D284 ++ ((allL H0) ++ ([])))))) := hH345
              have hH347 := (((hH346.top2).top2).top2)
              refine O_call (Ev.mono (pull_ev (np := 2) (i := 1) (rws := ([(lrowS true spk0 spk0 (.sl none 0 0 0) 0), (lrowS true s2 spk0 w l2)] : List (List AV))) (by decide) hall344 (Nat.le_of_ble_eq_true rfl) hp306 hl60 hH347) fun v348 H349 hq350 => ?_)
              obtain ⟨v351, c352, rfl, hsq353, hH354⟩ := hq350
              refine O_p (.tup [(.agg [(.b (decide (((((j0 % 2) : Nat)) : Int) = 0))), (.i .u8 5), (.i .u16 ((sq.getD j0 0 - f) % 65536)), (.i .u32 ((j0 : Nat) : Int)), (.i .u32 1), (.sl ka 2 kc kg)]), (.b true)]) (r_mv rfl) ?_
              refine O_p (.agg [(.b (decide (((((j0 % 2) : Nat)) : Int) = 0))), (.i .u8 5), (.i .u16 ((sq.getD j0 0 - f) % 65536)), (.i .u32 ((j0 : Nat) : Int)), (.i .u32 1), (.sl ka 2 kc kg)]) (r_ext rfl rfl) ?_
              refine O_p (.b true) (r_ext rfl rfl) ?_
              refine O_alloc fun n355 H356 hN357 => ?_
              have hH358 := hH354.new hN357
              refine O_store (vs := [(.b (decide (((((j0 % 2) : Nat)) : Int) = 0))), (.i .u8 5), (.i .u16 ((sq.getD j0 0 - f) % 65536)), (.i .u32 ((j0 : Nat) : Int)), (.i .u32 1), (.sl ka 2 kc kg)]) (c' := [(.b (decide (((((j0 % 2) : Nat)) : Int) = 0))), (.i .u8 5), (.i .u16 ((sq.getD j0 0 - f) % 65536)), (.i .u32 ((j0 : Nat) : Int)), (.i .u32 1), (.sl ka 2 kc kg)]) rfl (by rfl) hH358.get0 rfl (List.cons_ne_nil _ _) (Nat.le_of_ble_eq_true rfl) rfl fun H359 hW360 => ?_
              have hH361 := hH358.wr0 hW360
              refine O_p (.b true) (r_mv rfl) ?_
              refine O_nil ?_
              refine C_seq ?_
              refine C_seq ?_
              refine C_region ?_
              refine O_p (.b true) (r_mv rfl) ?_
              refine O_p (.b false) (r_un rfl rfl) ?_
              refine O_nil ?_
              refine C_cond (x := false) rfl (fun h => by cases h) (fun _ => ?_)
              refine C_skip ?_
              refine C_seq ?_
              refine C_region ?_
              refine O_p (.p (some (n355, 3))) (r_fadd' rfl rfl) ?_
              refine O_p (.i .u32 ((j0 : Nat) : Int)) (r_ld rfl hH361.get0 rfl) ?_
              refine O_p (.i .i64 (((j0 : Nat)) : Int)) (by exact (r_cint' rfl (wrap_i64 (by omega) (by omega)))) ?_
              refine O_p (.i .i64 (((j0 : Nat)) : Int)) (r_mv rfl) ?_
              refine O_nil ?_
              refine C_seq ?_
              refine C_seq ?_
              refine C_draw fun b362 H363 hbase364 hA365 => ?_
              have hH366 : Hs H363 (asideL b362 [34] ++ _) := hH361.aside hA365 [34] hbase364 rfl (by decide)
              have hH367 : Hs H363 ([(b362 + 34, none)] ++ _) := hH366
              refine D_l (v := (.i .i64 (((j0 : Nat)) : Int))) rfl rfl rfl (r_mv rfl) ?_
              refine D_l (v := (.i .i64 (((at2 : Nat)) : Int))) rfl rfl rfl (r_mv hT323) ?_
              refine D_l (v := (.b false)) rfl rfl rfl (by exact (by rw [r_lss rfl rfl, decide_eq_false (by omega)])) ?_
              refine D_l (v := (.b false)) rfl rfl rfl (r_mv rfl) ?_
              refine D_gk rfl ?_
              refine D_l (v := (.i .i64 (((j0 : Nat)) : Int))) rfl rfl rfl (r_mv rfl) ?_
              refine D_gk rfl ?_
              refine D_l (v := (.i .i64 (((i : Nat)) : Int))) rfl rfl rfl (r_mv hT321) ?_
              refine D_gk rfl ?_
              refine D_l (v := (.b false)) rfl rfl rfl (by exact (by rw [r_gtr rfl rfl, decide_eq_false (by omega)])) ?_
              refine D_l (v := (.b false)) rfl rfl rfl (r_pick_f rfl rfl) ?_
              refine D_l (v := (.b false)) rfl rfl rfl (r_mv rfl) ?_
              refine D_gk rfl ?_
              refine D_l (v := (.p (some (n355, 1)))) rfl rfl rfl (r_fadd' rfl rfl) ?_
              refine D_gk rfl ?_
              refine D_r (v := (.i .u8 5)) rfl rfl rfl (r_ld rfl hH367.get1 rfl) ?_
              refine D_gk rfl ?_
              refine D_l (v := (.b false)) rfl rfl rfl (r_nqq rfl rfl) ?_
              refine D_l (v := (.b false)) rfl rfl rfl (r_pick_f rfl rfl) ?_
              refine D_l (v := (.b false)) rfl rfl rfl (r_mv rfl) ?_
              refine D_gk rfl ?_
              refine D_l (v := (.p (some (n355, 0)))) rfl rfl rfl (r_fadd' rfl rfl) ?_
              refine D_gk rfl ?_
              refine D_l (v := (.i .i64 (((j0 : Nat)) : Int))) rfl rfl rfl (r_mv rfl) ?_
              refine D_gk rfl ?_
              refine D_l (v := (.i .i64 ((((j0 % 2) : Nat)) : Int))) rfl rfl rfl (by exact (r_remn (a := j0) (b := 2) rfl rfl (by omega))) ?_
              refine D_gk rfl ?_
              refine D_l (v := (.b (decide (((((j0 % 2) : Nat)) : Int) = 0)))) rfl rfl rfl (r_eql rfl rfl) ?_
              refine D_gk rfl ?_
              refine D_r (v := (.b (decide (((((j0 % 2) : Nat)) : Int) = 0)))) rfl rfl rfl (r_ld rfl hH367.get1 rfl) ?_
              refine D_gk rfl ?_
              have hpar : (!((decide (((((j0 % 2) : Nat)) : Int) = 0)) == (decide (((((j0 % 2) : Nat)) : Int) = 0)))) = false := by simp
              refine D_l (v := (.b false)) rfl rfl rfl (by exact ((r_beq rfl rfl).trans (by rw [if_pos rfl, hpar]))) ?_
              refine D_l (v := (.b false)) rfl rfl rfl (r_pick_f rfl rfl) ?_
              refine D_l (v := (.b false)) rfl rfl rfl (r_mv rfl) ?_
              refine D_gk rfl ?_
              refine D_l (v := (.p (some (n355, 4)))) rfl rfl rfl (r_fadd' rfl rfl) ?_
              refine D_gk rfl ?_
              refine D_r (v := (.i .u32 1)) rfl rfl rfl (r_ld rfl hH367.get1 rfl) ?_
              refine D_gk rfl ?_
              refine D_l (v := (.b false)) rfl rfl rfl (r_nqq rfl rfl) ?_
              refine D_l (v := (.b false)) rfl rfl rfl (r_pick_f rfl rfl) ?_
              refine D_l (v := (.b false)) rfl rfl rfl (r_mv rfl) ?_
              refine D_gk rfl ?_
              refine D_l (v := (.p (some (n355, 5)))) rfl rfl rfl (r_fadd' rfl rfl) ?_
              refine D_gk rfl ?_
              refine D_l (v := (.i .i64 (((j0 : Nat)) : Int))) rfl rfl rfl (r_mv rfl) ?_
              refine D_gk rfl ?_
              refine D_l (v := (.i .u8 ((UInt8.ofNat (j0 % 256)).toNat : Int))) rfl rfl rfl (by exact (by rw [u8_lo]; exact r_cint rfl)) ?_
              refine D_gk rfl ?_
              refine D_l (v := (.i .i64 (((j0 : Nat)) : Int))) rfl rfl rfl (r_mv rfl) ?_
              refine D_gk rfl ?_
              refine D_l (v := (.i .i64 (Int.fdiv (((j0 : Nat)) : Int) (2 ^ 8)))) rfl rfl rfl (r_bin rfl rfl rfl) ?_
              refine D_gk rfl ?_
              refine D_l (v := (.i .u8 ((UInt8.ofNat (j0 / 256 % 256)).toNat : Int))) rfl rfl rfl (by exact (by rw [u8_hi]; exact r_cint rfl)) ?_
              refine D_gk rfl ?_
              refine D_r (v := (.sl ka 2 kc kg)) rfl rfl rfl (r_ld rfl hH367.get1 rfl) ?_
              refine D_gk rfl ?_
              refine D_m (f := fun n => ((.sl (some (n, 0)) 2 2 0), .cells [(.i .u8 ((UInt8.ofNat (j0 % 256)).toNat : Int)), (.i .u8 ((UInt8.ofNat (j0 / 256 % 256)).toNat : Int))] true)) rfl rfl fun H369 hW370 => ?_
              have hH372 := hH367.wr0 hW370
              generalize hn371 : b362 + 34 = n368 at hW370 hH372 ⊢
              refine And.intro (And.intro (Or.inr (look_run rfl rfl (r_ld rfl hH372.get1 rfl))) (And.intro (Or.inl rfl) (And.intro (Or.inl rfl) (And.intro (Or.inl rfl) True.intro)))) ?_
              refine D_gk rfl ?_
              have hH373 := (hH372.top5)
              have hH374 := Hs.unassoc hH373
              refine D_call (Ev.mono (same14_ev (l := octs j0) (fun _ hh => hkb _ hh.fst) (fun _ hh => octs2 (Hs.get (R := []) (by rw [List.append_nil]; exact hh.sub))) hH374) fun v375 H376 hq377 => ?_)
              obtain ⟨rfl, hH378⟩ := hq377
              refine And.intro (And.intro (Or.inl rfl) True.intro) ?_
              refine D_gk rfl ?_
              refine D_l (v := (.b false)) rfl rfl rfl (r_un rfl rfl) ?_
              refine D_l (v := (.b false)) rfl rfl rfl (r_pick_f rfl rfl) ?_
              refine D_l (v := (.b false)) rfl rfl rfl (r_mv rfl) ?_
              refine D_gk rfl ?_
              refine D_l (v := (.p (some (n355, 2)))) rfl rfl rfl (r_fadd' rfl rfl) ?_
              refine D_gk rfl ?_
              refine D_l (v := sv) rfl rfl rfl (r_mv hT315) ?_
              refine D_gk rfl ?_
              refine D_l (v := (.i .i64 (((j0 : Nat)) : Int))) rfl rfl rfl (r_mv rfl) ?_
              refine D_gk rfl ?_
              refine D_q rfl rfl rfl (by exact Rw.row (hsv _ hH378.assoc.top6.fst) rfl (i := j0) rfl (r := [(.i .u16 (sq.getD j0 0))]) (seq_row (by omega))) fun v380 hv379 => ?_
              obtain ⟨rb381, ro382, rfl, hr383⟩ := hv379
              refine D_gk rfl ?_
              refine D_l (v := (.i .u16 f)) rfl rfl rfl (r_mv hT320) ?_
              refine D_gk rfl ?_
              refine D_r (v := (.i .u16 ((sq.getD j0 0 - f) % 65536))) rfl rfl rfl (r_ld rfl hH378.assoc.get2 rfl) ?_
              refine D_gk rfl ?_
              refine D_r (v := (.i .u16 (sq.getD j0 0))) rfl rfl rfl (r_ldR (q := 0) rfl (hr383 _ (hsv _ hH378.assoc.top6.fst)) rfl) ?_
              refine D_gk rfl ?_
              refine D_l (v := (.i .u16 (IntKind.u16.wrap ((sq.getD j0 0) - f)))) rfl rfl rfl (r_bin rfl rfl rfl) ?_
              refine D_gk rfl ?_
              refine D_l (v := (.b false)) rfl rfl rfl (by exact (by rw [r_neq rfl rfl, decide_eq_true (by rw [wrap_u16])]; rfl)) ?_
              refine D_l (v := (.b false)) rfl rfl rfl (r_pick_f rfl rfl) ?_
              refine D_nil ?_
              refine C_cond (x := false) rfl (fun h => by cases h) (fun _ => ?_)
              refine C_skip ?_
              refine C_region ?_
              refine O_p (.i .i64 (((j0 : Nat)) : Int)) (r_mv rfl) ?_
              refine O_p (.i .i64 ((((j0 : Nat)) : Int) + 1)) (by exact (r_addi rfl rfl (wrap_i64 (by omega) (by omega)))) ?_
              refine O_p (.i .i64 ((((j0 : Nat)) : Int) + 1)) (r_mv rfl) ?_
              refine O_nil ?_
              refine C_region ?_
              refine O_p (.i .i64 (((j : Nat)) : Int)) (r_mv hT324) ?_
              refine O_p (.i .i64 ((((j : Nat)) : Int) + 1)) (by exact (r_addi rfl rfl (wrap_i64 (by omega) (by omega)))) ?_
              refine O_p (.i .i64 ((((j : Nat)) : Int) + 1)) (r_mv rfl) ?_
              refine O_nil ?_
              have hH384 := ((hH378.assoc.sub1).sub1)
              have hH385 := (((((hH384.top4).top1).top4).top4).top4)
              exact ⟨js4.length, by omega, (j0 + 1), v351, c352, rz, js4, (j + 1), rfl, hsq353, hpt, hpw4, hrg4, by omega, by omega, by omega, hH385, hT313, hT314, hT315, hT316, hT317, hT318, hT319, hT320, hT321, hT322, rfl, rfl⟩
          ·
            try simp only [decide_eq_true_eq, decide_eq_false_iff_not, Bool.not_eq_true', Bool.not_eq_false', Bool.and_eq_true, Bool.or_eq_true, Bool.or_eq_false_iff, Bool.not_not, Bool.and_eq_false_iff] at hc326
            refine C_exit ?_
            refine nx_exit ?_
            refine nx_exit ?_
            refine bk_hit ?_
            refine C_region ?_
            refine O_p (.i .i64 (((i : Nat)) : Int)) (r_mv hT321) ?_
            refine O_p (.i .i64 ((((i : Nat)) : Int) + 1)) (by exact (r_addi rfl rfl (wrap_i64 (by omega) (by omega)))) ?_
            refine O_p (.i .i64 ((((i : Nat)) : Int) + 1)) (r_mv rfl) ?_
            refine O_nil ?_
            have hH386 := (((((hH325.top4).top4).top4).top4).top4)
            exact ⟨sq.length - (i + 1), by omega, f, at2, s2, w, wc, wr, js3, l2, D284, (i + 1), rfl, by omega, hp306, hp307, fun h => absurd h (Nat.succ_ne_zero _), fun _ => hs2, fun _ => hF0, hp308, hp309, by omega, by omega, by omega, by omega, fun h => by first | exact hnone | (exfalso; omega), hH386, hT313, hT314, hT315, hT316, hT317, hT318, hT319, hT323, hT320, rfl⟩
        ·
          try simp only [decide_eq_true_eq, decide_eq_false_iff_not, Bool.not_eq_true', Bool.not_eq_false', Bool.and_eq_true, Bool.or_eq_true, Bool.or_eq_false_iff, Bool.not_not, Bool.and_eq_false_iff] at hc292
          refine C_skip ?_
          refine C_seq ?_
          refine C_region ?_
          refine O_p (.i .i64 0) (r_mv rfl) ?_
          refine O_nil ?_
          refine C_block ?_
          have hH387 := ((hH286.sub2).sub4)
          have hH388 := (((((hH387.top4).top4).top4).top4).top4)
          have hj100 : i + 1 ≤ 100 := by omega
          refine C_while (fun m389 T390 H391 => ∃ at2 : Nat, ∃ w : AV, ∃ wc : List AV, ∃ wr : List (List AV), ∃ js3 : List Nat, ∃ j : Nat, m389 = js3.length ∧ Sq 6 w wc wr.flatten ∧ PksR D284 wr (js3.map (pkP sq f)) ∧ js3.Pairwise (· < ·) ∧ (∀ x ∈ js3, at2 ≤ x ∧ x < i + 1) ∧ at2 ≤ i + 1 ∧ js3.length ≤ i + 1 ∧ j + js3.length ≤ 101 ∧ Hs H391 ([(F5, some (.cells ([(.sl (some (Lb6, 0)) 2 2 0), (.i .i64 (((clampR room) : Nat) : Int))]) true))] ++ ([(Lb6, some (.cells (([(lrowS true spk0 spk0 (.sl none 0 0 0) 0), (lrowS true s2 spk0 w l2)] : List (List AV)).flatten) true))] ++ ((qseg w wc) ++ (D284 ++ ((allL H0) ++ ([])))))) ∧ T390.get 0 = (.i .i64 room) ∧ T390.get 1 = (.i .u32 source) ∧ T390.get 2 = sv ∧ T390.get 3 = pv ∧ T390.get 8 = (.b false) ∧ T390.get 9 = (.b true) ∧ T390.get 10 = (.p (some (F5, 0))) ∧ T390.get 12 = (.i .u16 f) ∧ T390.get 13 = (.i .i64 (((i : Nat)) : Int)) ∧ T390.get 14 = (.i .i64 0) ∧ T390.get 11 = (.i .i64 (((at2 : Nat)) : Int)) ∧ T390.get 15 = (.i .i64 (((j : Nat)) : Int))) (fun m389 T390 H391 hI392 => ?_) js2.length _ _ ⟨att, v287, c288, rows289, js2, 0, rfl, hsq290, hpr291, hpw2, hrg2, by omega, hln2, by omega, hH388, hT43, hT44, hT45, hT46, hT47, hT48, hT49, hT51, hT52, rfl, hT50, rfl⟩
          obtain ⟨at2, w, wc, wr, js3, j, hm393, hp394, hp395, hp396, hp397, hp398, hp399, hp400, hH413, hT401, hT402, hT403, hT404, hT405, hT406, hT407, hT408, hT409, hT410, hT411, hT412⟩ := hI392
          refine C_seq ?_
          refine C_seq ?_
          refine C_region ?_
          refine O_p (.i .i64 (((j : Nat)) : Int)) (r_mv hT412) ?_
          refine O_p (.i .i64 0) (r_mv hT410) ?_
          refine O_p (.b false) (by exact (by rw [r_lss rfl rfl, decide_eq_false (by omega)])) ?_
          refine O_p (.b false) (r_mv rfl) ?_
          refine O_gk rfl ?_
          refine O_p (.i .i64 (((i : Nat)) : Int)) (r_mv hT409) ?_
          refine O_gk rfl ?_
          refine O_p sv (r_mv hT403) ?_
          refine O_gk rfl ?_
          refine O_p (.i .i64 (((sq.length : Nat)) : Int)) (r_lenOf (v := sv) (n := sq.length) rfl ((hsv _ hH413.top4.fst).lenOf (List.length_map ..)) (hsv _ hH413.top4.fst).isSl) ?_
          refine O_gk rfl ?_
          refine O_p (.i .i64 ((((sq.length - 1) : Nat)) : Int)) (by exact (r_subn (a := sq.length) (b := 1) rfl rfl (by omega) (by omega))) ?_
          refine O_gk rfl ?_
          refine O_p (.b (decide ((((i : Nat)) : Int) = ((((sq.length - 1) : Nat)) : Int)))) (r_eql rfl rfl) ?_
          refine O_p (.b (decide ((((i : Nat)) : Int) = ((((sq.length - 1) : Nat)) : Int)))) (r_pick_f rfl rfl) ?_
          refine O_nil ?_
          refine C_cond (x := (decide ((((i : Nat)) : Int) = ((((sq.length - 1) : Nat)) : Int)))) rfl (fun hc414 => ?_) (fun hc414 => ?_)
          ·
            try simp only [decide_eq_true_eq, decide_eq_false_iff_not, Bool.not_eq_true', Bool.not_eq_false', Bool.and_eq_true, Bool.or_eq_true, Bool.or_eq_false_iff, Bool.not_not, Bool.and_eq_false_iff] at hc414
            refine C_skip ?_
            refine C_seq ?_
            refine C_block ?_
            refine C_seq ?_
            by_cases hjn : js3 = []
            ·
              have hp3 := hp395
              rw [hjn] at hp3
              obtain rfl : wr = [] := List.length_eq_zero_iff.1 hp3.1
              refine C_region ?_
              refine O_p (.p (some (F5, 0))) (r_mv hT407) ?_
              have hall415 : ∀ x ∈ ([(lrowS true spk0 spk0 (.sl none 0 0 0) 0), (lrowS true s2 spk0 w l2)] : List (List AV)), x.length = 67 := fun x hx => by simp only [List.mem_cons, List.not_mem_nil, or_false] at hx; rcases hx with rfl | rfl <;> rfl
              have hH416 := (((hH413.top2).top2).top2)
              have hH417 : Hs H391 ([(F5, some (.cells ([(.sl (some (Lb6, 0)) 2 2 0), (.i .i64 (((clampR room) : Nat) : Int))]) true))] ++ ([(Lb6, some (.cells ((([(lrowS true spk0 spk0 (.sl none 0 0 0) 0), (lrowS true s2 spk0 w l2)] : List (List AV)).set 1 (lrowS true s2 spk0 w l2)).flatten) true))] ++ ((qseg w wc) ++ (D284 ++ ((allL H0) ++ ([])))))) := hH416
              have hH418 := (((hH417.top2).top2).top2)
              refine O_call (Ev.mono (pull0_ev (np := 2) (i := 1) (rws := ([(lrowS true spk0 spk0 (.sl none 0 0 0) 0), (lrowS true s2 spk0 w l2)] : List (List AV))) (by decide) hall415 (Nat.le_of_ble_eq_true rfl) hp394 hH418) fun v419 H420 hq421 => ?_)
              obtain ⟨rfl, hH422⟩ := hq421
              refine O_p (.tup [(.agg [(.b false), (.i .u8 0), (.i .u16 0), (.i .u32 0), (.i .u32 0), (.sl none 0 0 0)]), (.b false)]) (r_mv rfl) ?_
              refine O_p (.agg [(.b false), (.i .u8 0), (.i .u16 0), (.i .u32 0), (.i .u32 0), (.sl none 0 0 0)]) (r_ext rfl rfl) ?_
              refine O_p (.b false) (r_ext rfl rfl) ?_
              refine O_alloc fun n423 H424 hN425 => ?_
              have hH426 := hH422.new hN425
              refine O_store (vs := [(.b false), (.i .u8 0), (.i .u16 0), (.i .u32 0), (.i .u32 0), (.sl none 0 0 0)]) (c' := [(.b false), (.i .u8 0), (.i .u16 0), (.i .u32 0), (.i .u32 0), (.sl none 0 0 0)]) rfl (by rfl) hH426.get0 rfl (List.cons_ne_nil _ _) (Nat.le_of_ble_eq_true rfl) rfl fun H427 hW428 => ?_
              have hH429 := hH426.wr0 hW428
              refine O_p (.b false) (r_mv rfl) ?_
              refine O_nil ?_
              refine C_seq ?_
              refine C_seq ?_
              refine C_region ?_
              refine O_p (.b false) (r_mv rfl) ?_
              refine O_p (.b true) (r_un rfl rfl) ?_
              refine O_nil ?_
              refine C_cond (x := true) rfl (fun _ => ?_) (fun h => by cases h)
              refine C_exit ?_
              refine nx_exit ?_
              refine bk_miss (by decide) ?_
              refine nx_exit ?_
              refine nx_exit ?_
              refine bk_hit ?_
              refine C_region ?_
              refine O_p (.i .i64 (((i : Nat)) : Int)) (r_mv hT409) ?_
              refine O_p (.i .i64 ((((i : Nat)) : Int) + 1)) (by exact (r_addi rfl rfl (wrap_i64 (by omega) (by omega)))) ?_
              refine O_p (.i .i64 ((((i : Nat)) : Int) + 1)) (r_mv rfl) ?_
              refine O_nil ?_
              have hH430 := (hH429.sub0)
              have hH431 := (((((hH430.top4).top4).top4).top4).top4)
              exact ⟨sq.length - (i + 1), by omega, f, at2, s2, w, wc, ([] : List (List AV)), js3, l2, D284, (i + 1), rfl, by omega, hp394, hp395, fun h => absurd h (Nat.succ_ne_zero _), fun _ => hs2, fun _ => hF0, hp396, hp397, by omega, by omega, by omega, by omega, fun h => by first | exact hjn | (exfalso; omega), hH431, hT401, hT402, hT403, hT404, hT405, hT406, hT407, hT411, hT408, rfl⟩
            ·
              obtain ⟨j0, js4, rfl⟩ : ∃ x y, js3 = x :: y := by
                cases js3 with
                | nil => exact absurd rfl hjn
                | cons x y => exact ⟨x, y, rfl⟩
              have hp3 := hp395
              obtain ⟨r0, rz, rfl⟩ : ∃ r rz, wr = r :: rz := by
                cases wr with
                | nil => have := hp3.1; simp at this
                | cons r rz => exact ⟨r, rz, rfl⟩
              have hl60 := hp3.lens
              have hpt := hp3.tail
              obtain ⟨rr, hrr, hpk⟩ := hp3.2 0 _ rfl
              simp only [List.getElem?_cons_zero, Option.some.injEq] at hrr
              subst hrr
              obtain ⟨ka, kc, kg, rfl, _, _, _, hkb⟩ := hpk
              obtain ⟨hlt4, hpw4⟩ := List.pairwise_cons.1 hp396
              have hj0 := hp397 j0 (List.mem_cons_self ..)
              have hrg4 : ∀ x ∈ js4, j0 + 1 ≤ x ∧ x < i + 1 := fun x hx => ⟨hlt4 x hx, (hp397 x (List.mem_cons_of_mem _ hx)).2⟩
              have hlc : (j0 :: js4).length = js4.length + 1 := rfl
              have hjsq : j0 < sq.length := by omega
              refine C_region ?_
              refine O_p (.p (some (F5, 0))) (r_mv hT407) ?_
              have hall432 : ∀ x ∈ ([(lrowS true spk0 spk0 (.sl none 0 0 0) 0), (lrowS true s2 spk0 w l2)] : List (List AV)), x.length = 67 := fun x hx => by simp only [List.mem_cons, List.not_mem_nil, or_false] at hx; rcases hx with rfl | rfl <;> rfl
              have hH433 := (((hH413.top2).top2).top2)
              have hH434 : Hs H391 ([(F5, some (.cells ([(.sl (some (Lb6, 0)) 2 2 0), (.i .i64 (((clampR room) : Nat) : Int))]) true))] ++ ([(Lb6, some (.cells ((([(lrowS true spk0 spk0 (.sl none 0 0 0) 0), (lrowS true s2 spk0 w l2)] : List (List AV)).set 1 (lrowS true s2 spk0 w l2)).flatten) true))] ++ ((qseg w wc) ++ (D284 ++ ((allL H0) ++ ([])))))) := hH433
              have hH435 := (((hH434.top2).top2).top2)
              refine O_call (Ev.mono (pull_ev (np := 2) (i := 1) (rws := ([(lrowS true spk0 spk0 (.sl none 0 0 0) 0), (lrowS true s2 spk0 w l2)] : List (List AV))) (by decide) hall432 (Nat.le_of_ble_eq_true rfl) hp394 hl60 hH435) fun v436 H437 hq438 => ?_)
              obtain ⟨v439, c440, rfl, hsq441, hH442⟩ := hq438
              refine O_p (.tup [(.agg [(.b (decide (((((j0 % 2) : Nat)) : Int) = 0))), (.i .u8 5), (.i .u16 ((sq.getD j0 0 - f) % 65536)), (.i .u32 ((j0 : Nat) : Int)), (.i .u32 1), (.sl ka 2 kc kg)]), (.b true)]) (r_mv rfl) ?_
              refine O_p (.agg [(.b (decide (((((j0 % 2) : Nat)) : Int) = 0))), (.i .u8 5), (.i .u16 ((sq.getD j0 0 - f) % 65536)), (.i .u32 ((j0 : Nat) : Int)), (.i .u32 1), (.sl ka 2 kc kg)]) (r_ext rfl rfl) ?_
              refine O_p (.b true) (r_ext rfl rfl) ?_
              refine O_alloc fun n443 H444 hN445 => ?_
              have hH446 := hH442.new hN445
              refine O_store (vs := [(.b (decide (((((j0 % 2) : Nat)) : Int) = 0))), (.i .u8 5), (.i .u16 ((sq.getD j0 0 - f) % 65536)), (.i .u32 ((j0 : Nat) : Int)), (.i .u32 1), (.sl ka 2 kc kg)]) (c' := [(.b (decide (((((j0 % 2) : Nat)) : Int) = 0))), (.i .u8 5), (.i .u16 ((sq.getD j0 0 - f) % 65536)), (.i .u32 ((j0 : Nat) : Int)), (.i .u32 1), (.sl ka 2 kc kg)]) rfl (by rfl) hH446.get0 rfl (List.cons_ne_nil _ _) (Nat.le_of_ble_eq_true rfl) rfl fun H447 hW448 => ?_
              have hH449 := hH446.wr0 hW448
              refine O_p (.b true) (r_mv rfl) ?_
              refine O_nil ?_
              refine C_seq ?_
              refine C_seq ?_
              refine C_region ?_
              refine O_p (.b true) (r_mv rfl) ?_
              refine O_p (.b false) (r_un rfl rfl) ?_
              refine O_nil ?_
              refine C_cond (x := false) rfl (fun h => by cases h) (fun _ => ?_)
              refine C_skip ?_
              refine C_seq ?_
              refine C_region ?_
              refine O_p (.p (some (n443, 3))) (r_fadd' rfl rfl) ?_
              refine O_p (.i .u32 ((j0 : Nat) : Int)) (r_ld rfl hH449.get0 rfl) ?_
              refine O_p (.i .i64 (((j0 : Nat)) : Int)) (by exact (r_cint' rfl (wrap_i64 (by omega) (by omega)))) ?_
              refine O_p (.i .i64 (((j0 : Nat)) : Int)) (r_mv rfl) ?_
              refine O_nil ?_
              refine C_seq ?_
              refine C_seq ?_
              refine C_draw fun b450 H451 hbase452 hA453 => ?_
              have hH454 : Hs H451 (asideL b450 [34] ++ _) := hH449.aside hA453 [34] hbase452 rfl (by decide)
              have hH455 : Hs H451 ([(b450 + 34, none)] ++ _) := hH454
              refine D_l (v := (.i .i64 (((j0 : Nat)) : Int))) rfl rfl rfl (r_mv rfl) ?_
              refine D_l (v := (.i .i64 (((at2 : Nat)) : Int))) rfl rfl rfl (r_mv hT411) ?_
              refine D_l (v := (.b false)) rfl rfl rfl (by exact (by rw [r_lss rfl rfl, decide_eq_false (by omega)])) ?_
              refine D_l (v := (.b false)) rfl rfl rfl (r_mv rfl) ?_
              refine D_gk rfl ?_
              refine D_l (v := (.i .i64 (((j0 : Nat)) : Int))) rfl rfl rfl (r_mv rfl) ?_
              refine D_gk rfl ?_
              refine D_l (v := (.i .i64 (((i : Nat)) : Int))) rfl rfl rfl (r_mv hT409) ?_
              refine D_gk rfl ?_
              refine D_l (v := (.b false)) rfl rfl rfl (by exact (by rw [r_gtr rfl rfl, decide_eq_false (by omega)])) ?_
              refine D_l (v := (.b false)) rfl rfl rfl (r_pick_f rfl rfl) ?_
              refine D_l (v := (.b false)) rfl rfl rfl (r_mv rfl) ?_
              refine D_gk rfl ?_
              refine D_l (v := (.p (some (n443, 1)))) rfl rfl rfl (r_fadd' rfl rfl) ?_
              refine D_gk rfl ?_
              refine D_r (v := (.i .u8 5)) rfl rfl rfl (r_ld rfl hH455.get1 rfl) ?_
              refine D_gk rfl ?_
              refine D_l (v := (.b false)) rfl rfl rfl (r_nqq rfl rfl) ?_
              refine D_l (v := (.b false)) rfl rfl rfl (r_pick_f rfl rfl) ?_
              refine D_l (v := (.b false)) rfl rfl rfl (r_mv rfl) ?_
              refine D_gk rfl ?_
              refine D_l (v := (.p (some (n443, 0)))) rfl rfl rfl (r_fadd' rfl rfl) ?_
              refine D_gk rfl ?_
              refine D_l (v := (.i .i64 (((j0 : Nat)) : Int))) rfl rfl rfl (r_mv rfl) ?_
              refine D_gk rfl ?_
              refine D_l (v := (.i .i64 ((((j0 % 2) : Nat)) : Int))) rfl rfl rfl (by exact (r_remn (a := j0) (b := 2) rfl rfl (by omega))) ?_
              refine D_gk rfl ?_
              refine D_l (v := (.b (decide (((((j0 % 2) : Nat)) : Int) = 0)))) rfl rfl rfl (r_eql rfl rfl) ?_
              refine D_gk rfl ?_
              refine D_r (v := (.b (decide (((((j0 % 2) : Nat)) : Int) = 0)))) rfl rfl rfl (r_ld rfl hH455.get1 rfl) ?_
              refine D_gk rfl ?_
              have hpar : (!((decide (((((j0 % 2) : Nat)) : Int) = 0)) == (decide (((((j0 % 2) : Nat)) : Int) = 0)))) = false := by simp
              refine D_l (v := (.b false)) rfl rfl rfl (by exact ((r_beq rfl rfl).trans (by rw [if_pos rfl, hpar]))) ?_
              refine D_l (v := (.b false)) rfl rfl rfl (r_pick_f rfl rfl) ?_
              refine D_l (v := (.b false)) rfl rfl rfl (r_mv rfl) ?_
              refine D_gk rfl ?_
              refine D_l (v := (.p (some (n443, 4)))) rfl rfl rfl (r_fadd' rfl rfl) ?_
              refine D_gk rfl ?_
              refine D_r (v := (.i .u32 1)) rfl rfl rfl (r_ld rfl hH455.get1 rfl) ?_
              refine D_gk rfl ?_
              refine D_l (v := (.b false)) rfl rfl rfl (r_nqq rfl rfl) ?_
              refine D_l (v := (.b false)) rfl rfl rfl (r_pick_f rfl rfl) ?_
              refine D_l (v := (.b false)) rfl rfl rfl (r_mv rfl) ?_
              refine D_gk rfl ?_
              refine D_l (v := (.p (some (n443, 5)))) rfl rfl rfl (r_fadd' rfl rfl) ?_
              refine D_gk rfl ?_
              refine D_l (v := (.i .i64 (((j0 : Nat)) : Int))) rfl rfl rfl (r_mv rfl) ?_
              refine D_gk rfl ?_
              refine D_l (v := (.i .u8 ((UInt8.ofNat (j0 % 256)).toNat : Int))) rfl rfl rfl (by exact (by rw [u8_lo]; exact r_cint rfl)) ?_
              refine D_gk rfl ?_
              refine D_l (v := (.i .i64 (((j0 : Nat)) : Int))) rfl rfl rfl (r_mv rfl) ?_
              refine D_gk rfl ?_
              refine D_l (v := (.i .i64 (Int.fdiv (((j0 : Nat)) : Int) (2 ^ 8)))) rfl rfl rfl (r_bin rfl rfl rfl) ?_
              refine D_gk rfl ?_
              refine D_l (v := (.i .u8 ((UInt8.ofNat (j0 / 256 % 256)).toNat : Int))) rfl rfl rfl (by exact (by rw [u8_hi]; exact r_cint rfl)) ?_
              refine D_gk rfl ?_
              refine D_r (v := (.sl ka 2 kc kg)) rfl rfl rfl (r_ld rfl hH455.get1 rfl) ?_
              refine D_gk rfl ?_
              refine D_m (f := fun n => ((.sl (some (n, 0)) 2 2 0), .cells [(.i .u8 ((UInt8.ofNat (j0 % 256)).toNat : Int)), (.i .u8 ((UInt8.ofNat (j0 / 256 % 256)).toNat : Int))] true)) rfl rfl fun H457 hW458 => ?_
              have hH460 := hH455.wr0 hW458
              generalize hn459 : b450 + 34 = n456 at hW458 hH460 ⊢
              refine And.intro (And.intro (Or.inr (look_run rfl rfl (r_ld rfl hH460.get1 rfl))) (And.intro (Or.inl rfl) (And.intro (Or.inl rfl) (And.intro (Or.inl rfl) True.intro)))) ?_
              refine D_gk rfl ?_
              have hH461 := (hH460.top5)
              have hH462 := Hs.unassoc hH461
              refine D_call (Ev.mono (same14_ev (l := octs j0) (fun _ hh => hkb _ hh.fst) (fun _ hh => octs2 (Hs.get (R := []) (by rw [List.append_nil]; exact hh.sub))) hH462) fun v463 H464 hq465 => ?_)
              obtain ⟨rfl, hH466⟩ := hq465
              refine And.intro (And.intro (Or.inl rfl) True.intro) ?_
              refine D_gk rfl ?_
              refine D_l (v := (.b false)) rfl rfl rfl (r_un rfl rfl) ?_
              refine D_l (v := (.b false)) rfl rfl rfl (r_pick_f rfl rfl) ?_
              refine D_l (v := (.b false)) rfl rfl rfl (r_mv rfl) ?_
              refine D_gk rfl ?_
              refine D_l (v := (.p (some (n443, 2)))) rfl rfl rfl (r_fadd' rfl rfl) ?_
              refine D_gk rfl ?_
              refine D_l (v := sv) rfl rfl rfl (r_mv hT403) ?_
              refine D_gk rfl ?_
              refine D_l (v := (.i .i64 (((j0 : Nat)) : Int))) rfl rfl rfl (r_mv rfl) ?_
              refine D_gk rfl ?_
              refine D_q rfl rfl rfl (by exact Rw.row (hsv _ hH466.assoc.top6.fst) rfl (i := j0) rfl (r := [(.i .u16 (sq.getD j0 0))]) (seq_row (by omega))) fun v468 hv467 => ?_
              obtain ⟨rb469, ro470, rfl, hr471⟩ := hv467
              refine D_gk rfl ?_
              refine D_l (v := (.i .u16 f)) rfl rfl rfl (r_mv hT408) ?_
              refine D_gk rfl ?_
              refine D_r (v := (.i .u16 ((sq.getD j0 0 - f) % 65536))) rfl rfl rfl (r_ld rfl hH466.assoc.get2 rfl) ?_
              refine D_gk rfl ?_
              refine D_r (v := (.i .u16 (sq.getD j0 0))) rfl rfl rfl (r_ldR (q := 0) rfl (hr471 _ (hsv _ hH466.assoc.top6.fst)) rfl) ?_
              refine D_gk rfl ?_
              refine D_l (v := (.i .u16 (IntKind.u16.wrap ((sq.getD j0 0) - f)))) rfl rfl rfl (r_bin rfl rfl rfl) ?_
              refine D_gk rfl ?_
              refine D_l (v := (.b false)) rfl rfl rfl (by exact (by rw [r_neq rfl rfl, decide_eq_true (by rw [wrap_u16])]; rfl)) ?_
              refine D_l (v := (.b false)) rfl rfl rfl (r_pick_f rfl rfl) ?_
              refine D_nil ?_
              refine C_cond (x := false) rfl (fun h => by cases h) (fun _ => ?_)
              refine C_skip ?_
              refine C_region ?_
              refine O_p (.i .i64 (((j0 : Nat)) : Int)) (r_mv rfl) ?_
              refine O_p (.i .i64 ((((j0 : Nat)) : Int) + 1)) (by exact (r_addi rfl rfl (wrap_i64 (by omega) (by omega)))) ?_
              refine O_p (.i .i64 ((((j0 : Nat)) : Int) + 1)) (r_mv rfl) ?_
              refine O_nil ?_
              refine C_region ?_
              refine O_p (.i .i64 (((j : Nat)) : Int)) (r_mv hT412) ?_
              refine O_p (.i .i64 ((((j : Nat)) : Int) + 1)) (by exact (r_addi rfl rfl (wrap_i64 (by omega) (by omega)))) ?_
              refine O_p (.i .i64 ((((j : Nat)) : Int) + 1)) (r_mv rfl) ?_
              refine O_nil ?_
              have hH472 := ((hH466.assoc.sub1).sub1)
              have hH473 := (((((hH472.top4).top1).top4).top4).top4)
              exact ⟨js4.length, by omega, (j0 + 1), v439, c440, rz, js4, (j + 1), rfl, hsq441, hpt, hpw4, hrg4, by omega, by omega, by omega, hH473, hT401, hT402, hT403, hT404, hT405, hT406, hT407, hT408, hT409, hT410, rfl, rfl⟩
          ·
            try simp only [decide_eq_true_eq, decide_eq_false_iff_not, Bool.not_eq_true', Bool.not_eq_false', Bool.and_eq_true, Bool.or_eq_true, Bool.or_eq_false_iff, Bool.not_not, Bool.and_eq_false_iff] at hc414
            refine C_exit ?_
            refine nx_exit ?_
            refine nx_exit ?_
            refine bk_hit ?_
            refine C_region ?_
            refine O_p (.i .i64 (((i : Nat)) : Int)) (r_mv hT409) ?_
            refine O_p (.i .i64 ((((i : Nat)) : Int) + 1)) (by exact (r_addi rfl rfl (wrap_i64 (by omega) (by omega)))) ?_
            refine O_p (.i .i64 ((((i : Nat)) : Int) + 1)) (r_mv rfl) ?_
            refine O_nil ?_
            have hH474 := (((((hH413.top4).top4).top4).top4).top4)
            exact ⟨sq.length - (i + 1), by omega, f, at2, s2, w, wc, wr, js3, l2, D284, (i + 1), rfl, by omega, hp394, hp395, fun h => absurd h (Nat.succ_ne_zero _), fun _ => hs2, fun _ => hF0, hp396, hp397, by omega, by omega, by omega, by omega, fun h => by first | exact hnone | (exfalso; omega), hH474, hT401, hT402, hT403, hT404, hT405, hT406, hT407, hT411, hT408, rfl⟩
    ·
      try simp only [decide_eq_true_eq, decide_eq_false_iff_not, Bool.not_eq_true', Bool.not_eq_false', Bool.and_eq_true, Bool.or_eq_true, Bool.or_eq_false_iff, Bool.not_not, Bool.and_eq_false_iff] at hc54
      refine C_exit ?_
      refine nx_exit ?_
      refine nx_exit ?_
      refine bk_hit ?_
      refine C_seq ?_
      refine C_region ?_
      refine O_p (.b true) (r_mv hT48) ?_
      refine O_p (.b true) (r_mv rfl) ?_
      have hie : i = sq.length := by omega
      have hjz := hp42 hie
      have hpz := hp32.1
      rw [hjz] at hpz
      have hrz : rows.length = 0 := hpz
      refine O_gk rfl ?_
      refine O_p (.p (some (F5, 0))) (r_mv hT49) ?_
      refine O_gk rfl ?_
      have hall475 : ∀ x ∈ ([(lrowS true spk0 spk0 (.sl none 0 0 0) 0), (lrowS true s spk0 v l)] : List (List AV)), x.length = 67 := fun x hx => by simp only [List.mem_cons, List.not_mem_nil, or_false] at hx; rcases hx with rfl | rfl <;> rfl
      have hH476 := ((hH53.top1).top1)
      have hH477 : Hs H27 ([(F5, some (.cells ([(.sl (some (Lb6, 0)) 2 2 0), (.i .i64 (((clampR room) : Nat) : Int))]) true))] ++ ([(Lb6, some (.cells ((([(lrowS true spk0 spk0 (.sl none 0 0 0) 0), (lrowS true s spk0 v l)] : List (List AV)).set 1 (lrowS true s spk0 v l)).flatten) true))] ++ ((qseg v c) ++ (D ++ ((allL H0) ++ ([])))))) := hH476
      have hH478 := ((hH477.top1).top1)
      refine O_call (Ev.mono (waiting_ev (np := 2) (i := 1) (rws := ([(lrowS true spk0 spk0 (.sl none 0 0 0) 0), (lrowS true s spk0 v l)] : List (List AV))) (by decide) hall475 (Nat.le_of_ble_eq_true rfl) hp31 hp32.lens hH478) fun v479 H480 hq481 => ?_)
      obtain ⟨rfl, hH482⟩ := hq481
      refine O_gk rfl ?_
      refine O_p (.b true) (by exact (by rw [r_eql rfl rfl, decide_eq_true (by omega)])) ?_
      refine O_p (.b true) (r_pick_t rfl rfl) ?_
      refine O_p (.b true) (r_mv rfl) ?_
      refine O_gk rfl ?_
      refine O_p (.p (some (F5, 0))) (r_mv hT49) ?_
      refine O_gk rfl ?_
      have hall483 : ∀ x ∈ ([(lrowS true spk0 spk0 (.sl none 0 0 0) 0), (lrowS true s spk0 v l)] : List (List AV)), x.length = 67 := fun x hx => by simp only [List.mem_cons, List.not_mem_nil, or_false] at hx; rcases hx with rfl | rfl <;> rfl
      have hH484 := ((hH482.top1).top1)
      have hH485 : Hs H480 ([(F5, some (.cells ([(.sl (some (Lb6, 0)) 2 2 0), (.i .i64 (((clampR room) : Nat) : Int))]) true))] ++ ([(Lb6, some (.cells ((([(lrowS true spk0 spk0 (.sl none 0 0 0) 0), (lrowS true s spk0 v l)] : List (List AV)).set 0 (lrowS true spk0 spk0 (.sl none 0 0 0) 0)).flatten) true))] ++ ((qseg v c) ++ (D ++ ((allL H0) ++ ([])))))) := hH484
      have hH486 := ((hH485.top1).top1)
      refine O_call (Ev.mono (waiting_ev (np := 2) (i := 0) (rws := ([(lrowS true spk0 spk0 (.sl none 0 0 0) 0), (lrowS true s spk0 v l)] : List (List AV))) (by decide) hall483 (Nat.le_of_ble_eq_true rfl) (Sq.nil : Sq 6 (.sl none 0 0 0) [] ([] : List (List AV)).flatten) (fun x hx => absurd hx (List.not_mem_nil)) hH486) fun v487 H488 hq489 => ?_)
      obtain ⟨rfl, hH490⟩ := hq489
      refine O_gk rfl ?_
      refine O_p (.b true) (by exact (by rw [r_eql rfl rfl, decide_eq_true (by decide)])) ?_
      refine O_p (.b true) (r_pick_t rfl rfl) ?_
      refine O_p (.b true) (r_mv rfl) ?_
      refine O_gk rfl ?_
      refine O_p (.p (some (F5, 0))) (r_mv hT49) ?_
      refine O_gk rfl ?_
      have hall491 : ∀ x ∈ ([(lrowS true spk0 spk0 (.sl none 0 0 0) 0), (lrowS true s spk0 v l)] : List (List AV)), x.length = 67 := fun x hx => by simp only [List.mem_cons, List.not_mem_nil, or_false] at hx; rcases hx with rfl | rfl <;> rfl
      have hH492 := ((hH490.top1).top1)
      have hH493 : Hs H488 ([(F5, some (.cells ([(.sl (some (Lb6, 0)) 2 2 0), (.i .i64 (((clampR room) : Nat) : Int))]) true))] ++ ([(Lb6, some (.cells ((([(lrowS true spk0 spk0 (.sl none 0 0 0) 0), (lrowS true s spk0 v l)] : List (List AV)).set 0 (lrowS true spk0 spk0 (.sl none 0 0 0) 0)).flatten) true))] ++ ((qseg v c) ++ (D ++ ((allL H0) ++ ([])))))) := hH492
      have hH494 := ((hH493.top1).top1)
      refine O_call (Ev.mono (lost_ev (np := 2) (i := 0) (rws := ([(lrowS true spk0 spk0 (.sl none 0 0 0) 0), (lrowS true s spk0 v l)] : List (List AV))) (by decide) hall491 (Nat.le_of_ble_eq_true rfl) hH494) fun v495 H496 hq497 => ?_)
      obtain ⟨rfl, hH498⟩ := hq497
      refine O_gk rfl ?_
      refine O_p (.b true) (r_bin rfl rfl rfl) ?_
      refine O_p (.b true) (r_pick_t rfl rfl) ?_
      refine O_p (.b true) (r_mv rfl) ?_
      refine O_nil ?_
      refine C_ret ?_
      exact ⟨.inr rfl, _, resL_one (r_tmp (v := .b true) rfl), rfl⟩
set_option maxRecDepth 100000 in
theorem run4T (H : AH) (hok : H.Ok) (room source : Int) {v w : AV} (h : Typed Try.prog H 9 38 [v]) (h2 : Typed Try.prog H 9 39 [w]) : Ev tabA spA (.fn (.func 4) [] []) [.i .i64 room, .i .u32 source, v, w] H (fun v _ => v = .b true) := by
  obtain ⟨p, n, c, rfl, hnc, _, hr⟩ := typed_recs (z := 1) Try.underlying38 (by kernel_rfl) h
  obtain ⟨p2, n2, c2, rfl, hnc2, _, hr2⟩ := typed_recs (z := 1) Try.underlying39 (by kernel_rfl) h2
  obtain ⟨rows, hrw, _, hrt⟩ := Rw.given hnc hr
  obtain ⟨rows2, hrw2, _, hrt2⟩ := Rw.given hnc2 hr2
  obtain ⟨sq, rfl⟩ := ints_ex (k := .u16) fun i r hi => by
    obtain ⟨x, e, _⟩ := typed_int Try.underlying22 (hrt i r hi)
    exact ⟨x, e⟩
  obtain ⟨pl, rfl⟩ := ints_ex (k := .i64) fun i r hi => by
    obtain ⟨x, e, _⟩ := typed_int Try.underlying3 (hrt2 i r hi)
    exact ⟨x, e⟩
  exact run4 H hok room source _ _ sq pl (fun H' hh => hrw.ro (R := []) hok (by rw [List.append_nil]; exact hh)) (fun H' hh => hrw2.ro (R := []) hok (by rw [List.append_nil]; exact hh))
set_option maxRecDepth 100000 in
theorem law4 (W : World) (ρ : Rho) (H : AH) (xs : List AV) (args : Array Value) (hR : Rel Try.prog W.heap.size W ρ H W) (hro : RO H) (hv : VRL ρ xs args.toList) (ht : TypedVs Try.prog H 9 Try.f4.params.toList xs) :
    Calls Try.prog 4 args W fun e w' => e = .returned (.bool true) ∧ Below W.heap.size W w' := by
  rw [Try.params4] at ht
  obtain ⟨a0, xs, rfl, g0, a1, xs, rfl, g1, a2, xs, rfl, g2, a3, xs, rfl, g3, rfl⟩ := ht
  obtain ⟨room, rfl, wroom⟩ := typedV_int Try.underlying3 g0
  obtain ⟨source, rfl, wsource⟩ := typedV_int Try.underlying30 g1
  obtain ⟨k, v, H', hex, rfl⟩ := run4T H hR.aok room source (typedV_slice Try.underlying38 g2) (typedV_slice Try.underlying39 g3)
  exact law_of mixed tabA_ok spA_ok hex hR hv
end Go.Proofs.Ythmiglahfkfcaaa.E
namespace Go.Proofs.Ythmiglahfkfcaaa.audioParts
open Go.ChangeShapes Go.WideShapes Go.RowKit
set_option linter.unusedVariables false
theorem own : ownKnob Try.prog.godebug = none := by kernel_rfl
theorem types : (Try.f4.params.toList.all fun t => E.fit Try.prog 9 t && (Try.prog.readableRec t && decide (t < Try.prog.types.size))) = true := by kernel_rfl
set_option maxRecDepth 100000 in
theorem lifted (os : Os) (started : os.Started) (H : Type) (enc : TypeId × Value → H) :
    ReturnsInHanded {} Try.checked os 4 .any (Rows.audioPartsSpec.pre6 enc Try.prog Try.f4 Rows.audioPartsRow.domain false) (Rows.audioPartsSpec.post enc Try.prog Try.f4 false true false false) :=
  E.law_lifted (C := Try.checked) (k := 9) (tb := 4) E.globals0 E.laid own started (by kernel_rfl) Try.func4
    (ChangeSpec.witness6 (enc := enc) (C := Try.checked) false ⟨#[], #[.int .i64 0, .int .u32 0, .slice none 0 0, .slice none 0 0], []⟩ 8 (by kernel_rfl) (by kernel_rfl) (by kernel_rfl) (by kernel_rfl))
    rfl rfl Try.underlying4 (fun t ht => by have h := List.all_eq_true.1 types t ht; simp only [Bool.and_eq_true, decide_eq_true_eq] at h; exact h)
    (fun ds hd => by
      rw [Try.params4] at hd
      match ds, hd with
      | [d0, d1, d2, d3], _ => rfl) E.law4
theorem over : Rows.audioPartsRow.holds Try.pinned (OpenSpec.ofChange Rows.audioPartsSpec) :=
  OpenClaim.holds_of_wide 4 Try.f4 rfl rfl rfl rfl rfl rfl rfl ⟨rfl, rfl, rfl, rfl, rfl⟩ rfl rfl rfl rfl rfl (by kernel_rfl) Try.func4 (by kernel_rfl)
    (of_decide_eq_true (by kernel_rfl)) (by unfold Func.isWrapper; first | (rw [if_pos (by decide +kernel)]; kernel_rfl) | (rw [if_neg (by decide +kernel)]; exact ⟨rfl, rfl⟩))
    (fun os started H enc _ => lifted os started H enc)
end Go.Proofs.Ythmiglahfkfcaaa.audioParts
namespace Go.Proofs.Ythmiglahfkfcaaa
/-- The row, under a short name, for the claim. -/
theorem audioParts_holds : Rows.AudioPartsSaid := audioParts.over
#print axioms audioParts_holds
end Go.Proofs.Ythmiglahfkfcaaa
