/- DcepPlays, for every input, without conditions. -/
import Derived.Test.YtfhbdddjclodhaaDoorF
import Derived.Test.YtfhbdddjclodhaaDoorHK
namespace Go.Proofs.YtfhbdddjclodhaaDoor.E

open Go.RowKit (Below)
open Go.Lib
set_option linter.unusedVariables false
set_option linter.unusedSimpArgs false

open Go.Lib
set_option linter.unusedVariables false
set_option linter.unusedSimpArgs false
def okL (cs : List Ch) : Prop := ∀ (k : Nat) (c : Ch), cs[k]? = some c → okC c
theorem okL_upd {cs : List Ch} {s : Nat} {d : Ch} (h : okL cs) (hd : okC d) : okL (cs.set s d) := fun k c hk => by
  rw [List.getElem?_set] at hk
  split at hk
  · split at hk
    · simp only [Option.some.injEq] at hk; subst hk; exact hd
    · cases hk
  · exact h k c hk
theorem okC_0 : okC ch0 := ⟨.inl rfl, fun _ => ⟨rfl, rfl⟩⟩
theorem okC_3 (a b c d : Int) (l p : List UInt8) (m t : Bool) : okC ⟨3, b, c, d, l, p, m, t⟩ := ⟨.inr (.inr (.inr rfl)), fun h => absurd rfl h⟩
theorem okC_1 (b c d : Int) (l p : List UInt8) : okC ⟨1, b, c, d, l, p, false, false⟩ := ⟨.inr (.inl rfl), fun _ => ⟨rfl, rfl⟩⟩
theorem okC_2 (b c d : Int) (l p : List UInt8) : okC ⟨2, b, c, d, l, p, false, false⟩ := ⟨.inr (.inr (.inl rfl)), fun _ => ⟨rfl, rfl⟩⟩
theorem okL_at {cs : List Ch} (h : okL cs) (k : Nat) : okC (cs.getD k ch0) := by
  cases hc : cs[k]? with
  | none => rw [List.getD_eq_getElem?_getD, hc]; exact okC_0
  | some c => rw [getD_of hc]; exact h k c hc
theorem okC_to2 {c : Ch} (h : okC c) (h1 : c.st = 1) : okC (c.to 2) := ⟨.inr (.inr (.inl rfl)), fun _ => h.2 (by omega)⟩
theorem okC_shut (c : Ch) (m t : Bool) : okC (c.shut m t) := by
  unfold Ch.shut; split
  · exact okC_0
  · exact okC_3 0 _ _ _ _ _ _ _
theorem okL_hear {cs : List Ch} {even : Bool} {k : Nat} {ppid : Int} {b : List UInt8} (h : okL cs) : okL (hear cs even k ppid b).cs := by
 unfold hear
 repeat' split
 all_goals first | exact h | exact okL_upd h (okC_2 _ _ _ _ _) | exact okL_upd h (okC_to2 (okL_at h k) (by assumption))
theorem hear_len {cs : List Ch} {even : Bool} {k : Nat} {ppid : Int} {b : List UInt8} : (hear cs even k ppid b).cs.length = cs.length := by
 unfold hear
 repeat' split
 all_goals first | rfl | exact List.length_set
theorem okL_close {cs : List Ch} (h : okL cs) (k : Nat) : okL (closeC cs k) := by
  unfold closeC; split
  · exact okL_upd h (okC_3 0 _ _ _ _ _ _ _)
  · exact h
theorem okL_gone {cs : List Ch} (h : okL cs) (k : Nat) : okL (goneC cs k) := by
  unfold goneC; split
  · exact h
  · exact okL_upd h (okC_shut _ _ _)
theorem okL_freed {cs : List Ch} (h : okL cs) (k : Nat) : okL (freedC cs k) := by
  unfold freedC; split
  · exact okL_upd h (okC_shut _ _ _)
  · exact h
theorem close_len {cs : List Ch} {k : Nat} : (closeC cs k).length = cs.length := by unfold closeC; split <;> simp
theorem gone_len {cs : List Ch} {k : Nat} : (goneC cs k).length = cs.length := by unfold goneC; split <;> simp
theorem freed_len {cs : List Ch} {k : Nat} : (freedC cs k).length = cs.length := by unfold freedC; split <;> simp
theorem okL_ask {cs : List Ch} (h : okL cs) (even : Bool) (kind prio limit : Int) (label proto : List UInt8) : okL (askC cs even kind prio limit label proto) := by
  unfold askC; split
  · exact h
  · split
    · exact okL_upd h (okC_1 _ _ _ _ _)
    · exact h
theorem ask_len {cs : List Ch} {even : Bool} {kind prio limit : Int} {label proto : List UInt8} : (askC cs even kind prio limit label proto).length = cs.length := by
  unfold askC; split
  · rfl
  · split <;> simp
theorem okL_new (n : Nat) : okL (List.replicate n ch0) := fun k c h => by
  rw [List.getElem?_replicate] at h
  split at h
  · simp only [Option.some.injEq] at h; subst h; exact okC_0
  · cases h
theorem state_ev {H : AH} {T Lb : Nat} {cs : List Ch} {even : Bool} {R : HL} {k : Nat} (hk16 : k < 65536) (hcs : cs.length ≤ 64) (hH0 : Hs H ([(T, some (.cells [.sl (some (Lb, 0)) cs.length cs.length 0, .b even] true))] ++ ([(Lb, some (.cells ((cs).map Ch.row).flatten true))] ++ R))) : Ev tabV spV (.fn (.func 29) [] []) [.p (some (T, 0)), .i .u16 k] H (fun r H' => r = .i .i64 (cs.getD k ch0).st ∧ H' = H) := by
  by_cases hk : k < cs.length
  · exact state_in hk16 hcs hk hH0
  · exact state_out hk16 hcs hk hH0
theorem openg_ev {H : AH} {T Lb : Nat} {cs : List Ch} {even : Bool} {R : HL} {k : Nat} (hk16 : k < 65536) (hcs : cs.length ≤ 64) (hH0 : Hs H ([(T, some (.cells [.sl (some (Lb, 0)) cs.length cs.length 0, .b even] true))] ++ ([(Lb, some (.cells ((cs).map Ch.row).flatten true))] ++ R))) : Ev tabV spV (.fn (.func 27) [] []) [.p (some (T, 0)), .i .u16 k] H (fun r H' => r = .agg [.i .u8 (cs.getD k ch0).kind, .i .u16 (cs.getD k ch0).prio, .i .u32 (cs.getD k ch0).limit, .s (txt (cs.getD k ch0).label), .s (txt (cs.getD k ch0).proto)] ∧ Hs H' ([(T, some (.cells [.sl (some (Lb, 0)) cs.length cs.length 0, .b even] true))] ++ ([(Lb, some (.cells ((cs).map Ch.row).flatten true))] ++ R))) := by
  by_cases hk : k < cs.length
  · exact openg_in hk16 hcs hk hH0
  · exact openg_out hk16 hcs hk hH0
theorem of_ev {H : AH} {T Lb : Nat} {cs : List Ch} {even : Bool} {R : HL} {k : Nat} (hk16 : k < 65536) (hcs : cs.length ≤ 64) (hH0 : Hs H ([(T, some (.cells [.sl (some (Lb, 0)) cs.length cs.length 0, .b even] true))] ++ ([(Lb, some (.cells ((cs).map Ch.row).flatten true))] ++ R))) : Ev tabV spV (.fn (.func 32) [] []) [.p (some (T, 0)), .i .u16 k] H (fun r H' => r = .agg (cs.getD k ch0).row ∧ Hs H' ([(T, some (.cells [.sl (some (Lb, 0)) cs.length cs.length 0, .b even] true))] ++ ([(Lb, some (.cells ((cs).map Ch.row).flatten true))] ++ R))) := by
  by_cases hk : k < cs.length
  · exact of_in hk16 hcs hk hH0
  · exact of_out hk16 hcs hk hH0
theorem close_ev {H : AH} {T Lb : Nat} {cs : List Ch} {even : Bool} {R : HL} {k : Nat} (hk16 : k < 65536) (hcs : cs.length ≤ 64) (hall : okL cs) (hH0 : Hs H ([(T, some (.cells [.sl (some (Lb, 0)) cs.length cs.length 0, .b even] true))] ++ ([(Lb, some (.cells ((cs).map Ch.row).flatten true))] ++ R))) : Ev tabV spV (.fn (.func 24) [] []) [.p (some (T, 0)), .i .u16 k] H (fun r H' => r = .i .i64 (closeE cs k) ∧ Hs H' ([(T, some (.cells [.sl (some (Lb, 0)) (closeC cs k).length (closeC cs k).length 0, .b even] true))] ++ ([(Lb, some (.cells ((closeC cs k).map Ch.row).flatten true))] ++ R))) := by
  by_cases hk : k < cs.length
  · exact close_in hk16 hcs hk hall hH0
  · exact close_out hk16 hcs hk hH0
theorem gone_ev {H : AH} {T Lb : Nat} {cs : List Ch} {even : Bool} {R : HL} {k : Nat} (hk16 : k < 65536) (hcs : cs.length ≤ 64) (hall : okL cs) (hH0 : Hs H ([(T, some (.cells [.sl (some (Lb, 0)) cs.length cs.length 0, .b even] true))] ++ ([(Lb, some (.cells ((cs).map Ch.row).flatten true))] ++ R))) : Ev tabV spV (.fn (.func 26) [] []) [.p (some (T, 0)), .i .u16 k] H (fun r H' => r = .b (goneB cs k) ∧ Hs H' ([(T, some (.cells [.sl (some (Lb, 0)) (goneC cs k).length (goneC cs k).length 0, .b even] true))] ++ ([(Lb, some (.cells ((goneC cs k).map Ch.row).flatten true))] ++ R))) := by
  by_cases hk : k < cs.length
  · exact gone_in hk16 hcs hk hall hH0
  · exact gone_out hk16 hcs hk hH0
theorem freed_ev {H : AH} {T Lb : Nat} {cs : List Ch} {even : Bool} {R : HL} {k : Nat} (hk16 : k < 65536) (hcs : cs.length ≤ 64) (hall : okL cs) (hH0 : Hs H ([(T, some (.cells [.sl (some (Lb, 0)) cs.length cs.length 0, .b even] true))] ++ ([(Lb, some (.cells ((cs).map Ch.row).flatten true))] ++ R))) : Ev tabV spV (.fn (.func 25) [] []) [.p (some (T, 0)), .i .u16 k] H (fun r H' => r = .tup [] ∧ Hs H' ([(T, some (.cells [.sl (some (Lb, 0)) (freedC cs k).length (freedC cs k).length 0, .b even] true))] ++ ([(Lb, some (.cells ((freedC cs k).map Ch.row).flatten true))] ++ R))) := by
  by_cases hk : k < cs.length
  · exact freed_in hk16 hcs hk hall hH0
  · exact freed_out hk16 hcs hk hH0
theorem rclose_ev {H : AH} {T Lb : Nat} {cs : List Ch} {even : Bool} {R : HL} {k : Nat} (hk16 : k < 65536) (hcs : cs.length ≤ 64) (hall : okL cs) (hH0 : Hs H ([(T, some (.cells [.sl (some (Lb, 0)) cs.length cs.length 0, .b even] true))] ++ ([(Lb, some (.cells ((cs).map Ch.row).flatten true))] ++ R))) : Ev tabV spV (.fn (.func 55) [] []) [.p (some (T, 0)), .i .u16 k] H (fun r H' => r = .i .i64 (closeE cs k) ∧ Hs H' ([(T, some (.cells [.sl (some (Lb, 0)) (closeC cs k).length (closeC cs k).length 0, .b even] true))] ++ ([(Lb, some (.cells ((closeC cs k).map Ch.row).flatten true))] ++ R))) := by
  by_cases hk : k < cs.length
  · exact rclose_in hk16 hcs hk hall hH0
  · exact rclose_out hk16 hcs hk hH0
theorem rgone_ev {H : AH} {T Lb : Nat} {cs : List Ch} {even : Bool} {R : HL} {k : Nat} (hk16 : k < 65536) (hcs : cs.length ≤ 64) (hall : okL cs) (hH0 : Hs H ([(T, some (.cells [.sl (some (Lb, 0)) cs.length cs.length 0, .b even] true))] ++ ([(Lb, some (.cells ((cs).map Ch.row).flatten true))] ++ R))) : Ev tabV spV (.fn (.func 56) [] []) [.p (some (T, 0)), .i .u16 k] H (fun r H' => r = .b (goneB cs k) ∧ Hs H' ([(T, some (.cells [.sl (some (Lb, 0)) (goneC cs k).length (goneC cs k).length 0, .b even] true))] ++ ([(Lb, some (.cells ((goneC cs k).map Ch.row).flatten true))] ++ R))) := by
  by_cases hk : k < cs.length
  · exact rgone_in hk16 hcs hk hall hH0
  · exact rgone_out hk16 hcs hk hH0
theorem rfreed_ev {H : AH} {T Lb : Nat} {cs : List Ch} {even : Bool} {R : HL} {k : Nat} (hk16 : k < 65536) (hcs : cs.length ≤ 64) (hall : okL cs) (hH0 : Hs H ([(T, some (.cells [.sl (some (Lb, 0)) cs.length cs.length 0, .b even] true))] ++ ([(Lb, some (.cells ((cs).map Ch.row).flatten true))] ++ R))) : Ev tabV spV (.fn (.func 57) [] []) [.p (some (T, 0)), .i .u16 k] H (fun r H' => r = .tup [] ∧ Hs H' ([(T, some (.cells [.sl (some (Lb, 0)) (freedC cs k).length (freedC cs k).length 0, .b even] true))] ++ ([(Lb, some (.cells ((freedC cs k).map Ch.row).flatten true))] ++ R))) := by
  by_cases hk : k < cs.length
  · exact rfreed_in hk16 hcs hk hall hH0
  · exact rfreed_out hk16 hcs hk hH0
theorem ask_ev {H : AH} {T Lb : Nat} {cs : List Ch} {even : Bool} {H0 : AH} {R : HL} (hok0 : H0.Ok) (htb0 : Tb H0) (kind prio limit : Int) (label proto : List UInt8) (hk : 0 ≤ kind ∧ kind < 256) (hp : 0 ≤ prio ∧ prio < 65536) (hl : 0 ≤ limit ∧ limit < 4294967296) (hll : label.length ≤ 9223372036854775807) (hpl : proto.length ≤ 9223372036854775807) (hcs : cs.length ≤ 64) (hH0 : Hs H ([(T, some (.cells [.sl (some (Lb, 0)) cs.length cs.length 0, .b even] true))] ++ ([(Lb, some (.cells ((cs).map Ch.row).flatten true))] ++ (allL H0 ++ R)))) : Ev tabV spV (.fn (.func 23) [] []) [.p (some (T, 0)), .agg [(.i .u8 kind), (.i .u16 prio), (.i .u32 limit), (.s (txt label)), (.s (txt proto))]] H (fun r H' => ∃ v c, r = .tup [.i .u16 (askS cs even kind label proto), v, .i .i64 (askE cs even kind label proto)] ∧ Sq 1 v c (bcells (askO cs even kind prio limit label proto)) ∧ Hs H' (qseg v c ++ ([(T, some (.cells [.sl (some (Lb, 0)) (askC cs even kind prio limit label proto).length (askC cs even kind prio limit label proto).length 0, .b even] true))] ++ ([(Lb, some (.cells ((askC cs even kind prio limit label proto).map Ch.row).flatten true))] ++ (allL H0 ++ R))))) := by
  by_cases hE : encE kind label proto = 0
  · exact ask_ok hok0 htb0 kind prio limit label proto hk hp hl hll hpl hE hcs hH0
  · exact ask_bad hok0 htb0 kind prio limit label proto hk hp hl hll hpl hE hcs hH0
theorem rask_ev {H : AH} {T Lb : Nat} {cs : List Ch} {even : Bool} {H0 : AH} {R : HL} (hok0 : H0.Ok) (htb0 : Tb H0) (kind prio limit : Int) (label proto : List UInt8) (hk : 0 ≤ kind ∧ kind < 256) (hp : 0 ≤ prio ∧ prio < 65536) (hl : 0 ≤ limit ∧ limit < 4294967296) (hll : label.length ≤ 9223372036854775807) (hpl : proto.length ≤ 9223372036854775807) (hcs : cs.length ≤ 64) (hH0 : Hs H ([(T, some (.cells [.sl (some (Lb, 0)) cs.length cs.length 0, .b even] true))] ++ ([(Lb, some (.cells ((cs).map Ch.row).flatten true))] ++ (allL H0 ++ R)))) : Ev tabV spV (.fn (.func 53) [] []) [.p (some (T, 0)), .agg [(.i .u8 kind), (.i .u16 prio), (.i .u32 limit), (.s (txt label)), (.s (txt proto))]] H (fun r H' => ∃ v c, r = .tup [.i .u16 (askS cs even kind label proto), v, .i .i64 (askE cs even kind label proto)] ∧ Sq 1 v c (bcells (askO cs even kind prio limit label proto)) ∧ Hs H' (qseg v c ++ ([(T, some (.cells [.sl (some (Lb, 0)) (askC cs even kind prio limit label proto).length (askC cs even kind prio limit label proto).length 0, .b even] true))] ++ ([(Lb, some (.cells ((askC cs even kind prio limit label proto).map Ch.row).flatten true))] ++ (allL H0 ++ R))))) := by
  by_cases hE : encE kind label proto = 0
  · exact rask_ok hok0 htb0 kind prio limit label proto hk hp hl hll hpl hE hcs hH0
  · exact rask_bad hok0 htb0 kind prio limit label proto hk hp hl hll hpl hE hcs hH0
set_option maxRecDepth 100000 in
theorem step_0 {H : AH} {T1 L1 T2 L2 : Nat} {cs : List Ch} {even : Bool} {H0 : AH} {R : HL} (hok0 : H0.Ok) (htb0 : Tb H0) (hokL0 : okL cs) (hcs : cs.length ≤ 64) (wh : Int) (kind prio limit : Int) (label proto : List UInt8) (hk : 0 ≤ kind ∧ kind < 256) (hp : 0 ≤ prio ∧ prio < 65536) (hl : 0 ≤ limit ∧ limit < 4294967296) (hll : label.length ≤ 9223372036854775807) (hpl : proto.length ≤ 9223372036854775807) {k j : Nat} (hk16 : k < 65536) (hj16 : j < 65536) (un : Bool) (ppid : Int) {da : Option (Nat × Nat)} {dc dg : Nat} (dhg : dg = 0 ∨ dg = 1) {b : List UInt8} (hb : ∀ H', Hs H' (allL H0) → Bs H' (.sl da b.length dc dg) b) (dhc : b.length ≤ dc) (dhm : dc ≤ 9223372036854775807) (dfit : b.length ≤ 1073741824) (hw : wh = 0) (hH0 : Hs H ([(T1, some (.cells [.sl (some (L1, 0)) (cs).length (cs).length 0, .b even] true))] ++ ([(L1, some (.cells ((cs).map Ch.row).flatten true))] ++ ([(T2, some (.cells [.sl (some (L2, 0)) (cs).length (cs).length 0, .b even] true))] ++ ([(L2, some (.cells ((cs).map Ch.row).flatten true))] ++ (allL H0 ++ R)))))) : Ev tabV spV (.fn (.func 31) [] []) [.p (some (T1, 0)), .p (some (T2, 0)), .agg [(.i .i64 wh), (.i .u8 kind), (.i .u16 prio), (.i .u32 limit), (.s (txt label)), (.s (txt proto)), (.i .u16 ((k : Nat) : Int)), (.b un), (.i .u32 ppid), (.sl da b.length dc dg), (.i .u16 ((j : Nat) : Int))]] H (fun r H' => r = .b true ∧ ∃ cs', okL cs' ∧ cs'.length ≤ 64 ∧ Hs H' ([(T1, some (.cells [.sl (some (L1, 0)) (cs').length (cs').length 0, .b even] true))] ++ ([(L1, some (.cells ((cs').map Ch.row).flatten true))] ++ ([(T2, some (.cells [.sl (some (L2, 0)) (cs').length (cs').length 0, .b even] true))] ++ ([(L2, some (.cells ((cs').map Ch.row).flatten true))] ++ (allL H0 ++ R)))))) := by
 refine Ev_C (F := x31) rfl ?_
 refine sr ?_
 refine O_box (z := [(.i .i64 wh), (.i .u8 kind), (.i .u16 prio), (.i .u32 limit), (.s (txt label)), (.s (txt proto)), (.i .u16 ((k : Nat) : Int)), (.b un), (.i .u32 ppid), (.sl da b.length dc dg), (.i .u16 ((j : Nat) : Int))]) rfl fun n1 H2 hN3 => ?_
 have hH4 := hH0.new hN3
 refine pv (.b false) rfl ?_
 refine O_nil ?_
 refine C_seq ?_
 refine sr ?_
 refine pf (.p (some (n1, 0))) rfl rfl ?_
 refine O_p (.i .i64 wh) (r_ld rfl hH4.get0 rfl) ?_
 refine O_nil ?_
 refine C_block ?_
 refine sr ?_
 refine O_p (.b true) (by exact (by rw [r_eql rfl rfl, decide_eq_true (by first | omega | assumption)])) ?_
 refine pv (.b true) rfl ?_
 refine O_nil ?_
 refine C_cond (x := true) rfl (fun _ => ?_) (fun h => by cases h)
 refine sr ?_
 refine pv (.p (some (T1, 0))) rfl ?_
 refine pf (.p (some (n1, 1))) rfl rfl ?_
 refine O_p (.agg [(.i .u8 kind), (.i .u16 prio), (.i .u32 limit), (.s (txt label)), (.s (txt proto))]) (r_ldA rfl hH4.get0 rfl) ?_
 have hH5 := (((hH4.top5).top3).top3)
 refine O_call (Ev.mono (ask_ev hok0 htb0 kind prio limit label proto hk hp hl hll hpl hcs hH5) fun v6 H7 hq8 => ?_)
 obtain ⟨o9, c10, rfl, hsq11, hH12⟩ := hq8
 have hokL13 := okL_ask hokL0 even kind prio limit label proto
 have hle14 : (askC (cs) even kind prio limit label proto).length ≤ 64 := by rw [ask_len]; exact hcs
 refine pv (.tup [(.i .u16 (askS (cs) even kind label proto)), o9, (.i .i64 (askE (cs) even kind label proto))]) rfl ?_
 refine O_p (.i .u16 (askS (cs) even kind label proto)) (r_ext rfl rfl) ?_
 refine O_p o9 (r_ext rfl rfl) ?_
 refine O_p (.i .i64 (askE (cs) even kind label proto)) (r_ext rfl rfl) ?_
 refine pv (.i .u16 (askS (cs) even kind label proto)) rfl ?_
 refine pv o9 rfl ?_
 refine pv (.i .i64 (askE (cs) even kind label proto)) rfl ?_
 refine O_nil (sr ?_)
 refine pv (.p (some (T2, 0))) rfl ?_
 refine pf (.p (some (n1, 1))) rfl rfl ?_
 refine O_p (.agg [(.i .u8 kind), (.i .u16 prio), (.i .u32 limit), (.s (txt label)), (.s (txt proto))]) (r_ldA rfl hH12.get4 rfl) ?_
 refine O_call (Ev.mono (theirs_ev hH12.ok kind prio limit label proto) fun v15 H16 hq17 => ?_)
 obtain ⟨rfl, hK18⟩ := hq17
 have hH19 := (hH12.kp hK18)
 have hH20 := (((hH19.top3).top6).top6)
 refine O_call (Ev.mono (rask_ev hok0 htb0 kind prio limit label proto hk hp hl hll hpl hcs hH20) fun v21 H22 hq23 => ?_)
 obtain ⟨o24, c25, rfl, hsq26, hH27⟩ := hq23
 have hokL28 := okL_ask hokL0 even kind prio limit label proto
 have hle29 : (askC (cs) even kind prio limit label proto).length ≤ 64 := by rw [ask_len]; exact hcs
 refine pv (.tup [(.i .u16 (askS (cs) even kind label proto)), o24, (.i .i64 (askE (cs) even kind label proto))]) rfl ?_
 refine O_p (.i .u16 (askS (cs) even kind label proto)) (r_ext rfl rfl) ?_
 refine O_p o24 (r_ext rfl rfl) ?_
 refine O_p (.i .i64 (askE (cs) even kind label proto)) (r_ext rfl rfl) ?_
 refine pv (.i .u16 (askS (cs) even kind label proto)) rfl ?_
 refine pv o24 rfl ?_
 refine pv (.i .i64 (askE (cs) even kind label proto)) rfl ?_
 refine O_nil (sr ?_)
 refine pv (.i .u16 (askS (cs) even kind label proto)) rfl ?_
 refine pv (.i .u16 (askS (cs) even kind label proto)) rfl ?_
 refine O_p (.b true) (r_eqq rfl rfl) ?_
 refine pv (.b true) rfl ?_
 refine O_gs (v := o9) rfl (r_mv rfl) ?_
 refine O_gs (v := o24) rfl (r_mv rfl) ?_
 have hs30 := (hsq11.bs hH27.top4)
 have hs31 := (hsq26.bs hH27.top0)
 refine O_gcall rfl (Ev.mono (same_v hH27.ok hs30 hs31) fun v32 H33 hq34 => ?_)
 rw [show decide ((askO (cs) even kind prio limit label proto) = (askO (cs) even kind prio limit label proto)) = true from decide_eq_true rfl] at hq34
 obtain ⟨rfl, hq34⟩ := hq34
 subst H33
 refine O_p (.b true) (r_pick_t rfl rfl) ?_
 refine pv (.b true) rfl ?_
 refine O_gs (v := (.i .i64 (askE (cs) even kind label proto))) rfl (r_mv rfl) ?_
 refine O_gs (v := (.i .i64 (askE (cs) even kind label proto))) rfl (r_mv rfl) ?_
 refine O_gs (v := (.b true)) rfl (r_eqq rfl rfl) ?_
 refine O_p (.b true) (r_pick_t rfl rfl) ?_
 refine pv (.b true) rfl ?_
 refine O_nil ?_
 refine C_ret ?_
 refine bk_ret ?_
 refine nx_ret ?_
 have hH35 := (((hH27.sub0).sub3).sub5)
 have hH36 := (((((hH35.top2).top2).top2).top4).top4)
 exact ⟨.inr rfl, _, resL_one (r_tmp (v := .b true) rfl), rfl, _, hokL13, hle14, hH36⟩
set_option maxRecDepth 100000 in
theorem step_1 {H : AH} {T1 L1 T2 L2 : Nat} {cs : List Ch} {even : Bool} {H0 : AH} {R : HL} (hok0 : H0.Ok) (htb0 : Tb H0) (hokL0 : okL cs) (hcs : cs.length ≤ 64) (wh : Int) (kind prio limit : Int) (label proto : List UInt8) (hk : 0 ≤ kind ∧ kind < 256) (hp : 0 ≤ prio ∧ prio < 65536) (hl : 0 ≤ limit ∧ limit < 4294967296) (hll : label.length ≤ 9223372036854775807) (hpl : proto.length ≤ 9223372036854775807) {k j : Nat} (hk16 : k < 65536) (hj16 : j < 65536) (un : Bool) (ppid : Int) {da : Option (Nat × Nat)} {dc dg : Nat} (dhg : dg = 0 ∨ dg = 1) {b : List UInt8} (hb : ∀ H', Hs H' (allL H0) → Bs H' (.sl da b.length dc dg) b) (dhc : b.length ≤ dc) (dhm : dc ≤ 9223372036854775807) (dfit : b.length ≤ 1073741824) (hw : wh = 1) (hH0 : Hs H ([(T1, some (.cells [.sl (some (L1, 0)) (cs).length (cs).length 0, .b even] true))] ++ ([(L1, some (.cells ((cs).map Ch.row).flatten true))] ++ ([(T2, some (.cells [.sl (some (L2, 0)) (cs).length (cs).length 0, .b even] true))] ++ ([(L2, some (.cells ((cs).map Ch.row).flatten true))] ++ (allL H0 ++ R)))))) : Ev tabV spV (.fn (.func 31) [] []) [.p (some (T1, 0)), .p (some (T2, 0)), .agg [(.i .i64 wh), (.i .u8 kind), (.i .u16 prio), (.i .u32 limit), (.s (txt label)), (.s (txt proto)), (.i .u16 ((k : Nat) : Int)), (.b un), (.i .u32 ppid), (.sl da b.length dc dg), (.i .u16 ((j : Nat) : Int))]] H (fun r H' => r = .b true ∧ ∃ cs', okL cs' ∧ cs'.length ≤ 64 ∧ Hs H' ([(T1, some (.cells [.sl (some (L1, 0)) (cs').length (cs').length 0, .b even] true))] ++ ([(L1, some (.cells ((cs').map Ch.row).flatten true))] ++ ([(T2, some (.cells [.sl (some (L2, 0)) (cs').length (cs').length 0, .b even] true))] ++ ([(L2, some (.cells ((cs').map Ch.row).flatten true))] ++ (allL H0 ++ R)))))) := by
 refine Ev_C (F := x31) rfl ?_
 refine sr ?_
 refine O_box (z := [(.i .i64 wh), (.i .u8 kind), (.i .u16 prio), (.i .u32 limit), (.s (txt label)), (.s (txt proto)), (.i .u16 ((k : Nat) : Int)), (.b un), (.i .u32 ppid), (.sl da b.length dc dg), (.i .u16 ((j : Nat) : Int))]) rfl fun n1 H2 hN3 => ?_
 have hH4 := hH0.new hN3
 refine pv (.b false) rfl ?_
 refine O_nil ?_
 refine C_seq ?_
 refine sr ?_
 refine pf (.p (some (n1, 0))) rfl rfl ?_
 refine O_p (.i .i64 wh) (r_ld rfl hH4.get0 rfl) ?_
 refine O_nil ?_
 refine C_block ?_
 refine sr ?_
 refine O_p (.b false) (by exact (by rw [r_eql rfl rfl, decide_eq_false (by first | omega | assumption)])) ?_
 refine pv (.b false) rfl ?_
 refine O_nil ?_
 refine C_cond (x := false) rfl (fun h => by cases h) (fun _ => ?_)
 refine sr ?_
 refine O_p (.b true) (by exact (by rw [r_eql rfl rfl, decide_eq_true (by first | omega | assumption)])) ?_
 refine pv (.b true) rfl ?_
 refine O_nil ?_
 refine C_cond (x := true) rfl (fun _ => ?_) (fun h => by cases h)
 refine sr ?_
 refine pv (.p (some (T1, 0))) rfl ?_
 refine pf (.p (some (n1, 6))) rfl rfl ?_
 refine O_p (.agg [(.i .u16 ((k : Nat) : Int)), (.b un), (.i .u32 ppid), (.sl da b.length dc dg)]) (r_ldA rfl hH4.get0 rfl) ?_
 have hH5 := (((hH4.top5).top3).top3)
 refine O_call (Ev.mono (hear_ev (cs := cs) (k := k) hk16 hcs (fun H' h => Tb.ro (R := []) htb0 hok0 (by rw [List.append_nil]; exact h)) un ppid dhg hb dhc dhm dfit hH5) fun v6 H7 hq8 => ?_)
 obtain ⟨ra9, rn10, rc11, rg12, rv13, rq14, rD15, rfl, hrg16, hrnc17, hrcm18, hrall19, hrsq20, hH21⟩ := hq8
 have hokL22 : okL (hear (cs) even k ppid b).cs := okL_hear hokL0
 have hle23 : (hear (cs) even k ppid b).cs.length ≤ 64 := by rw [hear_len]; exact hcs
 refine pv (.tup [(.agg [(.i .i64 (hear (cs) even k ppid b).ek), (.i .u16 (hear (cs) even k ppid b).ei), (.i .u8 (hear (cs) even k ppid b).ko), (.i .u16 (hear (cs) even k ppid b).po), (.i .u32 (hear (cs) even k ppid b).lo), (.s (txt (hear (cs) even k ppid b).ot)), (.s (txt (hear (cs) even k ppid b).oo)), (.b (hear (cs) even k ppid b).et), (.sl ra9 rn10 rc11 rg12)]), rv13, (.i .i64 (hear (cs) even k ppid b).er)]) rfl ?_
 refine O_p (.agg [(.i .i64 (hear (cs) even k ppid b).ek), (.i .u16 (hear (cs) even k ppid b).ei), (.i .u8 (hear (cs) even k ppid b).ko), (.i .u16 (hear (cs) even k ppid b).po), (.i .u32 (hear (cs) even k ppid b).lo), (.s (txt (hear (cs) even k ppid b).ot)), (.s (txt (hear (cs) even k ppid b).oo)), (.b (hear (cs) even k ppid b).et), (.sl ra9 rn10 rc11 rg12)]) (r_ext rfl rfl) ?_
 refine O_p rv13 (r_ext rfl rfl) ?_
 refine O_p (.i .i64 (hear (cs) even k ppid b).er) (r_ext rfl rfl) ?_
 refine O_alloc fun n24 H25 hN26 => ?_
 have hH27 := hH21.new hN26
 refine O_store (vs := [(.i .i64 (hear (cs) even k ppid b).ek), (.i .u16 (hear (cs) even k ppid b).ei), (.i .u8 (hear (cs) even k ppid b).ko), (.i .u16 (hear (cs) even k ppid b).po), (.i .u32 (hear (cs) even k ppid b).lo), (.s (txt (hear (cs) even k ppid b).ot)), (.s (txt (hear (cs) even k ppid b).oo)), (.b (hear (cs) even k ppid b).et), (.sl ra9 rn10 rc11 rg12)]) (c' := [(.i .i64 (hear (cs) even k ppid b).ek), (.i .u16 (hear (cs) even k ppid b).ei), (.i .u8 (hear (cs) even k ppid b).ko), (.i .u16 (hear (cs) even k ppid b).po), (.i .u32 (hear (cs) even k ppid b).lo), (.s (txt (hear (cs) even k ppid b).ot)), (.s (txt (hear (cs) even k ppid b).oo)), (.b (hear (cs) even k ppid b).et), (.sl ra9 rn10 rc11 rg12)]) rfl (by rfl) hH27.get0 rfl (List.cons_ne_nil _ _) (Nat.le_of_ble_eq_true rfl) rfl fun H28 hW29 => ?_
 have hH30 := hH27.wr0 hW29
 refine pv rv13 rfl ?_
 refine pv (.i .i64 (hear (cs) even k ppid b).er) rfl ?_
 refine O_nil (sr ?_)
 refine pv (.p (some (T2, 0))) rfl ?_
 refine pf (.p (some (n1, 6))) rfl rfl ?_
 refine O_p (.agg [(.i .u16 ((k : Nat) : Int)), (.b un), (.i .u32 ppid), (.sl da b.length dc dg)]) (r_ldA rfl hH30.get6 rfl) ?_
 have hH31 := (((hH30.top5).top8).top8)
 refine O_call (Ev.mono (rhear_ev (cs := cs) (k := k) hk16 hcs (fun H' h => Tb.ro (R := []) htb0 hok0 (by rw [List.append_nil]; exact h)) un ppid dhg hb dhc dhm dfit hH31) fun v32 H33 hq34 => ?_)
 obtain ⟨ra35, rn36, rc37, rg38, rv39, rq40, rD41, rfl, hrg42, hrnc43, hrcm44, hrall45, hrsq46, hH47⟩ := hq34
 have hokL48 : okL (hear (cs) even k ppid b).cs := okL_hear hokL0
 have hle49 : (hear (cs) even k ppid b).cs.length ≤ 64 := by rw [hear_len]; exact hcs
 refine pv (.tup [(.agg [(.i .i64 (hear (cs) even k ppid b).ek), (.i .u16 (hear (cs) even k ppid b).ei), (.i .u8 (hear (cs) even k ppid b).ko), (.i .u16 (hear (cs) even k ppid b).po), (.i .u32 (hear (cs) even k ppid b).lo), (.s (txt (hear (cs) even k ppid b).ot)), (.s (txt (hear (cs) even k ppid b).oo)), (.b (hear (cs) even k ppid b).et), (.sl ra35 rn36 rc37 rg38)]), rv39, (.i .i64 (hear (cs) even k ppid b).er)]) rfl ?_
 refine O_p (.agg [(.i .i64 (hear (cs) even k ppid b).ek), (.i .u16 (hear (cs) even k ppid b).ei), (.i .u8 (hear (cs) even k ppid b).ko), (.i .u16 (hear (cs) even k ppid b).po), (.i .u32 (hear (cs) even k ppid b).lo), (.s (txt (hear (cs) even k ppid b).ot)), (.s (txt (hear (cs) even k ppid b).oo)), (.b (hear (cs) even k ppid b).et), (.sl ra35 rn36 rc37 rg38)]) (r_ext rfl rfl) ?_
 refine O_p rv39 (r_ext rfl rfl) ?_
 refine O_p (.i .i64 (hear (cs) even k ppid b).er) (r_ext rfl rfl) ?_
 refine O_alloc fun n50 H51 hN52 => ?_
 have hH53 := hH47.new hN52
 refine O_store (vs := [(.i .i64 (hear (cs) even k ppid b).ek), (.i .u16 (hear (cs) even k ppid b).ei), (.i .u8 (hear (cs) even k ppid b).ko), (.i .u16 (hear (cs) even k ppid b).po), (.i .u32 (hear (cs) even k ppid b).lo), (.s (txt (hear (cs) even k ppid b).ot)), (.s (txt (hear (cs) even k ppid b).oo)), (.b (hear (cs) even k ppid b).et), (.sl ra35 rn36 rc37 rg38)]) (c' := [(.i .i64 (hear (cs) even k ppid b).ek), (.i .u16 (hear (cs) even k ppid b).ei), (.i .u8 (hear (cs) even k ppid b).ko), (.i .u16 (hear (cs) even k ppid b).po), (.i .u32 (hear (cs) even k ppid b).lo), (.s (txt (hear (cs) even k ppid b).ot)), (.s (txt (hear (cs) even k ppid b).oo)), (.b (hear (cs) even k ppid b).et), (.sl ra35 rn36 rc37 rg38)]) rfl (by rfl) hH53.get0 rfl (List.cons_ne_nil _ _) (Nat.le_of_ble_eq_true rfl) rfl fun H54 hW55 => ?_
 have hH56 := hH53.wr0 hW55
 refine pv rv39 rfl ?_
 refine pv (.i .i64 (hear (cs) even k ppid b).er) rfl ?_
 refine O_nil (sr ?_)
 refine pf (.p (some (n24, 0))) rfl rfl ?_
 refine O_p (.i .i64 (hear (cs) even k ppid b).ek) (r_ld rfl hH56.get6 rfl) ?_
 refine pf (.p (some (n50, 0))) rfl rfl ?_
 refine O_p (.i .i64 (hear (cs) even k ppid b).ek) (r_ld rfl hH56.get0 rfl) ?_
 refine O_p (.b true) (r_eqq rfl rfl) ?_
 refine pv (.b true) rfl ?_
 refine O_gs (v := (.p (some (n24, 1)))) rfl (r_fadd' rfl rfl) ?_
 refine O_gs (v := (.i .u16 (hear (cs) even k ppid b).ei)) rfl (r_ld rfl hH56.get6 rfl) ?_
 refine O_gs (v := (.p (some (n50, 1)))) rfl (r_fadd' rfl rfl) ?_
 refine O_gs (v := (.i .u16 (hear (cs) even k ppid b).ei)) rfl (r_ld rfl hH56.get0 rfl) ?_
 refine O_gs (v := (.b true)) rfl (r_eqq rfl rfl) ?_
 refine O_p (.b true) (r_pick_t rfl rfl) ?_
 refine pv (.b true) rfl ?_
 refine O_gs (v := (.p (some (n24, 2)))) rfl (r_fadd' rfl rfl) ?_
 refine O_gs (v := (.agg [(.i .u8 (hear (cs) even k ppid b).ko), (.i .u16 (hear (cs) even k ppid b).po), (.i .u32 (hear (cs) even k ppid b).lo), (.s (txt (hear (cs) even k ppid b).ot)), (.s (txt (hear (cs) even k ppid b).oo))])) rfl (r_ldA rfl hH56.get6 rfl) ?_
 refine O_gs (v := (.p (some (n50, 2)))) rfl (r_fadd' rfl rfl) ?_
 refine O_gs (v := (.agg [(.i .u8 (hear (cs) even k ppid b).ko), (.i .u16 (hear (cs) even k ppid b).po), (.i .u32 (hear (cs) even k ppid b).lo), (.s (txt (hear (cs) even k ppid b).ot)), (.s (txt (hear (cs) even k ppid b).oo))])) rfl (r_ldA rfl hH56.get0 rfl) ?_
 refine O_gcall rfl (Ev.mono (alike_ev hH56.ok ((hear (cs) even k ppid b).ko) ((hear (cs) even k ppid b).po) ((hear (cs) even k ppid b).lo) ((hear (cs) even k ppid b).ot) ((hear (cs) even k ppid b).oo)) fun v57 H58 hq59 => ?_)
 obtain ⟨rfl, hK60⟩ := hq59
 have hH61 := (hH56.kp hK60)
 refine O_p (.b true) (r_pick_t rfl rfl) ?_
 refine pv (.b true) rfl ?_
 refine O_gs (v := (.p (some (n24, 7)))) rfl (r_fadd' rfl rfl) ?_
 refine O_gs (v := (.b (hear (cs) even k ppid b).et)) rfl (r_ld rfl hH61.get6 rfl) ?_
 refine O_gs (v := (.p (some (n50, 7)))) rfl (r_fadd' rfl rfl) ?_
 refine O_gs (v := (.b (hear (cs) even k ppid b).et)) rfl (r_ld rfl hH61.get0 rfl) ?_
 refine O_gs (v := (.b true)) rfl (r_beqq rfl rfl) ?_
 refine O_p (.b true) (r_pick_t rfl rfl) ?_
 refine pv (.b true) rfl ?_
 refine O_gs (v := (.p (some (n24, 8)))) rfl (r_fadd' rfl rfl) ?_
 refine O_gs (v := (.sl ra9 rn10 rc11 rg12)) rfl (r_ld rfl hH61.get6 rfl) ?_
 refine O_gs (v := (.p (some (n50, 8)))) rfl (r_fadd' rfl rfl) ?_
 refine O_gs (v := (.sl ra35 rn36 rc37 rg38)) rfl (r_ld rfl hH61.get0 rfl) ?_
 have hH62 := ((hH61.top5).top7)
 have hbD63 := hrall19 _ (Hs.fst (Hs.unassoc hH62))
 have hs64 := hbD63
 have hH65 := ((hH62.top1).top3)
 have hbD66 := hrall45 _ (Hs.fst (Hs.unassoc hH65))
 have hs67 := hbD66
 refine O_gcall rfl (Ev.mono (same_v hH65.ok hs64 hs67) fun v68 H69 hq70 => ?_)
 rw [show decide ((hear (cs) even k ppid b).ed = (hear (cs) even k ppid b).ed) = true from decide_eq_true rfl] at hq70
 obtain ⟨rfl, hq70⟩ := hq70
 subst H69
 refine O_p (.b true) (r_pick_t rfl rfl) ?_
 refine pv (.b true) rfl ?_
 refine O_gs (v := rv13) rfl (r_mv rfl) ?_
 refine O_gs (v := rv39) rfl (r_mv rfl) ?_
 have hs71 := (hrsq20.bs hH65.top8)
 have hs72 := (hrsq46.bs hH65.top4)
 refine O_gcall rfl (Ev.mono (same_v hH65.ok hs71 hs72) fun v73 H74 hq75 => ?_)
 rw [show decide ((hear (cs) even k ppid b).rep = (hear (cs) even k ppid b).rep) = true from decide_eq_true rfl] at hq75
 obtain ⟨rfl, hq75⟩ := hq75
 subst H74
 refine O_p (.b true) (r_pick_t rfl rfl) ?_
 refine pv (.b true) rfl ?_
 refine O_gs (v := (.i .i64 (hear (cs) even k ppid b).er)) rfl (r_mv rfl) ?_
 refine O_gs (v := (.i .i64 (hear (cs) even k ppid b).er)) rfl (r_mv rfl) ?_
 refine O_gs (v := (.b true)) rfl (r_eqq rfl rfl) ?_
 refine O_p (.b true) (r_pick_t rfl rfl) ?_
 refine pv (.b true) rfl ?_
 refine O_nil ?_
 refine C_ret ?_
 refine bk_ret ?_
 refine nx_ret ?_
 have hH76 := (((((((hH65.sub0).sub1).sub1).sub1).sub3).sub3).sub5)
 have hH77 := ((((hH76.top2).top2).top4).top4)
 exact ⟨.inr rfl, _, resL_one (r_tmp (v := .b true) rfl), rfl, _, hokL22, hle23, hH77⟩
set_option maxRecDepth 100000 in
theorem step_2 {H : AH} {T1 L1 T2 L2 : Nat} {cs : List Ch} {even : Bool} {H0 : AH} {R : HL} (hok0 : H0.Ok) (htb0 : Tb H0) (hokL0 : okL cs) (hcs : cs.length ≤ 64) (wh : Int) (kind prio limit : Int) (label proto : List UInt8) (hk : 0 ≤ kind ∧ kind < 256) (hp : 0 ≤ prio ∧ prio < 65536) (hl : 0 ≤ limit ∧ limit < 4294967296) (hll : label.length ≤ 9223372036854775807) (hpl : proto.length ≤ 9223372036854775807) {k j : Nat} (hk16 : k < 65536) (hj16 : j < 65536) (un : Bool) (ppid : Int) {da : Option (Nat × Nat)} {dc dg : Nat} (dhg : dg = 0 ∨ dg = 1) {b : List UInt8} (hb : ∀ H', Hs H' (allL H0) → Bs H' (.sl da b.length dc dg) b) (dhc : b.length ≤ dc) (dhm : dc ≤ 9223372036854775807) (dfit : b.length ≤ 1073741824) (hw : wh = 2) (hH0 : Hs H ([(T1, some (.cells [.sl (some (L1, 0)) (cs).length (cs).length 0, .b even] true))] ++ ([(L1, some (.cells ((cs).map Ch.row).flatten true))] ++ ([(T2, some (.cells [.sl (some (L2, 0)) (cs).length (cs).length 0, .b even] true))] ++ ([(L2, some (.cells ((cs).map Ch.row).flatten true))] ++ (allL H0 ++ R)))))) : Ev tabV spV (.fn (.func 31) [] []) [.p (some (T1, 0)), .p (some (T2, 0)), .agg [(.i .i64 wh), (.i .u8 kind), (.i .u16 prio), (.i .u32 limit), (.s (txt label)), (.s (txt proto)), (.i .u16 ((k : Nat) : Int)), (.b un), (.i .u32 ppid), (.sl da b.length dc dg), (.i .u16 ((j : Nat) : Int))]] H (fun r H' => r = .b true ∧ ∃ cs', okL cs' ∧ cs'.length ≤ 64 ∧ Hs H' ([(T1, some (.cells [.sl (some (L1, 0)) (cs').length (cs').length 0, .b even] true))] ++ ([(L1, some (.cells ((cs').map Ch.row).flatten true))] ++ ([(T2, some (.cells [.sl (some (L2, 0)) (cs').length (cs').length 0, .b even] true))] ++ ([(L2, some (.cells ((cs').map Ch.row).flatten true))] ++ (allL H0 ++ R)))))) := by
 refine Ev_C (F := x31) rfl ?_
 refine sr ?_
 refine O_box (z := [(.i .i64 wh), (.i .u8 kind), (.i .u16 prio), (.i .u32 limit), (.s (txt label)), (.s (txt proto)), (.i .u16 ((k : Nat) : Int)), (.b un), (.i .u32 ppid), (.sl da b.length dc dg), (.i .u16 ((j : Nat) : Int))]) rfl fun n1 H2 hN3 => ?_
 have hH4 := hH0.new hN3
 refine pv (.b false) rfl ?_
 refine O_nil ?_
 refine C_seq ?_
 refine sr ?_
 refine pf (.p (some (n1, 0))) rfl rfl ?_
 refine O_p (.i .i64 wh) (r_ld rfl hH4.get0 rfl) ?_
 refine O_nil ?_
 refine C_block ?_
 refine sr ?_
 refine O_p (.b false) (by exact (by rw [r_eql rfl rfl, decide_eq_false (by first | omega | assumption)])) ?_
 refine pv (.b false) rfl ?_
 refine O_nil ?_
 refine C_cond (x := false) rfl (fun h => by cases h) (fun _ => ?_)
 refine sr ?_
 refine O_p (.b false) (by exact (by rw [r_eql rfl rfl, decide_eq_false (by first | omega | assumption)])) ?_
 refine pv (.b false) rfl ?_
 refine O_nil ?_
 refine C_cond (x := false) rfl (fun h => by cases h) (fun _ => ?_)
 refine sr ?_
 refine O_p (.b true) (by exact (by rw [r_eql rfl rfl, decide_eq_true (by first | omega | assumption)])) ?_
 refine pv (.b true) rfl ?_
 refine O_nil ?_
 refine C_cond (x := true) rfl (fun _ => ?_) (fun h => by cases h)
 refine C_seq ?_
 refine C_draw fun b5 H6 hbase7 hA8 => ?_
 have hH9 := hH4.keep (by have := hA8.1; omega) (fun q _ => hA8.2 q) ((hH4.old).aside hA8).ok
 refine D_l (v := (.p (some (T1, 0)))) rfl rfl rfl (r_mv rfl) ?_
 refine D_l (v := (.p (some (n1, 10)))) rfl rfl rfl (r_fadd' rfl rfl) ?_
 refine D_l (v := (.p (some (T2, 0)))) rfl rfl rfl (r_mv rfl) ?_
 refine D_l (v := (.p (some (n1, 10)))) rfl rfl rfl (r_fadd' rfl rfl) ?_
 refine D_r (v := (.i .u16 ((j : Nat) : Int))) rfl rfl rfl (r_ld rfl hH9.get0 rfl) ?_
 refine D_r (v := (.i .u16 ((j : Nat) : Int))) rfl rfl rfl (r_ld rfl hH9.get0 rfl) ?_
 have hH10 := ((hH9.top2).top2)
 refine D_call (Ev.mono (close_ev (cs := cs) (k := j) hj16 hcs hokL0 hH10) fun v11 H12 hq13 => ?_)
 obtain ⟨rfl, hH14⟩ := hq13
 have hokL15 := okL_close hokL0 j
 have hle16 : (closeC (cs) j).length ≤ 64 := by rw [close_len]; exact hcs
 refine And.intro (And.intro (Or.inr (look_run rfl rfl (r_ld rfl hH14.get2 rfl))) (And.intro (Or.inl rfl) True.intro)) ?_
 have hH17 := ((hH14.top4).top4)
 refine D_call (Ev.mono (rclose_ev (cs := cs) (k := j) hj16 hcs hokL0 hH17) fun v18 H19 hq20 => ?_)
 obtain ⟨rfl, hH21⟩ := hq20
 have hokL22 := okL_close hokL0 j
 have hle23 : (closeC (cs) j).length ≤ 64 := by rw [close_len]; exact hcs
 refine And.intro (And.intro (Or.inl rfl) True.intro) ?_
 refine D_l (v := (.b true)) rfl rfl rfl (r_eqq rfl rfl) ?_
 refine D_l (v := (.b true)) rfl rfl rfl (r_mv rfl) ?_
 refine D_nil ?_
 refine C_ret ?_
 refine bk_ret ?_
 refine nx_ret ?_
 have hH24 := (hH21.sub4)
 have hH25 := (((((hH24.top4).top2).top2).top4).top4)
 exact ⟨.inr rfl, _, resL_one (r_tmp (v := .b true) rfl), rfl, _, hokL15, hle16, hH25⟩
set_option maxRecDepth 100000 in
theorem step_3 {H : AH} {T1 L1 T2 L2 : Nat} {cs : List Ch} {even : Bool} {H0 : AH} {R : HL} (hok0 : H0.Ok) (htb0 : Tb H0) (hokL0 : okL cs) (hcs : cs.length ≤ 64) (wh : Int) (kind prio limit : Int) (label proto : List UInt8) (hk : 0 ≤ kind ∧ kind < 256) (hp : 0 ≤ prio ∧ prio < 65536) (hl : 0 ≤ limit ∧ limit < 4294967296) (hll : label.length ≤ 9223372036854775807) (hpl : proto.length ≤ 9223372036854775807) {k j : Nat} (hk16 : k < 65536) (hj16 : j < 65536) (un : Bool) (ppid : Int) {da : Option (Nat × Nat)} {dc dg : Nat} (dhg : dg = 0 ∨ dg = 1) {b : List UInt8} (hb : ∀ H', Hs H' (allL H0) → Bs H' (.sl da b.length dc dg) b) (dhc : b.length ≤ dc) (dhm : dc ≤ 9223372036854775807) (dfit : b.length ≤ 1073741824) (hw : wh = 3) (hH0 : Hs H ([(T1, some (.cells [.sl (some (L1, 0)) (cs).length (cs).length 0, .b even] true))] ++ ([(L1, some (.cells ((cs).map Ch.row).flatten true))] ++ ([(T2, some (.cells [.sl (some (L2, 0)) (cs).length (cs).length 0, .b even] true))] ++ ([(L2, some (.cells ((cs).map Ch.row).flatten true))] ++ (allL H0 ++ R)))))) : Ev tabV spV (.fn (.func 31) [] []) [.p (some (T1, 0)), .p (some (T2, 0)), .agg [(.i .i64 wh), (.i .u8 kind), (.i .u16 prio), (.i .u32 limit), (.s (txt label)), (.s (txt proto)), (.i .u16 ((k : Nat) : Int)), (.b un), (.i .u32 ppid), (.sl da b.length dc dg), (.i .u16 ((j : Nat) : Int))]] H (fun r H' => r = .b true ∧ ∃ cs', okL cs' ∧ cs'.length ≤ 64 ∧ Hs H' ([(T1, some (.cells [.sl (some (L1, 0)) (cs').length (cs').length 0, .b even] true))] ++ ([(L1, some (.cells ((cs').map Ch.row).flatten true))] ++ ([(T2, some (.cells [.sl (some (L2, 0)) (cs').length (cs').length 0, .b even] true))] ++ ([(L2, some (.cells ((cs').map Ch.row).flatten true))] ++ (allL H0 ++ R)))))) := by
 refine Ev_C (F := x31) rfl ?_
 refine sr ?_
 refine O_box (z := [(.i .i64 wh), (.i .u8 kind), (.i .u16 prio), (.i .u32 limit), (.s (txt label)), (.s (txt proto)), (.i .u16 ((k : Nat) : Int)), (.b un), (.i .u32 ppid), (.sl da b.length dc dg), (.i .u16 ((j : Nat) : Int))]) rfl fun n1 H2 hN3 => ?_
 have hH4 := hH0.new hN3
 refine pv (.b false) rfl ?_
 refine O_nil ?_
 refine C_seq ?_
 refine sr ?_
 refine pf (.p (some (n1, 0))) rfl rfl ?_
 refine O_p (.i .i64 wh) (r_ld rfl hH4.get0 rfl) ?_
 refine O_nil ?_
 refine C_block ?_
 refine sr ?_
 refine O_p (.b false) (by exact (by rw [r_eql rfl rfl, decide_eq_false (by first | omega | assumption)])) ?_
 refine pv (.b false) rfl ?_
 refine O_nil ?_
 refine C_cond (x := false) rfl (fun h => by cases h) (fun _ => ?_)
 refine sr ?_
 refine O_p (.b false) (by exact (by rw [r_eql rfl rfl, decide_eq_false (by first | omega | assumption)])) ?_
 refine pv (.b false) rfl ?_
 refine O_nil ?_
 refine C_cond (x := false) rfl (fun h => by cases h) (fun _ => ?_)
 refine sr ?_
 refine O_p (.b false) (by exact (by rw [r_eql rfl rfl, decide_eq_false (by first | omega | assumption)])) ?_
 refine pv (.b false) rfl ?_
 refine O_nil ?_
 refine C_cond (x := false) rfl (fun h => by cases h) (fun _ => ?_)
 refine sr ?_
 refine O_p (.b true) (by exact (by rw [r_eql rfl rfl, decide_eq_true (by first | omega | assumption)])) ?_
 refine pv (.b true) rfl ?_
 refine O_nil ?_
 refine C_cond (x := true) rfl (fun _ => ?_) (fun h => by cases h)
 refine C_seq ?_
 refine C_draw fun b5 H6 hbase7 hA8 => ?_
 have hH9 := hH4.keep (by have := hA8.1; omega) (fun q _ => hA8.2 q) ((hH4.old).aside hA8).ok
 refine D_l (v := (.p (some (T1, 0)))) rfl rfl rfl (r_mv rfl) ?_
 refine D_l (v := (.p (some (n1, 10)))) rfl rfl rfl (r_fadd' rfl rfl) ?_
 refine D_l (v := (.p (some (T2, 0)))) rfl rfl rfl (r_mv rfl) ?_
 refine D_l (v := (.p (some (n1, 10)))) rfl rfl rfl (r_fadd' rfl rfl) ?_
 refine D_r (v := (.i .u16 ((j : Nat) : Int))) rfl rfl rfl (r_ld rfl hH9.get0 rfl) ?_
 refine D_r (v := (.i .u16 ((j : Nat) : Int))) rfl rfl rfl (r_ld rfl hH9.get0 rfl) ?_
 have hH10 := ((hH9.top2).top2)
 refine D_call (Ev.mono (gone_ev (cs := cs) (k := j) hj16 hcs hokL0 hH10) fun v11 H12 hq13 => ?_)
 obtain ⟨rfl, hH14⟩ := hq13
 have hokL15 := okL_gone hokL0 j
 have hle16 : (goneC (cs) j).length ≤ 64 := by rw [gone_len]; exact hcs
 refine And.intro (And.intro (Or.inr (look_run rfl rfl (r_ld rfl hH14.get2 rfl))) (And.intro (Or.inl rfl) True.intro)) ?_
 have hH17 := ((hH14.top4).top4)
 refine D_call (Ev.mono (rgone_ev (cs := cs) (k := j) hj16 hcs hokL0 hH17) fun v18 H19 hq20 => ?_)
 obtain ⟨rfl, hH21⟩ := hq20
 have hokL22 := okL_gone hokL0 j
 have hle23 : (goneC (cs) j).length ≤ 64 := by rw [gone_len]; exact hcs
 refine And.intro (And.intro (Or.inl rfl) True.intro) ?_
 refine D_l (v := (.b true)) rfl rfl rfl (r_beqq rfl rfl) ?_
 refine D_l (v := (.b true)) rfl rfl rfl (r_mv rfl) ?_
 refine D_nil ?_
 refine C_ret ?_
 refine bk_ret ?_
 refine nx_ret ?_
 have hH24 := (hH21.sub4)
 have hH25 := (((((hH24.top4).top2).top2).top4).top4)
 exact ⟨.inr rfl, _, resL_one (r_tmp (v := .b true) rfl), rfl, _, hokL15, hle16, hH25⟩
set_option maxRecDepth 100000 in
theorem step_4 {H : AH} {T1 L1 T2 L2 : Nat} {cs : List Ch} {even : Bool} {H0 : AH} {R : HL} (hok0 : H0.Ok) (htb0 : Tb H0) (hokL0 : okL cs) (hcs : cs.length ≤ 64) (wh : Int) (kind prio limit : Int) (label proto : List UInt8) (hk : 0 ≤ kind ∧ kind < 256) (hp : 0 ≤ prio ∧ prio < 65536) (hl : 0 ≤ limit ∧ limit < 4294967296) (hll : label.length ≤ 9223372036854775807) (hpl : proto.length ≤ 9223372036854775807) {k j : Nat} (hk16 : k < 65536) (hj16 : j < 65536) (un : Bool) (ppid : Int) {da : Option (Nat × Nat)} {dc dg : Nat} (dhg : dg = 0 ∨ dg = 1) {b : List UInt8} (hb : ∀ H', Hs H' (allL H0) → Bs H' (.sl da b.length dc dg) b) (dhc : b.length ≤ dc) (dhm : dc ≤ 9223372036854775807) (dfit : b.length ≤ 1073741824) (hw : ¬ (wh = 0 ∨ wh = 1 ∨ wh = 2 ∨ wh = 3)) (hH0 : Hs H ([(T1, some (.cells [.sl (some (L1, 0)) (cs).length (cs).length 0, .b even] true))] ++ ([(L1, some (.cells ((cs).map Ch.row).flatten true))] ++ ([(T2, some (.cells [.sl (some (L2, 0)) (cs).length (cs).length 0, .b even] true))] ++ ([(L2, some (.cells ((cs).map Ch.row).flatten true))] ++ (allL H0 ++ R)))))) : Ev tabV spV (.fn (.func 31) [] []) [.p (some (T1, 0)), .p (some (T2, 0)), .agg [(.i .i64 wh), (.i .u8 kind), (.i .u16 prio), (.i .u32 limit), (.s (txt label)), (.s (txt proto)), (.i .u16 ((k : Nat) : Int)), (.b un), (.i .u32 ppid), (.sl da b.length dc dg), (.i .u16 ((j : Nat) : Int))]] H (fun r H' => r = .b true ∧ ∃ cs', okL cs' ∧ cs'.length ≤ 64 ∧ Hs H' ([(T1, some (.cells [.sl (some (L1, 0)) (cs').length (cs').length 0, .b even] true))] ++ ([(L1, some (.cells ((cs').map Ch.row).flatten true))] ++ ([(T2, some (.cells [.sl (some (L2, 0)) (cs').length (cs').length 0, .b even] true))] ++ ([(L2, some (.cells ((cs').map Ch.row).flatten true))] ++ (allL H0 ++ R)))))) := by
 refine Ev_C (F := x31) rfl ?_
 refine sr ?_
 refine O_box (z := [(.i .i64 wh), (.i .u8 kind), (.i .u16 prio), (.i .u32 limit), (.s (txt label)), (.s (txt proto)), (.i .u16 ((k : Nat) : Int)), (.b un), (.i .u32 ppid), (.sl da b.length dc dg), (.i .u16 ((j : Nat) : Int))]) rfl fun n1 H2 hN3 => ?_
 have hH4 := hH0.new hN3
 refine pv (.b false) rfl ?_
 refine O_nil ?_
 refine C_seq ?_
 refine sr ?_
 refine pf (.p (some (n1, 0))) rfl rfl ?_
 refine O_p (.i .i64 wh) (r_ld rfl hH4.get0 rfl) ?_
 refine O_nil ?_
 refine C_block ?_
 refine sr ?_
 refine O_p (.b false) (by exact (by rw [r_eql rfl rfl, decide_eq_false (by first | omega | assumption)])) ?_
 refine pv (.b false) rfl ?_
 refine O_nil ?_
 refine C_cond (x := false) rfl (fun h => by cases h) (fun _ => ?_)
 refine sr ?_
 refine O_p (.b false) (by exact (by rw [r_eql rfl rfl, decide_eq_false (by first | omega | assumption)])) ?_
 refine pv (.b false) rfl ?_
 refine O_nil ?_
 refine C_cond (x := false) rfl (fun h => by cases h) (fun _ => ?_)
 refine sr ?_
 refine O_p (.b false) (by exact (by rw [r_eql rfl rfl, decide_eq_false (by first | omega | assumption)])) ?_
 refine pv (.b false) rfl ?_
 refine O_nil ?_
 refine C_cond (x := false) rfl (fun h => by cases h) (fun _ => ?_)
 refine sr ?_
 refine O_p (.b false) (by exact (by rw [r_eql rfl rfl, decide_eq_false (by first | omega | assumption)])) ?_
 refine pv (.b false) rfl ?_
 refine O_nil ?_
 refine C_cond (x := false) rfl (fun h => by cases h) (fun _ => ?_)
 refine C_skip ?_
 refine sr ?_
 refine pv (.p (some (T1, 0))) rfl ?_
 refine pf (.p (some (n1, 10))) rfl rfl ?_
 refine O_p (.i .u16 ((j : Nat) : Int)) (r_ld rfl hH4.get0 rfl) ?_
 have hH5 := ((hH4.top2).top2)
 refine O_call (Ev.mono (freed_ev (cs := cs) (k := j) hj16 hcs hokL0 hH5) fun v6 H7 hq8 => ?_)
 obtain ⟨rfl, hH9⟩ := hq8
 have hokL10 := okL_freed hokL0 j
 have hle11 : (freedC (cs) j).length ≤ 64 := by rw [freed_len]; exact hcs
 refine O_nil (sr ?_)
 refine pv (.p (some (T2, 0))) rfl ?_
 refine pf (.p (some (n1, 10))) rfl rfl ?_
 refine O_p (.i .u16 ((j : Nat) : Int)) (r_ld rfl hH9.get2 rfl) ?_
 have hH12 := ((hH9.top4).top4)
 refine O_call (Ev.mono (rfreed_ev (cs := cs) (k := j) hj16 hcs hokL0 hH12) fun v13 H14 hq15 => ?_)
 obtain ⟨rfl, hH16⟩ := hq15
 have hokL17 := okL_freed hokL0 j
 have hle18 : (freedC (cs) j).length ≤ 64 := by rw [freed_len]; exact hcs
 refine O_nil (sr ?_)
 refine pv (.b true) rfl ?_
 refine O_nil ?_
 refine C_ret ?_
 have hH19 := (hH16.sub4)
 have hH20 := (((((hH19.top4).top2).top2).top4).top4)
 exact ⟨.inr rfl, _, resL_one (r_tmp (v := .b true) rfl), rfl, _, hokL10, hle11, hH20⟩
theorem step_ev {H : AH} {T1 L1 T2 L2 : Nat} {cs : List Ch} {even : Bool} {H0 : AH} {R : HL} (hok0 : H0.Ok) (htb0 : Tb H0) (hokL0 : okL cs) (hcs : cs.length ≤ 64) (wh : Int) (kind prio limit : Int) (label proto : List UInt8) (hk : 0 ≤ kind ∧ kind < 256) (hp : 0 ≤ prio ∧ prio < 65536) (hl : 0 ≤ limit ∧ limit < 4294967296) (hll : label.length ≤ 9223372036854775807) (hpl : proto.length ≤ 9223372036854775807) {k j : Nat} (hk16 : k < 65536) (hj16 : j < 65536) (un : Bool) (ppid : Int) {da : Option (Nat × Nat)} {dc dg : Nat} (dhg : dg = 0 ∨ dg = 1) {b : List UInt8} (hb : ∀ H', Hs H' (allL H0) → Bs H' (.sl da b.length dc dg) b) (dhc : b.length ≤ dc) (dhm : dc ≤ 9223372036854775807) (dfit : b.length ≤ 1073741824) (hH0 : Hs H ([(T1, some (.cells [.sl (some (L1, 0)) (cs).length (cs).length 0, .b even] true))] ++ ([(L1, some (.cells ((cs).map Ch.row).flatten true))] ++ ([(T2, some (.cells [.sl (some (L2, 0)) (cs).length (cs).length 0, .b even] true))] ++ ([(L2, some (.cells ((cs).map Ch.row).flatten true))] ++ (allL H0 ++ R)))))) : Ev tabV spV (.fn (.func 31) [] []) [.p (some (T1, 0)), .p (some (T2, 0)), .agg [(.i .i64 wh), (.i .u8 kind), (.i .u16 prio), (.i .u32 limit), (.s (txt label)), (.s (txt proto)), (.i .u16 ((k : Nat) : Int)), (.b un), (.i .u32 ppid), (.sl da b.length dc dg), (.i .u16 ((j : Nat) : Int))]] H (fun r H' => r = .b true ∧ ∃ cs', okL cs' ∧ cs'.length ≤ 64 ∧ Hs H' ([(T1, some (.cells [.sl (some (L1, 0)) (cs').length (cs').length 0, .b even] true))] ++ ([(L1, some (.cells ((cs').map Ch.row).flatten true))] ++ ([(T2, some (.cells [.sl (some (L2, 0)) (cs').length (cs').length 0, .b even] true))] ++ ([(L2, some (.cells ((cs').map Ch.row).flatten true))] ++ (allL H0 ++ R)))))) := by
  by_cases h0 : wh = 0
  · exact step_0 hok0 htb0 hokL0 hcs wh kind prio limit label proto hk hp hl hll hpl hk16 hj16 un ppid dhg hb dhc dhm dfit h0 hH0
  · by_cases h1 : wh = 1
    · exact step_1 hok0 htb0 hokL0 hcs wh kind prio limit label proto hk hp hl hll hpl hk16 hj16 un ppid dhg hb dhc dhm dfit h1 hH0
    · by_cases h2 : wh = 2
      · exact step_2 hok0 htb0 hokL0 hcs wh kind prio limit label proto hk hp hl hll hpl hk16 hj16 un ppid dhg hb dhc dhm dfit h2 hH0
      · by_cases h3 : wh = 3
        · exact step_3 hok0 htb0 hokL0 hcs wh kind prio limit label proto hk hp hl hll hpl hk16 hj16 un ppid dhg hb dhc dhm dfit h3 hH0
        · exact step_4 hok0 htb0 hokL0 hcs wh kind prio limit label proto hk hp hl hll hpl hk16 hj16 un ppid dhg hb dhc dhm dfit (by omega) hH0

theorem clamp_le (st : Int) : clampN st ≤ 64 := by unfold clampN; split <;> omega
theorem Tb.ofA {H0 : AH} (ho : H0.Ok) (h : Tb H0) : ∀ H', Hs H' (allL H0) → Tb H' := fun H' hh => Tb.ro (R := []) h ho (by rw [List.append_nil]; exact hh)
set_option maxRecDepth 100000 in
theorem run9e (H0 : AH) (hok0 : H0.Ok) (htb0 : Tb H0) (even : Bool) (st : Int) (oa : Option (Nat × Nat)) (oc : Nat) : Ev tabV spV (.fn (.func 9) [] []) [.b even, .i .i64 st, .sl oa 0 oc 0] H0 (fun v _ => v = .b true) := by
 have hH0 := allL_hs hok0
 refine Ev_C (F := x9) rfl ?_
 refine sr ?_
 refine pv (.b false) rfl ?_
 refine O_nil (sr ?_)
 refine O_call (Ev.mono (awake_ev (Tb.ro htb0 hok0 hH0.top0)) fun v1 H2 hq3 => ?_)
 obtain ⟨rfl, hq3⟩ := hq3
 subst H2
 refine pv (.b true) rfl ?_
 refine O_nil ?_
 refine C_seq ?_
 refine sr ?_
 refine pv (.sl oa 0 oc 0) rfl ?_
 refine O_p (.i .i64 0) (r_len rfl) ?_
 refine O_p (.b false) (by exact (by rw [r_gtr rfl rfl, decide_eq_false (by first | omega | assumption)])) ?_
 refine O_nil ?_
 refine C_cond (x := false) rfl (fun h => by cases h) (fun _ => ?_)
 refine C_skip ?_
 refine sr ?_
 refine pv (.b even) rfl ?_
 refine pv (.i .i64 st) rfl ?_
 refine O_call (Ev.mono (tnew_ev even st hH0) fun v4 H5 hq6 => ?_)
 obtain ⟨T7, L8, rfl, hH9⟩ := hq6
 refine pv (.p (some (T7, 0))) rfl ?_
 refine O_nil (sr ?_)
 refine pv (.b even) rfl ?_
 refine pv (.i .i64 st) rfl ?_
 refine O_call (Ev.mono (rtnew_ev even st hH9) fun v10 H11 hq12 => ?_)
 obtain ⟨T13, L14, rfl, hH15⟩ := hq12
 refine pv (.p (some (T13, 0))) rfl ?_
 refine O_nil ?_
 refine C_seq ?_
 refine sr ?_
 refine pv (.i .i64 0) rfl ?_
 refine O_nil ?_
 refine C_block ?_
 refine C_loop ?_
 refine C_seq ?_
 refine sr ?_
 refine pv (.i .i64 0) rfl ?_
 refine pv (.sl oa 0 oc 0) rfl ?_
 refine O_p (.i .i64 0) (r_len rfl) ?_
 refine O_p (.b false) (by exact (by rw [r_lss rfl rfl, decide_eq_false (by first | omega | assumption)])) ?_
 refine O_nil ?_
 refine C_cond (x := false) rfl (fun h => by cases h) (fun _ => ?_)
 refine C_exit ?_
 refine nx_exit ?_
 refine nx_exit ?_
 refine bk_hit ?_
 refine sr ?_
 refine pv (.b true) rfl ?_
 refine pv (.b true) rfl ?_
 refine O_nil ?_
 refine C_ret ?_
 exact ⟨.inr rfl, _, resL_one (r_tmp (v := .b true) rfl), rfl⟩
set_option maxRecDepth 100000 in
set_option maxHeartbeats 1000000 in
theorem run9n (H0 : AH) (hok0 : H0.Ok) (htb0 : Tb H0) (even : Bool) (st : Int) (ob n oc : Nat) (cells : List AV) (hob : H0.get ob = some (.cells cells false)) (Q : List AV → Prop) (hrecs : ∀ i, i < n → ∃ l, takeAt cells (i * 11) 11 = some l ∧ Q l) (hopr : ∀ l, Q l → ∃ wh kind prio limit label proto, ∃ k : Nat, ∃ un ppid da dc, ∃ b : List UInt8, ∃ j : Nat, l = [(.i .i64 wh), (.i .u8 kind), (.i .u16 prio), (.i .u32 limit), (.s (txt label)), (.s (txt proto)), (.i .u16 ((k : Nat) : Int)), (.b un), (.i .u32 ppid), (.sl da b.length dc 0), (.i .u16 ((j : Nat) : Int))] ∧ (0 ≤ kind ∧ kind < 256) ∧ (0 ≤ prio ∧ prio < 65536) ∧ (0 ≤ limit ∧ limit < 4294967296) ∧ label.length ≤ maxLen ∧ proto.length ≤ maxLen ∧ k < 65536 ∧ Bs H0 (.sl da b.length dc 0) b ∧ b.length ≤ dc ∧ dc ≤ maxLen ∧ j < 65536) : Ev tabV spV (.fn (.func 9) [] []) [.b even, .i .i64 st, .sl (some (ob, 0)) n oc 0] H0 (fun v _ => v = .b true) := by
 have hH0 := allL_hs hok0
 refine Ev_C (F := x9) rfl ?_
 refine sr ?_
 refine pv (.b false) rfl ?_
 refine O_nil (sr ?_)
 refine O_call (Ev.mono (awake_ev (Tb.ro htb0 hok0 hH0.top0)) fun v1 H2 hq3 => ?_)
 obtain ⟨rfl, hq3⟩ := hq3
 subst H2
 refine pv (.b true) rfl ?_
 refine O_nil ?_
 refine C_seq ?_
 refine sr ?_
 refine pv (.sl (some (ob, 0)) n oc 0) rfl ?_
 refine O_p (.i .i64 (((n : Nat)) : Int)) (r_len rfl) ?_
 refine O_p (.b (decide (60 < (((n : Nat)) : Int)))) (r_gtr rfl rfl) ?_
 refine O_nil ?_
 refine C_cond (x := (decide (60 < (((n : Nat)) : Int)))) rfl (fun hc4 => ?_) (fun hc4 => ?_)
 ·
  have hr5 := hc4
  try simp only [decide_eq_true_eq, decide_eq_false_iff_not, Bool.not_eq_true', Bool.not_eq_false', Bool.and_eq_true, Bool.or_eq_true, Bool.or_eq_false_iff, Bool.not_not, Bool.and_eq_false_iff] at hc4
  refine sr ?_
  refine pv (.b true) rfl ?_
  refine pv (.b true) rfl ?_
  refine O_nil ?_
  refine C_ret ?_
  refine nx_ret ?_
  exact ⟨.inr rfl, _, resL_one (r_tmp (v := .b true) rfl), rfl⟩
 ·
  have hr6 := hc4
  try simp only [decide_eq_true_eq, decide_eq_false_iff_not, Bool.not_eq_true', Bool.not_eq_false', Bool.and_eq_true, Bool.or_eq_true, Bool.or_eq_false_iff, Bool.not_not, Bool.and_eq_false_iff] at hc4
  refine C_skip ?_
  refine sr ?_
  refine pv (.b even) rfl ?_
  refine pv (.i .i64 st) rfl ?_
  refine O_call (Ev.mono (tnew_ev even st hH0) fun v7 H8 hq9 => ?_)
  obtain ⟨T10, L11, rfl, hH12⟩ := hq9
  refine pv (.p (some (T10, 0))) rfl ?_
  refine O_nil (sr ?_)
  refine pv (.b even) rfl ?_
  refine pv (.i .i64 st) rfl ?_
  refine O_call (Ev.mono (rtnew_ev even st hH12) fun v13 H14 hq15 => ?_)
  obtain ⟨T16, L17, rfl, hH18⟩ := hq15
  refine pv (.p (some (T16, 0))) rfl ?_
  refine O_nil ?_
  refine C_seq ?_
  refine sr ?_
  refine pv (.i .i64 0) rfl ?_
  refine O_nil ?_
  refine C_block ?_
  have hH19 := (((((hH18.top4).top2).top2).top4).top4)
  refine C_while (fun m20 T21 H22 => ∃ cs : List Ch, ∃ i : Nat, m20 = n - i ∧ i ≤ n ∧ okL cs ∧ cs.length ≤ 64 ∧ Hs H22 ([(T10, some (.cells ([(.sl (some (L11, 0)) (cs).length (cs).length 0), (.b even)]) true))] ++ ([(L11, some (.cells (((cs).map Ch.row).flatten) true))] ++ ([(T16, some (.cells ([(.sl (some (L17, 0)) (cs).length (cs).length 0), (.b even)]) true))] ++ ([(L17, some (.cells (((cs).map Ch.row).flatten) true))] ++ ((allL H0) ++ ([])))))) ∧ T21.get 2 = (.sl (some (ob, 0)) n oc 0) ∧ T21.get 7 = (.b true) ∧ T21.get 8 = (.p (some (T10, 0))) ∧ T21.get 9 = (.p (some (T16, 0))) ∧ T21.get 10 = (.i .i64 (((i : Nat)) : Int))) (fun m20 T21 H22 hI23 => ?_) n _ _ ⟨(List.replicate (clampN st) ch0), 0, rfl, Nat.zero_le _, (okL_new _), (by rw [List.length_replicate]; exact clamp_le _), hH19, rfl, rfl, rfl, rfl, rfl⟩
  obtain ⟨cs, i, hm24, hp25, hp26, hp27, hH33, hT28, hT29, hT30, hT31, hT32⟩ := hI23
  refine C_seq ?_
  refine sr ?_
  refine O_p (.i .i64 (((i : Nat)) : Int)) (r_mv hT32) ?_
  refine O_p (.sl (some (ob, 0)) n oc 0) (r_mv hT28) ?_
  refine O_p (.i .i64 (((n : Nat)) : Int)) (r_len rfl) ?_
  refine O_p (.b (decide ((((i : Nat)) : Int) < (((n : Nat)) : Int)))) (r_lss rfl rfl) ?_
  refine O_nil ?_
  refine C_cond (x := (decide ((((i : Nat)) : Int) < (((n : Nat)) : Int)))) rfl (fun hc34 => ?_) (fun hc34 => ?_)
  ·
   have hr35 := hc34
   try simp only [decide_eq_true_eq, decide_eq_false_iff_not, Bool.not_eq_true', Bool.not_eq_false', Bool.and_eq_true, Bool.or_eq_true, Bool.or_eq_false_iff, Bool.not_not, Bool.and_eq_false_iff] at hc34
   refine C_skip ?_
   refine C_seq ?_
   refine C_block ?_
   refine C_seq ?_
   refine sr ?_
   have hin : i < n := by omega
   obtain ⟨l, hrec, hty⟩ := hrecs i hin
   obtain ⟨wh, kind, prio, limit, label, proto, k, un, ppid, da, dc, b, j, rfl, hk, hp, hl, hll0, hpl0, hk16, hb, dhc, dhm0, hj16⟩ := hopr _ hty
   have dhm : dc ≤ 9223372036854775807 := dhm0
   have hll : label.length ≤ 9223372036854775807 := hll0
   have hpl : proto.length ≤ 9223372036854775807 := hpl0
   refine O_p (.sl (some (ob, 0)) n oc 0) (r_mv hT28) ?_
   refine O_p (.i .i64 (((i : Nat)) : Int)) (r_mv hT32) ?_
   refine O_p (.p (some (ob, (i * 11 + 0)))) (by exact (r_islr (b := ob) (k := i) (len := n) (cap := oc) (g := 0) rfl rfl (by omega))) ?_
   refine pf (.p (some (ob, (i * 11 + 6)))) rfl rfl ?_
   refine pf (.p (some (ob, (i * 11 + 9)))) rfl rfl ?_
   refine O_p (.sl da b.length dc 0) (r_ld rfl (Hs.ro hok0 hH33.top4 hob) (rec_get (j := 9) hrec rfl)) ?_
   refine O_p (.i .i64 (((b.length : Nat)) : Int)) (r_len rfl) ?_
   refine O_p (.b (decide (600 < (((b.length : Nat)) : Int)))) (r_gtr rfl rfl) ?_
   refine pv (.b (decide (600 < (((b.length : Nat)) : Int)))) rfl ?_
   refine O_gx (e := (!(decide (600 < (((b.length : Nat)) : Int))))) (v := (.sl (some (ob, 0)) n oc 0)) (wf rfl) (fun he => (r_mv hT28)) ?_
   refine O_gx (e := (!(decide (600 < (((b.length : Nat)) : Int))))) (v := (.i .i64 (((i : Nat)) : Int))) (wf rfl) (fun he => (r_mv hT32)) ?_
   refine O_gx (e := (!(decide (600 < (((b.length : Nat)) : Int))))) (v := (.p (some (ob, (i * 11 + 0))))) (wf rfl) (fun he => (by exact (r_islr (b := ob) (k := i) (len := n) (cap := oc) (g := 0) (cond_pos he) (cond_pos he) (by omega)))) ?_
   refine O_gx (e := (!(decide (600 < (((b.length : Nat)) : Int))))) (v := (.p (some (ob, (i * 11 + 1))))) (wf rfl) (fun he => (r_fadd' (cond_pos he) rfl)) ?_
   refine O_gx (e := (!(decide (600 < (((b.length : Nat)) : Int))))) (v := (.p (some (ob, (i * 11 + 4))))) (wf rfl) (fun he => (r_fadd' (cond_pos he) rfl)) ?_
   refine O_gx (e := (!(decide (600 < (((b.length : Nat)) : Int))))) (v := (.s (txt label))) (wf rfl) (fun he => (r_ld (cond_pos he) (Hs.ro hok0 hH33.top4 hob) (rec_get (j := 4) hrec rfl))) ?_
   refine O_gx (e := (!(decide (600 < (((b.length : Nat)) : Int))))) (v := (.i .i64 ((((label).length : Nat)) : Int))) (wf rfl) (fun he => (r_lent (l := label) (cond_pos he))) ?_
   refine O_gx (e := (!(decide (600 < (((b.length : Nat)) : Int))))) (v := (.b (decide (600 < ((((label).length : Nat)) : Int))))) (wf rfl) (fun he => (r_gtr (cond_pos he) rfl)) ?_
   refine O_p (.b ((decide (600 < (((b.length : Nat)) : Int))) || (decide (600 < ((((label).length : Nat)) : Int))))) (r_pick_or rfl rfl rfl rfl) ?_
   refine pv (.b ((decide (600 < (((b.length : Nat)) : Int))) || (decide (600 < ((((label).length : Nat)) : Int))))) rfl ?_
   refine O_gx (e := (!((decide (600 < (((b.length : Nat)) : Int))) || (decide (600 < ((((label).length : Nat)) : Int)))))) (v := (.sl (some (ob, 0)) n oc 0)) (wf rfl) (fun he => (r_mv hT28)) ?_
   refine O_gx (e := (!((decide (600 < (((b.length : Nat)) : Int))) || (decide (600 < ((((label).length : Nat)) : Int)))))) (v := (.i .i64 (((i : Nat)) : Int))) (wf rfl) (fun he => (r_mv hT32)) ?_
   refine O_gx (e := (!((decide (600 < (((b.length : Nat)) : Int))) || (decide (600 < ((((label).length : Nat)) : Int)))))) (v := (.p (some (ob, (i * 11 + 0))))) (wf rfl) (fun he => (by exact (r_islr (b := ob) (k := i) (len := n) (cap := oc) (g := 0) (cond_pos he) (cond_pos he) (by omega)))) ?_
   refine O_gx (e := (!((decide (600 < (((b.length : Nat)) : Int))) || (decide (600 < ((((label).length : Nat)) : Int)))))) (v := (.p (some (ob, (i * 11 + 1))))) (wf rfl) (fun he => (r_fadd' (cond_pos he) rfl)) ?_
   refine O_gx (e := (!((decide (600 < (((b.length : Nat)) : Int))) || (decide (600 < ((((label).length : Nat)) : Int)))))) (v := (.p (some (ob, (i * 11 + 5))))) (wf rfl) (fun he => (r_fadd' (cond_pos he) rfl)) ?_
   refine O_gx (e := (!((decide (600 < (((b.length : Nat)) : Int))) || (decide (600 < ((((label).length : Nat)) : Int)))))) (v := (.s (txt proto))) (wf rfl) (fun he => (r_ld (cond_pos he) (Hs.ro hok0 hH33.top4 hob) (rec_get (j := 5) hrec rfl))) ?_
   refine O_gx (e := (!((decide (600 < (((b.length : Nat)) : Int))) || (decide (600 < ((((label).length : Nat)) : Int)))))) (v := (.i .i64 ((((proto).length : Nat)) : Int))) (wf rfl) (fun he => (r_lent (l := proto) (cond_pos he))) ?_
   refine O_gx (e := (!((decide (600 < (((b.length : Nat)) : Int))) || (decide (600 < ((((label).length : Nat)) : Int)))))) (v := (.b (decide (600 < ((((proto).length : Nat)) : Int))))) (wf rfl) (fun he => (r_gtr (cond_pos he) rfl)) ?_
   refine O_p (.b (((decide (600 < (((b.length : Nat)) : Int))) || (decide (600 < ((((label).length : Nat)) : Int)))) || (decide (600 < ((((proto).length : Nat)) : Int))))) (r_pick_or rfl rfl rfl rfl) ?_
   refine O_nil ?_
   refine C_cond (x := (((decide (600 < (((b.length : Nat)) : Int))) || (decide (600 < ((((label).length : Nat)) : Int)))) || (decide (600 < ((((proto).length : Nat)) : Int))))) rfl (fun hc36 => ?_) (fun hc36 => ?_)
   ·
    have hr37 := hc36
    try simp only [decide_eq_true_eq, decide_eq_false_iff_not, Bool.not_eq_true', Bool.not_eq_false', Bool.and_eq_true, Bool.or_eq_true, Bool.or_eq_false_iff, Bool.not_not, Bool.and_eq_false_iff] at hc36
    refine sr ?_
    refine O_p (.b true) (r_mv hT29) ?_
    refine pv (.b true) rfl ?_
    refine O_nil ?_
    refine C_ret ?_
    refine nx_ret ?_
    refine bk_ret ?_
    refine nx_ret ?_
    refine nx_ret ?_
    refine bk_ret ?_
    refine nx_ret ?_
    exact ⟨.inr rfl, _, resL_one (r_tmp (v := .b true) rfl), rfl⟩
   ·
    have hr38 := hc36
    try simp only [decide_eq_true_eq, decide_eq_false_iff_not, Bool.not_eq_true', Bool.not_eq_false', Bool.and_eq_true, Bool.or_eq_true, Bool.or_eq_false_iff, Bool.not_not, Bool.and_eq_false_iff] at hc36
    refine C_skip ?_
    refine C_seq ?_
    refine sr ?_
    refine O_p (.p (some (T10, 0))) (r_mv hT30) ?_
    refine O_p (.p (some (T16, 0))) (r_mv hT31) ?_
    refine O_p (.sl (some (ob, 0)) n oc 0) (r_mv hT28) ?_
    refine O_p (.i .i64 (((i : Nat)) : Int)) (r_mv hT32) ?_
    refine O_p (.p (some (ob, (i * 11 + 0)))) (by exact (r_islr (b := ob) (k := i) (len := n) (cap := oc) (g := 0) rfl rfl (by omega))) ?_
    refine O_p (.agg [(.i .i64 wh), (.i .u8 kind), (.i .u16 prio), (.i .u32 limit), (.s (txt label)), (.s (txt proto)), (.i .u16 ((k : Nat) : Int)), (.b un), (.i .u32 ppid), (.sl da b.length dc 0), (.i .u16 ((j : Nat) : Int))]) (r_ldA rfl (Hs.ro hok0 hH33.top4 hob) (rec_take (j := 0) (m := 11) hrec rfl)) ?_
    have hH39 := (((((hH33.top4).top4).top4).top4).top4)
    refine O_call (Ev.mono (step_ev hok0 htb0 hp26 hp27 wh kind prio limit label proto hk hp hl (by omega) (by omega) hk16 hj16 un ppid (.inl rfl) (fun H' h => Bs.ro (R := []) hb hok0 (by rw [List.append_nil]; exact h)) dhc dhm (by omega) hH39) fun v40 H41 hq42 => ?_)
    obtain ⟨rfl, cs43, hokL44, hle45, hH46⟩ := hq42
    refine O_p (.b false) (r_un rfl rfl) ?_
    refine O_nil ?_
    refine C_cond (x := false) rfl (fun h => by cases h) (fun _ => ?_)
    refine C_skip ?_
    refine C_seq ?_
    refine sr ?_
    refine pv (.i .i64 0) rfl ?_
    refine O_nil ?_
    refine C_block ?_
    have hH47 := (((((hH46.top4).top4).top4).top4).top4)
    refine C_while (fun m48 T49 H50 => ∃ m : Nat, m48 = 6 - m ∧ m ≤ 6 ∧ Hs H50 ([(T10, some (.cells ([(.sl (some (L11, 0)) (cs43).length (cs43).length 0), (.b even)]) true))] ++ ([(L11, some (.cells (((cs43).map Ch.row).flatten) true))] ++ ([(T16, some (.cells ([(.sl (some (L17, 0)) (cs43).length (cs43).length 0), (.b even)]) true))] ++ ([(L17, some (.cells (((cs43).map Ch.row).flatten) true))] ++ ((allL H0) ++ ([])))))) ∧ T49.get 2 = (.sl (some (ob, 0)) n oc 0) ∧ T49.get 7 = (.b true) ∧ T49.get 8 = (.p (some (T10, 0))) ∧ T49.get 9 = (.p (some (T16, 0))) ∧ T49.get 10 = (.i .i64 (((i : Nat)) : Int)) ∧ T49.get 11 = (.i .i64 (((m : Nat)) : Int))) (fun m48 T49 H50 hI51 => ?_) 6 _ _ ⟨0, rfl, by omega, hH47, hT28, hT29, hT30, hT31, hT32, rfl⟩
    obtain ⟨m, hm52, hp53, hH60, hT54, hT55, hT56, hT57, hT58, hT59⟩ := hI51
    refine C_seq ?_
    refine sr ?_
    refine O_p (.i .i64 (((m : Nat)) : Int)) (r_mv hT59) ?_
    refine O_p (.b (decide ((((m : Nat)) : Int) < 6))) (r_lss rfl rfl) ?_
    refine O_nil ?_
    refine C_cond (x := (decide ((((m : Nat)) : Int) < 6))) rfl (fun hc61 => ?_) (fun hc61 => ?_)
    ·
     have hr62 := hc61
     try simp only [decide_eq_true_eq, decide_eq_false_iff_not, Bool.not_eq_true', Bool.not_eq_false', Bool.and_eq_true, Bool.or_eq_true, Bool.or_eq_false_iff, Bool.not_not, Bool.and_eq_false_iff] at hc61
     refine C_skip ?_
     refine C_seq ?_
     refine C_block ?_
     refine sr ?_
     refine O_p (.p (some (T16, 0))) (r_mv hT57) ?_
     refine O_p (.i .i64 (((m : Nat)) : Int)) (r_mv hT59) ?_
     refine O_p (.i .u16 ((m : Nat) : Int)) (by exact (r_cint' rfl (by rw [wrap_u16]; omega))) ?_
     have hH63 := ((hH60.top3).top3)
     refine O_call (Ev.mono (of_ev (cs := cs43) (k := m) (by omega) hle45 hH63) fun v64 H65 hq66 => ?_)
     obtain ⟨rfl, hH67⟩ := hq66
     refine O_alloc fun n68 H69 hN70 => ?_
     have hH71 := hH67.new hN70
     refine O_store (vs := [(.i .i64 ((cs43).getD m ch0).st), (.i .u8 ((cs43).getD m ch0).kind), (.i .u16 ((cs43).getD m ch0).prio), (.i .u32 ((cs43).getD m ch0).limit), (.s (txt ((cs43).getD m ch0).label)), (.s (txt ((cs43).getD m ch0).proto)), (.b ((cs43).getD m ch0).mine), (.b ((cs43).getD m ch0).theirs)]) (c' := [(.i .i64 ((cs43).getD m ch0).st), (.i .u8 ((cs43).getD m ch0).kind), (.i .u16 ((cs43).getD m ch0).prio), (.i .u32 ((cs43).getD m ch0).limit), (.s (txt ((cs43).getD m ch0).label)), (.s (txt ((cs43).getD m ch0).proto)), (.b ((cs43).getD m ch0).mine), (.b ((cs43).getD m ch0).theirs)]) rfl (by rfl) hH71.get0 rfl (List.cons_ne_nil _ _) (Nat.le_of_ble_eq_true rfl) rfl fun H72 hW73 => ?_
     have hH74 := hH71.wr0 hW73
     refine O_nil ?_
     refine C_seq ?_
     refine C_draw fun b75 H76 hbase77 hA78 => ?_
     have hH79 := hH74.keep (by have := hA78.1; omega) (fun q _ => hA78.2 q) ((hH74.old).aside hA78).ok
     refine D_l (v := (.p (some (T10, 0)))) rfl rfl rfl (r_mv hT56) ?_
     refine D_l (v := (.i .i64 (((m : Nat)) : Int))) rfl rfl rfl (r_mv hT59) ?_
     refine D_l (v := (.i .u16 ((m : Nat) : Int))) rfl rfl rfl (by exact (r_cint' rfl (by rw [wrap_u16]; omega))) ?_
     refine D_l (v := (.p (some (n68, 0)))) rfl rfl rfl (r_fadd' rfl rfl) ?_
     refine D_r (v := (.i .i64 ((cs43).getD m ch0).st)) rfl rfl rfl (r_ld rfl hH79.get0 rfl) ?_
     have hH80 := ((hH79.top4).top4)
     refine D_call (Ev.mono (state_ev (cs := cs43) (k := m) (by omega) hle45 hH80) fun v81 H82 hq83 => ?_)
     obtain ⟨rfl, hq83⟩ := hq83
     subst H82
     refine And.intro (And.intro (Or.inr (look_run rfl rfl (r_ld rfl hH80.get2 rfl))) True.intro) ?_
     refine D_l (v := (.b false)) rfl rfl rfl (r_nqq rfl rfl) ?_
     refine D_l (v := (.b false)) rfl rfl rfl (r_mv rfl) ?_
     refine D_gk rfl ?_
     refine D_l (v := (.p (some (T10, 0)))) rfl rfl rfl (r_mv hT56) ?_
     refine D_gk rfl ?_
     refine D_l (v := (.i .i64 (((m : Nat)) : Int))) rfl rfl rfl (r_mv hT59) ?_
     refine D_gk rfl ?_
     refine D_l (v := (.i .u16 ((m : Nat) : Int))) rfl rfl rfl (by exact (r_cint' rfl (by rw [wrap_u16]; omega))) ?_
     refine D_gk rfl ?_
     refine D_l (v := (.p (some (n68, 1)))) rfl rfl rfl (r_fadd' rfl rfl) ?_
     refine D_gk rfl ?_
     refine D_r (v := (.agg [(.i .u8 ((cs43).getD m ch0).kind), (.i .u16 ((cs43).getD m ch0).prio), (.i .u32 ((cs43).getD m ch0).limit), (.s (txt ((cs43).getD m ch0).label)), (.s (txt ((cs43).getD m ch0).proto))])) rfl rfl rfl (r_ldA rfl hH80.get2 rfl) ?_
     refine D_gk rfl ?_
     have hH84 := ((hH80.top1).top1)
     refine D_call (Ev.mono (openg_ev (cs := cs43) (k := m) (by omega) hle45 hH84) fun v85 H86 hq87 => ?_)
     obtain ⟨rfl, hH88⟩ := hq87
     refine And.intro (And.intro (Or.inr (look_run rfl rfl (r_ldA rfl hH88.get2 rfl))) (And.intro (Or.inl rfl) True.intro)) ?_
     refine D_gk rfl ?_
     refine D_call (Ev.mono (alike_ev hH88.ok (((cs43).getD m ch0).kind) (((cs43).getD m ch0).prio) (((cs43).getD m ch0).limit) (((cs43).getD m ch0).label) (((cs43).getD m ch0).proto)) fun v89 H90 hq91 => ?_)
     obtain ⟨rfl, hK92⟩ := hq91
     have hH93 := (hH88.kp hK92)
     refine And.intro (And.intro (Or.inl rfl) True.intro) ?_
     refine D_gk rfl ?_
     refine D_l (v := (.b false)) rfl rfl rfl (r_un rfl rfl) ?_
     refine D_l (v := (.b false)) rfl rfl rfl (r_pick_f rfl rfl) ?_
     refine D_nil ?_
     refine C_cond (x := false) rfl (fun h => by cases h) (fun _ => ?_)
     refine C_skip ?_
     refine C_region ?_
     refine O_p (.i .i64 (((m : Nat)) : Int)) (r_mv hT59) ?_
     refine O_p (.i .i64 ((((m : Nat)) : Int) + 1)) (by exact (r_addi rfl rfl (wrap_i64 (by omega) (by omega)))) ?_
     refine pv (.i .i64 ((((m : Nat)) : Int) + 1)) rfl ?_
     refine O_nil ?_
     have hH94 := (hH93.sub2)
     have hH95 := (((((hH94.top4).top4).top4).top4).top4)
     exact ⟨6 - (m + 1), by omega, (m + 1), rfl, by omega, hH95, hT54, hT55, hT56, hT57, hT58, rfl⟩
    ·
     have hr96 := hc61
     try simp only [decide_eq_true_eq, decide_eq_false_iff_not, Bool.not_eq_true', Bool.not_eq_false', Bool.and_eq_true, Bool.or_eq_true, Bool.or_eq_false_iff, Bool.not_not, Bool.and_eq_false_iff] at hc61
     refine C_exit ?_
     refine nx_exit ?_
     refine nx_exit ?_
     refine bk_hit ?_
     refine sr ?_
     refine O_p (.p (some (T10, 0))) (r_mv hT56) ?_
     refine O_p (.sl (some (ob, 0)) n oc 0) (r_mv hT54) ?_
     refine O_p (.i .i64 (((i : Nat)) : Int)) (r_mv hT58) ?_
     refine O_p (.p (some (ob, (i * 11 + 0)))) (by exact (r_islr (b := ob) (k := i) (len := n) (cap := oc) (g := 0) rfl rfl (by omega))) ?_
     refine pf (.p (some (ob, (i * 11 + 1)))) rfl rfl ?_
     refine pf (.p (some (ob, (i * 11 + 4)))) rfl rfl ?_
     refine O_p (.s (txt label)) (r_ld rfl (Hs.ro hok0 hH60.top4 hob) (rec_get (j := 4) hrec rfl)) ?_
     have hH97 := ((hH60.top1).top1)
     refine O_call (Ev.mono (find_ev (cs := cs43) (lab := label) hle45 hH97) fun v98 H99 hq100 => ?_)
     obtain ⟨rfl, hH101⟩ := hq100
     refine pv (.tup [(.i .u16 (findR (cs43) label)), (.b (findK (cs43) label).isSome)]) rfl ?_
     refine O_p (.i .u16 (findR (cs43) label)) (r_ext rfl rfl) ?_
     refine O_p (.b (findK (cs43) label).isSome) (r_ext rfl rfl) ?_
     refine pv (.i .u16 (findR (cs43) label)) rfl ?_
     refine pv (.b (findK (cs43) label).isSome) rfl ?_
     refine O_nil (sr ?_)
     refine O_p (.p (some (T16, 0))) (r_mv hT57) ?_
     refine O_p (.sl (some (ob, 0)) n oc 0) (r_mv hT54) ?_
     refine O_p (.i .i64 (((i : Nat)) : Int)) (r_mv hT58) ?_
     refine O_p (.p (some (ob, (i * 11 + 0)))) (by exact (r_islr (b := ob) (k := i) (len := n) (cap := oc) (g := 0) rfl rfl (by omega))) ?_
     refine pf (.p (some (ob, (i * 11 + 1)))) rfl rfl ?_
     refine pf (.p (some (ob, (i * 11 + 4)))) rfl rfl ?_
     refine O_p (.s (txt label)) (r_ld rfl (Hs.ro hok0 hH101.top4 hob) (rec_get (j := 4) hrec rfl)) ?_
     have hH102 := ((hH101.top3).top3)
     refine O_call (Ev.mono (rfind_ev (cs := cs43) (lab := label) hle45 hH102) fun v103 H104 hq105 => ?_)
     obtain ⟨rfl, hH106⟩ := hq105
     refine pv (.tup [(.i .u16 (findR (cs43) label)), (.b (findK (cs43) label).isSome)]) rfl ?_
     refine O_p (.i .u16 (findR (cs43) label)) (r_ext rfl rfl) ?_
     refine O_p (.b (findK (cs43) label).isSome) (r_ext rfl rfl) ?_
     refine pv (.i .u16 (findR (cs43) label)) rfl ?_
     refine pv (.b (findK (cs43) label).isSome) rfl ?_
     refine O_nil (sr ?_)
     refine pv (.i .u16 (findR (cs43) label)) rfl ?_
     refine pv (.i .u16 (findR (cs43) label)) rfl ?_
     refine O_p (.b false) (r_nqq rfl rfl) ?_
     refine pv (.b false) rfl ?_
     refine O_gk rfl ?_
     refine pv (.b (findK (cs43) label).isSome) rfl ?_
     refine O_gk rfl ?_
     refine pv (.b (findK (cs43) label).isSome) rfl ?_
     refine O_gk rfl ?_
     refine O_p (.b false) (by exact ((r_beq rfl rfl).trans (by simp))) ?_
     refine O_p (.b false) (r_pick_f rfl rfl) ?_
     refine O_nil ?_
     refine C_cond (x := false) rfl (fun h => by cases h) (fun _ => ?_)
     refine C_skip ?_
     refine C_region ?_
     refine O_p (.i .i64 (((i : Nat)) : Int)) (r_mv hT58) ?_
     refine O_p (.i .i64 ((((i : Nat)) : Int) + 1)) (by exact (r_addi rfl rfl (wrap_i64 (by omega) (by omega)))) ?_
     refine pv (.i .i64 ((((i : Nat)) : Int) + 1)) rfl ?_
     refine O_nil ?_
     have hH107 := (((((hH106.top4).top2).top2).top4).top4)
     exact ⟨n - (i + 1), by omega, cs43, (i + 1), rfl, by omega, hokL44, hle45, hH107, hT54, hT55, hT56, hT57, rfl⟩
  ·
   have hr108 := hc34
   try simp only [decide_eq_true_eq, decide_eq_false_iff_not, Bool.not_eq_true', Bool.not_eq_false', Bool.and_eq_true, Bool.or_eq_true, Bool.or_eq_false_iff, Bool.not_not, Bool.and_eq_false_iff] at hc34
   refine C_exit ?_
   refine nx_exit ?_
   refine nx_exit ?_
   refine bk_hit ?_
   refine sr ?_
   refine O_p (.b true) (r_mv hT29) ?_
   refine pv (.b true) rfl ?_
   refine O_nil ?_
   refine C_ret ?_
   exact ⟨.inr rfl, _, resL_one (r_tmp (v := .b true) rfl), rfl⟩
set_option maxRecDepth 100000 in
theorem oprec {H : AH} : ∀ l, Typed Tryd.prog H 8 71 l → ∃ wh kind prio limit label proto, ∃ k : Nat, ∃ un ppid da dc, ∃ b : List UInt8, ∃ j : Nat, l = [(.i .i64 wh), (.i .u8 kind), (.i .u16 prio), (.i .u32 limit), (.s (txt label)), (.s (txt proto)), (.i .u16 ((k : Nat) : Int)), (.b un), (.i .u32 ppid), (.sl da b.length dc 0), (.i .u16 ((j : Nat) : Int))] ∧ (0 ≤ kind ∧ kind < 256) ∧ (0 ≤ prio ∧ prio < 65536) ∧ (0 ≤ limit ∧ limit < 4294967296) ∧ label.length ≤ maxLen ∧ proto.length ≤ maxLen ∧ k < 65536 ∧ Bs H (.sl da b.length dc 0) b ∧ b.length ≤ dc ∧ dc ≤ maxLen ∧ j < 65536 := by
  intro l h
  obtain ⟨hl, hq⟩ := struct_parts (qs := [(3, 0, 1), (25, 1, 5), (62, 6, 4), (22, 10, 1)]) Tryd.underlying71 h (by kernel_rfl)
  rw [show Tryd.prog.cellsOf 71 = 11 by kernel_rfl] at hl
  obtain ⟨y0, y1, y2, y3, y4, y5, y6, y7, y8, y9, y10, rfl⟩ : ∃ a b c d e f g h i j k, l = [a, b, c, d, e, f, g, h, i, j, k] := by
    match l, hl with
    | [a, b, c, d, e, f, g, h, i, j, k], _ => exact ⟨a, b, c, d, e, f, g, h, i, j, k, rfl⟩
  simp only [List.forall_mem_cons, List.drop_zero, List.drop_succ_cons, List.take_succ_cons, List.take_zero] at hq
  obtain ⟨q0, q1, q2, q3, _⟩ := hq
  obtain ⟨wh, e0, _⟩ := typed_int Tryd.underlying3 q0
  obtain ⟨j, ej, wj⟩ := typed_int Tryd.underlying22 q3
  obtain ⟨_, oq⟩ := struct_parts (qs := [(5, 0, 1), (22, 1, 1), (23, 2, 1), (9, 3, 1), (9, 4, 1)]) Tryd.underlying25 q1 (by kernel_rfl)
  simp only [List.forall_mem_cons, List.drop_zero, List.drop_succ_cons, List.take_succ_cons, List.take_zero] at oq
  obtain ⟨o0, o1, o2, o3, o4, _⟩ := oq
  obtain ⟨kind, f0, w0⟩ := typed_int Tryd.underlying5 o0
  obtain ⟨prio, f1, w1⟩ := typed_int Tryd.underlying22 o1
  obtain ⟨limit, f2, w2⟩ := typed_int Tryd.underlying23 o2
  obtain ⟨ls, f3, w3⟩ := typed_string Tryd.underlying9 o3
  obtain ⟨pr, f4, w4⟩ := typed_string Tryd.underlying9 o4
  obtain ⟨_, mq⟩ := struct_parts (qs := [(22, 0, 1), (4, 1, 1), (23, 2, 1), (27, 3, 1)]) Tryd.underlying62 q2 (by kernel_rfl)
  simp only [List.forall_mem_cons, List.drop_zero, List.drop_succ_cons, List.take_succ_cons, List.take_zero] at mq
  obtain ⟨m0, m1, m2, m3, _⟩ := mq
  obtain ⟨k, g0, wk⟩ := typed_int Tryd.underlying22 m0
  obtain ⟨un, g1⟩ := typed_bool Tryd.underlying4 m1
  obtain ⟨ppid, g2, _⟩ := typed_int Tryd.underlying23 m2
  obtain ⟨da, dn, dc, b, g3, hb, rfl, hc, hm⟩ := typed_bytes Tryd.underlying27 Tryd.underlying5 (by kernel_rfl) m3
  cases e0; cases ej; cases f0; cases f1; cases f2; cases f3; cases f4; cases g0; cases g1; cases g2
  subst g3
  obtain ⟨label, rfl⟩ := txt_ex ls
  obtain ⟨proto, rfl⟩ := txt_ex pr
  rw [txt_size] at w3 w4
  have wk' := wfU16 wk
  have wj' := wfU16 wj
  obtain ⟨kn, rfl⟩ : ∃ n : Nat, k = n := ⟨k.toNat, by omega⟩
  obtain ⟨jn, rfl⟩ : ∃ n : Nat, j = n := ⟨j.toNat, by omega⟩
  exact ⟨wh, kind, prio, limit, label, proto, kn, un, ppid, da, dc, b, jn, rfl, wfU8 w0, wfU16 w1, wfU32 w2, w3, w4, by omega, hb, hc, hm, by omega⟩
set_option maxRecDepth 100000 in
theorem run9 (H : AH) (hok : H.Ok) (htb : Tb H) (even : Bool) (st : Int) {v : AV} (h : Typed Tryd.prog H 9 67 [v]) : Ev tabV spV (.fn (.func 9) [] []) [.b even, .i .i64 st, v] H (fun v _ => v = .b true) := by
  obtain ⟨a, n, c, rfl, hnc, hcm, rfl | ⟨ob, cs, rfl, hob, hrecs⟩⟩ := typed_recs (z := 11) Tryd.underlying67 (by kernel_rfl) h
  · exact run9e H hok htb even st a c
  · exact run9n H hok htb even st ob n c cs hob (Typed Tryd.prog H 8 71) hrecs oprec
set_option maxRecDepth 100000 in
theorem law9 (W : World) (ρ : Rho) (H : AH) (xs : List AV) (args : Array Value) (hR : Rel Tryd.prog W.heap.size W ρ H W) (hro : RO H) (hT : ∀ n b, tabs0.get n = some b → H.get n = some b) (hv : VRL ρ xs args.toList) (ht : TypedVs Tryd.prog H 9 Tryd.f9.params.toList xs) :
  Calls Tryd.prog 9 args W fun e w' => e = .returned (.bool true) ∧ Below W.heap.size W w' := by
 rw [Tryd.params9] at ht
 obtain ⟨a0, xs, rfl, g0, a1, xs, rfl, g1, a2, xs, rfl, g2, rfl⟩ := ht
 obtain ⟨even, rfl⟩ := typedV_bool Tryd.underlying4 g0
 obtain ⟨st, rfl, _⟩ := typedV_int Tryd.underlying3 g1
 obtain ⟨k, v, H', hex, rfl⟩ := run9 H hR.aok (Tb.of hT) even st (typedV_slice Tryd.underlying67 g2)
 exact law_of mixed tabV_ok spV_ok hex hR hv
end Go.Proofs.YtfhbdddjclodhaaDoor.E
namespace Go.Proofs.YtfhbdddjclodhaaDoor.dcepPlays
open Go.ChangeShapes Go.WideShapes Go.RowKit Go.ChangeAt
set_option linter.unusedVariables false
theorem types : (Tryd.f9.params.toList.all fun t => E.fit Tryd.prog 9 t && (Tryd.prog.readableRec t && decide (t < Tryd.prog.types.size))) = true := by kernel_rfl
set_option maxRecDepth 100000 in
theorem lifted (os : Os) (started : os.Started) (H : Type) (enc : TypeId × Value → H) :
    ReturnsInHanded {} Tryd.checked os 9 .any (fun w args => (Rows.dcepPlaysSpec.pre enc Tryd.prog Tryd.f9 Rows.dcepPlaysRow.domain false w args ∧ laidMetH Tryd.prog E.laid18 w) ∧ sizedMet enc Tryd.prog Tryd.f9 (OpenSpec.ofChange Rows.dcepPlaysSpec) false w args) (Rows.dcepPlaysSpec.post enc Tryd.prog Tryd.f9 false true false false) :=
  E.law_liftedG (C := Tryd.checked) (k := 9) (tb := 4) (X := fun w => laidMetH Tryd.prog E.laid18 w) E.laid (fun _ _ hh h => h.of_heap hh) (fun W h => E.Rel.tabs E.globals2 (E.tabs18 h)) E.tabs0_ro E.own18 started (by kernel_rfl) Tryd.func9
    (ChangeSpec.witness_shaped (enc := enc) (C := Tryd.checked) (os := os) (X := fun w _ => laidMetH Tryd.prog E.laid18 w) false (World.laidAll Tryd.prog os E.laid18) #[.bool false, .int .i64 0, .slice none 0 0] 8 (World.laidAll_os _ _ _)
      (World.shaped_of_ZipB (by kernel_rfl) (by kernel_rfl)) (by kernel_rfl) (by kernel_rfl) (by kernel_rfl)
      (by rw [MakeChecks.laidMetH_plain _ _ _ (by kernel_rfl)]; exact laidMet_laidAll _ (by kernel_rfl) (by kernel_rfl)))
    rfl rfl Tryd.underlying4 (fun t ht => by have h := List.all_eq_true.1 types t ht; simp only [Bool.and_eq_true, decide_eq_true_eq] at h; exact h)
    (fun ds hd => by
      rw [Tryd.params9] at hd
      match ds, hd with
      | [d0, d1, d2], _ => rfl) E.law9
theorem over : Rows.dcepPlaysRow.holds Tryd.pinned (OpenSpec.ofChange Rows.dcepPlaysSpec) :=
 OpenClaim.holds_of_wide 9 Tryd.f9 rfl rfl rfl rfl rfl rfl rfl ⟨rfl, rfl, rfl, rfl, rfl⟩ rfl rfl rfl rfl rfl (by kernel_rfl) Tryd.func9 (by kernel_rfl)
  (of_decide_eq_true (by kernel_rfl)) (by unfold Func.isWrapper; first | (rw [if_pos (by decide +kernel)]; kernel_rfl) | (rw [if_neg (by decide +kernel)]; exact ⟨rfl, rfl⟩))
  (fun os started H enc _ => lifted os started H enc)
theorem card : Claim7.holds Tryd.pinned (.plain (OpenSpec.ofChange Rows.dcepPlaysSpec)) Rows.dcepPlaysCard :=
 Claim7.holds_tied_plain_at .later [] [.data, .pinned] true (true, "840fe89f1718999666760e2798cb68f93cfa0fb72f9e95c902c9bbcf5ac830c4") false over (fun _ h => by cases h) (by kernel_rfl) (fun _ h => by cases h) dcepPlays_row_tie rfl ⟨rfl, rfl⟩ (by kernel_rfl) rfl
  (fun f fn hf hfn => by
   obtain rfl : f = 9 := Option.some.inj ((show Tryd.prog.funcNamed "bollard/bollardlaw18.DcepPlays" = some 9 by kernel_rfl).symm.trans hf) |>.symm
   obtain rfl : fn = Tryd.f9 := (Option.some.inj (Tryd.func9.symm.trans hfn)).symm
   exact ⟨by kernel_rfl, fun j t ht => by
    rw [Tryd.params9] at ht
    have hm : t ∈ [4, 3, 67] := by simpa using Array.mem_of_getElem? ht
    have hall : ([4, 3, 67].all fun u => !Tryd.prog.wantsStandIn u) = true := by kernel_rfl
    exact (show Tryd.prog.wantsStandIn t = false by simpa using List.all_eq_true.1 hall t hm)⟩)
  (by kernel_rfl)
end Go.Proofs.YtfhbdddjclodhaaDoor.dcepPlays
namespace Go.Proofs.YtfhbdddjclodhaaDoor
/-- The card, under a short name, for the claim. -/
theorem dcepPlays_holds : Rows.DcepPlaysCardSaid := dcepPlays.card
#print axioms dcepPlays_holds
end Go.Proofs.YtfhbdddjclodhaaDoor
