/- Octets' functions, walked. It bears no condition. -/
import Derived.Test.YtfhbdddjclodhaaDoorX
import Derived.Test.YtfhbdddjclodhaaDoorE37
namespace Go.Proofs.YtfhbdddjclodhaaDoor.E

set_option linter.unusedVariables false
set_option linter.unusedSimpArgs false
theorem with_ev {tab : Nat → Option XFun} {sp : Nat → List AV → AH → Option (AV × AH)} (h64 : tab 64 = some x64) {H : AH} (hok : H.Ok) {ba : Option (Nat × Nat)} {bn bc bg : Nat} (bhg : bg = 0 ∨ bg = 1) {lb : List UInt8} (bhb : Bs H (.sl ba bn bc bg) lb) (bhc : bn ≤ bc) (bhm : bc ≤ 9223372036854775807) {la : Option (Nat × Nat)} {ln lc lg : Nat} (lhg : lg = 0 ∨ lg = 1) {ll : List UInt8} (lhb : Bs H (.sl la ln lc lg) ll) (lhc : ln ≤ lc) (lhm : lc ≤ 9223372036854775807) (hfit : bn + ln < 1073741824) : Ev tab sp (.fn (.func 64) [] []) [.sl ba bn bc bg, .sl la ln lc lg] H (fun r H' => Mine H.next 1 H' r (bcells (lb ++ ll)) ∧ Kp H H') := by
 refine Ev_C (F := x64) h64 ?_
 have bhl := bhb.length
 subst bhl
 have lhl := lhb.length
 subst lhl
 have hO0 := Old.refl hok
 refine sr ?_
 refine pv (.sl none 0 0 0) rfl ?_
 refine O_nil (sr ?_)
 refine pv (.sl ba lb.length bc bg) rfl ?_
 refine O_p (.i .i64 (((lb.length : Nat)) : Int)) (r_len rfl) ?_
 refine pv (.sl ba lb.length bc bg) rfl ?_
 refine O_p (.i .i64 (((lb.length : Nat)) : Int)) (r_len rfl) ?_
 refine pv (.sl la ll.length lc lg) rfl ?_
 refine O_p (.i .i64 (((ll.length : Nat)) : Int)) (r_len rfl) ?_
 refine O_p (.i .i64 ((((lb.length : Nat)) : Int) + (((ll.length : Nat)) : Int))) (by exact (r_addi rfl rfl (wrap_i64 (by omega) (by omega)))) ?_
 refine O_mkb (n := lb.length) (c := (lb.length + ll.length)) rfl rfl (by omega) (by omega) fun m H1 hN2 => ?_
 have hnm_m : m = H.next := hN2.1
 have hnx_H1 : H1.next = H.next + 1 := hN2.2.1
 have hO3 := hO0.new hN2
 have hx_hO3 := hO3.next
 refine pv (.sl (some (m, 0)) lb.length (lb.length + ll.length) 0) rfl ?_
 refine O_nil (sr ?_)
 refine pv (.sl (some (m, 0)) lb.length (lb.length + ll.length) 0) rfl ?_
 refine pv (.sl ba lb.length bc bg) rfl ?_
 refine O_copy (lb := lb) rfl hN2.2.2.1 (by rw [bcells_len, List.length_replicate]; omega) rfl (bhb.old hok hO3) fun H4 hW5 => ?_
 have hnx_H4 : H4.next = H1.next := hW5.1
 have hO6 := hO3.wr hW5 (by omega) (by omega)
 have hx_hO6 := hO6.next
 refine O_nil (sr ?_)
 refine pv (.sl (some (m, 0)) lb.length (lb.length + ll.length) 0) rfl ?_
 refine pv (.sl la ll.length lc lg) rfl ?_
 refine O_appin (lb := ll) rfl hW5.2.1 (by omega) (by rw [putAt_len, bcells_len, List.length_replicate]) rfl (lhb.old hok hO6) fun H7 hW8 => ?_
 have hnx_H7 : H7.next = H4.next := hW8.1
 have hO9 := hO6.wr hW8 (by omega) (by omega)
 have hx_hO9 := hO9.next
 refine pv (.sl (some (m, 0)) (lb.length + ll.length) (lb.length + ll.length) 0) rfl ?_
 refine O_nil ?_
 refine C_ret ?_
 exact ⟨.inr rfl, _, resL_one (r_tmp (v := (.sl (some (m, 0)) (lb.length + ll.length) (lb.length + ll.length) 0)) rfl), ⟨.mk (n := lb.length + ll.length) (by rw [← put2]; exact hW8.2.1) (by omega) (.inl rfl) (by simp [bcells_len]), fun q hq => by have := nameOf_sl.1 hq; omega⟩, hO9⟩
theorem put16_ev {tab : Nat → Option XFun} {sp : Nat → List AV → AH → Option (AV × AH)} (h64 : tab 64 = some x64) (h38 : tab 38 = some x38) {H : AH} (hok : H.Ok) {ba : Option (Nat × Nat)} {bn bc bg : Nat} (bhg : bg = 0 ∨ bg = 1) {lb : List UInt8} (bhb : Bs H (.sl ba bn bc bg) lb) (bhc : bn ≤ bc) (bhm : bc ≤ 9223372036854775807) (v : Int) (hfit : bn + 2 < 1073741824) : Ev tab sp (.fn (.func 38) [] []) [.sl ba bn bc bg, .i .u16 v] H (fun r H' => Mine H.next 1 H' r (bcells (lb ++ beN v 2)) ∧ Kp H H') := by
 have e0 : u8 (v.fdiv (2 ^ (8 * 0))) = u8 v := by rw [show (2 : Int) ^ (8 * 0) = 1 from rfl, Int.fdiv_one]
 rw [show beN v 2 = [u8 (v.fdiv (2 ^ 8)), u8 v] by simp only [beN, e0]]
 refine Ev_C (F := x38) h38 ?_
 have bhl := bhb.length
 subst bhl
 have hO0 := Old.refl hok
 refine sr ?_
 refine pv (.sl none 0 0 0) rfl ?_
 refine O_nil (sr ?_)
 refine pv (.sl ba lb.length bc bg) rfl ?_
 refine pv (.i .u16 v) rfl ?_
 refine O_p (.i .u16 (Int.fdiv v (2 ^ 8))) (r_bin rfl rfl rfl) ?_
 refine O_p (.i .u8 (IntKind.u8.wrap (Int.fdiv v (2 ^ 8)))) (r_cint rfl) ?_
 refine pv (.i .u16 v) rfl ?_
 refine O_p (.i .u8 (IntKind.u8.wrap v)) (r_cint rfl) ?_
 refine O_bslice (c := [(.i .u8 (IntKind.u8.wrap (Int.fdiv v (2 ^ 8)))), (.i .u8 (IntKind.u8.wrap v))]) rfl fun n1 H2 hN3 => ?_
 have hF4 := hN3.fr (fun _ => False)
 have hO5 := hO0.new hN3
 have hx_hO5 := hO5.next
 have hnm_n1 : n1 = H.next := hN3.1
 have hnx_H2 : H2.next = H.next + 1 := hN3.2.1
 have hlt_n1 : n1 < H2.next := by omega
 have hbs6 := Bs.own (k := 2) (l := [(u8 (Int.fdiv v (2 ^ 8))), (u8 v)]) hN3.2.2.1 (bc_cons (u8_wrap _) (bc_cons (u8_wrap _) bc_nil)) rfl
 have base7 := Old.refl hO5.ok
 refine O_call (Ev.mono (with_ev h64 hO5.ok bhg (bhb.old hok hO5) (by first | omega | (simp only [List.length_take, List.length_drop, List.length_append, List.length_cons, List.length_nil, beN_len] <;> omega)) (by first | omega | (simp only [List.length_take, List.length_drop, List.length_append, List.length_cons, List.length_nil, beN_len] <;> omega)) (.inl rfl) (hbs6.old hO5.ok base7) (by first | omega | (simp only [List.length_take, List.length_drop, List.length_append, List.length_cons, List.length_nil, beN_len] <;> omega)) (by first | omega | (simp only [List.length_take, List.length_drop, List.length_append, List.length_cons, List.length_nil, beN_len] <;> omega)) (by first | omega | (simp only [List.length_cons, List.length_nil] <;> omega))) fun v8 H9 hq10 => ?_)
 obtain ⟨hM11, hK12⟩ := hq10
 have hb13 := (hK12.keep _ (by omega)).trans hN3.2.2.1
 have hx_hK12 := hK12.next
 have hlt_n1 : n1 < H9.next := by omega
 have hO14 := hO5.trans hK12
 have hx_hO14 := hO14.next
 have hO15 := base7.trans hK12
 have hM16 := hM11.down (N := H.next) (by omega)
 have hd17 : ¬ v8.nameOf n1 := fun hq => by have := hM11.new _ hq; omega
 refine pv v8 rfl ?_
 refine O_nil ?_
 refine C_ret ?_
 exact ⟨.inr rfl, _, resL_one (r_tmp (v := v8) rfl), hM16, hO14⟩
theorem put32_ev {tab : Nat → Option XFun} {sp : Nat → List AV → AH → Option (AV × AH)} (h64 : tab 64 = some x64) (h37 : tab 37 = some x37) {H : AH} (hok : H.Ok) {ba : Option (Nat × Nat)} {bn bc bg : Nat} (bhg : bg = 0 ∨ bg = 1) {lb : List UInt8} (bhb : Bs H (.sl ba bn bc bg) lb) (bhc : bn ≤ bc) (bhm : bc ≤ 9223372036854775807) (v : Int) (hfit : bn + 4 < 1073741824) : Ev tab sp (.fn (.func 37) [] []) [.sl ba bn bc bg, .i .u32 v] H (fun r H' => Mine H.next 1 H' r (bcells (lb ++ beN v 4)) ∧ Kp H H') := by
 have e0 : u8 (v.fdiv (2 ^ (8 * 0))) = u8 v := by rw [show (2 : Int) ^ (8 * 0) = 1 from rfl, Int.fdiv_one]
 rw [show beN v 4 = [u8 (v.fdiv (2 ^ 24)), u8 (v.fdiv (2 ^ 16)), u8 (v.fdiv (2 ^ 8)), u8 v] by simp only [beN, e0]]
 refine Ev_C (F := x37) h37 ?_
 have bhl := bhb.length
 subst bhl
 have hO0 := Old.refl hok
 refine sr ?_
 refine pv (.sl none 0 0 0) rfl ?_
 refine O_nil (sr ?_)
 refine pv (.sl ba lb.length bc bg) rfl ?_
 refine pv (.i .u32 v) rfl ?_
 refine O_p (.i .u32 (Int.fdiv v (2 ^ 24))) (r_bin rfl rfl rfl) ?_
 refine O_p (.i .u8 (IntKind.u8.wrap (Int.fdiv v (2 ^ 24)))) (r_cint rfl) ?_
 refine pv (.i .u32 v) rfl ?_
 refine O_p (.i .u32 (Int.fdiv v (2 ^ 16))) (r_bin rfl rfl rfl) ?_
 refine O_p (.i .u8 (IntKind.u8.wrap (Int.fdiv v (2 ^ 16)))) (r_cint rfl) ?_
 refine pv (.i .u32 v) rfl ?_
 refine O_p (.i .u32 (Int.fdiv v (2 ^ 8))) (r_bin rfl rfl rfl) ?_
 refine O_p (.i .u8 (IntKind.u8.wrap (Int.fdiv v (2 ^ 8)))) (r_cint rfl) ?_
 refine pv (.i .u32 v) rfl ?_
 refine O_p (.i .u8 (IntKind.u8.wrap v)) (r_cint rfl) ?_
 refine O_bslice (c := [(.i .u8 (IntKind.u8.wrap (Int.fdiv v (2 ^ 24)))), (.i .u8 (IntKind.u8.wrap (Int.fdiv v (2 ^ 16)))), (.i .u8 (IntKind.u8.wrap (Int.fdiv v (2 ^ 8)))), (.i .u8 (IntKind.u8.wrap v))]) rfl fun n1 H2 hN3 => ?_
 have hF4 := hN3.fr (fun _ => False)
 have hO5 := hO0.new hN3
 have hx_hO5 := hO5.next
 have hnm_n1 : n1 = H.next := hN3.1
 have hnx_H2 : H2.next = H.next + 1 := hN3.2.1
 have hlt_n1 : n1 < H2.next := by omega
 have hbs6 := Bs.own (k := 4) (l := [(u8 (Int.fdiv v (2 ^ 24))), (u8 (Int.fdiv v (2 ^ 16))), (u8 (Int.fdiv v (2 ^ 8))), (u8 v)]) hN3.2.2.1 (bc_cons (u8_wrap _) (bc_cons (u8_wrap _) (bc_cons (u8_wrap _) (bc_cons (u8_wrap _) bc_nil)))) rfl
 have base7 := Old.refl hO5.ok
 refine O_call (Ev.mono (with_ev h64 hO5.ok bhg (bhb.old hok hO5) (by first | omega | (simp only [List.length_take, List.length_drop, List.length_append, List.length_cons, List.length_nil, beN_len] <;> omega)) (by first | omega | (simp only [List.length_take, List.length_drop, List.length_append, List.length_cons, List.length_nil, beN_len] <;> omega)) (.inl rfl) (hbs6.old hO5.ok base7) (by first | omega | (simp only [List.length_take, List.length_drop, List.length_append, List.length_cons, List.length_nil, beN_len] <;> omega)) (by first | omega | (simp only [List.length_take, List.length_drop, List.length_append, List.length_cons, List.length_nil, beN_len] <;> omega)) (by first | omega | (simp only [List.length_cons, List.length_nil] <;> omega))) fun v8 H9 hq10 => ?_)
 obtain ⟨hM11, hK12⟩ := hq10
 have hb13 := (hK12.keep _ (by omega)).trans hN3.2.2.1
 have hx_hK12 := hK12.next
 have hlt_n1 : n1 < H9.next := by omega
 have hO14 := hO5.trans hK12
 have hx_hO14 := hO14.next
 have hO15 := base7.trans hK12
 have hM16 := hM11.down (N := H.next) (by omega)
 have hd17 : ¬ v8.nameOf n1 := fun hq => by have := hM11.new _ hq; omega
 refine pv v8 rfl ?_
 refine O_nil ?_
 refine C_ret ?_
 exact ⟨.inr rfl, _, resL_one (r_tmp (v := v8) rfl), hM16, hO14⟩
theorem clone_ev {tab : Nat → Option XFun} {sp : Nat → List AV → AH → Option (AV × AH)} (h48 : tab 48 = some x48) {H : AH} (hok : H.Ok) {ba : Option (Nat × Nat)} {bn bc bg : Nat} (bhg : bg = 0 ∨ bg = 1) {lb : List UInt8} (bhb : Bs H (.sl ba bn bc bg) lb) (bhc : bn ≤ bc) (bhm : bc ≤ 9223372036854775807) (hfit : bn ≤ 1073741824) : Ev tab sp (.fn (.func 48) [] []) [.sl ba bn bc bg] H (fun r H' => Mine H.next 1 H' r (bcells (lb)) ∧ Kp H H') := by
 refine Ev_C (F := x48) h48 ?_
 have bhl := bhb.length
 subst bhl
 have hO0 := Old.refl hok
 refine sr ?_
 refine pv (.sl none 0 0 0) rfl ?_
 refine O_nil ?_
 refine C_seq ?_
 refine sr ?_
 refine pv (.sl ba lb.length bc bg) rfl ?_
 refine O_p (.b (if false = true then !ba.isNone else ba.isNone)) (r_nils rfl) ?_
 refine O_nil ?_
 refine C_cond (x := (if false = true then !ba.isNone else ba.isNone)) rfl (fun hc1 => ?_) (fun hc1 => ?_)
 ·
  have hcx := hc1
  refine sr ?_
  refine pv (.sl none 0 0 0) rfl ?_
  refine O_nil ?_
  refine C_ret ?_
  refine nx_ret ?_
  have hnil : ba = none := by simpa using hcx
  subst hnil
  obtain rfl := bhb.nilof
  exact ⟨.inr rfl, _, resL_one (r_tmp (v := .sl none 0 0 0) rfl), Mine.nil _ _ _, hO0⟩
 ·
  have hcx := hc1
  refine C_skip ?_
  refine sr ?_
  refine O_bslice (c := []) rfl fun n2 H3 hN4 => ?_
  have hF5 := hN4.fr (fun _ => False)
  have hO6 := hO0.new hN4
  have hx_hO6 := hO6.next
  have hnm_n2 : n2 = H.next := hN4.1
  have hnx_H3 : H3.next = H.next + 1 := hN4.2.1
  have hlt_n2 : n2 < H3.next := by omega
  refine pv (.sl ba lb.length bc bg) rfl ?_
  have hM7 : Mine H.next 1 H3 (.sl (some (n2, 0)) 0 0 0) [] := ⟨.mk (n := 0) hN4.2.2.1 (by omega) (.inl rfl) rfl, fun q hq => by rw [nameOf_sl] at hq; omega⟩
  refine O_qh (by exact r_app (n := 0) (k := lb.length) (new := (bcells lb)) hO6.ok hO6.next hM7 rfl rfl rfl ((bhb.old hok hO6).len) ((bhb.old hok hO6).src) ((bcells_len _).trans (Nat.mul_one _).symm) (by decide) (by decide) (by first | omega | (simp only [List.length_take, List.length_drop, List.length_append, List.length_cons, List.length_nil, beN_len] <;> omega))) fun o8 H9 hA10 => ?_
  have hx_H9 := hA10.2.1
  have hO11 := hA10.old hM7 hO6
  have hx_hO11 := hO11.next
  refine pv o8 rfl ?_
  refine O_nil ?_
  refine C_ret ?_
  exact ⟨.inr rfl, _, resL_one (r_tmp (v := o8) rfl), by have h := hA10.1; simpa [resV] using h, hO11⟩
theorem take_ev {tab : Nat → Option XFun} {sp : Nat → List AV → AH → Option (AV × AH)} (h66 : tab 66 = some x66) {H : AH} (hok : H.Ok) {lo n : Nat} {l : List UInt8} (hr : Rd H lo n l) {k : Nat} (hk : k ≤ l.length) : Ev tab sp (.fn (.func 66) [] []) [.p (some (n, 0)), .i .i64 k] H (fun r H' => But n H H' ∧ Rd H' lo n (l.drop k) ∧ ∃ a, r = .tup [.sl a k k 0, .i .i64 0] ∧ Bs H' (.sl a k k 0) (l.take k)) := by
 refine Ev_C (F := x66) h66 ?_
 obtain ⟨ra, rc, rg, rget, rhg, rlen, rcm, rbs, rnm⟩ := hr
 have hlt_n : n < H.next := hok _ _ rget
 refine sr ?_
 refine pv (.sl none 0 0 0) rfl ?_
 refine pv (.i .i64 0) rfl ?_
 refine O_nil ?_
 refine C_seq ?_
 refine C_block ?_
 refine sr ?_
 refine pv (.p (some (n, 0))) rfl ?_
 refine O_p (.b false) (r_nilq_s rfl) ?_
 refine pv (.b false) rfl ?_
 refine O_gs (v := (.i .i64 (((k : Nat)) : Int))) rfl (r_mv rfl) ?_
 refine O_gs (v := (.b (decide ((((k : Nat)) : Int) < 0)))) rfl (r_lss rfl rfl) ?_
 refine O_p (.b (decide ((((k : Nat)) : Int) < 0))) (r_pick_f rfl rfl) ?_
 refine pv (.b (decide ((((k : Nat)) : Int) < 0))) rfl ?_
 refine O_nil ?_
 refine C_cond (x := (decide ((((k : Nat)) : Int) < 0))) rfl (fun hc1 => ?_) (fun hc1 => ?_)
 ·
  simp only [decide_eq_true_eq, decide_eq_false_iff_not, Bool.not_eq_true', Bool.not_eq_false', Bool.and_eq_true, Bool.or_eq_true, Bool.or_eq_false_iff, Bool.not_not] at hc1
  exfalso; omega
 ·
  simp only [decide_eq_true_eq, decide_eq_false_iff_not, Bool.not_eq_true', Bool.not_eq_false', Bool.and_eq_true, Bool.or_eq_true, Bool.or_eq_false_iff, Bool.not_not] at hc1
  refine sr ?_
  refine pv (.i .i64 (((k : Nat)) : Int)) rfl ?_
  refine pv (.p (some (n, 0))) rfl ?_
  refine O_p (.p (some (n, 0))) (r_nilc rfl) ?_
  refine pf (.p (some (n, 0))) rfl rfl ?_
  refine O_p (.sl ra l.length rc rg) (r_ld rfl rget rfl) ?_
  refine O_p (.i .i64 (((l.length : Nat)) : Int)) (r_len rfl) ?_
  refine O_p (.b (decide ((((l.length : Nat)) : Int) < (((k : Nat)) : Int)))) (r_gtr rfl rfl) ?_
  refine pv (.b (decide ((((l.length : Nat)) : Int) < (((k : Nat)) : Int)))) rfl ?_
  refine O_nil ?_
  refine C_cond (x := (decide ((((l.length : Nat)) : Int) < (((k : Nat)) : Int)))) rfl (fun hc2 => ?_) (fun hc2 => ?_)
  ·
   simp only [decide_eq_true_eq, decide_eq_false_iff_not, Bool.not_eq_true', Bool.not_eq_false', Bool.and_eq_true, Bool.or_eq_true, Bool.or_eq_false_iff, Bool.not_not] at hc2
   exfalso; omega
  ·
   simp only [decide_eq_true_eq, decide_eq_false_iff_not, Bool.not_eq_true', Bool.not_eq_false', Bool.and_eq_true, Bool.or_eq_true, Bool.or_eq_false_iff, Bool.not_not] at hc2
   refine C_skip ?_
   refine sr ?_
   refine pv (.p (some (n, 0))) rfl ?_
   refine O_p (.p (some (n, 0))) (r_nilc rfl) ?_
   refine pf (.p (some (n, 0))) rfl rfl ?_
   refine O_p (.sl ra l.length rc rg) (r_ld rfl rget rfl) ?_
   refine pv (.i .i64 (((k : Nat)) : Int)) rfl ?_
   refine pv (.i .i64 (((k : Nat)) : Int)) rfl ?_
   refine O_q (by exact Bs.cut rbs rhg rfl (j := k) rfl rfl (by omega) (by omega)) fun v6 hv6 => ?_
   obtain ⟨a6, rfl, hb6, hn6⟩ := hv6
   refine pv (.sl a6 k k 0) rfl ?_
   refine O_nil (sr ?_)
   refine pv (.p (some (n, 0))) rfl ?_
   refine pv (.p (some (n, 0))) rfl ?_
   refine O_p (.p (some (n, 0))) (r_nilc rfl) ?_
   refine pf (.p (some (n, 0))) rfl rfl ?_
   refine O_p (.sl ra l.length rc rg) (r_ld rfl rget rfl) ?_
   refine pv (.i .i64 (((k : Nat)) : Int)) rfl ?_
   refine O_q (by exact Bs.lo' rbs rhg rfl (i := k) rfl (by omega) (by omega)) fun v7 hv7 => ?_
   obtain ⟨a7, rfl, hb7, hn7⟩ := hv7
   refine O_p (.p (some (n, 0))) (r_nilc rfl) ?_
   refine pf (.p (some (n, 0))) rfl rfl ?_
   refine O_store (vs := [(.sl a7 (l.length - k) (rc - k) rg)]) (c' := [(.sl a7 (l.length - k) (rc - k) rg)]) rfl (by rfl) rget rfl (List.cons_ne_nil _ _) (Nat.le_of_ble_eq_true rfl) rfl fun H3 hW4 => ?_
   have hnx_H3 : H3.next = H.next := hW4.1
   have hlt_n : n < H3.next := by omega
   refine O_nil (sr ?_)
   refine pv (.sl a6 k k 0) rfl ?_
   refine pv (.sl a6 k k 0) rfl ?_
   refine pv (.i .i64 0) rfl ?_
   refine O_nil ?_
   refine C_ret ?_
   have hBut := But.wr hW4 hok (hok _ _ rget)
   have hbd : Bs H3 (.sl a7 (l.length - k) (rc - k) rg) (l.drop k) := hb7.but hok hBut (fun hq => by have := rnm _ (hn7 _ hq); omega)
   exact ⟨.inr rfl, _, resL_cons (r_tmp (v := (.sl a6 k k 0)) rfl) (resL_one (r_tmp (v := (.i .i64 0)) rfl)), hBut, ⟨a7, rc - k, rg, by rw [List.length_drop]; exact hW4.2.1, rhg, by rw [List.length_drop]; omega, by omega, by rw [List.length_drop]; exact hbd, fun q hq => by rw [List.length_drop] at hq; exact rnm _ (hn7 _ hq)⟩, a6, rfl, hb6.but hok hBut (fun hq => by have := rnm _ (hn6 _ hq); omega)⟩
theorem get8_ev {tab : Nat → Option XFun} {sp : Nat → List AV → AH → Option (AV × AH)} (h66 : tab 66 = some x66) (h42 : tab 42 = some x42) {H : AH} (hok : H.Ok) {lo n : Nat} {l : List UInt8} (hr : Rd H lo n l) (hk : 1 ≤ l.length) : Ev tab sp (.fn (.func 42) [] []) [.p (some (n, 0))] H (fun r H' => But n H H' ∧ Rd H' lo n (l.drop 1) ∧ r = .tup [.i .u8 (num (l.take 1)), .i .i64 0]) := by
 refine Ev_C (F := x42) h42 ?_
 refine sr ?_
 refine pv (.i .u8 0) rfl ?_
 refine pv (.i .i64 0) rfl ?_
 refine O_nil (sr ?_)
 refine pv (.p (some (n, 0))) rfl ?_
 refine O_call (Ev.mono (take_ev h66 hok hr (k := 1) (by omega)) fun v1 H2 hq3 => ?_)
 obtain ⟨hBut, hRd, ta, rfl, htb⟩ := hq3
 have hxb := hBut.next
 have base4 := Old.refl hBut.ok
 refine pv (.tup [(.sl ta 1 1 0), (.i .i64 0)]) rfl ?_
 refine O_p (.sl ta 1 1 0) (r_ext rfl rfl) ?_
 refine O_p (.i .i64 0) (r_ext rfl rfl) ?_
 refine pv (.sl ta 1 1 0) rfl ?_
 refine pv (.i .i64 0) rfl ?_
 refine O_nil ?_
 refine C_seq ?_
 refine sr ?_
 refine pv (.i .i64 0) rfl ?_
 refine O_p (.b false) (r_bin rfl rfl rfl) ?_
 refine O_nil ?_
 refine C_cond (x := false) rfl (fun h => by cases h) (fun _ => ?_)
 refine C_skip ?_
 refine sr ?_
 refine pv (.sl ta 1 1 0) rfl ?_
 refine O_q (by exact Bs.ix (htb.old hBut.ok base4) rfl (i := 0) rfl (by first | omega | (simp only [List.length_take, List.length_drop, List.length_append, List.length_cons, List.length_nil, beN_len] <;> omega))) fun v6 hv5 => ?_
 refine O_p (.i .u8 (((l.take 1).getD 0 0).toNat : Int)) (hv5.load rfl) ?_
 refine pv (.i .u8 (((l.take 1).getD 0 0).toNat : Int)) rfl ?_
 refine pv (.i .i64 0) rfl ?_
 refine O_nil ?_
 refine C_ret ?_
 refine ⟨.inr rfl, _, resL_cons (r_tmp (v := (.i .u8 (((l.take 1).getD 0 0).toNat : Int))) rfl) (resL_one (r_tmp (v := (.i .i64 0)) rfl)), hBut.kp base4, hRd.kp hBut.ok base4, ?_⟩
 rw [num1 (by omega), show (l.take 1).getD 0 0 = l.getD 0 0 from getD_take (by omega)]; rfl
theorem get16_ev {tab : Nat → Option XFun} {sp : Nat → List AV → AH → Option (AV × AH)} (h66 : tab 66 = some x66) (h43 : tab 43 = some x43) {H : AH} (hok : H.Ok) {lo n : Nat} {l : List UInt8} (hr : Rd H lo n l) (hk : 2 ≤ l.length) : Ev tab sp (.fn (.func 43) [] []) [.p (some (n, 0))] H (fun r H' => But n H H' ∧ Rd H' lo n (l.drop 2) ∧ r = .tup [.i .u16 (num (l.take 2)), .i .i64 0]) := by
 refine Ev_C (F := x43) h43 ?_
 refine sr ?_
 refine pv (.i .u16 0) rfl ?_
 refine pv (.i .i64 0) rfl ?_
 refine O_nil (sr ?_)
 refine pv (.p (some (n, 0))) rfl ?_
 refine O_call (Ev.mono (take_ev h66 hok hr (k := 2) (by omega)) fun v1 H2 hq3 => ?_)
 obtain ⟨hBut, hRd, ta, rfl, htb⟩ := hq3
 have hxb := hBut.next
 have base4 := Old.refl hBut.ok
 refine pv (.tup [(.sl ta 2 2 0), (.i .i64 0)]) rfl ?_
 refine O_p (.sl ta 2 2 0) (r_ext rfl rfl) ?_
 refine O_p (.i .i64 0) (r_ext rfl rfl) ?_
 refine pv (.sl ta 2 2 0) rfl ?_
 refine pv (.i .i64 0) rfl ?_
 refine O_nil ?_
 refine C_seq ?_
 refine sr ?_
 refine pv (.i .i64 0) rfl ?_
 refine O_p (.b false) (r_bin rfl rfl rfl) ?_
 refine O_nil ?_
 refine C_cond (x := false) rfl (fun h => by cases h) (fun _ => ?_)
 refine C_skip ?_
 refine C_seq ?_
 refine C_draw fun b5 H6 hbase7 hA8 => ?_
 have hnx9 : H6.next = H2.next + 12 := hA8.1
 have hF10 := hA8.fr (fun _ => False)
 have hO11 := base4.aside hA8
 refine D_l (v := (.sl ta 2 2 0)) rfl rfl rfl (r_mv rfl) ?_
 refine D_q rfl rfl rfl (by exact Bs.ix (htb.old hBut.ok hO11) rfl (i := 0) rfl (by first | omega | (simp only [List.length_take, List.length_drop, List.length_append, List.length_cons, List.length_nil, beN_len] <;> omega))) fun v13 hv12 => ?_
 refine D_l (v := (.sl ta 2 2 0)) rfl rfl rfl (r_mv rfl) ?_
 refine D_q rfl rfl rfl (by exact Bs.ix (htb.old hBut.ok hO11) rfl (i := 1) rfl (by first | omega | (simp only [List.length_take, List.length_drop, List.length_append, List.length_cons, List.length_nil, beN_len] <;> omega))) fun v15 hv14 => ?_
 refine D_r (v := (.i .u8 (((l.take 2).getD 0 0).toNat : Int))) rfl rfl rfl (hv12.load rfl) ?_
 refine D_l (v := (.i .u16 (IntKind.u16.wrap (((l.take 2).getD 0 0).toNat : Int)))) rfl rfl rfl (r_cint rfl) ?_
 refine D_l (v := (.i .u16 (IntKind.u16.wrap ((IntKind.u16.wrap (((l.take 2).getD 0 0).toNat : Int)) * 2 ^ 8)))) rfl rfl rfl (r_bin rfl rfl rfl) ?_
 refine D_r (v := (.i .u8 (((l.take 2).getD 1 0).toNat : Int))) rfl rfl rfl (hv14.load rfl) ?_
 refine D_l (v := (.i .u16 (IntKind.u16.wrap (((l.take 2).getD 1 0).toNat : Int)))) rfl rfl rfl (r_cint rfl) ?_
 refine D_l (v := (.i .u16 (IntKind.u16.wrap ((BitVec.ofInt 16 (IntKind.u16.wrap ((IntKind.u16.wrap (((l.take 2).getD 0 0).toNat : Int)) * 2 ^ 8)) ||| BitVec.ofInt 16 (IntKind.u16.wrap (((l.take 2).getD 1 0).toNat : Int))).toNat : Int)))) rfl rfl rfl (r_bin rfl rfl rfl) ?_
 refine D_l (v := (.i .u16 (IntKind.u16.wrap ((BitVec.ofInt 16 (IntKind.u16.wrap ((IntKind.u16.wrap (((l.take 2).getD 0 0).toNat : Int)) * 2 ^ 8)) ||| BitVec.ofInt 16 (IntKind.u16.wrap (((l.take 2).getD 1 0).toNat : Int))).toNat : Int)))) rfl rfl rfl (r_mv rfl) ?_
 refine D_l (v := (.i .i64 0)) rfl rfl rfl (r_mv rfl) ?_
 refine D_nil ?_
 refine C_ret ?_
 refine ⟨.inr rfl, _, resL_cons (r_tmp (v := (.i .u16 (IntKind.u16.wrap ((BitVec.ofInt 16 (IntKind.u16.wrap ((IntKind.u16.wrap (((l.take 2).getD 0 0).toNat : Int)) * 2 ^ 8)) ||| BitVec.ofInt 16 (IntKind.u16.wrap (((l.take 2).getD 1 0).toNat : Int))).toNat : Int)))) rfl) (resL_one (r_tmp (v := (.i .i64 0)) rfl)), hBut.kp hO11, hRd.kp hBut.ok hO11, ?_⟩
 rw [get16_val (by omega)]; rfl
theorem get32_ev {tab : Nat → Option XFun} {sp : Nat → List AV → AH → Option (AV × AH)} (h66 : tab 66 = some x66) (h44 : tab 44 = some x44) {H : AH} (hok : H.Ok) {lo n : Nat} {l : List UInt8} (hr : Rd H lo n l) (hk : 4 ≤ l.length) : Ev tab sp (.fn (.func 44) [] []) [.p (some (n, 0))] H (fun r H' => But n H H' ∧ Rd H' lo n (l.drop 4) ∧ r = .tup [.i .u32 (num (l.take 4)), .i .i64 0]) := by
 refine Ev_C (F := x44) h44 ?_
 refine sr ?_
 refine pv (.i .u32 0) rfl ?_
 refine pv (.i .i64 0) rfl ?_
 refine O_nil (sr ?_)
 refine pv (.p (some (n, 0))) rfl ?_
 refine O_call (Ev.mono (take_ev h66 hok hr (k := 4) (by omega)) fun v1 H2 hq3 => ?_)
 obtain ⟨hBut, hRd, ta, rfl, htb⟩ := hq3
 have hxb := hBut.next
 have base4 := Old.refl hBut.ok
 refine pv (.tup [(.sl ta 4 4 0), (.i .i64 0)]) rfl ?_
 refine O_p (.sl ta 4 4 0) (r_ext rfl rfl) ?_
 refine O_p (.i .i64 0) (r_ext rfl rfl) ?_
 refine pv (.sl ta 4 4 0) rfl ?_
 refine pv (.i .i64 0) rfl ?_
 refine O_nil ?_
 refine C_seq ?_
 refine sr ?_
 refine pv (.i .i64 0) rfl ?_
 refine O_p (.b false) (r_bin rfl rfl rfl) ?_
 refine O_nil ?_
 refine C_cond (x := false) rfl (fun h => by cases h) (fun _ => ?_)
 refine C_skip ?_
 refine C_seq ?_
 refine C_draw fun b5 H6 hbase7 hA8 => ?_
 have hnx9 : H6.next = H2.next + 24 := hA8.1
 have hF10 := hA8.fr (fun _ => False)
 have hO11 := base4.aside hA8
 refine D_l (v := (.sl ta 4 4 0)) rfl rfl rfl (r_mv rfl) ?_
 refine D_q rfl rfl rfl (by exact Bs.ix (htb.old hBut.ok hO11) rfl (i := 0) rfl (by first | omega | (simp only [List.length_take, List.length_drop, List.length_append, List.length_cons, List.length_nil, beN_len] <;> omega))) fun v13 hv12 => ?_
 refine D_l (v := (.sl ta 4 4 0)) rfl rfl rfl (r_mv rfl) ?_
 refine D_q rfl rfl rfl (by exact Bs.ix (htb.old hBut.ok hO11) rfl (i := 1) rfl (by first | omega | (simp only [List.length_take, List.length_drop, List.length_append, List.length_cons, List.length_nil, beN_len] <;> omega))) fun v15 hv14 => ?_
 refine D_l (v := (.sl ta 4 4 0)) rfl rfl rfl (r_mv rfl) ?_
 refine D_q rfl rfl rfl (by exact Bs.ix (htb.old hBut.ok hO11) rfl (i := 2) rfl (by first | omega | (simp only [List.length_take, List.length_drop, List.length_append, List.length_cons, List.length_nil, beN_len] <;> omega))) fun v17 hv16 => ?_
 refine D_l (v := (.sl ta 4 4 0)) rfl rfl rfl (r_mv rfl) ?_
 refine D_q rfl rfl rfl (by exact Bs.ix (htb.old hBut.ok hO11) rfl (i := 3) rfl (by first | omega | (simp only [List.length_take, List.length_drop, List.length_append, List.length_cons, List.length_nil, beN_len] <;> omega))) fun v19 hv18 => ?_
 refine D_r (v := (.i .u8 (((l.take 4).getD 0 0).toNat : Int))) rfl rfl rfl (hv12.load rfl) ?_
 refine D_l (v := (.i .u32 (IntKind.u32.wrap (((l.take 4).getD 0 0).toNat : Int)))) rfl rfl rfl (r_cint rfl) ?_
 refine D_l (v := (.i .u32 (IntKind.u32.wrap ((IntKind.u32.wrap (((l.take 4).getD 0 0).toNat : Int)) * 2 ^ 24)))) rfl rfl rfl (r_bin rfl rfl rfl) ?_
 refine D_r (v := (.i .u8 (((l.take 4).getD 1 0).toNat : Int))) rfl rfl rfl (hv14.load rfl) ?_
 refine D_l (v := (.i .u32 (IntKind.u32.wrap (((l.take 4).getD 1 0).toNat : Int)))) rfl rfl rfl (r_cint rfl) ?_
 refine D_l (v := (.i .u32 (IntKind.u32.wrap ((IntKind.u32.wrap (((l.take 4).getD 1 0).toNat : Int)) * 2 ^ 16)))) rfl rfl rfl (r_bin rfl rfl rfl) ?_
 refine D_l (v := (.i .u32 (IntKind.u32.wrap ((BitVec.ofInt 32 (IntKind.u32.wrap ((IntKind.u32.wrap (((l.take 4).getD 0 0).toNat : Int)) * 2 ^ 24)) ||| BitVec.ofInt 32 (IntKind.u32.wrap ((IntKind.u32.wrap (((l.take 4).getD 1 0).toNat : Int)) * 2 ^ 16))).toNat : Int)))) rfl rfl rfl (r_bin rfl rfl rfl) ?_
 refine D_r (v := (.i .u8 (((l.take 4).getD 2 0).toNat : Int))) rfl rfl rfl (hv16.load rfl) ?_
 refine D_l (v := (.i .u32 (IntKind.u32.wrap (((l.take 4).getD 2 0).toNat : Int)))) rfl rfl rfl (r_cint rfl) ?_
 refine D_l (v := (.i .u32 (IntKind.u32.wrap ((IntKind.u32.wrap (((l.take 4).getD 2 0).toNat : Int)) * 2 ^ 8)))) rfl rfl rfl (r_bin rfl rfl rfl) ?_
 refine D_l (v := (.i .u32 (IntKind.u32.wrap ((BitVec.ofInt 32 (IntKind.u32.wrap ((BitVec.ofInt 32 (IntKind.u32.wrap ((IntKind.u32.wrap (((l.take 4).getD 0 0).toNat : Int)) * 2 ^ 24)) ||| BitVec.ofInt 32 (IntKind.u32.wrap ((IntKind.u32.wrap (((l.take 4).getD 1 0).toNat : Int)) * 2 ^ 16))).toNat : Int)) ||| BitVec.ofInt 32 (IntKind.u32.wrap ((IntKind.u32.wrap (((l.take 4).getD 2 0).toNat : Int)) * 2 ^ 8))).toNat : Int)))) rfl rfl rfl (r_bin rfl rfl rfl) ?_
 refine D_r (v := (.i .u8 (((l.take 4).getD 3 0).toNat : Int))) rfl rfl rfl (hv18.load rfl) ?_
 refine D_l (v := (.i .u32 (IntKind.u32.wrap (((l.take 4).getD 3 0).toNat : Int)))) rfl rfl rfl (r_cint rfl) ?_
 refine D_l (v := (.i .u32 (IntKind.u32.wrap ((BitVec.ofInt 32 (IntKind.u32.wrap ((BitVec.ofInt 32 (IntKind.u32.wrap ((BitVec.ofInt 32 (IntKind.u32.wrap ((IntKind.u32.wrap (((l.take 4).getD 0 0).toNat : Int)) * 2 ^ 24)) ||| BitVec.ofInt 32 (IntKind.u32.wrap ((IntKind.u32.wrap (((l.take 4).getD 1 0).toNat : Int)) * 2 ^ 16))).toNat : Int)) ||| BitVec.ofInt 32 (IntKind.u32.wrap ((IntKind.u32.wrap (((l.take 4).getD 2 0).toNat : Int)) * 2 ^ 8))).toNat : Int)) ||| BitVec.ofInt 32 (IntKind.u32.wrap (((l.take 4).getD 3 0).toNat : Int))).toNat : Int)))) rfl rfl rfl (r_bin rfl rfl rfl) ?_
 refine D_l (v := (.i .u32 (IntKind.u32.wrap ((BitVec.ofInt 32 (IntKind.u32.wrap ((BitVec.ofInt 32 (IntKind.u32.wrap ((BitVec.ofInt 32 (IntKind.u32.wrap ((IntKind.u32.wrap (((l.take 4).getD 0 0).toNat : Int)) * 2 ^ 24)) ||| BitVec.ofInt 32 (IntKind.u32.wrap ((IntKind.u32.wrap (((l.take 4).getD 1 0).toNat : Int)) * 2 ^ 16))).toNat : Int)) ||| BitVec.ofInt 32 (IntKind.u32.wrap ((IntKind.u32.wrap (((l.take 4).getD 2 0).toNat : Int)) * 2 ^ 8))).toNat : Int)) ||| BitVec.ofInt 32 (IntKind.u32.wrap (((l.take 4).getD 3 0).toNat : Int))).toNat : Int)))) rfl rfl rfl (r_mv rfl) ?_
 refine D_l (v := (.i .i64 0)) rfl rfl rfl (r_mv rfl) ?_
 refine D_nil ?_
 refine C_ret ?_
 refine ⟨.inr rfl, _, resL_cons (r_tmp (v := (.i .u32 (IntKind.u32.wrap ((BitVec.ofInt 32 (IntKind.u32.wrap ((BitVec.ofInt 32 (IntKind.u32.wrap ((BitVec.ofInt 32 (IntKind.u32.wrap ((IntKind.u32.wrap (((l.take 4).getD 0 0).toNat : Int)) * 2 ^ 24)) ||| BitVec.ofInt 32 (IntKind.u32.wrap ((IntKind.u32.wrap (((l.take 4).getD 1 0).toNat : Int)) * 2 ^ 16))).toNat : Int)) ||| BitVec.ofInt 32 (IntKind.u32.wrap ((IntKind.u32.wrap (((l.take 4).getD 2 0).toNat : Int)) * 2 ^ 8))).toNat : Int)) ||| BitVec.ofInt 32 (IntKind.u32.wrap (((l.take 4).getD 3 0).toNat : Int))).toNat : Int)))) rfl) (resL_one (r_tmp (v := (.i .i64 0)) rfl)), hBut.kp hO11, hRd.kp hBut.ok hO11, ?_⟩
 rw [get32_val (by omega)]; rfl
theorem left_ev {tab : Nat → Option XFun} {sp : Nat → List AV → AH → Option (AV × AH)} (h46 : tab 46 = some x46) {H : AH} (hok : H.Ok) {lo n : Nat} {l : List UInt8} (hr : Rd H lo n l) : Ev tab sp (.fn (.func 46) [] []) [.p (some (n, 0))] H (fun r H' => r = .i .i64 (l.length : Nat) ∧ H' = H) := by
 refine Ev_C (F := x46) h46 ?_
 obtain ⟨ra, rc, rg, rget, rhg, rlen, rcm, rbs, rnm⟩ := hr
 have hlt_n : n < H.next := hok _ _ rget
 refine sr ?_
 refine pv (.i .i64 0) rfl ?_
 refine O_nil ?_
 refine C_seq ?_
 refine sr ?_
 refine pv (.p (some (n, 0))) rfl ?_
 refine O_p (.b false) (r_nilq_s rfl) ?_
 refine O_nil ?_
 refine C_cond (x := false) rfl (fun h => by cases h) (fun _ => ?_)
 refine C_skip ?_
 refine sr ?_
 refine pv (.p (some (n, 0))) rfl ?_
 refine O_p (.p (some (n, 0))) (r_nilc rfl) ?_
 refine pf (.p (some (n, 0))) rfl rfl ?_
 refine O_p (.sl ra l.length rc rg) (r_ld rfl rget rfl) ?_
 refine O_p (.i .i64 (((l.length : Nat)) : Int)) (r_len rfl) ?_
 refine pv (.i .i64 (((l.length : Nat)) : Int)) rfl ?_
 refine O_nil ?_
 refine C_ret ?_
 exact ⟨.inr rfl, _, resL_one (r_tmp (v := .i .i64 (l.length : Nat)) rfl), rfl, rfl⟩
theorem bytes_ev {tab : Nat → Option XFun} {sp : Nat → List AV → AH → Option (AV × AH)} (h66 : tab 66 = some x66) (h48 : tab 48 = some x48) (h45 : tab 45 = some x45) {H : AH} (hok : H.Ok) {lo n : Nat} {l : List UInt8} (hr : Rd H lo n l) {k : Nat} (hk : k ≤ l.length) (hfit : k ≤ 1073741824) : Ev tab sp (.fn (.func 45) [] []) [.p (some (n, 0)), .i .i64 k] H (fun r H' => But n H H' ∧ Rd H' lo n (l.drop k) ∧ ∃ v, r = .tup [v, .i .i64 0] ∧ Mine H.next 1 H' v (bcells (l.take k))) := by
 refine Ev_C (F := x45) h45 ?_
 refine sr ?_
 refine pv (.sl none 0 0 0) rfl ?_
 refine pv (.i .i64 0) rfl ?_
 refine O_nil (sr ?_)
 refine pv (.p (some (n, 0))) rfl ?_
 refine pv (.i .i64 (((k : Nat)) : Int)) rfl ?_
 refine O_call (Ev.mono (take_ev h66 hok hr (k := k) (by omega)) fun v1 H2 hq3 => ?_)
 obtain ⟨hBut, hRd, ta, rfl, htb⟩ := hq3
 have hxb := hBut.next
 have base4 := Old.refl hBut.ok
 refine pv (.tup [(.sl ta k k 0), (.i .i64 0)]) rfl ?_
 refine O_p (.sl ta k k 0) (r_ext rfl rfl) ?_
 refine O_p (.i .i64 0) (r_ext rfl rfl) ?_
 refine pv (.sl ta k k 0) rfl ?_
 refine pv (.i .i64 0) rfl ?_
 refine O_nil (sr ?_)
 refine pv (.sl ta k k 0) rfl ?_
 refine O_call (Ev.mono (clone_ev h48 base4.ok (.inl rfl) (htb.old hBut.ok base4) (by first | omega | (simp only [List.length_take, List.length_drop, List.length_append, List.length_cons, List.length_nil, beN_len] <;> omega)) (by first | omega | (simp only [List.length_take, List.length_drop, List.length_append, List.length_cons, List.length_nil, beN_len] <;> omega)) (by first | omega | (simp only [List.length_take, List.length_drop, List.length_append, List.length_cons, List.length_nil, beN_len] <;> omega))) fun v5 H6 hq7 => ?_)
 obtain ⟨hMc, hKc⟩ := hq7
 have hxc := hKc.next
 refine pv (.i .i64 0) rfl ?_
 refine pv v5 rfl ?_
 refine pv (.i .i64 0) rfl ?_
 refine O_nil ?_
 refine C_ret ?_
 exact ⟨.inr rfl, _, resL_cons (r_tmp (v := v5) rfl) (resL_one (r_tmp (v := (.i .i64 0)) rfl)), hBut.kp hKc, hRd.kp hBut.ok hKc, _, rfl, hMc.down (by omega)⟩
theorem new_ev {tab : Nat → Option XFun} {sp : Nat → List AV → AH → Option (AV × AH)} (h48 : tab 48 = some x48) (h41 : tab 41 = some x41) {H : AH} (hok : H.Ok) {ba : Option (Nat × Nat)} {bn bc bg : Nat} (bhg : bg = 0 ∨ bg = 1) {lb : List UInt8} (bhb : Bs H (.sl ba bn bc bg) lb) (bhc : bn ≤ bc) (bhm : bc ≤ 9223372036854775807) (hfit : bn ≤ 1073741824) : Ev tab sp (.fn (.func 41) [] []) [.sl ba bn bc bg] H (fun r H' => ∃ n, r = .p (some (n, 0)) ∧ H.next ≤ n ∧ Rd H' H.next n lb ∧ Kp H H') := by
 refine Ev_C (F := x41) h41 ?_
 have bhl := bhb.length
 subst bhl
 have hO0 := Old.refl hok
 refine sr ?_
 refine pv (.p none) rfl ?_
 refine O_nil (sr ?_)
 refine pv (.sl ba lb.length bc bg) rfl ?_
 refine O_call (Ev.mono (clone_ev h48 hO0.ok bhg (bhb.old hok hO0) (by first | omega | (simp only [List.length_take, List.length_drop, List.length_append, List.length_cons, List.length_nil, beN_len] <;> omega)) (by first | omega | (simp only [List.length_take, List.length_drop, List.length_append, List.length_cons, List.length_nil, beN_len] <;> omega)) (by first | omega | (simp only [List.length_take, List.length_drop, List.length_append, List.length_cons, List.length_nil, beN_len] <;> omega))) fun v1 H2 hq3 => ?_)
 obtain ⟨hM4, hK5⟩ := hq3
 have hx_hK5 := hK5.next
 have hO6 := hO0.trans hK5
 have hx_hO6 := hO6.next
 have hM7 := hM4.down (N := H.next) (by omega)
 have hsf12 : Own 1 H2 v1 (bcells lb) := hM7.own
 obtain ⟨oa8, og9, rfl, hog10, hob11⟩ := hsf12.bs
 have base13 := Old.refl hO6.ok
 refine O_p (.agg [(.sl oa8 (lb).length (lb).length og9)]) (r_build rfl) ?_
 refine O_box (z := [(.sl oa8 (lb).length (lb).length og9)]) rfl fun n14 H15 hN16 => ?_
 have hF17 := hN16.fr (fun _ => False)
 have hM18 := hM7.anew hN16
 have hO19 := hO6.new hN16
 have hx_hO19 := hO19.next
 have hO20 := base13.new hN16
 have hd21 : ¬ ((.sl oa8 (lb).length (lb).length og9) : AV).nameOf n14 := hM7.dis (by have := hN16.1; omega)
 have hnm_n14 : n14 = H2.next := hN16.1
 have hnx_H15 : H15.next = H2.next + 1 := hN16.2.1
 have hlt_n14 : n14 < H15.next := by omega
 refine pv (.p (some (n14, 0))) rfl ?_
 refine O_nil ?_
 refine C_ret ?_
 exact ⟨.inr rfl, _, resL_one (r_tmp (v := (.p (some (n14, 0)))) rfl), n14, rfl, by omega, ⟨oa8, (lb).length, og9, hN16.2.2.1, hog10, Nat.le_refl _, by omega, (hM18.own.asbs), fun q hq => by have h1 := hM18.new q hq; have h2 := hM7.own.lt hq; omega⟩, hO19⟩
end Go.Proofs.YtfhbdddjclodhaaDoor.E
