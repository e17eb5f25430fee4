/- The set: small functions. It bears no condition. -/
import Derived.Test.YtjheedfobmlalaaE49
import Derived.Test.YtjheedfobmlalaaE41
import Derived.Test.YtjheedfobmlalaaX
import Derived.Test.YtjheedfobmlalaaE37
import Derived.Sort.AssemblyPlain
namespace Go.Proofs.Ytjheedfobmlalaa.E

set_option linter.unusedVariables false
set_option linter.unusedSimpArgs false
theorem globals0 : Try.prog.globals.size = 0 := by kernel_rfl
theorem mixed : Try.prog.follows .mixedOrders = true := by kernel_rfl
theorem laid : laidOutB Try.prog = true := by kernel_rfl
/-- The functions, but those that go through a map. -/
def tabS : Nat → Option XFun := fun g => match g with
  | 15 => none
  | 34 => none
  | g => tab g
theorem tabS_ok : TabOK Try.prog tabS := by
  intro g F h
  unfold tabS at h
  split at h
  · cases h
  · cases h
  · exact tab_ok _ _ h
def spS := noSp
theorem spS_ok : SpOK Try.prog tabS spS := noSp_ok
abbrev u1 (x : Int) : List AV := [AV.i .u32 x]
abbrev lU (d : List Int) : List AV := (d.map u1).flatten
theorem lU_len (d : List Int) : (lU d).length = d.length * 1 := (flat_len (fun r hr => by obtain ⟨x, _, rfl⟩ := List.mem_map.1 hr; rfl)).trans (by rw [List.length_map])
theorem lU_app (d : List Int) (x : Int) : lU d ++ [AV.i .u32 x] = lU (d ++ [x]) := by simp [lU]
/-! ### The set -/
def dst (c n : Int) : Int := IntKind.u32.wrap (n - c)
def blw (c n : Int) : Bool := decide (dst c n = 0) || decide (2147483648 ≤ dst c n)
def nxt (c : Int) : Int := IntKind.u32.wrap (c + 1)
structure Gp where
  c : Int
  l : List Int
  d : List Int
def Gp.has (s : Gp) (n : Int) : Bool := blw s.c n || decide (n ∈ s.l)
theorem udel_lt {l : List Int} {k : Int} (h : k ∈ l) : (udel l k).length < l.length := by
  unfold udel
  have := List.length_filter_lt_length_iff_exists (p := fun x => decide (x ≠ k)) (l := l)
  exact this.2 ⟨k, h, by simp⟩
def climbF (c : Int) (l : List Int) : Int × List Int := if h : nxt c ∈ l then climbF (nxt c) (udel l (nxt c)) else (c, l)
termination_by l.length
decreasing_by exact udel_lt h
theorem climbF_step {c : Int} {l : List Int} (h : nxt c ∈ l) : climbF c l = climbF (nxt c) (udel l (nxt c)) := by rw [climbF, dif_pos h]
theorem climbF_stop {c : Int} {l : List Int} (h : nxt c ∉ l) : climbF c l = (c, l) := by rw [climbF, dif_neg h]
def Gp.climb (s : Gp) : Gp := ⟨(climbF s.c s.l).1, (climbF s.c s.l).2, s.d⟩
def Gp.add (s : Gp) (n : Int) : Gp := if s.has n = true then (if s.d.length < 64 then ⟨s.c, s.l, s.d ++ [n]⟩ else s) else if 1024 < dst s.c n then s else Gp.climb ⟨s.c, uadd s.l n, s.d⟩
def Gp.told (s : Gp) (n : Int) : Int := if s.has n = true then 1 else if 1024 < dst s.c n then 2 else 0
def Gp.fwd (s : Gp) (n : Int) : Gp := if blw s.c n = true then s else Gp.climb ⟨n, s.l.filter (fun k => !blw n k), s.d⟩
/-- The set's blocks. -/
def GpH (s : Gp) (a : Nat) (S : HL) : Prop := ∃ m mb dv dc, Ub s.l mb ∧ Sq 1 dv dc (lU s.d) ∧ S = [(a, some (.cells [.i .u32 s.c, .m (some m), dv] true))] ++ ([(m, some mb)] ++ qseg dv dc)
theorem Hs.unc {H : AH} {A B K R : HL} (h : Hs H (A ++ (B ++ (K ++ R)))) : Hs H ((A ++ (B ++ K)) ++ R) := by simpa only [List.append_assoc] using h
theorem dist_ev {H : AH} {R : HL} {x y : Int} (hH0 : Hs H R) : Ev tabS spS (.fn (.func 17) [] []) [.i .u32 x, .i .u32 y] H (fun r H' => r = .i .u32 (dst x y) ∧ Hs H' R) := by
  refine Ev_C (F := x17) rfl ?_
  refine C_seq ?_
  refine C_region ?_
  refine O_p (.i .u32 0) (r_mv rfl) ?_
  refine O_nil ?_
  refine C_seq ?_
  refine C_region ?_
  refine O_p (.i .u32 y) (r_mv rfl) ?_
  refine O_p (.i .u32 x) (r_mv rfl) ?_
  refine O_p (.i .u32 (dst x y)) (r_bin rfl rfl rfl) ?_
  refine O_p (.i .u32 (dst x y)) (r_mv rfl) ?_
  refine O_nil ?_
  refine C_ret ?_
  exact ⟨.inr rfl, _, resL_one (r_tmp (v := (.i .u32 (dst x y))) rfl), rfl, hH0⟩
theorem below_ev {H : AH} {R : HL} {a : Nat} {c n : Int} {x1 x2 : AV} (hH0 : Hs H ([(a, some (.cells [.i .u32 c, x1, x2] true))] ++ R)) : Ev tabS spS (.fn (.func 30) [] []) [.p (some (a, 0)), .i .u32 n] H (fun r H' => r = .b (blw c n) ∧ Hs H' ([(a, some (.cells [.i .u32 c, x1, x2] true))] ++ R)) := by
  refine Ev_C (F := x30) rfl ?_
  refine C_seq ?_
  refine C_region ?_
  refine O_p (.b false) (r_mv rfl) ?_
  refine O_nil ?_
  refine C_seq ?_
  refine C_region ?_
  refine O_p (.p (some (a, 0))) (r_mv rfl) ?_
  refine O_p (.p (some (a, 0))) (r_nilc rfl) ?_
  refine O_p (.p (some (a, 0))) (r_fadd' rfl rfl) ?_
  refine O_p (.i .u32 c) (r_ld rfl hH0.get0 rfl) ?_
  refine O_p (.i .u32 n) (r_mv rfl) ?_
  refine O_call (Ev.mono (dist_ev (x := c) (y := n) hH0) fun v1 H2 hq3 => ?_)
  obtain ⟨rfl, hH4⟩ := hq3
  refine O_p (.i .u32 (dst c n)) (r_mv rfl) ?_
  refine O_nil ?_
  refine C_seq ?_
  refine C_region ?_
  refine O_p (.i .u32 (dst c n)) (r_mv rfl) ?_
  refine O_p (.b (decide ((dst c n) = 0))) (r_eql rfl rfl) ?_
  refine O_p (.b (decide ((dst c n) = 0))) (r_mv rfl) ?_
  refine O_gx (e := (!(decide ((dst c n) = 0)))) (v := (.i .u32 (dst c n))) (wf rfl) (fun he => (r_mv rfl)) ?_
  refine O_gx (e := (!(decide ((dst c n) = 0)))) (v := (.b (decide (2147483648 ≤ (dst c n))))) (wf rfl) (fun he => (r_geq (cond_pos he) rfl)) ?_
  refine O_p (.b ((decide ((dst c n) = 0)) || (decide (2147483648 ≤ (dst c n))))) (r_pick_or rfl rfl rfl rfl) ?_
  refine O_p (.b ((decide ((dst c n) = 0)) || (decide (2147483648 ≤ (dst c n))))) (r_mv rfl) ?_
  refine O_nil ?_
  refine C_ret ?_
  exact ⟨.inr rfl, _, resL_one (r_tmp (v := (.b ((decide ((dst c n) = 0)) || (decide (2147483648 ≤ (dst c n)))))) rfl), by unfold blw; cases h9 : decide (dst c n = 0) <;> simp [h9, resV], hH4⟩
theorem clos_ev {H : AH} {R : HL} {a bx : Nat} {c n : Int} {x1 x2 y : AV} (hH0 : Hs H ([(bx, some (.cells [.p (some (a, 0))] true))] ++ ([(a, some (.cells [.i .u32 c, x1, x2] true))] ++ R))) : Ev tabS spS (.fn (.func 35) [] [.p (some (bx, 0))]) [.i .u32 n, y] H (fun r H' => r = .b (blw c n) ∧ Hs H' ([(bx, some (.cells [.p (some (a, 0))] true))] ++ ([(a, some (.cells [.i .u32 c, x1, x2] true))] ++ R))) := by
  refine Ev_C (F := x35) rfl ?_
  refine C_seq ?_
  refine C_region ?_
  refine O_p (.b false) (r_mv rfl) ?_
  refine O_nil ?_
  refine C_seq ?_
  refine C_region ?_
  refine O_p (.p (some (a, 0))) (r_ld rfl hH0.get0 rfl) ?_
  refine O_p (.i .u32 n) (r_mv rfl) ?_
  have hH1 := (hH0.top1)
  refine O_call (Ev.mono (below_ev (n := n) hH1) fun v2 H3 hq4 => ?_)
  obtain ⟨rfl, hH5⟩ := hq4
  refine O_p (.b (blw c n)) (r_mv rfl) ?_
  refine O_nil ?_
  refine C_ret ?_
  have hH6 := (hH5.top1)
  exact ⟨.inr rfl, _, resL_one (r_tmp (v := (.b (blw c n))) rfl), rfl, hH6⟩
theorem has0_ev {H : AH} {R : HL} {a m : Nat} {c : Int} {l : List Int} {x : AV} {mb : Blk} {n : Int} (hb : Ub l mb) (hH0 : Hs H ([(a, some (.cells [.i .u32 c, .m (some m), x] true))] ++ ([(m, some mb)] ++ R))) : Ev tabS spS (.fn (.func 12) [] []) [.p (some (a, 0)), .i .u32 n] H (fun r H' => r = .b (blw c n || decide (n ∈ l)) ∧ Hs H' ([(a, some (.cells [.i .u32 c, .m (some m), x] true))] ++ ([(m, some mb)] ++ R))) := by
  refine Ev_C (F := x12) rfl ?_
  refine C_seq ?_
  refine C_region ?_
  refine O_p (.b false) (r_mv rfl) ?_
  refine O_nil ?_
  refine C_seq ?_
  refine C_region ?_
  refine O_p (.p (some (a, 0))) (r_mv rfl) ?_
  refine O_p (.b true) (r_nilq_s rfl) ?_
  refine O_p (.b true) (r_mv rfl) ?_
  refine O_gk rfl ?_
  refine O_p (.p (some (a, 0))) (r_mv rfl) ?_
  refine O_gk rfl ?_
  refine O_p (.i .u32 n) (r_mv rfl) ?_
  refine O_gk rfl ?_
  refine O_call (Ev.mono (below_ev (n := n) hH0) fun v1 H2 hq3 => ?_)
  obtain ⟨rfl, hH4⟩ := hq3
  refine O_gk rfl ?_
  refine O_p (.b (blw c n)) (r_mv rfl) ?_
  refine O_gx (e := (!(blw c n))) (v := (.p (some (a, 0)))) (wf rfl) (fun he => (r_mv rfl)) ?_
  refine O_gx (e := (!(blw c n))) (v := (.p (some (a, 0)))) (wf rfl) (fun he => (r_nilc (cond_pos he))) ?_
  refine O_gx (e := (!(blw c n))) (v := (.p (some (a, 1)))) (wf rfl) (fun he => (r_fadd' (cond_pos he) rfl)) ?_
  refine O_gx (e := (!(blw c n))) (v := (.m (some m))) (wf rfl) (fun he => (r_ld (cond_pos he) hH4.get0 rfl)) ?_
  refine O_gx (e := (!(blw c n))) (v := (.i .u32 n)) (wf rfl) (fun he => (r_mv rfl)) ?_
  refine O_gx (e := (!(blw c n))) (v := (.b (decide (n ∈ l)))) (wf rfl) (fun he => (r_uget (l := l) (k := n) hH4.get1 hb (cond_pos he) (cond_pos he))) ?_
  refine O_gk rfl ?_
  refine O_p (.b ((blw c n) || (decide (n ∈ l)))) (r_pick_or rfl rfl rfl rfl) ?_
  refine O_p (.b ((blw c n) || (decide (n ∈ l)))) (r_pick_t rfl rfl) ?_
  refine O_p (.b ((blw c n) || (decide (n ∈ l)))) (r_mv rfl) ?_
  refine O_nil ?_
  refine C_ret ?_
  have hH5 := ((hH4.top1).top1)
  exact ⟨.inr rfl, _, resL_one (r_tmp (v := (.b ((blw c n) || (decide (n ∈ l))))) rfl), by cases h9 : blw c n <;> simp [h9, resV], hH5⟩
theorem climb0_ev {H : AH} {R : HL} {a m : Nat} {c : Int} {l : List Int} {x : AV} {mb : Blk} (hb : Ub l mb) (hH0 : Hs H ([(a, some (.cells [.i .u32 c, .m (some m), x] true))] ++ ([(m, some mb)] ++ R))) : Ev tabS spS (.fn (.func 29) [] []) [.p (some (a, 0))] H (fun r H' => r = .tup [] ∧ ∃ mb', Ub (climbF c l).2 mb' ∧ Hs H' ([(a, some (.cells [.i .u32 (climbF c l).1, .m (some m), x] true))] ++ ([(m, some mb')] ++ R))) := by
  refine Ev_C (F := x29) rfl ?_
  refine C_while (fun m1 T2 H3 => ∃ c1 : Int, ∃ l1 : List Int, ∃ b1 : Go.Proofs.Ytjheedfobmlalaa.E.Blk, m1 = l1.length ∧ Ub l1 b1 ∧ climbF c1 l1 = climbF c l ∧ Hs H3 ([(a, some (.cells ([(.i .u32 c1), (.m (some m)), x]) true))] ++ ([(m, some b1)] ++ (R))) ∧ T2.get 0 = (.p (some (a, 0)))) (fun m1 T2 H3 hI4 => ?_) l.length _ _ ⟨c, l, mb, rfl, hb, rfl, hH0, rfl⟩
  obtain ⟨c1, l1, b1, hm5, hp6, hp7, hH9, hT8⟩ := hI4
  refine C_seq ?_
  refine C_seq ?_
  refine C_draw fun b10 H11 hbase12 hA13 => ?_
  have hH14 := hH9.keep (by have := hA13.1; omega) (fun q _ => hA13.2 q) ((hH9.old).aside hA13).ok
  refine D_l (v := (.p (some (a, 0)))) rfl rfl rfl (r_mv hT8) ?_
  refine D_l (v := (.p (some (a, 0)))) rfl rfl rfl (r_nilc rfl) ?_
  refine D_l (v := (.p (some (a, 1)))) rfl rfl rfl (r_fadd' rfl rfl) ?_
  refine D_l (v := (.p (some (a, 0)))) rfl rfl rfl (r_mv hT8) ?_
  refine D_l (v := (.p (some (a, 0)))) rfl rfl rfl (r_nilc rfl) ?_
  refine D_l (v := (.p (some (a, 0)))) rfl rfl rfl (r_fadd' rfl rfl) ?_
  refine D_r (v := (.m (some m))) rfl rfl rfl (r_ld rfl hH14.get0 rfl) ?_
  refine D_r (v := (.i .u32 c1)) rfl rfl rfl (r_ld rfl hH14.get0 rfl) ?_
  refine D_l (v := (.i .u32 (nxt c1))) rfl rfl rfl (r_bin rfl rfl rfl) ?_
  refine D_r (v := (.b (decide ((nxt c1) ∈ l1)))) rfl rfl rfl (r_uget (l := l1) (k := (nxt c1)) hH14.get1 hp6 rfl rfl) ?_
  refine D_l (v := (.b (!(decide ((nxt c1) ∈ l1))))) rfl rfl rfl (r_not rfl) ?_
  refine D_nil ?_
  refine C_cond (x := (!(decide ((nxt c1) ∈ l1)))) rfl (fun hc15 => ?_) (fun hc15 => ?_)
  ·
    try simp only [decide_eq_true_eq, decide_eq_false_iff_not, Bool.not_eq_true', Bool.not_eq_false', Bool.and_eq_true, Bool.or_eq_true, Bool.or_eq_false_iff, Bool.not_not, Bool.and_eq_false_iff] at hc15
    have hout : nxt c1 ∉ l1 := hc15
    refine C_ret ?_
    refine nx_ret ?_
    refine nx_ret ?_
    have hH16 := ((hH14.top1).top1)
    exact ⟨.inr rfl, [], rfl, rfl, b1, by rw [← hp7, climbF_stop hout]; exact hp6, by rw [← hp7, climbF_stop hout]; exact hH16⟩
  ·
    try simp only [decide_eq_true_eq, decide_eq_false_iff_not, Bool.not_eq_true', Bool.not_eq_false', Bool.and_eq_true, Bool.or_eq_true, Bool.or_eq_false_iff, Bool.not_not, Bool.and_eq_false_iff] at hc15
    have hin : nxt c1 ∈ l1 := hc15
    have hlt := udel_lt hin
    refine C_skip ?_
    refine C_seq ?_
    refine C_region ?_
    refine O_p (.p (some (a, 0))) (r_mv hT8) ?_
    refine O_p (.p (some (a, 0))) (r_nilc rfl) ?_
    refine O_p (.p (some (a, 0))) (r_fadd' rfl rfl) ?_
    refine O_p (.i .u32 c1) (r_ld rfl hH14.get0 rfl) ?_
    refine O_p (.i .u32 (nxt c1)) (r_bin rfl rfl rfl) ?_
    refine O_p (.p (some (a, 0))) (r_nilc rfl) ?_
    refine O_p (.p (some (a, 0))) (r_fadd' rfl rfl) ?_
    refine O_store (vs := [(.i .u32 (nxt c1))]) (c' := [(.i .u32 (nxt c1)), (.m (some m)), x]) rfl (by rfl) hH14.get0 rfl (List.cons_ne_nil _ _) (Nat.le_of_ble_eq_true rfl) rfl fun H17 hW18 => ?_
    have hH19 := hH14.wr0 hW18
    refine O_nil ?_
    refine C_seq ?_
    refine C_draw fun b20 H21 hbase22 hA23 => ?_
    have hH24 := hH19.keep (by have := hA23.1; omega) (fun q _ => hA23.2 q) ((hH19.old).aside hA23).ok
    refine D_l (v := (.p (some (a, 0)))) rfl rfl rfl (r_mv hT8) ?_
    refine D_l (v := (.p (some (a, 0)))) rfl rfl rfl (r_nilc rfl) ?_
    refine D_l (v := (.p (some (a, 1)))) rfl rfl rfl (r_fadd' rfl rfl) ?_
    refine D_l (v := (.p (some (a, 0)))) rfl rfl rfl (r_mv hT8) ?_
    refine D_l (v := (.p (some (a, 0)))) rfl rfl rfl (r_nilc rfl) ?_
    refine D_l (v := (.p (some (a, 0)))) rfl rfl rfl (r_fadd' rfl rfl) ?_
    refine D_r (v := (.m (some m))) rfl rfl rfl (r_ld rfl hH24.get0 rfl) ?_
    refine D_r (v := (.i .u32 (nxt c1))) rfl rfl rfl (r_ld rfl hH24.get0 rfl) ?_
    refine D_nh rfl rfl (by exact r_udel (k := (nxt c1)) hH24.top1 hp6 rfl rfl) fun H25 hA26 => ?_
    obtain ⟨bm27, hMb28, hH29⟩ := hA26
    refine And.intro (And.intro (Or.inl rfl) (And.intro (Or.inl rfl) True.intro)) ?_
    refine D_nil ?_
    refine C_skip ?_
    have hH30 := (hH29.top1)
    exact ⟨(udel l1 (nxt c1)).length, by omega, (nxt c1), (udel l1 (nxt c1)), bm27, rfl, hMb28, by rw [← hp7, climbF_step hin], hH30, hT8⟩
theorem add_ev {H : AH} {R : HL} {s : Gp} {a : Nat} {S : HL} {n : Int} (hG : GpH s a S) (hH0 : Hs H (S ++ R)) (hln : s.d.length ≤ 64) : Ev tabS spS (.fn (.func 11) [] []) [.p (some (a, 0)), .i .u32 n] H (fun r H' => r = .i .i64 (s.told n) ∧ ∃ S', GpH (s.add n) a S' ∧ Hs H' (S' ++ R)) := by
  obtain ⟨m, mb, dv, dc, hb, hd, rfl⟩ := hG
  obtain ⟨c, l, dl⟩ := s
  simp only at hb hd
  replace hH0 := hH0.assoc
  replace hH0 := hH0.assoc1
  simp only at hln
  refine Ev_C (F := x11) rfl ?_
  refine C_seq ?_
  refine C_region ?_
  refine O_p (.i .i64 0) (r_mv rfl) ?_
  refine O_nil ?_
  refine C_seq ?_
  refine C_block ?_
  refine C_seq ?_
  refine C_region ?_
  refine O_p (.p (some (a, 0))) (r_mv rfl) ?_
  refine O_p (.b false) (r_nilq_s rfl) ?_
  refine O_p (.b false) (r_mv rfl) ?_
  refine O_nil ?_
  refine C_cond (x := false) rfl (fun h => by cases h) (fun _ => ?_)
  refine C_seq ?_
  refine C_region ?_
  refine O_p (.p (some (a, 0))) (r_mv rfl) ?_
  refine O_p (.i .u32 n) (r_mv rfl) ?_
  have hH1 := ((hH0.top1).top1)
  refine O_call (Ev.mono (has0_ev (n := n) hb hH1) fun v2 H3 hq4 => ?_)
  obtain ⟨rfl, hH5⟩ := hq4
  refine O_p (.b (blw c n || decide (n ∈ l))) (r_mv rfl) ?_
  refine O_nil ?_
  refine C_cond (x := (blw c n || decide (n ∈ l))) rfl (fun hc6 => ?_) (fun hc6 => ?_)
  ·
    have hr7 := hc6
    try simp only [decide_eq_true_eq, decide_eq_false_iff_not, Bool.not_eq_true', Bool.not_eq_false', Bool.and_eq_true, Bool.or_eq_true, Bool.or_eq_false_iff, Bool.not_not, Bool.and_eq_false_iff] at hc6
    have hhas : Gp.has ⟨c, l, dl⟩ n = true := hr7
    refine C_seq ?_
    refine C_seq ?_
    refine C_region ?_
    refine O_p (.p (some (a, 0))) (r_mv rfl) ?_
    refine O_p (.p (some (a, 0))) (r_nilc rfl) ?_
    refine O_p (.p (some (a, 2))) (r_fadd' rfl rfl) ?_
    refine O_p dv (r_ld rfl hH5.get0 rfl) ?_
    refine O_p (.i .i64 (((dl.length : Nat)) : Int)) (by exact (by exact r_lenOf rfl (hd.lenOf (lU_len dl) (by decide)) hd.isSl)) ?_
    refine O_p (.b (decide ((((dl.length : Nat)) : Int) < 64))) (r_lss rfl rfl) ?_
    refine O_nil ?_
    refine C_cond (x := (decide ((((dl.length : Nat)) : Int) < 64))) rfl (fun hc8 => ?_) (fun hc8 => ?_)
    ·
      have hr9 := hc8
      try simp only [decide_eq_true_eq, decide_eq_false_iff_not, Bool.not_eq_true', Bool.not_eq_false', Bool.and_eq_true, Bool.or_eq_true, Bool.or_eq_false_iff, Bool.not_not, Bool.and_eq_false_iff] at hc8
      have hroom : dl.length < 64 := by omega
      refine C_region ?_
      refine O_p (.p (some (a, 0))) (r_mv rfl) ?_
      refine O_p (.p (some (a, 0))) (r_mv rfl) ?_
      refine O_p (.p (some (a, 0))) (r_nilc rfl) ?_
      refine O_p (.p (some (a, 2))) (r_fadd' rfl rfl) ?_
      refine O_p dv (r_ld rfl hH5.get0 rfl) ?_
      refine O_p (.i .u32 n) (r_mv rfl) ?_
      refine O_bslice (c := [(.i .u32 n)]) rfl fun n10 H11 hN12 => ?_
      have hH13 := hH5.new hN12
      refine O_qh (by exact r_appq (n := dl.length) (k := 1) (new := [(.i .u32 n)]) hH13.top3 hd rfl rfl rfl (src_blk hH13.get0 (by rfl)) rfl (by decide) (by decide) (lU_len dl) (by first | omega | (simp only [List.length_take, List.length_drop, List.length_append, List.length_cons, List.length_nil, beN_len] <;> omega))) fun o14 H15 hA17 => ?_
      obtain ⟨c16, hA17, hH18⟩ := hA17
      obtain ⟨qa19, ql20, qc21, qg22, rfl⟩ := hA17.isSl
      refine O_p (.p (some (a, 0))) (r_nilc rfl) ?_
      refine O_p (.p (some (a, 2))) (r_fadd' rfl rfl) ?_
      refine O_store (vs := [(.sl qa19 ql20 qc21 qg22)]) (c' := [(.i .u32 c), (.m (some m)), (.sl qa19 ql20 qc21 qg22)]) rfl (by rfl) hH18.get2 rfl (List.cons_ne_nil _ _) (Nat.le_of_ble_eq_true rfl) rfl fun H23 hW24 => ?_
      have hH25 := hH18.wr2 hW24
      refine O_nil ?_
      refine C_seq ?_
      refine C_region ?_
      refine O_p (.i .i64 1) (r_mv rfl) ?_
      refine O_nil ?_
      refine C_ret ?_
      refine bk_ret ?_
      refine nx_ret ?_
      have hH26 := (hH25.sub1)
      have hH27 := ((hH26.top2).top2)
      have hst : Gp.add ⟨c, l, dl⟩ n = ⟨c, l, dl ++ [n]⟩ := by unfold Gp.add; rw [if_pos hhas, if_pos hroom]
      rw [hst]
      exact ⟨.inr rfl, _, resL_one (r_tmp (v := (.i .i64 1)) rfl), by unfold Gp.told; rw [if_pos hhas]; rfl, _, ⟨m, _, _, _, hb, by rw [← lU_app]; exact hA17, rfl⟩, Hs.unc hH27⟩
    ·
      have hr28 := hc8
      try simp only [decide_eq_true_eq, decide_eq_false_iff_not, Bool.not_eq_true', Bool.not_eq_false', Bool.and_eq_true, Bool.or_eq_true, Bool.or_eq_false_iff, Bool.not_not, Bool.and_eq_false_iff] at hc8
      have hroom : ¬ dl.length < 64 := by omega
      refine C_skip ?_
      refine C_seq ?_
      refine C_region ?_
      refine O_p (.i .i64 1) (r_mv rfl) ?_
      refine O_nil ?_
      refine C_ret ?_
      refine bk_ret ?_
      refine nx_ret ?_
      have hH29 := (((hH5.top2).top2).top2)
      have hst : Gp.add ⟨c, l, dl⟩ n = ⟨c, l, dl⟩ := by unfold Gp.add; rw [if_pos hhas, if_neg hroom]
      rw [hst]
      exact ⟨.inr rfl, _, resL_one (r_tmp (v := (.i .i64 1)) rfl), by unfold Gp.told; rw [if_pos hhas]; rfl, _, ⟨m, _, _, _, hb, hd, rfl⟩, Hs.unc hH29⟩
  ·
    have hr30 := hc6
    try simp only [decide_eq_true_eq, decide_eq_false_iff_not, Bool.not_eq_true', Bool.not_eq_false', Bool.and_eq_true, Bool.or_eq_true, Bool.or_eq_false_iff, Bool.not_not, Bool.and_eq_false_iff] at hc6
    have hhas : Gp.has ⟨c, l, dl⟩ n = false := hr30
    refine C_seq ?_
    refine C_region ?_
    refine O_p (.p (some (a, 0))) (r_mv rfl) ?_
    refine O_p (.p (some (a, 0))) (r_nilc rfl) ?_
    refine O_p (.p (some (a, 0))) (r_fadd' rfl rfl) ?_
    refine O_p (.i .u32 c) (r_ld rfl hH5.get0 rfl) ?_
    refine O_p (.i .u32 n) (r_mv rfl) ?_
    refine O_call (Ev.mono (dist_ev (x := c) (y := n) hH5) fun v31 H32 hq33 => ?_)
    obtain ⟨rfl, hH34⟩ := hq33
    refine O_p (.b (decide (1024 < (dst c n)))) (r_gtr rfl rfl) ?_
    refine O_p (.b (decide (1024 < (dst c n)))) (r_mv rfl) ?_
    refine O_nil ?_
    refine C_cond (x := (decide (1024 < (dst c n)))) rfl (fun hc35 => ?_) (fun hc35 => ?_)
    ·
      have hr36 := hc35
      try simp only [decide_eq_true_eq, decide_eq_false_iff_not, Bool.not_eq_true', Bool.not_eq_false', Bool.and_eq_true, Bool.or_eq_true, Bool.or_eq_false_iff, Bool.not_not, Bool.and_eq_false_iff] at hc35
      have hfar : 1024 < dst c n := hc35
      refine C_seq ?_
      refine C_region ?_
      refine O_p (.i .i64 2) (r_mv rfl) ?_
      refine O_nil ?_
      refine C_ret ?_
      refine bk_ret ?_
      refine nx_ret ?_
      have hH37 := (((hH34.top2).top2).top2)
      have hst : Gp.add ⟨c, l, dl⟩ n = ⟨c, l, dl⟩ := by unfold Gp.add; rw [if_neg (by rw [hhas]; decide), if_pos hfar]
      rw [hst]
      exact ⟨.inr rfl, _, resL_one (r_tmp (v := (.i .i64 2)) rfl), by unfold Gp.told; rw [if_neg (by rw [hhas]; decide), if_pos hfar]; rfl, _, ⟨m, _, _, _, hb, hd, rfl⟩, Hs.unc hH37⟩
    ·
      have hr38 := hc35
      try simp only [decide_eq_true_eq, decide_eq_false_iff_not, Bool.not_eq_true', Bool.not_eq_false', Bool.and_eq_true, Bool.or_eq_true, Bool.or_eq_false_iff, Bool.not_not, Bool.and_eq_false_iff] at hc35
      have hfar : ¬ 1024 < dst c n := hc35
      refine C_skip ?_
      refine C_seq ?_
      refine C_region ?_
      refine O_p (.p (some (a, 0))) (r_mv rfl) ?_
      refine O_p (.p (some (a, 0))) (r_nilc rfl) ?_
      refine O_p (.p (some (a, 1))) (r_fadd' rfl rfl) ?_
      refine O_p (.m (some m)) (r_ld rfl hH34.get0 rfl) ?_
      refine O_p (.i .u32 n) (r_mv rfl) ?_
      refine O_nh (by exact r_uput (k := n) hH34.top1 hb rfl rfl rfl) fun H39 hA40 => ?_
      obtain ⟨bm41, hMb42, hH43⟩ := hA40
      refine O_nil ?_
      refine C_seq ?_
      refine C_region ?_
      refine O_p (.p (some (a, 0))) (r_mv rfl) ?_
      have hH44 := (hH43.top1)
      refine O_call (Ev.mono (climb0_ev hMb42 hH44) fun v45 H46 hq47 => ?_)
      obtain ⟨rfl, bm48, hbm49, hH50⟩ := hq47
      refine O_nil ?_
      refine C_seq ?_
      refine C_region ?_
      refine O_p (.i .i64 0) (r_mv rfl) ?_
      refine O_nil ?_
      refine C_ret ?_
      have hH51 := (((hH50.top2).top2).top2)
      have hst : Gp.add ⟨c, l, dl⟩ n = Gp.climb ⟨c, uadd l n, dl⟩ := by unfold Gp.add; rw [if_neg (by rw [hhas]; decide), if_neg hfar]
      rw [hst]
      exact ⟨.inr rfl, _, resL_one (r_tmp (v := (.i .i64 0)) rfl), by unfold Gp.told; rw [if_neg (by rw [hhas]; decide), if_neg hfar]; rfl, _, ⟨m, _, _, _, hbm49, hd, rfl⟩, Hs.unc hH51⟩
theorem has_ev {H : AH} {R : HL} {s : Gp} {a : Nat} {S : HL} {n : Int} (hG : GpH s a S) (hH0 : Hs H (S ++ R)) : Ev tabS spS (.fn (.func 12) [] []) [.p (some (a, 0)), .i .u32 n] H (fun r H' => r = .b (s.has n) ∧ Hs H' (S ++ R)) := by
  obtain ⟨m, mb, dv, dc, hb, hd, rfl⟩ := hG
  refine Ev.mono (has0_ev (n := n) hb hH0.assoc.assoc1) ?_
  rintro r H' ⟨rfl, h⟩
  exact ⟨rfl, Hs.unc h⟩
theorem cum0_ev {H : AH} {R : HL} {a : Nat} {c : Int} {x1 x2 : AV} (hH0 : Hs H ([(a, some (.cells [.i .u32 c, x1, x2] true))] ++ R)) : Ev tabS spS (.fn (.func 13) [] []) [.p (some (a, 0))] H (fun r H' => r = .i .u32 c ∧ Hs H' ([(a, some (.cells [.i .u32 c, x1, x2] true))] ++ R)) := by
  refine Ev_C (F := x13) rfl ?_
  refine C_seq ?_
  refine C_region ?_
  refine O_p (.i .u32 0) (r_mv rfl) ?_
  refine O_nil ?_
  refine C_seq ?_
  refine C_seq ?_
  refine C_region ?_
  refine O_p (.p (some (a, 0))) (r_mv rfl) ?_
  refine O_p (.b false) (r_nilq_s rfl) ?_
  refine O_nil ?_
  refine C_cond (x := false) rfl (fun h => by cases h) (fun _ => ?_)
  refine C_skip ?_
  refine C_seq ?_
  refine C_region ?_
  refine O_p (.p (some (a, 0))) (r_mv rfl) ?_
  refine O_p (.p (some (a, 0))) (r_nilc rfl) ?_
  refine O_p (.p (some (a, 0))) (r_fadd' rfl rfl) ?_
  refine O_p (.i .u32 c) (r_ld rfl hH0.get0 rfl) ?_
  refine O_p (.i .u32 c) (r_mv rfl) ?_
  refine O_nil ?_
  refine C_ret ?_
  exact ⟨.inr rfl, _, resL_one (r_tmp (v := (.i .u32 c)) rfl), rfl, hH0⟩
theorem cum_ev {H : AH} {R : HL} {s : Gp} {a : Nat} {S : HL} (hG : GpH s a S) (hH0 : Hs H (S ++ R)) : Ev tabS spS (.fn (.func 13) [] []) [.p (some (a, 0))] H (fun r H' => r = .i .u32 s.c ∧ Hs H' (S ++ R)) := by
  obtain ⟨m, mb, dv, dc, hb, hd, rfl⟩ := hG
  refine Ev.mono (cum0_ev hH0.assoc) ?_
  rintro r H' ⟨rfl, h⟩
  exact ⟨rfl, h.unassoc⟩
theorem len0_ev {H : AH} {R : HL} {a m : Nat} {c : Int} {l : List Int} {x : AV} {mb : Blk} (hb : Ub l mb) (hH0 : Hs H ([(a, some (.cells [.i .u32 c, .m (some m), x] true))] ++ ([(m, some mb)] ++ R))) : Ev tabS spS (.fn (.func 14) [] []) [.p (some (a, 0))] H (fun r H' => r = .i .i64 ((l.length : Nat) : Int) ∧ Hs H' ([(a, some (.cells [.i .u32 c, .m (some m), x] true))] ++ ([(m, some mb)] ++ R))) := by
  refine Ev_C (F := x14) rfl ?_
  refine C_seq ?_
  refine C_region ?_
  refine O_p (.i .i64 0) (r_mv rfl) ?_
  refine O_nil ?_
  refine C_seq ?_
  refine C_seq ?_
  refine C_region ?_
  refine O_p (.p (some (a, 0))) (r_mv rfl) ?_
  refine O_p (.b false) (r_nilq_s rfl) ?_
  refine O_nil ?_
  refine C_cond (x := false) rfl (fun h => by cases h) (fun _ => ?_)
  refine C_skip ?_
  refine C_seq ?_
  refine C_region ?_
  refine O_p (.p (some (a, 0))) (r_mv rfl) ?_
  refine O_p (.p (some (a, 0))) (r_nilc rfl) ?_
  refine O_p (.p (some (a, 1))) (r_fadd' rfl rfl) ?_
  refine O_p (.m (some m)) (r_ld rfl hH0.get0 rfl) ?_
  refine O_p (.i .i64 (((l.length : Nat)) : Int)) (r_ulen hH0.get1 hb rfl) ?_
  refine O_p (.i .i64 (((l.length : Nat)) : Int)) (r_mv rfl) ?_
  refine O_nil ?_
  refine C_ret ?_
  have hH1 := ((hH0.top1).top1)
  exact ⟨.inr rfl, _, resL_one (r_tmp (v := (.i .i64 (((l.length : Nat)) : Int))) rfl), rfl, hH1⟩
theorem len_ev {H : AH} {R : HL} {s : Gp} {a : Nat} {S : HL} (hG : GpH s a S) (hH0 : Hs H (S ++ R)) : Ev tabS spS (.fn (.func 14) [] []) [.p (some (a, 0))] H (fun r H' => r = .i .i64 ((s.l.length : Nat) : Int) ∧ Hs H' (S ++ R)) := by
  obtain ⟨m, mb, dv, dc, hb, hd, rfl⟩ := hG
  refine Ev.mono (len0_ev hb hH0.assoc.assoc1) ?_
  rintro r H' ⟨rfl, h⟩
  exact ⟨rfl, Hs.unc h⟩
theorem dups0_ev {H : AH} {R : HL} {a : Nat} {x0 x1 x2 : AV} (hH0 : Hs H ([(a, some (.cells [x0, x1, x2] true))] ++ R)) (h2 : x2.one = true) : Ev tabS spS (.fn (.func 16) [] []) [.p (some (a, 0))] H (fun r H' => r = x2 ∧ Hs H' ([(a, some (.cells [x0, x1, .sl none 0 0 0] true))] ++ R)) := by
  refine Ev_C (F := x16) rfl ?_
  refine C_seq ?_
  refine C_region ?_
  refine O_p (.sl none 0 0 0) (r_mv rfl) ?_
  refine O_nil ?_
  refine C_seq ?_
  refine C_seq ?_
  refine C_region ?_
  refine O_p (.p (some (a, 0))) (r_mv rfl) ?_
  refine O_p (.b false) (r_nilq_s rfl) ?_
  refine O_nil ?_
  refine C_cond (x := false) rfl (fun h => by cases h) (fun _ => ?_)
  refine C_skip ?_
  refine C_seq ?_
  refine C_region ?_
  refine O_p (.p (some (a, 0))) (r_mv rfl) ?_
  refine O_p (.p (some (a, 0))) (r_nilc rfl) ?_
  refine O_p (.p (some (a, 2))) (r_fadd' rfl rfl) ?_
  refine O_p x2 (r_ld rfl hH0.get0 rfl) ?_
  refine O_p x2 (r_mv rfl) ?_
  refine O_nil ?_
  refine C_seq ?_
  refine C_region ?_
  refine O_p (.p (some (a, 0))) (r_mv rfl) ?_
  refine O_p (.p (some (a, 0))) (r_nilc rfl) ?_
  refine O_p (.p (some (a, 2))) (r_fadd' rfl rfl) ?_
  refine O_store (vs := [(.sl none 0 0 0)]) (c' := [x0, x1, (.sl none 0 0 0)]) rfl (by rfl) hH0.get0 rfl (List.cons_ne_nil _ _) (Nat.le_of_ble_eq_true rfl) rfl fun H1 hW2 => ?_
  have hH3 := hH0.wr0 hW2
  refine O_nil ?_
  refine C_seq ?_
  refine C_region ?_
  refine O_p x2 (r_mv rfl) ?_
  refine O_p x2 (r_mv rfl) ?_
  refine O_nil ?_
  refine C_ret ?_
  exact ⟨.inr rfl, _, resL_one (r_tmp (v := x2) rfl), rfl, hH3⟩
theorem dups_ev {H : AH} {R : HL} {s : Gp} {a : Nat} {S : HL} (hG : GpH s a S) (hH0 : Hs H (S ++ R)) : Ev tabS spS (.fn (.func 16) [] []) [.p (some (a, 0))] H (fun r H' => ∃ dc S', Sq 1 r dc (lU s.d) ∧ GpH ⟨s.c, s.l, []⟩ a S' ∧ Hs H' (S' ++ (qseg r dc ++ R))) := by
  obtain ⟨m, mb, dv, dc, hb, hd, rfl⟩ := hG
  have ho : dv.one = true := by obtain ⟨a, l, c, g, rfl⟩ := hd.isSl; rfl
  refine Ev.mono (dups0_ev hH0.assoc ho) ?_
  rintro r H' ⟨rfl, h⟩
  refine ⟨dc, _, hd, ⟨m, mb, .sl none 0 0 0, [], hb, Sq.nil, rfl⟩, ?_⟩
  have := h.assoc1
  exact Hs.unc (K := []) this
theorem new_ev {H : AH} {R : HL} {n : Int} (hH0 : Hs H R) : Ev tabS spS (.fn (.func 10) [] []) [.i .u32 n] H (fun r H' => ∃ a S, r = .p (some (a, 0)) ∧ GpH ⟨IntKind.u32.wrap (n - 1), [], []⟩ a S ∧ Hs H' (S ++ R)) := by
  refine Ev_C (F := x10) rfl ?_
  refine C_seq ?_
  refine C_region ?_
  refine O_p (.p none) (r_mv rfl) ?_
  refine O_nil ?_
  refine C_seq ?_
  refine C_region ?_
  refine O_p (.i .u32 n) (r_mv rfl) ?_
  refine O_p (.i .u32 (IntKind.u32.wrap (n - 1))) (r_bin rfl rfl rfl) ?_
  refine O_mkmap fun n1 H2 hN3 => ?_
  have hH4 := hH0.new hN3
  refine O_p (.agg [(.i .u32 (IntKind.u32.wrap (n - 1))), (.m (some n1)), (.sl none 0 0 0)]) (r_build rfl) ?_
  refine O_box (z := [(.i .u32 (IntKind.u32.wrap (n - 1))), (.m (some n1)), (.sl none 0 0 0)]) rfl fun n5 H6 hN7 => ?_
  have hH8 := hH4.new hN7
  refine O_p (.p (some (n5, 0))) (r_mv rfl) ?_
  refine O_nil ?_
  refine C_ret ?_
  exact ⟨.inr rfl, _, resL_one (r_tmp (v := (.p (some (n5, 0)))) rfl), n5, _, rfl, ⟨_, _, .sl none 0 0 0, [], Ub.nil, Sq.nil, rfl⟩, Hs.unc (K := []) hH8⟩
theorem cumN_ev {H : AH} {R : HL} (hH0 : Hs H R) : Ev tabS spS (.fn (.func 13) [] []) [.p none] H (fun r H' => r = .i .u32 0 ∧ Hs H' R) := by
  refine Ev_C (F := x13) rfl ?_
  refine C_seq ?_
  refine C_region ?_
  refine O_p (.i .u32 0) (r_mv rfl) ?_
  refine O_nil ?_
  refine C_seq ?_
  refine C_seq ?_
  refine C_region ?_
  refine O_p (.p none) (r_mv rfl) ?_
  refine O_p (.b true) (r_nilq_n rfl) ?_
  refine O_nil ?_
  refine C_cond (x := true) rfl (fun _ => ?_) (fun h => by cases h)
  refine C_seq ?_
  refine C_region ?_
  refine O_p (.i .u32 0) (r_mv rfl) ?_
  refine O_nil ?_
  refine C_ret ?_
  refine nx_ret ?_
  exact ⟨.inr rfl, _, resL_one (r_tmp (v := (.i .u32 0)) rfl), rfl, hH0⟩
theorem lenN_ev {H : AH} {R : HL} (hH0 : Hs H R) : Ev tabS spS (.fn (.func 14) [] []) [.p none] H (fun r H' => r = .i .i64 0 ∧ Hs H' R) := by
  refine Ev_C (F := x14) rfl ?_
  refine C_seq ?_
  refine C_region ?_
  refine O_p (.i .i64 0) (r_mv rfl) ?_
  refine O_nil ?_
  refine C_seq ?_
  refine C_seq ?_
  refine C_region ?_
  refine O_p (.p none) (r_mv rfl) ?_
  refine O_p (.b true) (r_nilq_n rfl) ?_
  refine O_nil ?_
  refine C_cond (x := true) rfl (fun _ => ?_) (fun h => by cases h)
  refine C_seq ?_
  refine C_region ?_
  refine O_p (.i .i64 0) (r_mv rfl) ?_
  refine O_nil ?_
  refine C_ret ?_
  refine nx_ret ?_
  exact ⟨.inr rfl, _, resL_one (r_tmp (v := (.i .i64 0)) rfl), rfl, hH0⟩
theorem dupsN_ev {H : AH} {R : HL} (hH0 : Hs H R) : Ev tabS spS (.fn (.func 16) [] []) [.p none] H (fun r H' => r = .sl none 0 0 0 ∧ Hs H' R) := by
  refine Ev_C (F := x16) rfl ?_
  refine C_seq ?_
  refine C_region ?_
  refine O_p (.sl none 0 0 0) (r_mv rfl) ?_
  refine O_nil ?_
  refine C_seq ?_
  refine C_seq ?_
  refine C_region ?_
  refine O_p (.p none) (r_mv rfl) ?_
  refine O_p (.b true) (r_nilq_n rfl) ?_
  refine O_nil ?_
  refine C_cond (x := true) rfl (fun _ => ?_) (fun h => by cases h)
  refine C_seq ?_
  refine C_region ?_
  refine O_p (.sl none 0 0 0) (r_mv rfl) ?_
  refine O_nil ?_
  refine C_ret ?_
  refine nx_ret ?_
  exact ⟨.inr rfl, _, resL_one (r_tmp (v := (.sl none 0 0 0)) rfl), rfl, hH0⟩
theorem hasN_ev {H : AH} {R : HL} {n : Int} (hH0 : Hs H R) : Ev tabS spS (.fn (.func 12) [] []) [.p none, .i .u32 n] H (fun r H' => r = .b false ∧ Hs H' R) := by
  refine Ev_C (F := x12) rfl ?_
  refine C_seq ?_
  refine C_region ?_
  refine O_p (.b false) (r_mv rfl) ?_
  refine O_nil ?_
  refine C_seq ?_
  refine C_region ?_
  refine O_p (.p none) (r_mv rfl) ?_
  refine O_p (.b false) (r_nilq_n rfl) ?_
  refine O_p (.b false) (r_mv rfl) ?_
  refine O_gf rfl ?_
  refine O_gf rfl ?_
  refine O_gf rfl ?_
  refine O_gf rfl ?_
  refine O_gu rfl ?_
  refine O_gu rfl ?_
  refine O_gu rfl ?_
  refine O_gu rfl ?_
  refine O_gu rfl ?_
  refine O_gu rfl ?_
  refine O_gf rfl ?_
  refine O_p (.b false) (r_pick_f rfl rfl) ?_
  refine O_p (.b false) (r_mv rfl) ?_
  refine O_nil ?_
  refine C_ret ?_
  exact ⟨.inr rfl, _, resL_one (r_tmp (v := (.b false)) rfl), rfl, hH0⟩
theorem addN_ev {H : AH} {R : HL} {n : Int} (hH0 : Hs H R) : Ev tabS spS (.fn (.func 11) [] []) [.p none, .i .u32 n] H (fun r H' => r = .i .i64 2 ∧ Hs H' R) := by
  refine Ev_C (F := x11) rfl ?_
  refine C_seq ?_
  refine C_region ?_
  refine O_p (.i .i64 0) (r_mv rfl) ?_
  refine O_nil ?_
  refine C_seq ?_
  refine C_block ?_
  refine C_seq ?_
  refine C_region ?_
  refine O_p (.p none) (r_mv rfl) ?_
  refine O_p (.b true) (r_nilq_n rfl) ?_
  refine O_p (.b true) (r_mv rfl) ?_
  refine O_nil ?_
  refine C_cond (x := true) rfl (fun _ => ?_) (fun h => by cases h)
  refine C_seq ?_
  refine C_region ?_
  refine O_p (.i .i64 2) (r_mv rfl) ?_
  refine O_nil ?_
  refine C_ret ?_
  refine bk_ret ?_
  refine nx_ret ?_
  exact ⟨.inr rfl, _, resL_one (r_tmp (v := (.i .i64 2)) rfl), rfl, hH0⟩


set_option linter.unusedVariables false
set_option linter.unusedSimpArgs false
open Go.Sort (swp PermIn SortedIn Below insInner insOuter insertionSort ltInt)
abbrev dU (d : Array Int) : List (List AV) := d.toList.map u1
theorem u_lens (d : Array Int) : ∀ r ∈ dU d, r.length = 1 := fun r hr => by obtain ⟨x, _, rfl⟩ := List.mem_map.1 hr; rfl
theorem u_get {d : Array Int} {i : Nat} (h : i < d.size) : (dU d)[i]? = some [.i .u32 (d[i]!)] := by
  rw [List.getElem?_map, List.getElem?_eq_getElem (by simpa using h)]
  simp [u1, getElem!_pos d i h]
theorem u_flat (d : Array Int) : (dU d).flatten.length = d.size * 1 := (flat_len (u_lens d)).trans (by rw [List.length_map]; simp)
theorem u_flatn {d : Array Int} {n : Nat} (h : d.size = n) : (dU d).flatten.length = n * 1 := h ▸ u_flat d
theorem u_set {d : Array Int} {i : Nat} {e : Int} : (dU d).set i [.i .u32 e] = dU (d.setIfInBounds i e) := by
  show (d.toList.map u1).set i (u1 e) = (d.setIfInBounds i e).toList.map u1
  rw [Array.toList_setIfInBounds, List.map_set]
theorem swp_size {d : Array Int} {i j : Nat} : (swp d i j).size = d.size := by unfold swp; simp
/-! ### Sorting -/
theorem insInner_stop {lt : Int → Int → Bool} {a j : Nat} {d : Array Int} (h : ¬ (a < j ∧ lt d[j]! d[j - 1]! = true)) : insInner lt a j d = d := by
  cases j with
  | zero => rfl
  | succ j =>
    unfold insInner
    rw [if_neg]
    rintro h9
    rw [Bool.and_eq_true, decide_eq_true_eq] at h9
    exact h ⟨h9.1, h9.2⟩
theorem insInner_step {lt : Int → Int → Bool} {a j : Nat} {d : Array Int} (h : a < j) (h2 : lt d[j]! d[j - 1]! = true) : insInner lt a j d = insInner lt a (j - 1) (swp d j (j - 1)) := by
  cases j with
  | zero => omega
  | succ j =>
    show (if _ then _ else _ : Array Int) = _
    rw [if_pos (by rw [Bool.and_eq_true, decide_eq_true_eq]; exact ⟨h, h2⟩)]; rfl
theorem insInner_size {lt : Int → Int → Bool} {a : Nat} : ∀ {j : Nat} {d : Array Int}, (insInner lt a j d).size = d.size
  | 0, d => rfl
  | j + 1, d => by
    unfold insInner
    split
    · rw [insInner_size, swp_size]
    · rfl
theorem insOuter_stop {lt : Int → Int → Bool} {a b i : Nat} {d : Array Int} (h : ¬ i < b) : insOuter lt a b i d = d := by unfold insOuter; rw [if_neg h]
theorem insOuter_step {lt : Int → Int → Bool} {a b i : Nat} {d : Array Int} (h : i < b) : insOuter lt a b i d = insOuter lt a b (i + 1) (insInner lt a i d) := by rw [insOuter, if_pos h]
theorem isnan_ev {H : AH} {R : HL} {x : Int} (hH0 : Hs H R) : Ev tabS spS (.fn (.func 56) [] []) [.i .u32 x] H (fun r H' => r = .b false ∧ Hs H' R) := by
  refine Ev_C (F := x56) rfl ?_
  refine C_seq ?_
  refine C_region ?_
  refine O_p (.b false) (r_mv rfl) ?_
  refine O_nil ?_
  refine C_seq ?_
  refine C_region ?_
  refine O_p (.i .u32 x) (r_mv rfl) ?_
  refine O_p (.i .u32 x) (r_mv rfl) ?_
  refine O_p (.b false) (r_nqq rfl rfl) ?_
  refine O_p (.b false) (r_mv rfl) ?_
  refine O_nil ?_
  refine C_ret ?_
  exact ⟨.inr rfl, _, resL_one (r_tmp (v := (.b false)) rfl), rfl, hH0⟩
theorem less_ev {H : AH} {R : HL} {x y : Int} (hH0 : Hs H R) : Ev tabS spS (.fn (.func 46) [] []) [.i .u32 x, .i .u32 y] H (fun r H' => r = .b (decide (x < y)) ∧ Hs H' R) := by
  refine Ev_C (F := x46) rfl ?_
  refine C_seq ?_
  refine C_region ?_
  refine O_p (.b false) (r_mv rfl) ?_
  refine O_nil ?_
  refine C_seq ?_
  refine C_region ?_
  refine O_p (.i .u32 x) (r_mv rfl) ?_
  refine O_call (Ev.mono (isnan_ev hH0) fun v1 H2 hq3 => ?_)
  obtain ⟨rfl, hH4⟩ := hq3
  refine O_p (.b false) (r_mv rfl) ?_
  refine O_gf rfl ?_
  refine O_gf rfl ?_
  refine O_gf rfl ?_
  refine O_p (.b false) (r_pick_f rfl rfl) ?_
  refine O_p (.b false) (r_mv rfl) ?_
  refine O_gk rfl ?_
  refine O_p (.i .u32 x) (r_mv rfl) ?_
  refine O_gk rfl ?_
  refine O_p (.i .u32 y) (r_mv rfl) ?_
  refine O_gk rfl ?_
  refine O_p (.b (decide (x < y))) (r_lss rfl rfl) ?_
  refine O_p (.b (decide (x < y))) (r_pick_f rfl rfl) ?_
  refine O_p (.b (decide (x < y))) (r_mv rfl) ?_
  refine O_nil ?_
  refine C_ret ?_
  exact ⟨.inr rfl, _, resL_one (r_tmp (v := (.b (decide (x < y)))) rfl), rfl, hH4⟩
set_option maxHeartbeats 1000000 in
theorem ins_ev {H : AH} {R : HL} {v : AV} {c : List AV} {d : Array Int} {n : Nat} {a b : Nat} (hd : Sq 1 v c (dU d).flatten) (hn : d.size = n) (hl : n ≤ 1000000) (hab : a ≤ b) (hb : b ≤ n) (hH0 : Hs H (qseg v c ++ R)) : Ev tabS spS (.fn (.func 40) [] []) [v, .i .i64 ((a : Nat) : Int), .i .i64 ((b : Nat) : Int)] H (fun r H' => r = .tup [] ∧ ∃ c', Sq 1 v c' (dU (insertionSort ltInt d a b)).flatten ∧ Hs H' (qseg v c' ++ R)) := by
  refine Ev_C (F := x40) rfl ?_
  refine C_seq ?_
  refine C_region ?_
  refine O_p (.i .i64 (((a : Nat)) : Int)) (r_mv rfl) ?_
  refine O_p (.i .i64 ((((a : Nat)) : Int) + 1)) (by exact (r_addi rfl rfl (wrap_i64 (by omega) (by omega)))) ?_
  refine O_p (.i .i64 ((((a : Nat)) : Int) + 1)) (r_mv rfl) ?_
  refine O_nil ?_
  refine C_block ?_
  refine C_while (fun m1 T2 H3 => ∃ d1 : Array Int, ∃ c1 : List AV, ∃ i : Nat, m1 = b - i ∧ a + 1 ≤ i ∧ Sq 1 v c1 (dU d1).flatten ∧ d1.size = n ∧ insOuter ltInt a b i d1 = insertionSort ltInt d a b ∧ i ≤ n + 1 ∧ Hs H3 ((qseg v c1) ++ (R)) ∧ T2.get 0 = v ∧ T2.get 1 = (.i .i64 (((a : Nat)) : Int)) ∧ T2.get 2 = (.i .i64 (((b : Nat)) : Int)) ∧ T2.get 6 = (.i .i64 (((i : Nat)) : Int))) (fun m1 T2 H3 hI4 => ?_) (b - (a + 1)) _ _ ⟨d, c, (a + 1), rfl, Nat.le_refl _, hd, hn, rfl, by omega, hH0, rfl, rfl, rfl, rfl⟩
  obtain ⟨d1, c1, i, hm5, hp6, hp7, hp8, hp9, hp10, hH15, hT11, hT12, hT13, hT14⟩ := hI4
  refine C_seq ?_
  refine C_seq ?_
  refine C_region ?_
  refine O_p (.i .i64 (((i : Nat)) : Int)) (r_mv hT14) ?_
  refine O_p (.i .i64 (((b : Nat)) : Int)) (r_mv hT13) ?_
  refine O_p (.b (decide ((((i : Nat)) : Int) < (((b : Nat)) : Int)))) (r_lss rfl rfl) ?_
  refine O_nil ?_
  refine C_cond (x := (decide ((((i : Nat)) : Int) < (((b : Nat)) : Int)))) rfl (fun hc16 => ?_) (fun hc16 => ?_)
  ·
    try simp only [decide_eq_true_eq, decide_eq_false_iff_not, Bool.not_eq_true', Bool.not_eq_false', Bool.and_eq_true, Bool.or_eq_true, Bool.or_eq_false_iff, Bool.not_not, Bool.and_eq_false_iff] at hc16
    refine C_skip ?_
    refine C_seq ?_
    refine C_block ?_
    refine C_seq ?_
    refine C_region ?_
    refine O_p (.i .i64 (((i : Nat)) : Int)) (r_mv hT14) ?_
    refine O_p (.i .i64 (((i : Nat)) : Int)) (r_mv rfl) ?_
    refine O_nil ?_
    refine C_block ?_
    have hib : i < b := by omega
    refine C_while (fun m17 T18 H19 => ∃ d2 : Array Int, ∃ c2 : List AV, ∃ j : Nat, m17 = j ∧ j ≤ i ∧ Sq 1 v c2 (dU d2).flatten ∧ d2.size = n ∧ insInner ltInt a j d2 = insInner ltInt a i d1 ∧ Hs H19 ((qseg v c2) ++ (R)) ∧ T18.get 0 = v ∧ T18.get 1 = (.i .i64 (((a : Nat)) : Int)) ∧ T18.get 2 = (.i .i64 (((b : Nat)) : Int)) ∧ T18.get 6 = (.i .i64 (((i : Nat)) : Int)) ∧ T18.get 7 = (.i .i64 (((j : Nat)) : Int))) (fun m17 T18 H19 hI20 => ?_) i _ _ ⟨d1, c1, i, rfl, Nat.le_refl _, hp7, hp8, rfl, hH15, hT11, hT12, hT13, hT14, rfl⟩
    obtain ⟨d2, c2, j, hm21, hp22, hp23, hp24, hp25, hH31, hT26, hT27, hT28, hT29, hT30⟩ := hI20
    refine C_seq ?_
    refine C_seq ?_
    by_cases haj : a < j
    ·
      refine C_draw fun b32 H33 hbase34 hA35 => ?_
      have hH36 := hH31.keep (by have := hA35.1; omega) (fun q _ => hA35.2 q) ((hH31.old).aside hA35).ok
      refine D_l (v := (.i .i64 (((j : Nat)) : Int))) rfl rfl rfl (r_mv hT30) ?_
      refine D_l (v := (.i .i64 (((a : Nat)) : Int))) rfl rfl rfl (r_mv hT27) ?_
      refine D_l (v := (.b true)) rfl rfl rfl (by exact (by rw [r_gtr rfl rfl, decide_eq_true (by omega)])) ?_
      refine D_l (v := (.b true)) rfl rfl rfl (r_mv rfl) ?_
      refine D_gk rfl ?_
      refine D_l (v := v) rfl rfl rfl (r_mv hT26) ?_
      refine D_gk rfl ?_
      refine D_l (v := (.i .i64 (((j : Nat)) : Int))) rfl rfl rfl (r_mv hT30) ?_
      refine D_gk rfl ?_
      refine D_q rfl rfl rfl (by exact Sq.cell hp23 (u_lens d2) hH36.top0 rfl (i := j) rfl (r := [(.i .u32 (d2[j]!))]) (u_get (d := d2) (i := j) (by omega)) (by decide)) fun v38 hv37 => ?_
      obtain ⟨rb39, ro40, rfl, hrg41, hrt42, hrb43, hput44, hqs45⟩ := hv37
      refine D_gk rfl ?_
      refine D_l (v := v) rfl rfl rfl (r_mv hT26) ?_
      refine D_gk rfl ?_
      refine D_l (v := (.i .i64 (((j : Nat)) : Int))) rfl rfl rfl (r_mv hT30) ?_
      refine D_gk rfl ?_
      refine D_l (v := (.i .i64 ((((j - 1) : Nat)) : Int))) rfl rfl rfl (by exact (r_subn (a := j) (b := 1) rfl rfl (by omega) (by omega))) ?_
      refine D_gk rfl ?_
      refine D_q rfl rfl rfl (by exact Sq.cell hp23 (u_lens d2) hH36.top0 rfl (i := (j - 1)) rfl (r := [(.i .u32 (d2[(j - 1)]!))]) (u_get (d := d2) (i := (j - 1)) (by omega)) (by decide)) fun v47 hv46 => ?_
      obtain ⟨rb48, ro49, rfl, hrg50, hrt51, hrb52, hput53, hqs54⟩ := hv46
      refine D_gk rfl ?_
      refine D_r (v := (.i .u32 (d2[j]!))) rfl rfl rfl (r_ldR (q := 0) rfl ⟨_, _, hrg41, hrt42⟩ rfl) ?_
      refine D_gk rfl ?_
      refine D_r (v := (.i .u32 (d2[(j - 1)]!))) rfl rfl rfl (r_ldR (q := 0) rfl ⟨_, _, hrg50, hrt51⟩ rfl) ?_
      refine D_gk rfl ?_
      refine D_call (Ev.mono (less_ev (x := (d2[j]!)) (y := (d2[(j - 1)]!)) hH36) fun v55 H56 hq57 => ?_)
      obtain ⟨rfl, hH58⟩ := hq57
      refine And.intro (And.intro (Or.inl rfl) (And.intro (Or.inl rfl) True.intro)) ?_
      refine D_l (v := (.b (decide ((d2[j]!) < (d2[(j - 1)]!))))) rfl rfl rfl (r_pick_t rfl rfl) ?_
      refine D_nil ?_
      refine C_cond (x := (decide ((d2[j]!) < (d2[(j - 1)]!)))) rfl (fun hc59 => ?_) (fun hc59 => ?_)
      ·
        try simp only [decide_eq_true_eq, decide_eq_false_iff_not, Bool.not_eq_true', Bool.not_eq_false', Bool.and_eq_true, Bool.or_eq_true, Bool.or_eq_false_iff, Bool.not_not, Bool.and_eq_false_iff] at hc59
        have hlt : ltInt d2[j]! d2[j - 1]! = true := decide_eq_true hc59
        refine C_skip ?_
        refine C_seq ?_
        refine C_block ?_
        refine C_draw fun b60 H61 hbase62 hA63 => ?_
        have hH64 := hH58.keep (by have := hA63.1; omega) (fun q _ => hA63.2 q) ((hH58.old).aside hA63).ok
        refine D_l (v := v) rfl rfl rfl (r_mv hT26) ?_
        refine D_l (v := (.i .i64 (((j : Nat)) : Int))) rfl rfl rfl (r_mv hT30) ?_
        refine D_l (v := v) rfl rfl rfl (r_mv hT26) ?_
        refine D_l (v := (.i .i64 (((j : Nat)) : Int))) rfl rfl rfl (r_mv hT30) ?_
        refine D_l (v := (.i .i64 ((((j - 1) : Nat)) : Int))) rfl rfl rfl (by exact (r_subn (a := j) (b := 1) rfl rfl (by omega) (by omega))) ?_
        refine D_l (v := v) rfl rfl rfl (r_mv hT26) ?_
        refine D_l (v := (.i .i64 (((j : Nat)) : Int))) rfl rfl rfl (r_mv hT30) ?_
        refine D_l (v := (.i .i64 ((((j - 1) : Nat)) : Int))) rfl rfl rfl (by exact (r_subn (a := j) (b := 1) rfl rfl (by omega) (by omega))) ?_
        refine D_q rfl rfl rfl (by exact Sq.cell hp23 (u_lens d2) hH64.top0 rfl (i := (j - 1)) rfl (r := [(.i .u32 (d2[(j - 1)]!))]) (u_get (d := d2) (i := (j - 1)) (by omega)) (by decide)) fun v66 hv65 => ?_
        obtain ⟨rb67, ro68, rfl, hrg69, hrt70, hrb71, hput72, hqs73⟩ := hv65
        refine D_l (v := v) rfl rfl rfl (r_mv hT26) ?_
        refine D_l (v := (.i .i64 (((j : Nat)) : Int))) rfl rfl rfl (r_mv hT30) ?_
        refine D_q rfl rfl rfl (by exact Sq.cell hp23 (u_lens d2) hH64.top0 rfl (i := j) rfl (r := [(.i .u32 (d2[j]!))]) (u_get (d := d2) (i := j) (by omega)) (by decide)) fun v75 hv74 => ?_
        obtain ⟨rb76, ro77, rfl, hrg78, hrt79, hrb80, hput81, hqs82⟩ := hv74
        refine D_r (v := (.i .u32 (d2[(j - 1)]!))) rfl rfl rfl (r_ldR (q := 0) rfl ⟨_, _, hrg69, hrt70⟩ rfl) ?_
        refine D_r (v := (.i .u32 (d2[j]!))) rfl rfl rfl (r_ldR (q := 0) rfl ⟨_, _, hrg78, hrt79⟩ rfl) ?_
        refine D_q rfl rfl rfl (by exact Sq.cell hp23 (u_lens d2) hH64.top0 rfl (i := j) rfl (r := [(.i .u32 (d2[j]!))]) (u_get (d := d2) (i := j) (by omega)) (by decide)) fun v84 hv83 => ?_
        obtain ⟨rb85, ro86, rfl, hrg87, hrt88, hrb89, hput90, hqs91⟩ := hv83
        refine D_store (vs := [(.i .u32 (d2[(j - 1)]!))]) (c' := (putAt c2 (ro86 + 0) [(.i .u32 (d2[(j - 1)]!))])) rfl (by rfl) hrg87 rfl (List.cons_ne_nil _ _) (by have := hrb89; show _ + 1 ≤ _; omega) rfl fun H92 hW93 => ?_
        have hH95 := Hs.cong0 (Hs.wr0 (Hs.cong0 hH64 (hqs91 _)) hW93) (hqs91 _).symm
        have hSq94 := hput90 0 [(.i .u32 (d2[(j - 1)]!))] [(.i .u32 (d2[(j - 1)]!))] (Nat.le_of_ble_eq_true rfl) rfl
        obtain ⟨dd96, he97⟩ : ∃ z : Array Int, z = d2.setIfInBounds j (d2[(j - 1)]!) := ⟨_, rfl⟩
        have hs99 : Sq 1 v (putAt c2 (ro86 + 0) [(.i .u32 (d2[(j - 1)]!))]) (dU dd96).flatten := by rw [he97, ← u_set]; exact hSq94
        have hn98 : dd96.size = n := by rw [he97, Array.size_setIfInBounds]; exact hp24
        refine And.intro (And.intro (Or.inl rfl) (And.intro (Or.inl rfl) True.intro)) ?_
        refine D_q rfl rfl rfl (by exact Sq.cell hs99 (u_lens dd96) hH95.top0 rfl (i := (j - 1)) rfl (r := [(.i .u32 (dd96[(j - 1)]!))]) (u_get (d := dd96) (i := (j - 1)) (by omega)) (by decide)) fun v101 hv100 => ?_
        obtain ⟨rb102, ro103, rfl, hrg104, hrt105, hrb106, hput107, hqs108⟩ := hv100
        refine D_store (vs := [(.i .u32 (d2[j]!))]) (c' := (putAt (putAt c2 (ro86 + 0) [(.i .u32 (d2[(j - 1)]!))]) (ro103 + 0) [(.i .u32 (d2[j]!))])) rfl (by rfl) hrg104 rfl (List.cons_ne_nil _ _) (by have := hrb106; show _ + 1 ≤ _; omega) rfl fun H109 hW110 => ?_
        have hH112 := Hs.cong0 (Hs.wr0 (Hs.cong0 hH95 (hqs108 _)) hW110) (hqs108 _).symm
        have hSq111 := hput107 0 [(.i .u32 (d2[j]!))] [(.i .u32 (d2[j]!))] (Nat.le_of_ble_eq_true rfl) rfl
        obtain ⟨dd113, he114⟩ : ∃ z : Array Int, z = dd96.setIfInBounds (j - 1) (d2[j]!) := ⟨_, rfl⟩
        have hs116 : Sq 1 v (putAt (putAt c2 (ro86 + 0) [(.i .u32 (d2[(j - 1)]!))]) (ro103 + 0) [(.i .u32 (d2[j]!))]) (dU dd113).flatten := by rw [he114, ← u_set]; exact hSq111
        have hn115 : dd113.size = n := by rw [he114, Array.size_setIfInBounds]; exact hn98
        refine And.intro True.intro ?_
        refine D_nil ?_
        refine C_region ?_
        refine O_p (.i .i64 (((j : Nat)) : Int)) (r_mv hT30) ?_
        refine O_p (.i .i64 ((((j - 1) : Nat)) : Int)) (by exact (r_subn (a := j) (b := 1) rfl rfl (by omega) (by omega))) ?_
        refine O_p (.i .i64 ((((j - 1) : Nat)) : Int)) (r_mv rfl) ?_
        refine O_nil ?_
        exact ⟨(j - 1), by omega, dd113, (putAt (putAt c2 (ro86 + 0) [(.i .u32 (d2[(j - 1)]!))]) (ro103 + 0) [(.i .u32 (d2[j]!))]), (j - 1), rfl, by omega, hs116, hn115, by rw [he114, he97]; show insInner ltInt a (j - 1) (swp d2 j (j - 1)) = _; rw [← insInner_step haj hlt]; exact hp25, hH112, hT26, hT27, hT28, hT29, rfl⟩
      ·
        try simp only [decide_eq_true_eq, decide_eq_false_iff_not, Bool.not_eq_true', Bool.not_eq_false', Bool.and_eq_true, Bool.or_eq_true, Bool.or_eq_false_iff, Bool.not_not, Bool.and_eq_false_iff] at hc59
        have hstop : ¬ (a < j ∧ ltInt d2[j]! d2[j - 1]! = true) := fun h9 => hc59 (of_decide_eq_true h9.2)
        refine C_exit ?_
        refine nx_exit ?_
        refine nx_exit ?_
        refine bk_hit ?_
        refine C_region ?_
        refine O_p (.i .i64 (((i : Nat)) : Int)) (r_mv hT29) ?_
        refine O_p (.i .i64 ((((i : Nat)) : Int) + 1)) (by exact (r_addi rfl rfl (wrap_i64 (by omega) (by omega)))) ?_
        refine O_p (.i .i64 ((((i : Nat)) : Int) + 1)) (r_mv rfl) ?_
        refine O_nil ?_
        exact ⟨b - (i + 1), by omega, d2, c2, (i + 1), rfl, by omega, hp23, hp24, by rw [← hp9, insOuter_step hib, ← hp25, insInner_stop hstop], by omega, hH58, hT26, hT27, hT28, rfl⟩
    ·
      have hstop : ¬ (a < j ∧ ltInt d2[j]! d2[j - 1]! = true) := fun h9 => haj h9.1
      refine C_draw fun b117 H118 hbase119 hA120 => ?_
      have hH121 := hH31.keep (by have := hA120.1; omega) (fun q _ => hA120.2 q) ((hH31.old).aside hA120).ok
      refine D_l (v := (.i .i64 (((j : Nat)) : Int))) rfl rfl rfl (r_mv hT30) ?_
      refine D_l (v := (.i .i64 (((a : Nat)) : Int))) rfl rfl rfl (r_mv hT27) ?_
      refine D_l (v := (.b false)) rfl rfl rfl (by exact (by rw [r_gtr rfl rfl, decide_eq_false (by omega)])) ?_
      refine D_l (v := (.b false)) rfl rfl rfl (r_mv rfl) ?_
      refine D_gf rfl ?_
      refine D_gf rfl ?_
      refine D_gf rfl ?_
      refine D_gf rfl ?_
      refine D_gf rfl ?_
      refine D_gf rfl ?_
      refine D_gf rfl ?_
      refine D_gf rfl ?_
      refine D_gf rfl ?_
      refine D_gf rfl ?_
      refine D_l (v := (.b false)) rfl rfl rfl (r_pick_f rfl rfl) ?_
      refine D_nil ?_
      refine C_cond (x := false) rfl (fun h => by cases h) (fun _ => ?_)
      refine C_exit ?_
      refine nx_exit ?_
      refine nx_exit ?_
      refine bk_hit ?_
      refine C_region ?_
      refine O_p (.i .i64 (((i : Nat)) : Int)) (r_mv hT29) ?_
      refine O_p (.i .i64 ((((i : Nat)) : Int) + 1)) (by exact (r_addi rfl rfl (wrap_i64 (by omega) (by omega)))) ?_
      refine O_p (.i .i64 ((((i : Nat)) : Int) + 1)) (r_mv rfl) ?_
      refine O_nil ?_
      exact ⟨b - (i + 1), by omega, d2, c2, (i + 1), rfl, by omega, hp23, hp24, by rw [← hp9, insOuter_step hib, ← hp25, insInner_stop hstop], by omega, hH121, hT26, hT27, hT28, rfl⟩
  ·
    try simp only [decide_eq_true_eq, decide_eq_false_iff_not, Bool.not_eq_true', Bool.not_eq_false', Bool.and_eq_true, Bool.or_eq_true, Bool.or_eq_false_iff, Bool.not_not, Bool.and_eq_false_iff] at hc16
    refine C_exit ?_
    refine nx_exit ?_
    refine nx_exit ?_
    refine bk_hit ?_
    exact ⟨.inl rfl, [], rfl, rfl, c1, by rw [← hp9, insOuter_stop (by omega)]; exact hp7, hH15⟩


set_option linter.unusedVariables false
set_option linter.unusedSimpArgs false
open Go.Sort (insertionSort ltInt)
theorem pdq12_ev {H : AH} {R : HL} {v : AV} {c : List AV} {d : Array Int} {n : Nat} {a b : Nat} {lim : Int} (hd : Sq 1 v c (dU d).flatten) (hn : d.size = n) (hl : n ≤ 1000000) (hab : a ≤ b) (hb : b ≤ n) (h12 : b ≤ a + 12) (hH0 : Hs H (qseg v c ++ R)) : Ev tabS spS (.fn (.func 37) [] []) [v, .i .i64 ((a : Nat) : Int), .i .i64 ((b : Nat) : Int), .i .i64 lim] H (fun r H' => r = .tup [] ∧ ∃ c', Sq 1 v c' (dU (insertionSort ltInt d a b)).flatten ∧ Hs H' (qseg v c' ++ R)) := by
  refine Ev_C (F := x37) rfl ?_
  refine C_seq ?_
  refine C_region ?_
  refine O_p (.b true) (r_mv rfl) ?_
  refine O_nil ?_
  refine C_seq ?_
  refine C_region ?_
  refine O_p (.b true) (r_mv rfl) ?_
  refine O_nil ?_
  refine C_block ?_
  refine C_loop ?_
  refine C_block ?_
  refine C_seq ?_
  refine C_region ?_
  refine O_p (.i .i64 (((b : Nat)) : Int)) (r_mv rfl) ?_
  refine O_p (.i .i64 (((a : Nat)) : Int)) (r_mv rfl) ?_
  refine O_p (.i .i64 ((((b : Nat)) : Int) - (((a : Nat)) : Int))) (by exact (r_subi rfl rfl (wrap_i64 (by omega) (by omega)))) ?_
  refine O_p (.i .i64 ((((b : Nat)) : Int) - (((a : Nat)) : Int))) (r_mv rfl) ?_
  refine O_nil ?_
  refine C_seq ?_
  refine C_seq ?_
  refine C_region ?_
  refine O_p (.i .i64 ((((b : Nat)) : Int) - (((a : Nat)) : Int))) (r_mv rfl) ?_
  refine O_p (.b true) (by exact (by rw [r_leq rfl rfl, decide_eq_true (by omega)])) ?_
  refine O_nil ?_
  refine C_cond (x := true) rfl (fun _ => ?_) (fun h => by cases h)
  refine C_seq ?_
  refine C_region ?_
  refine O_p v (r_mv rfl) ?_
  refine O_p (.i .i64 (((a : Nat)) : Int)) (r_mv rfl) ?_
  refine O_p (.i .i64 (((b : Nat)) : Int)) (r_mv rfl) ?_
  refine O_call (Ev.mono (ins_ev (a := a) (b := b) hd hn hl hab hb hH0) fun v1 H2 hq3 => ?_)
  obtain ⟨rfl, c4, hc5, hH6⟩ := hq3
  refine O_nil ?_
  refine C_ret ?_
  refine nx_ret ?_
  refine bk_ret ?_
  refine nx_ret ?_
  refine bk_ret ?_
  exact ⟨.inr rfl, [], rfl, rfl, c4, hc5, hH6⟩
def blenv (n : Nat) : Int := if n = 0 then 0 else if n = 1 then 1 else if n < 4 then 2 else if n < 8 then 3 else 4
theorem blen12 (H : AH) : ∀ n : Nat, n ≤ 12 → exec tabS spS 60 (.fn (.func 38) [] []) [.i .u64 n] H = some (.i .i64 (blenv n), H) := by
  intro n h
  have : n = 0 ∨ n = 1 ∨ n = 2 ∨ n = 3 ∨ n = 4 ∨ n = 5 ∨ n = 6 ∨ n = 7 ∨ n = 8 ∨ n = 9 ∨ n = 10 ∨ n = 11 ∨ n = 12 := by omega
  rcases this with rfl | rfl | rfl | rfl | rfl | rfl | rfl | rfl | rfl | rfl | rfl | rfl | rfl <;> (show _ = _; kernel_rfl)
theorem blen12_ev {H : AH} {R : HL} {n : Nat} (h : n ≤ 12) (hH : Hs H R) : Ev tabS spS (.fn (.func 38) [] []) [.i .u64 (IntKind.u64.wrap ((n : Nat) : Int))] H (fun r H' => (∃ k, r = .i .i64 k) ∧ Hs H' R) := by
  have e := blen12 H n h
  have hw : IntKind.u64.wrap ((n : Nat) : Int) = ((n : Nat) : Int) := by rw [wrap_u64]; omega
  exact ⟨60, _, _, by rw [hw]; exact e, ⟨_, rfl⟩, hH⟩
def msort (l : List Int) : List Int := l.mergeSort (fun x y => !ltInt y x)
/-- Sorting, of so many numbers at most. -/
def SortOK (N : Nat) : Prop := ∀ {H : AH} {R : HL} {v : AV} {c : List AV} {l : List Int}, Sq 1 v c (lU l) → l.length ≤ N → Hs H (qseg v c ++ R) → Ev tabS spS (.fn (.func 31) [] []) [v] H (fun r H' => r = .tup [] ∧ ∃ c', Sq 1 v c' (lU (msort l)) ∧ Hs H' (qseg v c' ++ R))
theorem sort12_0 {H : AH} {R : HL} {v : AV} {c : List AV} {d : Array Int} {n : Nat} (hd : Sq 1 v c (dU d).flatten) (hn : d.size = n) (hl : n ≤ 1000000) (hl2 : n ≤ 12) (hH0 : Hs H (qseg v c ++ R)) : Ev tabS spS (.fn (.func 31) [] []) [v] H (fun r H' => r = .tup [] ∧ ∃ c', Sq 1 v c' (dU (insertionSort ltInt d 0 n)).flatten ∧ Hs H' (qseg v c' ++ R)) := by
  refine Ev_C (F := x31) rfl ?_
  refine C_seq ?_
  refine C_region ?_
  refine O_p v (r_mv rfl) ?_
  refine O_p (.i .i64 (((n : Nat)) : Int)) (by exact (by exact r_lenOf rfl (hd.lenOf (u_flatn hn) (by decide)) hd.isSl)) ?_
  refine O_p (.i .i64 (((n : Nat)) : Int)) (r_mv rfl) ?_
  refine O_nil ?_
  refine C_region ?_
  refine O_p v (r_mv rfl) ?_
  refine O_p (.i .i64 (((n : Nat)) : Int)) (r_mv rfl) ?_
  refine O_p (.i .i64 (((n : Nat)) : Int)) (r_mv rfl) ?_
  refine O_p (.i .u64 (IntKind.u64.wrap (((n : Nat)) : Int))) (r_cint rfl) ?_
  refine O_call (Ev.mono (blen12_ev (n := n) hl2 hH0) fun v1 H2 hq3 => ?_)
  obtain ⟨⟨k4, rfl⟩, hH5⟩ := hq3
  refine O_call (Ev.mono (pdq12_ev (a := 0) (b := n) hd hn hl (Nat.zero_le _) (Nat.le_refl _) (by omega) hH5) fun v6 H7 hq8 => ?_)
  obtain ⟨rfl, c9, hc10, hH11⟩ := hq8
  refine O_nil ?_
  exact ⟨.inl rfl, [], rfl, rfl, c9, hc10, hH11⟩
theorem sort12 : SortOK 12 := by
  intro H R v c l hs hl hH
  refine Ev.mono (sort12_0 (d := l.toArray) (n := l.length) (by exact hs) (by simp) (by omega) hl hH) ?_
  rintro r H' ⟨rfl, c', h1, h2⟩
  obtain ⟨g1, g2⟩ := Go.Sort.insertionSort_holds Go.Sort.swo_ltInt l.toArray 0 l.length (Nat.zero_le _) (by simp)
  have := Go.Sort.sorted_unique_holds Go.Sort.swo_ltInt (by simp only [ltInt, decide_eq_false_iff_not]; omega) l.toArray _ (by simpa using g1) (by simpa using g2)
  refine ⟨rfl, c', ?_, h2⟩
  have e : msort l = (insertionSort ltInt l.toArray 0 l.length).toList := by rw [this]; rfl
  rw [e]
  exact h1


set_option linter.unusedVariables false
set_option linter.unusedSimpArgs false
open Go.Sort (insertionSort ltInt)
/-! ### Runs -/
abbrev rw2 (l : List (Int × Int)) : List (List AV) := l.map fun p => [AV.i .u16 p.1, AV.i .u16 p.2]
theorem rw2_lens (l : List (Int × Int)) : ∀ r ∈ rw2 l, r.length = 2 := fun r hr => by obtain ⟨x, _, rfl⟩ := List.mem_map.1 hr; rfl
theorem rw2_len (l : List (Int × Int)) : (rw2 l).flatten.length = l.length * 2 := (flat_len (rw2_lens l)).trans (by rw [List.length_map])
theorem rw2_get {l : List (Int × Int)} {i : Nat} (h : i < l.length) : (rw2 l)[i]? = some [.i .u16 (l.getD i (0, 0)).1, .i .u16 (l.getD i (0, 0)).2] := by
  rw [List.getElem?_map, List.getElem?_eq_getElem h]
  simp [h]
theorem rw2_set {l : List (Int × Int)} {i : Nat} {p : Int × Int} : (rw2 l).set i [.i .u16 p.1, .i .u16 p.2] = rw2 (l.set i p) := by show (List.map _ l).set i _ = List.map _ (l.set i p); rw [List.map_set]
theorem rw2_app (l : List (Int × Int)) (x y : Int) : (rw2 l).flatten ++ [AV.i .u16 x, AV.i .u16 y] = (rw2 (l ++ [(x, y)])).flatten := by simp
theorem lU_get {l : List Int} {i : Nat} (h : i < l.length) : (lU l)[i]? = some (AV.i .u32 (l.getD i 0)) := by
  have : lU l = l.map fun x => AV.i .u32 x := by induction l with
    | nil => rfl
    | cons a l ih =>
      have : ∀ l : List Int, lU l = l.map fun x => AV.i .u32 x := fun l => by induction l with | nil => rfl | cons a l ih => show [AV.i .u32 a] ++ lU l = _; rw [ih]; rfl
      exact this _
  rw [this, List.getElem?_map, List.getElem?_eq_getElem h]
  simp [h]
def runJ (out : List (Int × Int)) (h : Int) : Bool := decide (0 < out.length) && decide (IntKind.u32.wrap (IntKind.u32.wrap (out.getD (out.length - 1) (0, 0)).2 + 1) = h)
def runS (out : List (Int × Int)) (h : Int) : List (Int × Int) :=
  if runJ out h = true then out.set (out.length - 1) ((out.getD (out.length - 1) (0, 0)).1, IntKind.u16.wrap ((out.getD (out.length - 1) (0, 0)).2 + 1)) else out ++ [(IntKind.u16.wrap h, IntKind.u16.wrap h)]
def runsF (hs : List Int) : List (Int × Int) := hs.foldl runS []
theorem runs_take {hs : List Int} {i : Nat} (h : i < hs.length) : runsF (hs.take (i + 1)) = runS (runsF (hs.take i)) (hs.getD i 0) := by
  unfold runsF
  rw [List.take_add_one, List.getElem?_eq_getElem h, List.foldl_append]
  simp [h]
theorem runS_ne {out : List (Int × Int)} {h : Int} : runS out h ≠ [] := by
  unfold runS
  split
  · rename_i hj
    unfold runJ at hj
    intro e
    have := congrArg List.length e
    simp only [List.length_set, List.length_nil] at this
    simp [this] at hj
  · simp
theorem msort_len (l : List Int) : (msort l).length = l.length := List.length_mergeSort _
/-- A slice's beginning. -/
theorem Sq.pre {T : Tm} {H : AH} {cf : CallF} {sz : Nat} {v : AV} {c l : List AV} {x y : XO} {k : IntKind} {j : Nat} (h : Sq sz v c l) (hsz : 0 < sz) (hx : x.ev T = v) (hi : y.ev T = .i k ((j : Nat) : Int)) (h1 : j * sz ≤ l.length) :
    ∃ w, (XOp.slsl sz x none (some y) none).run cf T H = some (w, H) ∧ Sq sz w c (l.take (j * sz)) ∧ (∀ cc, qseg w cc = qseg v cc) ∧ (v = .sl none 0 0 0 → w = .sl none 0 0 0) := by
  cases h with
  | nil =>
    have : j = 0 := by
      rcases Nat.eq_zero_or_pos j with h | h
      · exact h
      · have := Nat.mul_pos h hsz; simp at h1; omega
    subst this
    refine ⟨.sl none 0 0 0, ?_, by simpa using Sq.nil, fun _ => rfl, fun _ => rfl⟩
    have e := sb_hi' (kd := k) (i := 0) (len := 0) (cap := 0) (Nat.le_refl 0)
    simp only [XOp.run, XOp.look, hx, true_or, if_true, Option.map_none, Option.map_some, hi, e]
    rfl
  | @mk b o n cap g c l hg hl hn hc =>
    have hlen := (takeAt_len hl).1
    have hjn : j ≤ n := by
      rw [hlen] at h1
      exact Nat.le_of_mul_le_mul_right h1 hsz
    refine ⟨.sl (some (b, o)) j cap g, ?_, .mk hg ?_ (by omega) hc, fun _ => rfl, fun h => by cases h⟩
    · have e := sb_hi' (kd := k) (i := j) (len := n) (cap := cap) (by omega)
      simp only [XOp.run, XOp.look, hx, if_pos hg, Option.map_none, Option.map_some, hi, e]
      simp
    · have hle : j * sz ≤ n * sz := Nat.mul_le_mul_right _ hjn
      unfold takeAt at hl ⊢
      split at hl
      · rename_i hb
        rw [if_pos (by omega)]
        simp only [Option.some.injEq] at hl ⊢
        rw [← hl, List.take_take]
        congr 1
        omega
      · cases hl
theorem u1_get {l : List Int} {i : Nat} (h : i < l.length) : (l.map u1)[i]? = some [AV.i .u32 (l.getD i 0)] := by
  rw [List.getElem?_map, List.getElem?_eq_getElem h]
  simp [u1, h]
theorem u1_lens (l : List Int) : ∀ r ∈ l.map u1, r.length = 1 := fun r hr => by obtain ⟨x, _, rfl⟩ := List.mem_map.1 hr; rfl
theorem rw2_take (l : List (Int × Int)) (j : Nat) : (rw2 l).flatten.take (j * 2) = (rw2 (l.take j)).flatten := by
  induction l generalizing j with
  | nil => simp
  | cons p l ih =>
    cases j with
    | zero => simp
    | succ j =>
      rw [List.take_succ_cons, show (j + 1) * 2 = j * 2 + 1 + 1 by omega]
      show AV.i .u16 p.1 :: AV.i .u16 p.2 :: (rw2 l).flatten.take (j * 2) = AV.i .u16 p.1 :: AV.i .u16 p.2 :: (rw2 (l.take j)).flatten
      rw [ih]
theorem take_min {α : Type} (l : List α) (k : Nat) : l.take (min l.length k) = l.take k := by
  rcases Nat.le_total l.length k with h | h
  · rw [Nat.min_eq_left h, List.take_length, List.take_of_length_le h]
  · rw [Nat.min_eq_right h]
theorem Hs.nil1 {H : AH} {A R : HL} (h : Hs H (A ++ R)) : Hs H (A ++ ([] ++ R)) := h
def xr15_0 : XC := (.region [⟨(some 2), (.mv (.c (.sl none 0 0 0))), none, 0, []⟩])
def xr15_1 : XC := (.seq (.region [⟨(some 9), (.mv (.t 0)), none, 0, []⟩, ⟨(some 10), (.nilq 0 false (.t 9)), none, 1, []⟩]) (.cond (.t 10) (.seq (.region [⟨(some 2), (.mv (.c (.sl none 0 0 0))), none, 0, []⟩]) .ret) .skip))
def xr15_3 : XC := (.region [⟨(some 3), (.mv (.c (.sl none 0 0 0))), none, 0, []⟩])
def l15_4 : List XOper := [⟨(some 11), (.mv (.t 0)), none, 0, []⟩, ⟨(some 12), (.nilc (.t 11)), none, 1, []⟩, ⟨(some 13), (.fadd 1 (.t 12)), none, 2, []⟩, ⟨(some 14), (.load false 1 (.t 13)), none, 3, []⟩]
def l15 : List XOper := [⟨(some 19), (.ext (.t 18) 0), none, 1, []⟩, ⟨(some 4), (.mv (.t 19)), none, 2, []⟩]
def xb15 : XC := (.region [⟨(some 20), (.mv (.t 3)), none, 0, []⟩, ⟨(some 21), (.mv (.t 0)), none, 1, []⟩, ⟨(some 22), (.nilc (.t 21)), none, 2, []⟩, ⟨(some 23), (.fadd 0 (.t 22)), none, 3, []⟩, ⟨(some 24), (.load false 1 (.t 23)), none, 4, []⟩, ⟨(some 25), (.mv (.t 4)), none, 5, []⟩, ⟨(some 26), (.call (.c (.fn (.func 17) [] [])) [(.t 24), (.t 25)]), none, 6, []⟩, ⟨(some 27), (.bslice [(.i .u32 0)] [(0, 1, (.t 26))] 1), none, 7, []⟩, ⟨(some 28), (.append 1 4 (.t 20) (.t 27)), none, 8, []⟩, ⟨(some 3), (.mv (.t 28)), none, 9, []⟩])
def xs15 : XC := (.seq (.region [⟨(some 29), (.mv (.t 3)), none, 0, []⟩, ⟨(some 30), (.call (.c (.fn (.func 31) [] [])) [(.t 29)]), none, 1, []⟩]) (.seq (.region [⟨(some 5), (.mv (.c (.sl none 0 0 0))), none, 0, []⟩]) (.seq (.seq (.region [⟨(some 31), (.mv (.t 3)), none, 0, []⟩, ⟨(some 32), (.lenx (.t 31)), none, 1, []⟩, ⟨(some 33), (.mv (.c (.i .i64 0))), none, 2, []⟩]) (.block 2 (.loop (.seq (.region [⟨(some 34), (.bin .lss (.t 33) (.t 32)), none, 0, []⟩]) (.seq (.cond (.t 34) .skip (.exit 2)) (.seq (.block 3 (.seq (.region [⟨(some 35), (.isl 1 (.t 31) (.t 33)), none, 0, []⟩, ⟨(some 36), (.load false 1 (.t 35)), none, 1, []⟩, ⟨(some 7), (.mv (.t 36)), none, 2, []⟩]) (.seq (.seq (.region [⟨(some 37), (.mv (.t 5)), none, 0, []⟩, ⟨(some 38), (.lenx (.t 37)), none, 1, []⟩, ⟨(some 39), (.bin .sub (.t 38) (.c (.i .i64 1))), none, 2, []⟩, ⟨(some 8), (.mv (.t 39)), none, 3, []⟩]) (.seq (.region [⟨(some 40), (.mv (.t 8)), none, 0, []⟩, ⟨(some 41), (.bin .geq (.t 40) (.c (.i .i64 0))), none, 1, []⟩, ⟨(some 42), (.mv (.t 41)), none, 2, []⟩, ⟨(some 43), (.mv (.t 5)), (some (42, true)), 3, []⟩, ⟨(some 44), (.mv (.t 8)), (some (42, true)), 4, []⟩, ⟨(some 45), (.isl 2 (.t 43) (.t 44)), (some (42, true)), 5, []⟩, ⟨(some 46), (.fadd 1 (.t 45)), (some (42, true)), 6, []⟩, ⟨(some 47), (.load false 1 (.t 46)), (some (42, true)), 7, []⟩, ⟨(some 48), (.cint .u32 (.t 47)), (some (42, true)), 8, []⟩, ⟨(some 49), (.bin .add (.t 48) (.c (.i .u32 1))), (some (42, true)), 9, []⟩, ⟨(some 50), (.mv (.t 7)), (some (42, true)), 10, []⟩, ⟨(some 51), (.bin .eql (.t 49) (.t 50)), (some (42, true)), 11, []⟩, ⟨(some 52), (.pick (.t 42) (.t 51) (.c (.b false))), none, 12, []⟩]) (.cond (.t 52) (.seq (.region [⟨(some 53), (.mv (.t 5)), none, 0, []⟩, ⟨(some 54), (.mv (.t 8)), none, 1, []⟩, ⟨(some 55), (.isl 2 (.t 53) (.t 54)), none, 2, []⟩, ⟨(some 56), (.fadd 1 (.t 55)), none, 3, []⟩, ⟨(some 57), (.load false 1 (.t 56)), none, 4, []⟩, ⟨(some 58), (.bin .add (.t 57) (.c (.i .u16 1))), none, 5, []⟩, ⟨(some 59), (.isl 2 (.t 53) (.t 54)), none, 6, []⟩, ⟨(some 60), (.fadd 1 (.t 59)), none, 7, []⟩, ⟨none, (.store 1 (.t 60) (.t 58)), none, 8, []⟩]) (.exit 3)) .skip))) (.region [⟨(some 61), (.mv (.t 5)), none, 0, []⟩, ⟨(some 62), (.mv (.t 7)), none, 1, []⟩, ⟨(some 63), (.cint .u16 (.t 62)), none, 2, []⟩, ⟨(some 64), (.mv (.t 7)), none, 3, []⟩, ⟨(some 65), (.cint .u16 (.t 64)), none, 4, []⟩, ⟨(some 66), (.build [(.i .u16 0), (.i .u16 0)] [(0, 1, (.t 63)), (1, 1, (.t 65))]), none, 5, []⟩, ⟨(some 67), (.bslice [(.i .u16 0), (.i .u16 0)] [(0, 2, (.t 66))] 1), none, 6, []⟩, ⟨(some 68), (.append 2 4 (.t 61) (.t 67)), none, 7, []⟩, ⟨(some 5), (.mv (.t 68)), none, 8, []⟩])))) (.region [⟨(some 69), (.bin .add (.t 33) (.c (.i .i64 1))), none, 0, []⟩, ⟨(some 33), (.mv (.t 69)), none, 1, []⟩]))))))) (.seq (.region [⟨(some 70), (.mv (.t 5)), none, 0, []⟩, ⟨(some 71), (.mv (.t 5)), none, 1, []⟩, ⟨(some 72), (.lenx (.t 71)), none, 2, []⟩, ⟨(some 73), (.mnmx false [(.t 72), (.c (.i .i64 64))]), none, 3, []⟩, ⟨(some 74), (.slsl 2 (.t 70) none (some (.t 73)) none), none, 4, []⟩, ⟨(some 2), (.mv (.t 74)), none, 5, []⟩]) .ret))))
theorem r15_ev {T : Tm} {H : AH} {R : HL} {a : Nat} {c key : Int} {x1 x2 hv it : AV} {hc : List AV} {hs : List Int} (h0 : T.get 0 = .p (some (a, 0))) (h3 : T.get 3 = hv) (h15 : T.get 15 = it) (h18 : T.get 18 = .tup [.i .u32 key, .b true]) (hd : Sq 1 hv hc (lU hs)) (hl : hs.length ≤ 1000000) (hH0 : Hs H ([(a, some (.cells [.i .u32 c, x1, x2] true))] ++ (qseg hv hc ++ R))) :
    C tabS spS (.seq (.region l15) xb15) T H (fun e T' H' => e = .norm ∧ T'.get 0 = .p (some (a, 0)) ∧ T'.get 15 = it ∧ ∃ hv' hc', T'.get 3 = hv' ∧ Sq 1 hv' hc' (lU (hs ++ [dst c key])) ∧ Hs H' ([(a, some (.cells [.i .u32 c, x1, x2] true))] ++ (qseg hv' hc' ++ R))) := by
  refine C_seq ?_
  refine C_region ?_
  refine O_p (.i .u32 key) (r_ext h18 rfl) ?_
  refine O_p (.i .u32 key) (r_mv rfl) ?_
  refine O_nil ?_
  refine C_region ?_
  refine O_p hv (r_mv h3) ?_
  refine O_p (.p (some (a, 0))) (r_mv h0) ?_
  refine O_p (.p (some (a, 0))) (r_nilc rfl) ?_
  refine O_p (.p (some (a, 0))) (r_fadd' rfl rfl) ?_
  refine O_p (.i .u32 c) (r_ld rfl hH0.get0 rfl) ?_
  refine O_p (.i .u32 key) (r_mv rfl) ?_
  refine O_call (Ev.mono (dist_ev (x := c) (y := key) hH0) fun v1 H2 hq3 => ?_)
  obtain ⟨rfl, hH4⟩ := hq3
  refine O_bslice (c := [(.i .u32 (dst c key))]) rfl fun n5 H6 hN7 => ?_
  have hH8 := hH4.new hN7
  refine O_qh (by exact r_appq (n := hs.length) (k := 1) (new := [(.i .u32 (dst c key))]) hH8.top2 hd rfl rfl rfl (src_blk hH8.get0 (by rfl)) rfl (by decide) (by decide) (lU_len hs) (by first | omega | (simp only [List.length_take, List.length_drop, List.length_append, List.length_cons, List.length_nil, beN_len] <;> omega))) fun o9 H10 hA12 => ?_
  obtain ⟨c11, hA12, hH13⟩ := hA12
  refine O_p o9 (r_mv rfl) ?_
  refine O_nil ?_
  have hH14 := (hH13.sub1)
  have hH15 := (hH14.top1)
  exact ⟨rfl, h0, h15, o9, c11, rfl, by rw [← lU_app]; exact hA12, hH15⟩
theorem s15_ev {T : Tm} {H : AH} {R : HL} {hv : AV} {hc : List AV} {hs : List Int} {N : Nat} (hS : SortOK N) (hN : N ≤ 1000000) (hl : hs.length ≤ N) (h3 : T.get 3 = hv) (hd : Sq 1 hv hc (lU hs)) (hH0 : Hs H (qseg hv hc ++ R)) :
    C tabS spS xs15 T H (fun e T' H' => e = .ret ∧ ∃ w wc, T'.get 2 = w ∧ Sq 2 w wc (rw2 ((runsF (msort hs)).take 64)).flatten ∧ (runsF (msort hs) = [] → w = .sl none 0 0 0) ∧ Hs H' (qseg w wc ++ R)) := by
  refine C_seq ?_
  refine C_region ?_
  refine O_p hv (r_mv h3) ?_
  refine O_call (Ev.mono (hS hd hl hH0) fun v1 H2 hq3 => ?_)
  obtain ⟨rfl, c4, hc5, hH6⟩ := hq3
  obtain ⟨hs2, he2⟩ : ∃ z, z = msort hs := ⟨_, rfl⟩
  rw [← he2] at hc5
  have hl2 : hs2.length = hs.length := by rw [he2, msort_len]
  rw [← he2]
  refine O_nil ?_
  refine C_seq ?_
  refine C_region ?_
  refine O_p (.sl none 0 0 0) (r_mv rfl) ?_
  refine O_nil ?_
  refine C_seq ?_
  refine C_seq ?_
  refine C_region ?_
  refine O_p hv (r_mv h3) ?_
  refine O_p (.i .i64 (((hs2.length : Nat)) : Int)) (by exact (by exact r_lenOf rfl (hc5.lenOf (lU_len hs2) (by decide)) hc5.isSl)) ?_
  refine O_p (.i .i64 0) (r_mv rfl) ?_
  refine O_nil ?_
  refine C_block ?_
  refine C_while (fun m7 T8 H9 => ∃ i : Nat, ∃ od : List (Int × Int), ∃ v5 : AV, ∃ c5 : List AV, ∃ ch : List AV, m7 = hs2.length - i ∧ i ≤ hs2.length ∧ Sq 1 hv ch (lU hs2) ∧ Sq 2 v5 c5 (rw2 od).flatten ∧ od = runsF (hs2.take i) ∧ (od = [] → v5 = .sl none 0 0 0) ∧ od.length ≤ i ∧ Hs H9 ((qseg hv ch) ++ ((qseg v5 c5) ++ (R))) ∧ T8.get 31 = hv ∧ T8.get 32 = (.i .i64 (((hs2.length : Nat)) : Int)) ∧ T8.get 33 = (.i .i64 (((i : Nat)) : Int)) ∧ T8.get 5 = v5) (fun m7 T8 H9 hI10 => ?_) hs2.length _ _ ⟨0, [], (.sl none 0 0 0), [], c4, rfl, by omega, hc5, Sq.nil, rfl, fun _ => rfl, by simp, Hs.nil1 hH6, rfl, rfl, rfl, rfl⟩
  obtain ⟨i, od, v5, c5, ch, hm11, hp12, hp13, hp14, hp15, hp16, hp17, hH22, hT18, hT19, hT20, hT21⟩ := hI10
  refine C_seq ?_
  refine C_region ?_
  refine O_p (.b (decide ((((i : Nat)) : Int) < (((hs2.length : Nat)) : Int)))) (r_lss hT20 hT19) ?_
  refine O_nil ?_
  refine C_seq ?_
  refine C_cond (x := (decide ((((i : Nat)) : Int) < (((hs2.length : Nat)) : Int)))) rfl (fun hc23 => ?_) (fun hc23 => ?_)
  ·
    try simp only [decide_eq_true_eq, decide_eq_false_iff_not, Bool.not_eq_true', Bool.not_eq_false', Bool.and_eq_true, Bool.or_eq_true, Bool.or_eq_false_iff, Bool.not_not, Bool.and_eq_false_iff] at hc23
    refine C_skip ?_
    refine C_seq ?_
    refine C_block ?_
    refine C_seq ?_
    refine C_region ?_
    refine O_q (by exact Sq.cell hp13 (u1_lens hs2) hH22.top0 (by exact hT18) (i := i) (by exact hT20) (r := [(.i .u32 (hs2.getD i 0))]) (u1_get (l := hs2) (i := i) (by omega)) (by decide)) fun v25 hv24 => ?_
    obtain ⟨rb26, ro27, rfl, hrg28, hrt29, hrb30, hput31, hqs32⟩ := hv24
    refine O_p (.i .u32 (hs2.getD i 0)) (r_ldR (q := 0) rfl ⟨_, _, hrg28, hrt29⟩ rfl) ?_
    refine O_p (.i .u32 (hs2.getD i 0)) (r_mv rfl) ?_
    refine O_nil ?_
    refine C_seq ?_
    refine C_seq ?_
    by_cases hne : 0 < od.length
    ·
      refine C_region ?_
      refine O_p v5 (r_mv hT21) ?_
      refine O_p (.i .i64 (((od.length : Nat)) : Int)) (by exact (by exact r_lenOf rfl (hp14.lenOf (rw2_len od) (by decide)) hp14.isSl)) ?_
      refine O_p (.i .i64 ((((od.length - 1) : Nat)) : Int)) (by exact (r_subn (a := od.length) (b := 1) rfl rfl (by omega) (by omega))) ?_
      refine O_p (.i .i64 ((((od.length - 1) : Nat)) : Int)) (r_mv rfl) ?_
      refine O_nil ?_
      refine C_seq ?_
      refine C_region ?_
      refine O_p (.i .i64 ((((od.length - 1) : Nat)) : Int)) (r_mv rfl) ?_
      refine O_p (.b true) (by exact (by rw [r_geq rfl rfl, decide_eq_true (by omega)])) ?_
      refine O_p (.b true) (r_mv rfl) ?_
      refine O_gk rfl ?_
      refine O_p v5 (r_mv hT21) ?_
      refine O_gk rfl ?_
      refine O_p (.i .i64 ((((od.length - 1) : Nat)) : Int)) (r_mv rfl) ?_
      refine O_gk rfl ?_
      refine O_q (by exact Sq.cell hp14 (rw2_lens od) hH22.top1 rfl (i := (od.length - 1)) rfl (r := [(.i .u16 (od.getD (od.length - 1) (0, 0)).1), (.i .u16 (od.getD (od.length - 1) (0, 0)).2)]) (rw2_get (l := od) (i := (od.length - 1)) (by omega)) (by decide)) fun v34 hv33 => ?_
      obtain ⟨rb35, ro36, rfl, hrg37, hrt38, hrb39, hput40, hqs41⟩ := hv33
      refine O_gk rfl ?_
      refine O_p (.p (some (rb35, (ro36 + 1)))) (r_fadd' rfl rfl) ?_
      refine O_gk rfl ?_
      refine O_p (.i .u16 (od.getD (od.length - 1) (0, 0)).2) (r_ldR (q := 1) rfl ⟨_, _, hrg37, hrt38⟩ rfl) ?_
      refine O_gk rfl ?_
      refine O_p (.i .u32 (IntKind.u32.wrap ((od.getD (od.length - 1) (0, 0)).2))) (r_cint rfl) ?_
      refine O_gk rfl ?_
      refine O_p (.i .u32 (IntKind.u32.wrap ((IntKind.u32.wrap ((od.getD (od.length - 1) (0, 0)).2)) + 1))) (r_bin rfl rfl rfl) ?_
      refine O_gk rfl ?_
      refine O_p (.i .u32 (hs2.getD i 0)) (r_mv rfl) ?_
      refine O_gk rfl ?_
      refine O_p (.b (decide ((IntKind.u32.wrap ((IntKind.u32.wrap ((od.getD (od.length - 1) (0, 0)).2)) + 1)) = (hs2.getD i 0)))) (r_eql rfl rfl) ?_
      refine O_p (.b (decide ((IntKind.u32.wrap ((IntKind.u32.wrap ((od.getD (od.length - 1) (0, 0)).2)) + 1)) = (hs2.getD i 0)))) (r_pick_t rfl rfl) ?_
      refine O_nil ?_
      refine C_cond (x := (decide ((IntKind.u32.wrap ((IntKind.u32.wrap ((od.getD (od.length - 1) (0, 0)).2)) + 1)) = (hs2.getD i 0)))) rfl (fun hc42 => ?_) (fun hc42 => ?_)
      ·
        have hj : runJ od (hs2.getD i 0) = true := by unfold runJ; rw [decide_eq_true hne, hc42]; rfl
        try simp only [decide_eq_true_eq, decide_eq_false_iff_not, Bool.not_eq_true', Bool.not_eq_false', Bool.and_eq_true, Bool.or_eq_true, Bool.or_eq_false_iff, Bool.not_not, Bool.and_eq_false_iff] at hc42
        refine C_seq ?_
        refine C_region ?_
        refine O_p v5 (r_mv hT21) ?_
        refine O_p (.i .i64 ((((od.length - 1) : Nat)) : Int)) (r_mv rfl) ?_
        refine O_q (by exact Sq.cell hp14 (rw2_lens od) hH22.top1 rfl (i := (od.length - 1)) rfl (r := [(.i .u16 (od.getD (od.length - 1) (0, 0)).1), (.i .u16 (od.getD (od.length - 1) (0, 0)).2)]) (rw2_get (l := od) (i := (od.length - 1)) (by omega)) (by decide)) fun v44 hv43 => ?_
        obtain ⟨rb45, ro46, rfl, hrg47, hrt48, hrb49, hput50, hqs51⟩ := hv43
        refine O_p (.p (some (rb45, (ro46 + 1)))) (r_fadd' rfl rfl) ?_
        refine O_p (.i .u16 (od.getD (od.length - 1) (0, 0)).2) (r_ldR (q := 1) rfl ⟨_, _, hrg47, hrt48⟩ rfl) ?_
        refine O_p (.i .u16 (IntKind.u16.wrap ((od.getD (od.length - 1) (0, 0)).2 + 1))) (r_bin rfl rfl rfl) ?_
        refine O_q (by exact Sq.cell hp14 (rw2_lens od) hH22.top1 rfl (i := (od.length - 1)) rfl (r := [(.i .u16 (od.getD (od.length - 1) (0, 0)).1), (.i .u16 (od.getD (od.length - 1) (0, 0)).2)]) (rw2_get (l := od) (i := (od.length - 1)) (by omega)) (by decide)) fun v53 hv52 => ?_
        obtain ⟨rb54, ro55, rfl, hrg56, hrt57, hrb58, hput59, hqs60⟩ := hv52
        refine O_p (.p (some (rb54, (ro55 + 1)))) (r_fadd' rfl rfl) ?_
        refine O_store (vs := [(.i .u16 (IntKind.u16.wrap ((od.getD (od.length - 1) (0, 0)).2 + 1)))]) (c' := (putAt c5 (ro55 + 1) [(.i .u16 (IntKind.u16.wrap ((od.getD (od.length - 1) (0, 0)).2 + 1)))])) rfl (by rfl) hrg56 rfl (List.cons_ne_nil _ _) (by have := hrb58; show _ + 1 ≤ _; omega) rfl fun H61 hW62 => ?_
        have hH64 := Hs.cong1 (Hs.wr1 (Hs.cong1 hH22 (hqs60 _)) hW62) (hqs60 _).symm
        have hSq63 := hput59 1 [(.i .u16 (IntKind.u16.wrap ((od.getD (od.length - 1) (0, 0)).2 + 1)))] [(.i .u16 (od.getD (od.length - 1) (0, 0)).1), (.i .u16 (IntKind.u16.wrap ((od.getD (od.length - 1) (0, 0)).2 + 1)))] (Nat.le_of_ble_eq_true rfl) rfl
        obtain ⟨od65, oe66⟩ : ∃ z : List (Int × Int), z = od.set (od.length - 1) ((od.getD (od.length - 1) (0, 0)).1, (IntKind.u16.wrap ((od.getD (od.length - 1) (0, 0)).2 + 1))) := ⟨_, rfl⟩
        have of67 : Sq 2 v5 (putAt c5 (ro55 + 1) [(.i .u16 (IntKind.u16.wrap ((od.getD (od.length - 1) (0, 0)).2 + 1)))]) (rw2 od65).flatten := by rw [oe66, ← rw2_set]; exact hSq63
        refine O_nil ?_
        refine C_exit ?_
        refine nx_exit ?_
        refine bk_hit ?_
        refine C_region ?_
        refine O_p (.i .i64 ((((i : Nat)) : Int) + 1)) (by exact (r_addi hT20 rfl (wrap_i64 (by omega) (by omega)))) ?_
        refine O_p (.i .i64 ((((i : Nat)) : Int) + 1)) (r_mv rfl) ?_
        refine O_nil ?_
        have hH68 := ((hH64.top1).top1)
        exact ⟨(hs2.length - (i + 1)), by omega, (i + 1), (runS od (hs2.getD i 0)), v5, (putAt c5 (ro55 + 1) [(.i .u16 (IntKind.u16.wrap ((od.getD (od.length - 1) (0, 0)).2 + 1)))]), ch, rfl, by omega, hp13, by unfold runS; rw [if_pos hj, ← oe66]; exact of67, by rw [hp15, ← runs_take (by omega)], fun h9 => absurd h9 runS_ne, by unfold runS; rw [if_pos hj, List.length_set]; omega, hH68, hT18, hT19, rfl, hT21⟩
      ·
        have hj : ¬ runJ od (hs2.getD i 0) = true := by unfold runJ; rw [decide_eq_true hne, hc42]; simp
        try simp only [decide_eq_true_eq, decide_eq_false_iff_not, Bool.not_eq_true', Bool.not_eq_false', Bool.and_eq_true, Bool.or_eq_true, Bool.or_eq_false_iff, Bool.not_not, Bool.and_eq_false_iff] at hc42
        refine C_skip ?_
        refine C_region ?_
        refine O_p v5 (r_mv hT21) ?_
        refine O_p (.i .u32 (hs2.getD i 0)) (r_mv rfl) ?_
        refine O_p (.i .u16 (IntKind.u16.wrap (hs2.getD i 0))) (r_cint rfl) ?_
        refine O_p (.i .u32 (hs2.getD i 0)) (r_mv rfl) ?_
        refine O_p (.i .u16 (IntKind.u16.wrap (hs2.getD i 0))) (r_cint rfl) ?_
        refine O_p (.agg [(.i .u16 (IntKind.u16.wrap (hs2.getD i 0))), (.i .u16 (IntKind.u16.wrap (hs2.getD i 0)))]) (r_build rfl) ?_
        refine O_bslice (c := [(.i .u16 (IntKind.u16.wrap (hs2.getD i 0))), (.i .u16 (IntKind.u16.wrap (hs2.getD i 0)))]) rfl fun n69 H70 hN71 => ?_
        have hH72 := hH22.new hN71
        refine O_qh (by exact r_appq (n := od.length) (k := 1) (new := [(.i .u16 (IntKind.u16.wrap (hs2.getD i 0))), (.i .u16 (IntKind.u16.wrap (hs2.getD i 0)))]) hH72.top2 hp14 rfl rfl rfl (src_blk hH72.get0 (by rfl)) rfl (by decide) (by decide) (rw2_len od) (by first | omega | (simp only [List.length_take, List.length_drop, List.length_append, List.length_cons, List.length_nil, beN_len] <;> omega))) fun o73 H74 hA76 => ?_
        obtain ⟨c75, hA76, hH77⟩ := hA76
        refine O_p o73 (r_mv rfl) ?_
        refine O_nil ?_
        refine C_region ?_
        refine O_p (.i .i64 ((((i : Nat)) : Int) + 1)) (by exact (r_addi hT20 rfl (wrap_i64 (by omega) (by omega)))) ?_
        refine O_p (.i .i64 ((((i : Nat)) : Int) + 1)) (r_mv rfl) ?_
        refine O_nil ?_
        have hH78 := (hH77.sub1)
        have hH79 := (hH78.top1)
        exact ⟨(hs2.length - (i + 1)), by omega, (i + 1), (runS od (hs2.getD i 0)), o73, c75, ch, rfl, by omega, hp13, by unfold runS; rw [if_neg hj, ← rw2_app]; exact hA76, by rw [hp15, ← runs_take (by omega)], fun h9 => absurd h9 runS_ne, by unfold runS; rw [if_neg hj, List.length_append]; simp only [List.length_cons, List.length_nil]; omega, hH79, hT18, hT19, rfl, rfl⟩
    ·
      have hj : ¬ runJ od (hs2.getD i 0) = true := by unfold runJ; rw [decide_eq_false hne]; simp
      refine C_region ?_
      refine O_p v5 (r_mv hT21) ?_
      refine O_p (.i .i64 (((od.length : Nat)) : Int)) (by exact (by exact r_lenOf rfl (hp14.lenOf (rw2_len od) (by decide)) hp14.isSl)) ?_
      refine O_p (.i .i64 ((((od.length : Nat)) : Int) - 1)) (by exact (r_subi rfl rfl (wrap_i64 (by omega) (by omega)))) ?_
      refine O_p (.i .i64 ((((od.length : Nat)) : Int) - 1)) (r_mv rfl) ?_
      refine O_nil ?_
      refine C_seq ?_
      refine C_region ?_
      refine O_p (.i .i64 ((((od.length : Nat)) : Int) - 1)) (r_mv rfl) ?_
      refine O_p (.b false) (by exact (by rw [r_geq rfl rfl, decide_eq_false (by omega)])) ?_
      refine O_p (.b false) (r_mv rfl) ?_
      refine O_gf rfl ?_
      refine O_gf rfl ?_
      refine O_gf rfl ?_
      refine O_gf rfl ?_
      refine O_gf rfl ?_
      refine O_gf rfl ?_
      refine O_gf rfl ?_
      refine O_gf rfl ?_
      refine O_gf rfl ?_
      refine O_p (.b false) (r_pick_f rfl rfl) ?_
      refine O_nil ?_
      refine C_cond (x := false) rfl (fun h => by cases h) (fun _ => ?_)
      refine C_skip ?_
      refine C_region ?_
      refine O_p v5 (r_mv hT21) ?_
      refine O_p (.i .u32 (hs2.getD i 0)) (r_mv rfl) ?_
      refine O_p (.i .u16 (IntKind.u16.wrap (hs2.getD i 0))) (r_cint rfl) ?_
      refine O_p (.i .u32 (hs2.getD i 0)) (r_mv rfl) ?_
      refine O_p (.i .u16 (IntKind.u16.wrap (hs2.getD i 0))) (r_cint rfl) ?_
      refine O_p (.agg [(.i .u16 (IntKind.u16.wrap (hs2.getD i 0))), (.i .u16 (IntKind.u16.wrap (hs2.getD i 0)))]) (r_build rfl) ?_
      refine O_bslice (c := [(.i .u16 (IntKind.u16.wrap (hs2.getD i 0))), (.i .u16 (IntKind.u16.wrap (hs2.getD i 0)))]) rfl fun n80 H81 hN82 => ?_
      have hH83 := hH22.new hN82
      refine O_qh (by exact r_appq (n := od.length) (k := 1) (new := [(.i .u16 (IntKind.u16.wrap (hs2.getD i 0))), (.i .u16 (IntKind.u16.wrap (hs2.getD i 0)))]) hH83.top2 hp14 rfl rfl rfl (src_blk hH83.get0 (by rfl)) rfl (by decide) (by decide) (rw2_len od) (by first | omega | (simp only [List.length_take, List.length_drop, List.length_append, List.length_cons, List.length_nil, beN_len] <;> omega))) fun o84 H85 hA87 => ?_
      obtain ⟨c86, hA87, hH88⟩ := hA87
      refine O_p o84 (r_mv rfl) ?_
      refine O_nil ?_
      refine C_region ?_
      refine O_p (.i .i64 ((((i : Nat)) : Int) + 1)) (by exact (r_addi hT20 rfl (wrap_i64 (by omega) (by omega)))) ?_
      refine O_p (.i .i64 ((((i : Nat)) : Int) + 1)) (r_mv rfl) ?_
      refine O_nil ?_
      have hH89 := (hH88.sub1)
      have hH90 := (hH89.top1)
      exact ⟨(hs2.length - (i + 1)), by omega, (i + 1), (runS od (hs2.getD i 0)), o84, c86, ch, rfl, by omega, hp13, by unfold runS; rw [if_neg hj, ← rw2_app]; exact hA87, by rw [hp15, ← runs_take (by omega)], fun h9 => absurd h9 runS_ne, by unfold runS; rw [if_neg hj, List.length_append]; simp only [List.length_cons, List.length_nil]; omega, hH90, hT18, hT19, rfl, rfl⟩
  ·
    try simp only [decide_eq_true_eq, decide_eq_false_iff_not, Bool.not_eq_true', Bool.not_eq_false', Bool.and_eq_true, Bool.or_eq_true, Bool.or_eq_false_iff, Bool.not_not, Bool.and_eq_false_iff] at hc23
    refine C_exit ?_
    refine nx_exit ?_
    refine nx_exit ?_
    refine bk_hit ?_
    refine C_seq ?_
    refine C_region ?_
    refine O_p v5 (r_mv hT21) ?_
    refine O_p v5 (r_mv hT21) ?_
    refine O_p (.i .i64 (((od.length : Nat)) : Int)) (by exact (by exact r_lenOf rfl (hp14.lenOf (rw2_len od) (by decide)) hp14.isSl)) ?_
    refine O_p (.i .i64 ((((min od.length 64) : Nat)) : Int)) (r_minn (a := od.length) (b := 64) rfl rfl) ?_
    refine O_q (by exact Sq.pre hp14 (by decide) rfl (j := (min od.length 64)) rfl (by rw [(rw2_len od)]; omega)) fun v92 hv91 => ?_
    refine O_p v92 (r_mv rfl) ?_
    refine O_nil ?_
    refine C_ret ?_
    have hH93 := (hH22.sub0)
    obtain ⟨hw1, hw2, hw3⟩ := hv91
    obtain rfl : i = hs2.length := by omega
    rw [List.take_length] at hp15
    exact ⟨rfl, v92, c5, rfl, by rw [rw2_take, take_min, hp15] at hw1; exact hw1, fun h9 => hw3 (hp16 (hp15.trans h9)), by rw [hw2]; exact hH93⟩
end Go.Proofs.Ytjheedfobmlalaa.E
