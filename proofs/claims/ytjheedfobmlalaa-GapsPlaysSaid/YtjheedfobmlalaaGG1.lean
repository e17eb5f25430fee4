/- The set: small functions. It bears no condition. -/
import Derived.Test.YtjheedfobmlalaaE49
import Derived.Test.YtjheedfobmlalaaE41
import Derived.Test.YtjheedfobmlalaaX
import Derived.Test.YtjheedfobmlalaaE37
import Derived.Sort.AssemblyPlain
namespace Go.Proofs.Ytjheedfobmlalaa.E

set_option linter.unusedVariables false
set_option linter.unusedSimpArgs false
theorem globals0 : Try.prog.globals.size = 0 := by kernel_rfl
theorem mixed : Try.prog.follows .mixedOrders = true := by kernel_rfl
theorem laid : laidOutB Try.prog = true := by kernel_rfl
/-- The functions, but those that go through a map. -/
def tabS : Nat → Option XFun := fun g => match g with
  | 15 => none
  | 34 => none
  | g => tab g
theorem tabS_ok : TabOK Try.prog tabS := by
  intro g F h
  unfold tabS at h
  split at h
  · cases h
  · cases h
  · exact tab_ok _ _ h
def spS := noSp
theorem spS_ok : SpOK Try.prog tabS spS := noSp_ok
abbrev u1 (x : Int) : List AV := [AV.i .u32 x]
abbrev lU (d : List Int) : List AV := (d.map u1).flatten
theorem lU_len (d : List Int) : (lU d).length = d.length * 1 := (flat_len (fun r hr => by obtain ⟨x, _, rfl⟩ := List.mem_map.1 hr; rfl)).trans (by rw [List.length_map])
theorem lU_app (d : List Int) (x : Int) : lU d ++ [AV.i .u32 x] = lU (d ++ [x]) := by simp [lU]
/-! ### The set -/
def dst (c n : Int) : Int := IntKind.u32.wrap (n - c)
def blw (c n : Int) : Bool := decide (dst c n = 0) || decide (2147483648 ≤ dst c n)
def nxt (c : Int) : Int := IntKind.u32.wrap (c + 1)
structure Gp where
  c : Int
  l : List Int
  d : List Int
def Gp.has (s : Gp) (n : Int) : Bool := blw s.c n || decide (n ∈ s.l)
theorem udel_lt {l : List Int} {k : Int} (h : k ∈ l) : (udel l k).length < l.length := by
  unfold udel
  have := List.length_filter_lt_length_iff_exists (p := fun x => decide (x ≠ k)) (l := l)
  exact this.2 ⟨k, h, by simp⟩
def climbF (c : Int) (l : List Int) : Int × List Int := if h : nxt c ∈ l then climbF (nxt c) (udel l (nxt c)) else (c, l)
termination_by l.length
decreasing_by exact udel_lt h
theorem climbF_step {c : Int} {l : List Int} (h : nxt c ∈ l) : climbF c l = climbF (nxt c) (udel l (nxt c)) := by rw [climbF, dif_pos h]
theorem climbF_stop {c : Int} {l : List Int} (h : nxt c ∉ l) : climbF c l = (c, l) := by rw [climbF, dif_neg h]
def Gp.climb (s : Gp) : Gp := ⟨(climbF s.c s.l).1, (climbF s.c s.l).2, s.d⟩
def Gp.add (s : Gp) (n : Int) : Gp := if s.has n = true then (if s.d.length < 64 then ⟨s.c, s.l, s.d ++ [n]⟩ else s) else if 1024 < dst s.c n then s else Gp.climb ⟨s.c, uadd s.l n, s.d⟩
def Gp.told (s : Gp) (n : Int) : Int := if s.has n = true then 1 else if 1024 < dst s.c n then 2 else 0
def Gp.fwd (s : Gp) (n : Int) : Gp := if blw s.c n = true then s else Gp.climb ⟨n, s.l.filter (fun k => !blw n k), s.d⟩
/-- The set's blocks. -/
def GpH (s : Gp) (a : Nat) (S : HL) : Prop := ∃ m mb dv dc, Ub s.l mb ∧ Sq 1 dv dc (lU s.d) ∧ S = [(a, some (.cells [.i .u32 s.c, .m (some m), dv] true))] ++ ([(m, some mb)] ++ qseg dv dc)
theorem Hs.unc {H : AH} {A B K R : HL} (h : Hs H (A ++ (B ++ (K ++ R)))) : Hs H ((A ++ (B ++ K)) ++ R) := by simpa only [List.append_assoc] using h
theorem dist_ev {H : AH} {R : HL} {x y : Int} (hH0 : Hs H R) : Ev tabS spS (.fn (.func 17) [] []) [.i .u32 x, .i .u32 y] H (fun r H' => r = .i .u32 (dst x y) ∧ Hs H' R) := by
  refine Ev_C (F := x17) rfl ?_
  refine C_seq ?_
  refine C_region ?_
  refine O_p (.i .u32 0) (r_mv rfl) ?_
  refine O_nil ?_
  refine C_seq ?_
  refine C_region ?_
  refine O_p (.i .u32 y) (r_mv rfl) ?_
  refine O_p (.i .u32 x) (r_mv rfl) ?_
  refine O_p (.i .u32 (dst x y)) (r_bin rfl rfl rfl) ?_
  refine O_p (.i .u32 (dst x y)) (r_mv rfl) ?_
  refine O_nil ?_
  refine C_ret ?_
  exact ⟨.inr rfl, _, resL_one (r_tmp (v := (.i .u32 (dst x y))) rfl), rfl, hH0⟩
theorem below_ev {H : AH} {R : HL} {a : Nat} {c n : Int} {x1 x2 : AV} (hH0 : Hs H ([(a, some (.cells [.i .u32 c, x1, x2] true))] ++ R)) : Ev tabS spS (.fn (.func 30) [] []) [.p (some (a, 0)), .i .u32 n] H (fun r H' => r = .b (blw c n) ∧ Hs H' ([(a, some (.cells [.i .u32 c, x1, x2] true))] ++ R)) := by
  refine Ev_C (F := x30) rfl ?_
  refine C_seq ?_
  refine C_region ?_
  refine O_p (.b false) (r_mv rfl) ?_
  refine O_nil ?_
  refine C_seq ?_
  refine C_region ?_
  refine O_p (.p (some (a, 0))) (r_mv rfl) ?_
  refine O_p (.p (some (a, 0))) (r_nilc rfl) ?_
  refine O_p (.p (some (a, 0))) (r_fadd' rfl rfl) ?_
  refine O_p (.i .u32 c) (r_ld rfl hH0.get0 rfl) ?_
  refine O_p (.i .u32 n) (r_mv rfl) ?_
  refine O_call (Ev.mono (dist_ev (x := c) (y := n) hH0) fun v1 H2 hq3 => ?_)
  obtain ⟨rfl, hH4⟩ := hq3
  refine O_p (.i .u32 (dst c n)) (r_mv rfl) ?_
  refine O_nil ?_
  refine C_seq ?_
  refine C_region ?_
  refine O_p (.i .u32 (dst c n)) (r_mv rfl) ?_
  refine O_p (.b (decide ((dst c n) = 0))) (r_eql rfl rfl) ?_
  refine O_p (.b (decide ((dst c n) = 0))) (r_mv rfl) ?_
  refine O_gx (e := (!(decide ((dst c n) = 0)))) (v := (.i .u32 (dst c n))) (wf rfl) (fun he => (r_mv rfl)) ?_
  refine O_gx (e := (!(decide ((dst c n) = 0)))) (v := (.b (decide (2147483648 ≤ (dst c n))))) (wf rfl) (fun he => (r_geq (cond_pos he) rfl)) ?_
  refine O_p (.b ((decide ((dst c n) = 0)) || (decide (2147483648 ≤ (dst c n))))) (r_pick_or rfl rfl rfl rfl) ?_
  refine O_p (.b ((decide ((dst c n) = 0)) || (decide (2147483648 ≤ (dst c n))))) (r_mv rfl) ?_
  refine O_nil ?_
  refine C_ret ?_
  exact ⟨.inr rfl, _, resL_one (r_tmp (v := (.b ((decide ((dst c n) = 0)) || (decide (2147483648 ≤ (dst c n)))))) rfl), by unfold blw; cases h9 : decide (dst c n = 0) <;> simp [h9, resV], hH4⟩
theorem clos_ev {H : AH} {R : HL} {a bx : Nat} {c n : Int} {x1 x2 y : AV} (hH0 : Hs H ([(bx, some (.cells [.p (some (a, 0))] true))] ++ ([(a, some (.cells [.i .u32 c, x1, x2] true))] ++ R))) : Ev tabS spS (.fn (.func 35) [] [.p (some (bx, 0))]) [.i .u32 n, y] H (fun r H' => r = .b (blw c n) ∧ Hs H' ([(bx, some (.cells [.p (some (a, 0))] true))] ++ ([(a, some (.cells [.i .u32 c, x1, x2] true))] ++ R))) := by
  refine Ev_C (F := x35) rfl ?_
  refine C_seq ?_
  refine C_region ?_
  refine O_p (.b false) (r_mv rfl) ?_
  refine O_nil ?_
  refine C_seq ?_
  refine C_region ?_
  refine O_p (.p (some (a, 0))) (r_ld rfl hH0.get0 rfl) ?_
  refine O_p (.i .u32 n) (r_mv rfl) ?_
  have hH1 := (hH0.top1)
  refine O_call (Ev.mono (below_ev (n := n) hH1) fun v2 H3 hq4 => ?_)
  obtain ⟨rfl, hH5⟩ := hq4
  refine O_p (.b (blw c n)) (r_mv rfl) ?_
  refine O_nil ?_
  refine C_ret ?_
  have hH6 := (hH5.top1)
  exact ⟨.inr rfl, _, resL_one (r_tmp (v := (.b (blw c n))) rfl), rfl, hH6⟩
theorem has0_ev {H : AH} {R : HL} {a m : Nat} {c : Int} {l : List Int} {x : AV} {mb : Blk} {n : Int} (hb : Ub l mb) (hH0 : Hs H ([(a, some (.cells [.i .u32 c, .m (some m), x] true))] ++ ([(m, some mb)] ++ R))) : Ev tabS spS (.fn (.func 12) [] []) [.p (some (a, 0)), .i .u32 n] H (fun r H' => r = .b (blw c n || decide (n ∈ l)) ∧ Hs H' ([(a, some (.cells [.i .u32 c, .m (some m), x] true))] ++ ([(m, some mb)] ++ R))) := by
  refine Ev_C (F := x12) rfl ?_
  refine C_seq ?_
  refine C_region ?_
  refine O_p (.b false) (r_mv rfl) ?_
  refine O_nil ?_
  refine C_seq ?_
  refine C_region ?_
  refine O_p (.p (some (a, 0))) (r_mv rfl) ?_
  refine O_p (.b true) (r_nilq_s rfl) ?_
  refine O_p (.b true) (r_mv rfl) ?_
  refine O_gk rfl ?_
  refine O_p (.p (some (a, 0))) (r_mv rfl) ?_
  refine O_gk rfl ?_
  refine O_p (.i .u32 n) (r_mv rfl) ?_
  refine O_gk rfl ?_
  refine O_call (Ev.mono (below_ev (n := n) hH0) fun v1 H2 hq3 => ?_)
  obtain ⟨rfl, hH4⟩ := hq3
  refine O_gk rfl ?_
  refine O_p (.b (blw c n)) (r_mv rfl) ?_
  refine O_gx (e := (!(blw c n))) (v := (.p (some (a, 0)))) (wf rfl) (fun he => (r_mv rfl)) ?_
  refine O_gx (e := (!(blw c n))) (v := (.p (some (a, 0)))) (wf rfl) (fun he => (r_nilc (cond_pos he))) ?_
  refine O_gx (e := (!(blw c n))) (v := (.p (some (a, 1)))) (wf rfl) (fun he => (r_fadd' (cond_pos he) rfl)) ?_
  refine O_gx (e := (!(blw c n))) (v := (.m (some m))) (wf rfl) (fun he => (r_ld (cond_pos he) hH4.get0 rfl)) ?_
  refine O_gx (e := (!(blw c n))) (v := (.i .u32 n)) (wf rfl) (fun he => (r_mv rfl)) ?_
  refine O_gx (e := (!(blw c n))) (v := (.b (decide (n ∈ l)))) (wf rfl) (fun he => (r_uget (l := l) (k := n) hH4.get1 hb (cond_pos he) (cond_pos he))) ?_
  refine O_gk rfl ?_
  refine O_p (.b ((blw c n) || (decide (n ∈ l)))) (r_pick_or rfl rfl rfl rfl) ?_
  refine O_p (.b ((blw c n) || (decide (n ∈ l)))) (r_pick_t rfl rfl) ?_
  refine O_p (.b ((blw c n) || (decide (n ∈ l)))) (r_mv rfl) ?_
  refine O_nil ?_
  refine C_ret ?_
  have hH5 := ((hH4.top1).top1)
  exact ⟨.inr rfl, _, resL_one (r_tmp (v := (.b ((blw c n) || (decide (n ∈ l))))) rfl), by cases h9 : blw c n <;> simp [h9, resV], hH5⟩
theorem climb0_ev {H : AH} {R : HL} {a m : Nat} {c : Int} {l : List Int} {x : AV} {mb : Blk} (hb : Ub l mb) (hH0 : Hs H ([(a, some (.cells [.i .u32 c, .m (some m), x] true))] ++ ([(m, some mb)] ++ R))) : Ev tabS spS (.fn (.func 29) [] []) [.p (some (a, 0))] H (fun r H' => r = .tup [] ∧ ∃ mb', Ub (climbF c l).2 mb' ∧ Hs H' ([(a, some (.cells [.i .u32 (climbF c l).1, .m (some m), x] true))] ++ ([(m, some mb')] ++ R))) := by
  refine Ev_C (F := x29) rfl ?_
  refine C_while (fun m1 T2 H3 => ∃ c1 : Int, ∃ l1 : List Int, ∃ b1 : Go.Proofs.Ytjheedfobmlalaa.E.Blk, m1 = l1.length ∧ Ub l1 b1 ∧ climbF c1 l1 = climbF c l ∧ Hs H3 ([(a, some (.cells ([(.i .u32 c1), (.m (some m)), x]) true))] ++ ([(m, some b1)] ++ (R))) ∧ T2.get 0 = (.p (some (a, 0)))) (fun m1 T2 H3 hI4 => ?_) l.length _ _ ⟨c, l, mb, rfl, hb, rfl, hH0, rfl⟩
  obtain ⟨c1, l1, b1, hm5, hp6, hp7, hH9, hT8⟩ := hI4
  refine C_seq ?_
  refine C_seq ?_
  refine C_draw fun b10 H11 hbase12 hA13 => ?_
  have hH14 := hH9.keep (by have := hA13.1; omega) (fun q _ => hA13.2 q) ((hH9.old).aside hA13).ok
  refine D_l (v := (.p (some (a, 0)))) rfl rfl rfl (r_mv hT8) ?_
  refine D_l (v := (.p (some (a, 0)))) rfl rfl rfl (r_nilc rfl) ?_
  refine D_l (v := (.p (some (a, 1)))) rfl rfl rfl (r_fadd' rfl rfl) ?_
  refine D_l (v := (.p (some (a, 0)))) rfl rfl rfl (r_mv hT8) ?_
  refine D_l (v := (.p (some (a, 0)))) rfl rfl rfl (r_nilc rfl) ?_
  refine D_l (v := (.p (some (a, 0)))) rfl rfl rfl (r_fadd' rfl rfl) ?_
  refine D_r (v := (.m (some m))) rfl rfl rfl (r_ld rfl hH14.get0 rfl) ?_
  refine D_r (v := (.i .u32 c1)) rfl rfl rfl (r_ld rfl hH14.get0 rfl) ?_
  refine D_l (v := (.i .u32 (nxt c1))) rfl rfl rfl (r_bin rfl rfl rfl) ?_
  refine D_r (v := (.b (decide ((nxt c1) ∈ l1)))) rfl rfl rfl (r_uget (l := l1) (k := (nxt c1)) hH14.get1 hp6 rfl rfl) ?_
  refine D_l (v := (.b (!(decide ((nxt c1) ∈ l1))))) rfl rfl rfl (r_not rfl) ?_
  refine D_nil ?_
  refine C_cond (x := (!(decide ((nxt c1) ∈ l1)))) rfl (fun hc15 => ?_) (fun hc15 => ?_)
  ·
    try simp only [decide_eq_true_eq, decide_eq_false_iff_not, Bool.not_eq_true', Bool.not_eq_false', Bool.and_eq_true, Bool.or_eq_true, Bool.or_eq_false_iff, Bool.not_not, Bool.and_eq_false_iff] at hc15
    have hout : nxt c1 ∉ l1 := hc15
    refine C_ret ?_
    refine nx_ret ?_
    refine nx_ret ?_
    have hH16 := ((hH14.top1).top1)
    exact ⟨.inr rfl, [], rfl, rfl, b1, by rw [← hp7, climbF_stop hout]; exact hp6, by rw [← hp7, climbF_stop hout]; exact hH16⟩
  ·
    try simp only [decide_eq_true_eq, decide_eq_false_iff_not, Bool.not_eq_true', Bool.not_eq_false', Bool.and_eq_true, Bool.or_eq_true, Bool.or_eq_false_iff, Bool.not_not, Bool.and_eq_false_iff] at hc15
    have hin : nxt c1 ∈ l1 := hc15
    have hlt := udel_lt hin
    refine C_skip ?_
    refine C_seq ?_
    refine C_region ?_
    refine O_p (.p (some (a, 0))) (r_mv hT8) ?_
    refine O_p (.p (some (a, 0))) (r_nilc rfl) ?_
    refine O_p (.p (some (a, 0))) (r_fadd' rfl rfl) ?_
    refine O_p (.i .u32 c1) (r_ld rfl hH14.get0 rfl) ?_
    refine O_p (.i .u32 (nxt c1)) (r_bin rfl rfl rfl) ?_
    refine O_p (.p (some (a, 0))) (r_nilc rfl) ?_
    refine O_p (.p (some (a, 0))) (r_fadd' rfl rfl) ?_
    refine O_store (vs := [(.i .u32 (nxt c1))]) (c' := [(.i .u32 (nxt c1)), (.m (some m)), x]) rfl (by rfl) hH14.get0 rfl (List.cons_ne_nil _ _) (Nat.le_of_ble_eq_true rfl) rfl fun H17 hW18 => ?_
    have hH19 := hH14.wr0 hW18
    refine O_nil ?_
    refine C_seq ?_
    refine C_draw fun b20 H21 hbase22 hA23 => ?_
    have hH24 := hH19.keep (by have := hA23.1; omega) (fun q _ => hA23.2 q) ((hH19.old).aside hA23).ok
    refine D_l (v := (.p (some (a, 0)))) rfl rfl rfl (r_mv hT8) ?_
    refine D_l (v := (.p (some (a, 0)))) rfl rfl rfl (r_nilc rfl) ?_
    refine D_l (v := (.p (some (a, 1)))) rfl rfl rfl (r_fadd' rfl rfl) ?_
    refine D_l (v := (.p (some (a, 0)))) rfl rfl rfl (r_mv hT8) ?_
    refine D_l (v := (.p (some (a, 0)))) rfl rfl rfl (r_nilc rfl) ?_
    refine D_l (v := (.p (some (a, 0)))) rfl rfl rfl (r_fadd' rfl rfl) ?_
    refine D_r (v := (.m (some m))) rfl rfl rfl (r_ld rfl hH24.get0 rfl) ?_
    refine D_r (v := (.i .u32 (nxt c1))) rfl rfl rfl (r_ld rfl hH24.get0 rfl) ?_
    refine D_nh rfl rfl (by exact r_udel (k := (nxt c1)) hH24.top1 hp6 rfl rfl) fun H25 hA26 => ?_
    obtain ⟨bm27, hMb28, hH29⟩ := hA26
    refine And.intro (And.intro (Or.inl rfl) (And.intro (Or.inl rfl) True.intro)) ?_
    refine D_nil ?_
    refine C_skip ?_
    have hH30 := (hH29.top1)
    exact ⟨(udel l1 (nxt c1)).length, by omega, (nxt c1), (udel l1 (nxt c1)), bm27, rfl, hMb28, by rw [← hp7, climbF_step hin], hH30, hT8⟩
theorem add_ev {H : AH} {R : HL} {s : Gp} {a : Nat} {S : HL} {n : Int} (hG : GpH s a S) (hH0 : Hs H (S ++ R)) (hln : s.d.length ≤ 64) : Ev tabS spS (.fn (.func 11) [] []) [.p (some (a, 0)), .i .u32 n] H (fun r H' => r = .i .i64 (s.told n) ∧ ∃ S', GpH (s.add n) a S' ∧ Hs H' (S' ++ R)) := by
  obtain ⟨m, mb, dv, dc, hb, hd, rfl⟩ := hG
  obtain ⟨c, l, dl⟩ := s
  simp only at hb hd
  replace hH0 := hH0.assoc
  replace hH0 := hH0.assoc1
  simp only at hln
  refine Ev_C (F := x11) rfl ?_
  refine C_seq ?_
  refine C_region ?_
  refine O_p (.i .i64 0) (r_mv rfl) ?_
  refine O_nil ?_
  refine C_seq ?_
  refine C_block ?_
  refine C_seq ?_
  refine C_region ?_
  refine O_p (.p (some (a, 0))) (r_mv rfl) ?_
  refine O_p (.b false) (r_nilq_s rfl) ?_
  refine O_p (.b false) (r_mv rfl) ?_
  refine O_nil ?_
  refine C_cond (x := false) rfl (fun h => by cases h) (fun _ => ?_)
  refine C_seq ?_
  refine C_region ?_
  refine O_p (.p (some (a, 0))) (r_mv rfl) ?_
  refine O_p (.i .u32 n) (r_mv rfl) ?_
  have hH1 := ((hH0.top1).top1)
  refine O_call (Ev.mono (has0_ev (n := n) hb hH1) fun v2 H3 hq4 => ?_)
  obtain ⟨rfl, hH5⟩ := hq4
  refine O_p (.b (blw c n || decide (n ∈ l))) (r_mv rfl) ?_
  refine O_nil ?_
  refine C_cond (x := (blw c n || decide (n ∈ l))) rfl (fun hc6 => ?_) (fun hc6 => ?_)
  ·
    have hr7 := hc6
    try simp only [decide_eq_true_eq, decide_eq_false_iff_not, Bool.not_eq_true', Bool.not_eq_false', Bool.and_eq_true, Bool.or_eq_true, Bool.or_eq_false_iff, Bool.not_not, Bool.and_eq_false_iff] at hc6
    have hhas : Gp.has ⟨c, l, dl⟩ n = true := hr7
    refine C_seq ?_
    refine C_seq ?_
    refine C_region ?_
    refine O_p (.p (some (a, 0))) (r_mv rfl) ?_
    refine O_p (.p (some (a, 0))) (r_nilc rfl) ?_
    refine O_p (.p (some (a, 2))) (r_fadd' rfl rfl) ?_
    refine O_p dv (r_ld rfl hH5.get0 rfl) ?_
    refine O_p (.i .i64 (((dl.length : Nat)) : Int)) (by exact (by exact r_lenOf rfl (hd.lenOf (lU_len dl) (by decide)) hd.isSl)) ?_
    refine O_p (.b (decide ((((dl.length : Nat)) : Int) < 64))) (r_lss rfl rfl) ?_
    refine O_nil ?_
    refine C_cond (x := (decide ((((dl.length : Nat)) : Int) < 64))) rfl (fun hc8 => ?_) (fun hc8 => ?_)
    ·
      have hr9 := hc8
      try simp only [decide_eq_true_eq, decide_eq_false_iff_not, Bool.not_eq_true', Bool.not_eq_false', Bool.and_eq_true, Bool.or_eq_true, Bool.or_eq_false_iff, Bool.not_not, Bool.and_eq_false_iff] at hc8
      have hroom : dl.length < 64 := by omega
      refine C_region ?_
      refine O_p (.p (some (a, 0))) (r_mv rfl) ?_
      refine O_p (.p (some (a, 0))) (r_mv rfl) ?_
      refine O_p (.p (some (a, 0))) (r_nilc rfl) ?_
      refine O_p (.p (some (a, 2))) (r_fadd' rfl rfl) ?_
      refine O_p dv (r_ld rfl hH5.get0 rfl) ?_
      refine O_p (.i .u32 n) (r_mv rfl) ?_
      refine O_bslice (c := [(.i .u32 n)]) rfl fun n10 H11 hN12 => ?_
      have hH13 := hH5.new hN12
      refine O_qh (by exact r_appq (n := dl.length) (k := 1) (new := [(.i .u32 n)]) hH13.top3 hd rfl rfl rfl (src_blk hH13.get0 (by rfl)) rfl (by decide) (by decide) (lU_len dl) (by first | omega | (simp only [List.length_take, List.length_drop, List.length_append, List.length_cons, List.length_nil, beN_len] <;> omega))) fun o14 H15 hA17 => ?_
      obtain ⟨c16, hA17, hH18⟩ := hA17
      obtain ⟨qa19, ql20, qc21, qg22, rfl⟩ := hA17.isSl
      refine O_p (.p (some (a, 0))) (r_nilc rfl) ?_
      refine O_p (.p (some (a, 2))) (r_fadd' rfl rfl) ?_
      refine O_store (vs := [(.sl qa19 ql20 qc21 qg22)]) (c' := [(.i .u32 c), (.m (some m)), (.sl qa19 ql20 qc21 qg22)]) rfl (by rfl) hH18.get2 rfl (List.cons_ne_nil _ _) (Nat.le_of_ble_eq_true rfl) rfl fun H23 hW24 => ?_
      have hH25 := hH18.wr2 hW24
      refine O_nil ?_
      refine C_seq ?_
      refine C_region ?_
      refine O_p (.i .i64 1) (r_mv rfl) ?_
      refine O_nil ?_
      refine C_ret ?_
      refine bk_ret ?_
      refine nx_ret ?_
      have hH26 := (hH25.sub1)
      have hH27 := ((hH26.top2).top2)
      have hst : Gp.add ⟨c, l, dl⟩ n = ⟨c, l, dl ++ [n]⟩ := by unfold Gp.add; rw [if_pos hhas, if_pos hroom]
      rw [hst]
      exact ⟨.inr rfl, _, resL_one (r_tmp (v := (.i .i64 1)) rfl), by unfold Gp.told; rw [if_pos hhas]; rfl, _, ⟨m, _, _, _, hb, by rw [← lU_app]; exact hA17, rfl⟩, Hs.unc hH27⟩
    ·
      have hr28 := hc8
      try simp only [decide_eq_true_eq, decide_eq_false_iff_not, Bool.not_eq_true', Bool.not_eq_false', Bool.and_eq_true, Bool.or_eq_true, Bool.or_eq_false_iff, Bool.not_not, Bool.and_eq_false_iff] at hc8
      have hroom : ¬ dl.length < 64 := by omega
      refine C_skip ?_
      refine C_seq ?_
      refine C_region ?_
      refine O_p (.i .i64 1) (r_mv rfl) ?_
      refine O_nil ?_
      refine C_ret ?_
      refine bk_ret ?_
      refine nx_ret ?_
      have hH29 := (((hH5.top2).top2).top2)
      have hst : Gp.add ⟨c, l, dl⟩ n = ⟨c, l, dl⟩ := by unfold Gp.add; rw [if_pos hhas, if_neg hroom]
      rw [hst]
      exact ⟨.inr rfl, _, resL_one (r_tmp (v := (.i .i64 1)) rfl), by unfold Gp.told; rw [if_pos hhas]; rfl, _, ⟨m, _, _, _, hb, hd, rfl⟩, Hs.unc hH29⟩
  ·
    have hr30 := hc6
    try simp only [decide_eq_true_eq, decide_eq_false_iff_not, Bool.not_eq_true', Bool.not_eq_false', Bool.and_eq_true, Bool.or_eq_true, Bool.or_eq_false_iff, Bool.not_not, Bool.and_eq_false_iff] at hc6
    have hhas : Gp.has ⟨c, l, dl⟩ n = false := hr30
    refine C_seq ?_
    refine C_region ?_
    refine O_p (.p (some (a, 0))) (r_mv rfl) ?_
    refine O_p (.p (some (a, 0))) (r_nilc rfl) ?_
    refine O_p (.p (some (a, 0))) (r_fadd' rfl rfl) ?_
    refine O_p (.i .u32 c) (r_ld rfl hH5.get0 rfl) ?_
    refine O_p (.i .u32 n) (r_mv rfl) ?_
    refine O_call (Ev.mono (dist_ev (x := c) (y := n) hH5) fun v31 H32 hq33 => ?_)
    obtain ⟨rfl, hH34⟩ := hq33
    refine O_p (.b (decide (1024 < (dst c n)))) (r_gtr rfl rfl) ?_
    refine O_p (.b (decide (1024 < (dst c n)))) (r_mv rfl) ?_
    refine O_nil ?_
    refine C_cond (x := (decide (1024 < (dst c n)))) rfl (fun hc35 => ?_) (fun hc35 => ?_)
    ·
      have hr36 := hc35
      try simp only [decide_eq_true_eq, decide_eq_false_iff_not, Bool.not_eq_true', Bool.not_eq_false', Bool.and_eq_true, Bool.or_eq_true, Bool.or_eq_false_iff, Bool.not_not, Bool.and_eq_false_iff] at hc35
      have hfar : 1024 < dst c n := hc35
      refine C_seq ?_
      refine C_region ?_
      refine O_p (.i .i64 2) (r_mv rfl) ?_
      refine O_nil ?_
      refine C_ret ?_
      refine bk_ret ?_
      refine nx_ret ?_
      have hH37 := (((hH34.top2).top2).top2)
      have hst : Gp.add ⟨c, l, dl⟩ n = ⟨c, l, dl⟩ := by unfold Gp.add; rw [if_neg (by rw [hhas]; decide), if_pos hfar]
      rw [hst]
      exact ⟨.inr rfl, _, resL_one (r_tmp (v := (.i .i64 2)) rfl), by unfold Gp.told; rw [if_neg (by rw [hhas]; decide), if_pos hfar]; rfl, _, ⟨m, _, _, _, hb, hd, rfl⟩, Hs.unc hH37⟩
    ·
      have hr38 := hc35
      try simp only [decide_eq_true_eq, decide_eq_false_iff_not, Bool.not_eq_true', Bool.not_eq_false', Bool.and_eq_true, Bool.or_eq_true, Bool.or_eq_false_iff, Bool.not_not, Bool.and_eq_false_iff] at hc35
      have hfar : ¬ 1024 < dst c n := hc35
      refine C_skip ?_
      refine C_seq ?_
      refine C_region ?_
      refine O_p (.p (some (a, 0))) (r_mv rfl) ?_
      refine O_p (.p (some (a, 0))) (r_nilc rfl) ?_
      refine O_p (.p (some (a, 1))) (r_fadd' rfl rfl) ?_
      refine O_p (.m (some m)) (r_ld rfl hH34.get0 rfl) ?_
      refine O_p (.i .u32 n) (r_mv rfl) ?_
      refine O_nh (by exact r_uput (k := n) hH34.top1 hb rfl rfl rfl) fun H39 hA40 => ?_
      obtain ⟨bm41, hMb42, hH43⟩ := hA40
      refine O_nil ?_
      refine C_seq ?_
      refine C_region ?_
      refine O_p (.p (some (a, 0))) (r_mv rfl) ?_
      have hH44 := (hH43.top1)
      refine O_call (Ev.mono (climb0_ev hMb42 hH44) fun v45 H46 hq47 => ?_)
      obtain ⟨rfl, bm48, hbm49, hH50⟩ := hq47
      refine O_nil ?_
      refine C_seq ?_
      refine C_region ?_
      refine O_p (.i .i64 0) (r_mv rfl) ?_
      refine O_nil ?_
      refine C_ret ?_
      have hH51 := (((hH50.top2).top2).top2)
      have hst : Gp.add ⟨c, l, dl⟩ n = Gp.climb ⟨c, uadd l n, dl⟩ := by unfold Gp.add; rw [if_neg (by rw [hhas]; decide), if_neg hfar]
      rw [hst]
      exact ⟨.inr rfl, _, resL_one (r_tmp (v := (.i .i64 0)) rfl), by unfold Gp.told; rw [if_neg (by rw [hhas]; decide), if_neg hfar]; rfl, _, ⟨m, _, _, _, hbm49, hd, rfl⟩, Hs.unc hH51⟩
theorem has_ev {H : AH} {R : HL} {s : Gp} {a : Nat} {S : HL} {n : Int} (hG : GpH s a S) (hH0 : Hs H (S ++ R)) : Ev tabS spS (.fn (.func 12) [] []) [.p (some (a, 0)), .i .u32 n] H (fun r H' => r = .b (s.has n) ∧ Hs H' (S ++ R)) := by
  obtain ⟨m, mb, dv, dc, hb, hd, rfl⟩ := hG
  refine Ev.mono (has0_ev (n := n) hb hH0.assoc.assoc1) ?_
  rintro r H' ⟨rfl, h⟩
  exact ⟨rfl, Hs.unc h⟩
theorem cum0_ev {H : AH} {R : HL} {a : Nat} {c : Int} {x1 x2 : AV} (hH0 : Hs H ([(a, some (.cells [.i .u32 c, x1, x2] true))] ++ R)) : Ev tabS spS (.fn (.func 13) [] []) [.p (some (a, 0))] H (fun r H' => r = .i .u32 c ∧ Hs H' ([(a, some (.cells [.i .u32 c, x1, x2] true))] ++ R)) := by
  refine Ev_C (F := x13) rfl ?_
  refine C_seq ?_
  refine C_region ?_
  refine O_p (.i .u32 0) (r_mv rfl) ?_
  refine O_nil ?_
  refine C_seq ?_
  refine C_seq ?_
  refine C_region ?_
  refine O_p (.p (some (a, 0))) (r_mv rfl) ?_
  refine O_p (.b false) (r_nilq_s rfl) ?_
  refine O_nil ?_
  refine C_cond (x := false) rfl (fun h => by cases h) (fun _ => ?_)
  refine C_skip ?_
  refine C_seq ?_
  refine C_region ?_
  refine O_p (.p (some (a, 0))) (r_mv rfl) ?_
  refine O_p (.p (some (a, 0))) (r_nilc rfl) ?_
  refine O_p (.p (some (a, 0))) (r_fadd' rfl rfl) ?_
  refine O_p (.i .u32 c) (r_ld rfl hH0.get0 rfl) ?_
  refine O_p (.i .u32 c) (r_mv rfl) ?_
  refine O_nil ?_
  refine C_ret ?_
  exact ⟨.inr rfl, _, resL_one (r_tmp (v := (.i .u32 c)) rfl), rfl, hH0⟩
theorem cum_ev {H : AH} {R : HL} {s : Gp} {a : Nat} {S : HL} (hG : GpH s a S) (hH0 : Hs H (S ++ R)) : Ev tabS spS (.fn (.func 13) [] []) [.p (some (a, 0))] H (fun r H' => r = .i .u32 s.c ∧ Hs H' (S ++ R)) := by
  obtain ⟨m, mb, dv, dc, hb, hd, rfl⟩ := hG
  refine Ev.mono (cum0_ev hH0.assoc) ?_
  rintro r H' ⟨rfl, h⟩
  exact ⟨rfl, h.unassoc⟩
theorem len0_ev {H : AH} {R : HL} {a m : Nat} {c : Int} {l : List Int} {x : AV} {mb : Blk} (hb : Ub l mb) (hH0 : Hs H ([(a, some (.cells [.i .u32 c, .m (some m), x] true))] ++ ([(m, some mb)] ++ R))) : Ev tabS spS (.fn (.func 14) [] []) [.p (some (a, 0))] H (fun r H' => r = .i .i64 ((l.length : Nat) : Int) ∧ Hs H' ([(a, some (.cells [.i .u32 c, .m (some m), x] true))] ++ ([(m, some mb)] ++ R))) := by
  refine Ev_C (F := x14) rfl ?_
  refine C_seq ?_
  refine C_region ?_
  refine O_p (.i .i64 0) (r_mv rfl) ?_
  refine O_nil ?_
  refine C_seq ?_
  refine C_seq ?_
  refine C_region ?_
  refine O_p (.p (some (a, 0))) (r_mv rfl) ?_
  refine O_p (.b false) (r_nilq_s rfl) ?_
  refine O_nil ?_
  refine C_cond (x := false) rfl (fun h => by cases h) (fun _ => ?_)
  refine C_skip ?_
  refine C_seq ?_
  refine C_region ?_
  refine O_p (.p (some (a, 0))) (r_mv rfl) ?_
  refine O_p (.p (some (a, 0))) (r_nilc rfl) ?_
  refine O_p (.p (some (a, 1))) (r_fadd' rfl rfl) ?_
  refine O_p (.m (some m)) (r_ld rfl hH0.get0 rfl) ?_
  refine O_p (.i .i64 (((l.length : Nat)) : Int)) (r_ulen hH0.get1 hb rfl) ?_
  refine O_p (.i .i64 (((l.length : Nat)) : Int)) (r_mv rfl) ?_
  refine O_nil ?_
  refine C_ret ?_
  have hH1 := ((hH0.top1).top1)
  exact ⟨.inr rfl, _, resL_one (r_tmp (v := (.i .i64 (((l.length : Nat)) : Int))) rfl), rfl, hH1⟩
theorem len_ev {H : AH} {R : HL} {s : Gp} {a : Nat} {S : HL} (hG : GpH s a S) (hH0 : Hs H (S ++ R)) : Ev tabS spS (.fn (.func 14) [] []) [.p (some (a, 0))] H (fun r H' => r = .i .i64 ((s.l.length : Nat) : Int) ∧ Hs H' (S ++ R)) := by
  obtain ⟨m, mb, dv, dc, hb, hd, rfl⟩ := hG
  refine Ev.mono (len0_ev hb hH0.assoc.assoc1) ?_
  rintro r H' ⟨rfl, h⟩
  exact ⟨rfl, Hs.unc h⟩
theorem dups0_ev {H : AH} {R : HL} {a : Nat} {x0 x1 x2 : AV} (hH0 : Hs H ([(a, some (.cells [x0, x1, x2] true))] ++ R)) (h2 : x2.one = true) : Ev tabS spS (.fn (.func 16) [] []) [.p (some (a, 0))] H (fun r H' => r = x2 ∧ Hs H' ([(a, some (.cells [x0, x1, .sl none 0 0 0] true))] ++ R)) := by
  refine Ev_C (F := x16) rfl ?_
  refine C_seq ?_
  refine C_region ?_
  refine O_p (.sl none 0 0 0) (r_mv rfl) ?_
  refine O_nil ?_
  refine C_seq ?_
  refine C_seq ?_
  refine C_region ?_
  refine O_p (.p (some (a, 0))) (r_mv rfl) ?_
  refine O_p (.b false) (r_nilq_s rfl) ?_
  refine O_nil ?_
  refine C_cond (x := false) rfl (fun h => by cases h) (fun _ => ?_)
  refine C_skip ?_
  refine C_seq ?_
  refine C_region ?_
  refine O_p (.p (some (a, 0))) (r_mv rfl) ?_
  refine O_p (.p (some (a, 0))) (r_nilc rfl) ?_
  refine O_p (.p (some (a, 2))) (r_fadd' rfl rfl) ?_
  refine O_p x2 (r_ld rfl hH0.get0 rfl) ?_
  refine O_p x2 (r_mv rfl) ?_
  refine O_nil ?_
  refine C_seq ?_
  refine C_region ?_
  refine O_p (.p (some (a, 0))) (r_mv rfl) ?_
  refine O_p (.p (some (a, 0))) (r_nilc rfl) ?_
  refine O_p (.p (some (a, 2))) (r_fadd' rfl rfl) ?_
  refine O_store (vs := [(.sl none 0 0 0)]) (c' := [x0, x1, (.sl none 0 0 0)]) rfl (by rfl) hH0.get0 rfl (List.cons_ne_nil _ _) (Nat.le_of_ble_eq_true rfl) rfl fun H1 hW2 => ?_
  have hH3 := hH0.wr0 hW2
  refine O_nil ?_
  refine C_seq ?_
  refine C_region ?_
  refine O_p x2 (r_mv rfl) ?_
  refine O_p x2 (r_mv rfl) ?_
  refine O_nil ?_
  refine C_ret ?_
  exact ⟨.inr rfl, _, resL_one (r_tmp (v := x2) rfl), rfl, hH3⟩
theorem dups_ev {H : AH} {R : HL} {s : Gp} {a : Nat} {S : HL} (hG : GpH s a S) (hH0 : Hs H (S ++ R)) : Ev tabS spS (.fn (.func 16) [] []) [.p (some (a, 0))] H (fun r H' => ∃ dc S', Sq 1 r dc (lU s.d) ∧ GpH ⟨s.c, s.l, []⟩ a S' ∧ Hs H' (S' ++ (qseg r dc ++ R))) := by
  obtain ⟨m, mb, dv, dc, hb, hd, rfl⟩ := hG
  have ho : dv.one = true := by obtain ⟨a, l, c, g, rfl⟩ := hd.isSl; rfl
  refine Ev.mono (dups0_ev hH0.assoc ho) ?_
  rintro r H' ⟨rfl, h⟩
  refine ⟨dc, _, hd, ⟨m, mb, .sl none 0 0 0, [], hb, Sq.nil, rfl⟩, ?_⟩
  have := h.assoc1
  exact Hs.unc (K := []) this
theorem new_ev {H : AH} {R : HL} {n : Int} (hH0 : Hs H R) : Ev tabS spS (.fn (.func 10) [] []) [.i .u32 n] H (fun r H' => ∃ a S, r = .p (some (a, 0)) ∧ GpH ⟨IntKind.u32.wrap (n - 1), [], []⟩ a S ∧ Hs H' (S ++ R)) := by
  refine Ev_C (F := x10) rfl ?_
  refine C_seq ?_
  refine C_region ?_
  refine O_p (.p none) (r_mv rfl) ?_
  refine O_nil ?_
  refine C_seq ?_
  refine C_region ?_
  refine O_p (.i .u32 n) (r_mv rfl) ?_
  refine O_p (.i .u32 (IntKind.u32.wrap (n - 1))) (r_bin rfl rfl rfl) ?_
  refine O_mkmap fun n1 H2 hN3 => ?_
  have hH4 := hH0.new hN3
  refine O_p (.agg [(.i .u32 (IntKind.u32.wrap (n - 1))), (.m (some n1)), (.sl none 0 0 0)]) (r_build rfl) ?_
  refine O_box (z := [(.i .u32 (IntKind.u32.wrap (n - 1))), (.m (some n1)), (.sl none 0 0 0)]) rfl fun n5 H6 hN7 => ?_
  have hH8 := hH4.new hN7
  refine O_p (.p (some (n5, 0))) (r_mv rfl) ?_
  refine O_nil ?_
  refine C_ret ?_
  exact ⟨.inr rfl, _, resL_one (r_tmp (v := (.p (some (n5, 0)))) rfl), n5, _, rfl, ⟨_, _, .sl none 0 0 0, [], Ub.nil, Sq.nil, rfl⟩, Hs.unc (K := []) hH8⟩
set_option linter.unusedVariables false
set_option linter.unusedSimpArgs false
open Go.Sort (swp PermIn SortedIn Below insInner insOuter insertionSort ltInt)
abbrev dU (d : Array Int) : List (List AV) := d.toList.map u1
theorem u_lens (d : Array Int) : ∀ r ∈ dU d, r.length = 1 := fun r hr => by obtain ⟨x, _, rfl⟩ := List.mem_map.1 hr; rfl
theorem u_get {d : Array Int} {i : Nat} (h : i < d.size) : (dU d)[i]? = some [.i .u32 (d[i]!)] := by
  rw [List.getElem?_map, List.getElem?_eq_getElem (by simpa using h)]
  simp [u1, getElem!_pos d i h]
theorem u_flat (d : Array Int) : (dU d).flatten.length = d.size * 1 := (flat_len (u_lens d)).trans (by rw [List.length_map]; simp)
theorem u_flatn {d : Array Int} {n : Nat} (h : d.size = n) : (dU d).flatten.length = n * 1 := h ▸ u_flat d
theorem u_set {d : Array Int} {i : Nat} {e : Int} : (dU d).set i [.i .u32 e] = dU (d.setIfInBounds i e) := by
  show (d.toList.map u1).set i (u1 e) = (d.setIfInBounds i e).toList.map u1
  rw [Array.toList_setIfInBounds, List.map_set]
/-! ### Sorting -/
theorem insInner_stop {lt : Int → Int → Bool} {a j : Nat} {d : Array Int} (h : ¬ (a < j ∧ lt d[j]! d[j - 1]! = true)) : insInner lt a j d = d := by
  cases j with
  | zero => rfl
  | succ j =>
    unfold insInner
    rw [if_neg]
    rintro h9
    rw [Bool.and_eq_true, decide_eq_true_eq] at h9
    exact h ⟨h9.1, h9.2⟩
theorem insInner_step {lt : Int → Int → Bool} {a j : Nat} {d : Array Int} (h : a < j) (h2 : lt d[j]! d[j - 1]! = true) : insInner lt a j d = insInner lt a (j - 1) (swp d j (j - 1)) := by
  cases j with
  | zero => omega
  | succ j =>
    show (if _ then _ else _ : Array Int) = _
    rw [if_pos (by rw [Bool.and_eq_true, decide_eq_true_eq]; exact ⟨h, h2⟩)]; rfl
theorem insOuter_stop {lt : Int → Int → Bool} {a b i : Nat} {d : Array Int} (h : ¬ i < b) : insOuter lt a b i d = d := by unfold insOuter; rw [if_neg h]
theorem insOuter_step {lt : Int → Int → Bool} {a b i : Nat} {d : Array Int} (h : i < b) : insOuter lt a b i d = insOuter lt a b (i + 1) (insInner lt a i d) := by rw [insOuter, if_pos h]
theorem isnan_ev {H : AH} {R : HL} {x : Int} (hH0 : Hs H R) : Ev tabS spS (.fn (.func 56) [] []) [.i .u32 x] H (fun r H' => r = .b false ∧ Hs H' R) := by
  refine Ev_C (F := x56) rfl ?_
  refine C_seq ?_
  refine C_region ?_
  refine O_p (.b false) (r_mv rfl) ?_
  refine O_nil ?_
  refine C_seq ?_
  refine C_region ?_
  refine O_p (.i .u32 x) (r_mv rfl) ?_
  refine O_p (.i .u32 x) (r_mv rfl) ?_
  refine O_p (.b false) (r_nqq rfl rfl) ?_
  refine O_p (.b false) (r_mv rfl) ?_
  refine O_nil ?_
  refine C_ret ?_
  exact ⟨.inr rfl, _, resL_one (r_tmp (v := (.b false)) rfl), rfl, hH0⟩
theorem less_ev {H : AH} {R : HL} {x y : Int} (hH0 : Hs H R) : Ev tabS spS (.fn (.func 46) [] []) [.i .u32 x, .i .u32 y] H (fun r H' => r = .b (decide (x < y)) ∧ Hs H' R) := by
  refine Ev_C (F := x46) rfl ?_
  refine C_seq ?_
  refine C_region ?_
  refine O_p (.b false) (r_mv rfl) ?_
  refine O_nil ?_
  refine C_seq ?_
  refine C_region ?_
  refine O_p (.i .u32 x) (r_mv rfl) ?_
  refine O_call (Ev.mono (isnan_ev hH0) fun v1 H2 hq3 => ?_)
  obtain ⟨rfl, hH4⟩ := hq3
  refine O_p (.b false) (r_mv rfl) ?_
  refine O_gf rfl ?_
  refine O_gf rfl ?_
  refine O_gf rfl ?_
  refine O_p (.b false) (r_pick_f rfl rfl) ?_
  refine O_p (.b false) (r_mv rfl) ?_
  refine O_gk rfl ?_
  refine O_p (.i .u32 x) (r_mv rfl) ?_
  refine O_gk rfl ?_
  refine O_p (.i .u32 y) (r_mv rfl) ?_
  refine O_gk rfl ?_
  refine O_p (.b (decide (x < y))) (r_lss rfl rfl) ?_
  refine O_p (.b (decide (x < y))) (r_pick_f rfl rfl) ?_
  refine O_p (.b (decide (x < y))) (r_mv rfl) ?_
  refine O_nil ?_
  refine C_ret ?_
  exact ⟨.inr rfl, _, resL_one (r_tmp (v := (.b (decide (x < y)))) rfl), rfl, hH4⟩
set_option maxHeartbeats 1000000 in
theorem ins_ev {H : AH} {R : HL} {v : AV} {c : List AV} {d : Array Int} {n : Nat} {a b : Nat} (hd : Sq 1 v c (dU d).flatten) (hn : d.size = n) (hl : n ≤ 1000000) (hab : a ≤ b) (hb : b ≤ n) (hH0 : Hs H (qseg v c ++ R)) : Ev tabS spS (.fn (.func 40) [] []) [v, .i .i64 ((a : Nat) : Int), .i .i64 ((b : Nat) : Int)] H (fun r H' => r = .tup [] ∧ ∃ c', Sq 1 v c' (dU (insertionSort ltInt d a b)).flatten ∧ Hs H' (qseg v c' ++ R)) := by
  refine Ev_C (F := x40) rfl ?_
  refine C_seq ?_
  refine C_region ?_
  refine O_p (.i .i64 (((a : Nat)) : Int)) (r_mv rfl) ?_
  refine O_p (.i .i64 ((((a : Nat)) : Int) + 1)) (by exact (r_addi rfl rfl (wrap_i64 (by omega) (by omega)))) ?_
  refine O_p (.i .i64 ((((a : Nat)) : Int) + 1)) (r_mv rfl) ?_
  refine O_nil ?_
  refine C_block ?_
  refine C_while (fun m1 T2 H3 => ∃ d1 : Array Int, ∃ c1 : List AV, ∃ i : Nat, m1 = b - i ∧ a + 1 ≤ i ∧ Sq 1 v c1 (dU d1).flatten ∧ d1.size = n ∧ insOuter ltInt a b i d1 = insertionSort ltInt d a b ∧ i ≤ n + 1 ∧ Hs H3 ((qseg v c1) ++ (R)) ∧ T2.get 0 = v ∧ T2.get 1 = (.i .i64 (((a : Nat)) : Int)) ∧ T2.get 2 = (.i .i64 (((b : Nat)) : Int)) ∧ T2.get 6 = (.i .i64 (((i : Nat)) : Int))) (fun m1 T2 H3 hI4 => ?_) (b - (a + 1)) _ _ ⟨d, c, (a + 1), rfl, Nat.le_refl _, hd, hn, rfl, by omega, hH0, rfl, rfl, rfl, rfl⟩
  obtain ⟨d1, c1, i, hm5, hp6, hp7, hp8, hp9, hp10, hH15, hT11, hT12, hT13, hT14⟩ := hI4
  refine C_seq ?_
  refine C_seq ?_
  refine C_region ?_
  refine O_p (.i .i64 (((i : Nat)) : Int)) (r_mv hT14) ?_
  refine O_p (.i .i64 (((b : Nat)) : Int)) (r_mv hT13) ?_
  refine O_p (.b (decide ((((i : Nat)) : Int) < (((b : Nat)) : Int)))) (r_lss rfl rfl) ?_
  refine O_nil ?_
  refine C_cond (x := (decide ((((i : Nat)) : Int) < (((b : Nat)) : Int)))) rfl (fun hc16 => ?_) (fun hc16 => ?_)
  ·
    try simp only [decide_eq_true_eq, decide_eq_false_iff_not, Bool.not_eq_true', Bool.not_eq_false', Bool.and_eq_true, Bool.or_eq_true, Bool.or_eq_false_iff, Bool.not_not, Bool.and_eq_false_iff] at hc16
    refine C_skip ?_
    refine C_seq ?_
    refine C_block ?_
    refine C_seq ?_
    refine C_region ?_
    refine O_p (.i .i64 (((i : Nat)) : Int)) (r_mv hT14) ?_
    refine O_p (.i .i64 (((i : Nat)) : Int)) (r_mv rfl) ?_
    refine O_nil ?_
    refine C_block ?_
    have hib : i < b := by omega
    refine C_while (fun m17 T18 H19 => ∃ d2 : Array Int, ∃ c2 : List AV, ∃ j : Nat, m17 = j ∧ j ≤ i ∧ Sq 1 v c2 (dU d2).flatten ∧ d2.size = n ∧ insInner ltInt a j d2 = insInner ltInt a i d1 ∧ Hs H19 ((qseg v c2) ++ (R)) ∧ T18.get 0 = v ∧ T18.get 1 = (.i .i64 (((a : Nat)) : Int)) ∧ T18.get 2 = (.i .i64 (((b : Nat)) : Int)) ∧ T18.get 6 = (.i .i64 (((i : Nat)) : Int)) ∧ T18.get 7 = (.i .i64 (((j : Nat)) : Int))) (fun m17 T18 H19 hI20 => ?_) i _ _ ⟨d1, c1, i, rfl, Nat.le_refl _, hp7, hp8, rfl, hH15, hT11, hT12, hT13, hT14, rfl⟩
    obtain ⟨d2, c2, j, hm21, hp22, hp23, hp24, hp25, hH31, hT26, hT27, hT28, hT29, hT30⟩ := hI20
    refine C_seq ?_
    refine C_seq ?_
    by_cases haj : a < j
    ·
      refine C_draw fun b32 H33 hbase34 hA35 => ?_
      have hH36 := hH31.keep (by have := hA35.1; omega) (fun q _ => hA35.2 q) ((hH31.old).aside hA35).ok
      refine D_l (v := (.i .i64 (((j : Nat)) : Int))) rfl rfl rfl (r_mv hT30) ?_
      refine D_l (v := (.i .i64 (((a : Nat)) : Int))) rfl rfl rfl (r_mv hT27) ?_
      refine D_l (v := (.b true)) rfl rfl rfl (by exact (by rw [r_gtr rfl rfl, decide_eq_true (by omega)])) ?_
      refine D_l (v := (.b true)) rfl rfl rfl (r_mv rfl) ?_
      refine D_gk rfl ?_
      refine D_l (v := v) rfl rfl rfl (r_mv hT26) ?_
      refine D_gk rfl ?_
      refine D_l (v := (.i .i64 (((j : Nat)) : Int))) rfl rfl rfl (r_mv hT30) ?_
      refine D_gk rfl ?_
      refine D_q rfl rfl rfl (by exact Sq.cell hp23 (u_lens d2) hH36.top0 rfl (i := j) rfl (r := [(.i .u32 (d2[j]!))]) (u_get (d := d2) (i := j) (by omega)) (by decide)) fun v38 hv37 => ?_
      obtain ⟨rb39, ro40, rfl, hrg41, hrt42, hrb43, hput44, hqs45⟩ := hv37
      refine D_gk rfl ?_
      refine D_l (v := v) rfl rfl rfl (r_mv hT26) ?_
      refine D_gk rfl ?_
      refine D_l (v := (.i .i64 (((j : Nat)) : Int))) rfl rfl rfl (r_mv hT30) ?_
      refine D_gk rfl ?_
      refine D_l (v := (.i .i64 ((((j - 1) : Nat)) : Int))) rfl rfl rfl (by exact (r_subn (a := j) (b := 1) rfl rfl (by omega) (by omega))) ?_
      refine D_gk rfl ?_
      refine D_q rfl rfl rfl (by exact Sq.cell hp23 (u_lens d2) hH36.top0 rfl (i := (j - 1)) rfl (r := [(.i .u32 (d2[(j - 1)]!))]) (u_get (d := d2) (i := (j - 1)) (by omega)) (by decide)) fun v47 hv46 => ?_
      obtain ⟨rb48, ro49, rfl, hrg50, hrt51, hrb52, hput53, hqs54⟩ := hv46
      refine D_gk rfl ?_
      refine D_r (v := (.i .u32 (d2[j]!))) rfl rfl rfl (r_ldR (q := 0) rfl ⟨_, _, hrg41, hrt42⟩ rfl) ?_
      refine D_gk rfl ?_
      refine D_r (v := (.i .u32 (d2[(j - 1)]!))) rfl rfl rfl (r_ldR (q := 0) rfl ⟨_, _, hrg50, hrt51⟩ rfl) ?_
      refine D_gk rfl ?_
      refine D_call (Ev.mono (less_ev (x := (d2[j]!)) (y := (d2[(j - 1)]!)) hH36) fun v55 H56 hq57 => ?_)
      obtain ⟨rfl, hH58⟩ := hq57
      refine And.intro (And.intro (Or.inl rfl) (And.intro (Or.inl rfl) True.intro)) ?_
      refine D_l (v := (.b (decide ((d2[j]!) < (d2[(j - 1)]!))))) rfl rfl rfl (r_pick_t rfl rfl) ?_
      refine D_nil ?_
      refine C_cond (x := (decide ((d2[j]!) < (d2[(j - 1)]!)))) rfl (fun hc59 => ?_) (fun hc59 => ?_)
      ·
        try simp only [decide_eq_true_eq, decide_eq_false_iff_not, Bool.not_eq_true', Bool.not_eq_false', Bool.and_eq_true, Bool.or_eq_true, Bool.or_eq_false_iff, Bool.not_not, Bool.and_eq_false_iff] at hc59
        have hlt : ltInt d2[j]! d2[j - 1]! = true := decide_eq_true hc59
        refine C_skip ?_
        refine C_seq ?_
        refine C_block ?_
        refine C_draw fun b60 H61 hbase62 hA63 => ?_
        have hH64 := hH58.keep (by have := hA63.1; omega) (fun q _ => hA63.2 q) ((hH58.old).aside hA63).ok
        refine D_l (v := v) rfl rfl rfl (r_mv hT26) ?_
        refine D_l (v := (.i .i64 (((j : Nat)) : Int))) rfl rfl rfl (r_mv hT30) ?_
        refine D_l (v := v) rfl rfl rfl (r_mv hT26) ?_
        refine D_l (v := (.i .i64 (((j : Nat)) : Int))) rfl rfl rfl (r_mv hT30) ?_
        refine D_l (v := (.i .i64 ((((j - 1) : Nat)) : Int))) rfl rfl rfl (by exact (r_subn (a := j) (b := 1) rfl rfl (by omega) (by omega))) ?_
        refine D_l (v := v) rfl rfl rfl (r_mv hT26) ?_
        refine D_l (v := (.i .i64 (((j : Nat)) : Int))) rfl rfl rfl (r_mv hT30) ?_
        refine D_l (v := (.i .i64 ((((j - 1) : Nat)) : Int))) rfl rfl rfl (by exact (r_subn (a := j) (b := 1) rfl rfl (by omega) (by omega))) ?_
        refine D_q rfl rfl rfl (by exact Sq.cell hp23 (u_lens d2) hH64.top0 rfl (i := (j - 1)) rfl (r := [(.i .u32 (d2[(j - 1)]!))]) (u_get (d := d2) (i := (j - 1)) (by omega)) (by decide)) fun v66 hv65 => ?_
        obtain ⟨rb67, ro68, rfl, hrg69, hrt70, hrb71, hput72, hqs73⟩ := hv65
        refine D_l (v := v) rfl rfl rfl (r_mv hT26) ?_
        refine D_l (v := (.i .i64 (((j : Nat)) : Int))) rfl rfl rfl (r_mv hT30) ?_
        refine D_q rfl rfl rfl (by exact Sq.cell hp23 (u_lens d2) hH64.top0 rfl (i := j) rfl (r := [(.i .u32 (d2[j]!))]) (u_get (d := d2) (i := j) (by omega)) (by decide)) fun v75 hv74 => ?_
        obtain ⟨rb76, ro77, rfl, hrg78, hrt79, hrb80, hput81, hqs82⟩ := hv74
        refine D_r (v := (.i .u32 (d2[(j - 1)]!))) rfl rfl rfl (r_ldR (q := 0) rfl ⟨_, _, hrg69, hrt70⟩ rfl) ?_
        refine D_r (v := (.i .u32 (d2[j]!))) rfl rfl rfl (r_ldR (q := 0) rfl ⟨_, _, hrg78, hrt79⟩ rfl) ?_
        refine D_q rfl rfl rfl (by exact Sq.cell hp23 (u_lens d2) hH64.top0 rfl (i := j) rfl (r := [(.i .u32 (d2[j]!))]) (u_get (d := d2) (i := j) (by omega)) (by decide)) fun v84 hv83 => ?_
        obtain ⟨rb85, ro86, rfl, hrg87, hrt88, hrb89, hput90, hqs91⟩ := hv83
        refine D_store (vs := [(.i .u32 (d2[(j - 1)]!))]) (c' := (putAt c2 (ro86 + 0) [(.i .u32 (d2[(j - 1)]!))])) rfl (by rfl) hrg87 rfl (List.cons_ne_nil _ _) (by have := hrb89; show _ + 1 ≤ _; omega) rfl fun H92 hW93 => ?_
        have hH95 := Hs.cong0 (Hs.wr0 (Hs.cong0 hH64 (hqs91 _)) hW93) (hqs91 _).symm
        have hSq94 := hput90 0 [(.i .u32 (d2[(j - 1)]!))] [(.i .u32 (d2[(j - 1)]!))] (Nat.le_of_ble_eq_true rfl) rfl
        obtain ⟨dd96, he97⟩ : ∃ z : Array Int, z = d2.setIfInBounds j (d2[(j - 1)]!) := ⟨_, rfl⟩
        have hs99 : Sq 1 v (putAt c2 (ro86 + 0) [(.i .u32 (d2[(j - 1)]!))]) (dU dd96).flatten := by rw [he97, ← u_set]; exact hSq94
        have hn98 : dd96.size = n := by rw [he97, Array.size_setIfInBounds]; exact hp24
        refine And.intro (And.intro (Or.inl rfl) (And.intro (Or.inl rfl) True.intro)) ?_
        refine D_q rfl rfl rfl (by exact Sq.cell hs99 (u_lens dd96) hH95.top0 rfl (i := (j - 1)) rfl (r := [(.i .u32 (dd96[(j - 1)]!))]) (u_get (d := dd96) (i := (j - 1)) (by omega)) (by decide)) fun v101 hv100 => ?_
        obtain ⟨rb102, ro103, rfl, hrg104, hrt105, hrb106, hput107, hqs108⟩ := hv100
        refine D_store (vs := [(.i .u32 (d2[j]!))]) (c' := (putAt (putAt c2 (ro86 + 0) [(.i .u32 (d2[(j - 1)]!))]) (ro103 + 0) [(.i .u32 (d2[j]!))])) rfl (by rfl) hrg104 rfl (List.cons_ne_nil _ _) (by have := hrb106; show _ + 1 ≤ _; omega) rfl fun H109 hW110 => ?_
        have hH112 := Hs.cong0 (Hs.wr0 (Hs.cong0 hH95 (hqs108 _)) hW110) (hqs108 _).symm
        have hSq111 := hput107 0 [(.i .u32 (d2[j]!))] [(.i .u32 (d2[j]!))] (Nat.le_of_ble_eq_true rfl) rfl
        obtain ⟨dd113, he114⟩ : ∃ z : Array Int, z = dd96.setIfInBounds (j - 1) (d2[j]!) := ⟨_, rfl⟩
        have hs116 : Sq 1 v (putAt (putAt c2 (ro86 + 0) [(.i .u32 (d2[(j - 1)]!))]) (ro103 + 0) [(.i .u32 (d2[j]!))]) (dU dd113).flatten := by rw [he114, ← u_set]; exact hSq111
        have hn115 : dd113.size = n := by rw [he114, Array.size_setIfInBounds]; exact hn98
        refine And.intro True.intro ?_
        refine D_nil ?_
        refine C_region ?_
        refine O_p (.i .i64 (((j : Nat)) : Int)) (r_mv hT30) ?_
        refine O_p (.i .i64 ((((j - 1) : Nat)) : Int)) (by exact (r_subn (a := j) (b := 1) rfl rfl (by omega) (by omega))) ?_
        refine O_p (.i .i64 ((((j - 1) : Nat)) : Int)) (r_mv rfl) ?_
        refine O_nil ?_
        exact ⟨(j - 1), by omega, dd113, (putAt (putAt c2 (ro86 + 0) [(.i .u32 (d2[(j - 1)]!))]) (ro103 + 0) [(.i .u32 (d2[j]!))]), (j - 1), rfl, by omega, hs116, hn115, by rw [he114, he97]; show insInner ltInt a (j - 1) (swp d2 j (j - 1)) = _; rw [← insInner_step haj hlt]; exact hp25, hH112, hT26, hT27, hT28, hT29, rfl⟩
      ·
        try simp only [decide_eq_true_eq, decide_eq_false_iff_not, Bool.not_eq_true', Bool.not_eq_false', Bool.and_eq_true, Bool.or_eq_true, Bool.or_eq_false_iff, Bool.not_not, Bool.and_eq_false_iff] at hc59
        have hstop : ¬ (a < j ∧ ltInt d2[j]! d2[j - 1]! = true) := fun h9 => hc59 (of_decide_eq_true h9.2)
        refine C_exit ?_
        refine nx_exit ?_
        refine nx_exit ?_
        refine bk_hit ?_
        refine C_region ?_
        refine O_p (.i .i64 (((i : Nat)) : Int)) (r_mv hT29) ?_
        refine O_p (.i .i64 ((((i : Nat)) : Int) + 1)) (by exact (r_addi rfl rfl (wrap_i64 (by omega) (by omega)))) ?_
        refine O_p (.i .i64 ((((i : Nat)) : Int) + 1)) (r_mv rfl) ?_
        refine O_nil ?_
        exact ⟨b - (i + 1), by omega, d2, c2, (i + 1), rfl, by omega, hp23, hp24, by rw [← hp9, insOuter_step hib, ← hp25, insInner_stop hstop], by omega, hH58, hT26, hT27, hT28, rfl⟩
    ·
      have hstop : ¬ (a < j ∧ ltInt d2[j]! d2[j - 1]! = true) := fun h9 => haj h9.1
      refine C_draw fun b117 H118 hbase119 hA120 => ?_
      have hH121 := hH31.keep (by have := hA120.1; omega) (fun q _ => hA120.2 q) ((hH31.old).aside hA120).ok
      refine D_l (v := (.i .i64 (((j : Nat)) : Int))) rfl rfl rfl (r_mv hT30) ?_
      refine D_l (v := (.i .i64 (((a : Nat)) : Int))) rfl rfl rfl (r_mv hT27) ?_
      refine D_l (v := (.b false)) rfl rfl rfl (by exact (by rw [r_gtr rfl rfl, decide_eq_false (by omega)])) ?_
      refine D_l (v := (.b false)) rfl rfl rfl (r_mv rfl) ?_
      refine D_gf rfl ?_
      refine D_gf rfl ?_
      refine D_gf rfl ?_
      refine D_gf rfl ?_
      refine D_gf rfl ?_
      refine D_gf rfl ?_
      refine D_gf rfl ?_
      refine D_gf rfl ?_
      refine D_gf rfl ?_
      refine D_gf rfl ?_
      refine D_l (v := (.b false)) rfl rfl rfl (r_pick_f rfl rfl) ?_
      refine D_nil ?_
      refine C_cond (x := false) rfl (fun h => by cases h) (fun _ => ?_)
      refine C_exit ?_
      refine nx_exit ?_
      refine nx_exit ?_
      refine bk_hit ?_
      refine C_region ?_
      refine O_p (.i .i64 (((i : Nat)) : Int)) (r_mv hT29) ?_
      refine O_p (.i .i64 ((((i : Nat)) : Int) + 1)) (by exact (r_addi rfl rfl (wrap_i64 (by omega) (by omega)))) ?_
      refine O_p (.i .i64 ((((i : Nat)) : Int) + 1)) (r_mv rfl) ?_
      refine O_nil ?_
      exact ⟨b - (i + 1), by omega, d2, c2, (i + 1), rfl, by omega, hp23, hp24, by rw [← hp9, insOuter_step hib, ← hp25, insInner_stop hstop], by omega, hH121, hT26, hT27, hT28, rfl⟩
  ·
    try simp only [decide_eq_true_eq, decide_eq_false_iff_not, Bool.not_eq_true', Bool.not_eq_false', Bool.and_eq_true, Bool.or_eq_true, Bool.or_eq_false_iff, Bool.not_not, Bool.and_eq_false_iff] at hc16
    refine C_exit ?_
    refine nx_exit ?_
    refine nx_exit ?_
    refine bk_hit ?_
    exact ⟨.inl rfl, [], rfl, rfl, c1, by rw [← hp9, insOuter_stop (by omega)]; exact hp7, hH15⟩


set_option linter.unusedVariables false
set_option linter.unusedSimpArgs false
open Go.Sort (insertionSort ltInt)
theorem pdq12_ev {H : AH} {R : HL} {v : AV} {c : List AV} {d : Array Int} {n : Nat} {a b : Nat} {lim : Int} (hd : Sq 1 v c (dU d).flatten) (hn : d.size = n) (hl : n ≤ 1000000) (hab : a ≤ b) (hb : b ≤ n) (h12 : b ≤ a + 12) (hH0 : Hs H (qseg v c ++ R)) : Ev tabS spS (.fn (.func 37) [] []) [v, .i .i64 ((a : Nat) : Int), .i .i64 ((b : Nat) : Int), .i .i64 lim] H (fun r H' => r = .tup [] ∧ ∃ c', Sq 1 v c' (dU (insertionSort ltInt d a b)).flatten ∧ Hs H' (qseg v c' ++ R)) := by
  refine Ev_C (F := x37) rfl ?_
  refine C_seq ?_
  refine C_region ?_
  refine O_p (.b true) (r_mv rfl) ?_
  refine O_nil ?_
  refine C_seq ?_
  refine C_region ?_
  refine O_p (.b true) (r_mv rfl) ?_
  refine O_nil ?_
  refine C_block ?_
  refine C_loop ?_
  refine C_block ?_
  refine C_seq ?_
  refine C_region ?_
  refine O_p (.i .i64 (((b : Nat)) : Int)) (r_mv rfl) ?_
  refine O_p (.i .i64 (((a : Nat)) : Int)) (r_mv rfl) ?_
  refine O_p (.i .i64 ((((b : Nat)) : Int) - (((a : Nat)) : Int))) (by exact (r_subi rfl rfl (wrap_i64 (by omega) (by omega)))) ?_
  refine O_p (.i .i64 ((((b : Nat)) : Int) - (((a : Nat)) : Int))) (r_mv rfl) ?_
  refine O_nil ?_
  refine C_seq ?_
  refine C_seq ?_
  refine C_region ?_
  refine O_p (.i .i64 ((((b : Nat)) : Int) - (((a : Nat)) : Int))) (r_mv rfl) ?_
  refine O_p (.b true) (by exact (by rw [r_leq rfl rfl, decide_eq_true (by omega)])) ?_
  refine O_nil ?_
  refine C_cond (x := true) rfl (fun _ => ?_) (fun h => by cases h)
  refine C_seq ?_
  refine C_region ?_
  refine O_p v (r_mv rfl) ?_
  refine O_p (.i .i64 (((a : Nat)) : Int)) (r_mv rfl) ?_
  refine O_p (.i .i64 (((b : Nat)) : Int)) (r_mv rfl) ?_
  refine O_call (Ev.mono (ins_ev (a := a) (b := b) hd hn hl hab hb hH0) fun v1 H2 hq3 => ?_)
  obtain ⟨rfl, c4, hc5, hH6⟩ := hq3
  refine O_nil ?_
  refine C_ret ?_
  refine nx_ret ?_
  refine bk_ret ?_
  refine nx_ret ?_
  refine bk_ret ?_
  exact ⟨.inr rfl, [], rfl, rfl, c4, hc5, hH6⟩
def blenv (n : Nat) : Int := if n = 0 then 0 else if n = 1 then 1 else if n < 4 then 2 else if n < 8 then 3 else 4
theorem blen12 (H : AH) : ∀ n : Nat, n ≤ 12 → exec tabS spS 60 (.fn (.func 38) [] []) [.i .u64 n] H = some (.i .i64 (blenv n), H) := by
  intro n h
  have : n = 0 ∨ n = 1 ∨ n = 2 ∨ n = 3 ∨ n = 4 ∨ n = 5 ∨ n = 6 ∨ n = 7 ∨ n = 8 ∨ n = 9 ∨ n = 10 ∨ n = 11 ∨ n = 12 := by omega
  rcases this with rfl | rfl | rfl | rfl | rfl | rfl | rfl | rfl | rfl | rfl | rfl | rfl | rfl <;> (show _ = _; kernel_rfl)
theorem blen12_ev {H : AH} {R : HL} {n : Nat} (h : n ≤ 12) (hH : Hs H R) : Ev tabS spS (.fn (.func 38) [] []) [.i .u64 (IntKind.u64.wrap ((n : Nat) : Int))] H (fun r H' => (∃ k, r = .i .i64 k) ∧ Hs H' R) := by
  have e := blen12 H n h
  have hw : IntKind.u64.wrap ((n : Nat) : Int) = ((n : Nat) : Int) := by rw [wrap_u64]; omega
  exact ⟨60, _, _, by rw [hw]; exact e, ⟨_, rfl⟩, hH⟩
def msort (l : List Int) : List Int := l.mergeSort (fun x y => !ltInt y x)
/-- Sorting, of so many numbers at most. -/
def SortOK (N : Nat) : Prop := ∀ {H : AH} {R : HL} {v : AV} {c : List AV} {l : List Int}, Sq 1 v c (lU l) → l.length ≤ N → Hs H (qseg v c ++ R) → Ev tabS spS (.fn (.func 31) [] []) [v] H (fun r H' => r = .tup [] ∧ ∃ c', Sq 1 v c' (lU (msort l)) ∧ Hs H' (qseg v c' ++ R))
theorem sort12_0 {H : AH} {R : HL} {v : AV} {c : List AV} {d : Array Int} {n : Nat} (hd : Sq 1 v c (dU d).flatten) (hn : d.size = n) (hl : n ≤ 1000000) (hl2 : n ≤ 12) (hH0 : Hs H (qseg v c ++ R)) : Ev tabS spS (.fn (.func 31) [] []) [v] H (fun r H' => r = .tup [] ∧ ∃ c', Sq 1 v c' (dU (insertionSort ltInt d 0 n)).flatten ∧ Hs H' (qseg v c' ++ R)) := by
  refine Ev_C (F := x31) rfl ?_
  refine C_seq ?_
  refine C_region ?_
  refine O_p v (r_mv rfl) ?_
  refine O_p (.i .i64 (((n : Nat)) : Int)) (by exact (by exact r_lenOf rfl (hd.lenOf (u_flatn hn) (by decide)) hd.isSl)) ?_
  refine O_p (.i .i64 (((n : Nat)) : Int)) (r_mv rfl) ?_
  refine O_nil ?_
  refine C_region ?_
  refine O_p v (r_mv rfl) ?_
  refine O_p (.i .i64 (((n : Nat)) : Int)) (r_mv rfl) ?_
  refine O_p (.i .i64 (((n : Nat)) : Int)) (r_mv rfl) ?_
  refine O_p (.i .u64 (IntKind.u64.wrap (((n : Nat)) : Int))) (r_cint rfl) ?_
  refine O_call (Ev.mono (blen12_ev (n := n) hl2 hH0) fun v1 H2 hq3 => ?_)
  obtain ⟨⟨k4, rfl⟩, hH5⟩ := hq3
  refine O_call (Ev.mono (pdq12_ev (a := 0) (b := n) hd hn hl (Nat.zero_le _) (Nat.le_refl _) (by omega) hH5) fun v6 H7 hq8 => ?_)
  obtain ⟨rfl, c9, hc10, hH11⟩ := hq8
  refine O_nil ?_
  exact ⟨.inl rfl, [], rfl, rfl, c9, hc10, hH11⟩
theorem sort12 : SortOK 12 := by
  intro H R v c l hs hl hH
  refine Ev.mono (sort12_0 (d := l.toArray) (n := l.length) (by exact hs) (by simp) (by omega) hl hH) ?_
  rintro r H' ⟨rfl, c', h1, h2⟩
  obtain ⟨g1, g2⟩ := Go.Sort.insertionSort_holds Go.Sort.swo_ltInt l.toArray 0 l.length (Nat.zero_le _) (by simp)
  have := Go.Sort.sorted_unique_holds Go.Sort.swo_ltInt (by simp only [ltInt, decide_eq_false_iff_not]; omega) l.toArray _ (by simpa using g1) (by simpa using g2)
  refine ⟨rfl, c', ?_, h2⟩
  have e : msort l = (insertionSort ltInt l.toArray 0 l.length).toList := by rw [this]; rfl
  rw [e]
  exact h1


set_option linter.unusedVariables false
set_option linter.unusedSimpArgs false
open Go.Sort (insertionSort ltInt)
/-! ### Runs -/
abbrev rw2 (l : List (Int × Int)) : List (List AV) := l.map fun p => [AV.i .u16 p.1, AV.i .u16 p.2]
theorem rw2_lens (l : List (Int × Int)) : ∀ r ∈ rw2 l, r.length = 2 := fun r hr => by obtain ⟨x, _, rfl⟩ := List.mem_map.1 hr; rfl
theorem rw2_len (l : List (Int × Int)) : (rw2 l).flatten.length = l.length * 2 := (flat_len (rw2_lens l)).trans (by rw [List.length_map])
theorem rw2_get {l : List (Int × Int)} {i : Nat} (h : i < l.length) : (rw2 l)[i]? = some [.i .u16 (l.getD i (0, 0)).1, .i .u16 (l.getD i (0, 0)).2] := by
  rw [List.getElem?_map, List.getElem?_eq_getElem h]
  simp [h]
theorem rw2_set {l : List (Int × Int)} {i : Nat} {p : Int × Int} : (rw2 l).set i [.i .u16 p.1, .i .u16 p.2] = rw2 (l.set i p) := by show (List.map _ l).set i _ = List.map _ (l.set i p); rw [List.map_set]
theorem rw2_app (l : List (Int × Int)) (x y : Int) : (rw2 l).flatten ++ [AV.i .u16 x, AV.i .u16 y] = (rw2 (l ++ [(x, y)])).flatten := by simp
def runJ (out : List (Int × Int)) (h : Int) : Bool := decide (0 < out.length) && decide (IntKind.u32.wrap (IntKind.u32.wrap (out.getD (out.length - 1) (0, 0)).2 + 1) = h)
def runS (out : List (Int × Int)) (h : Int) : List (Int × Int) :=
  if runJ out h = true then out.set (out.length - 1) ((out.getD (out.length - 1) (0, 0)).1, IntKind.u16.wrap ((out.getD (out.length - 1) (0, 0)).2 + 1)) else out ++ [(IntKind.u16.wrap h, IntKind.u16.wrap h)]
def runsF (hs : List Int) : List (Int × Int) := hs.foldl runS []
theorem runs_take {hs : List Int} {i : Nat} (h : i < hs.length) : runsF (hs.take (i + 1)) = runS (runsF (hs.take i)) (hs.getD i 0) := by
  unfold runsF
  rw [List.take_add_one, List.getElem?_eq_getElem h, List.foldl_append]
  simp [h]
theorem runS_ne {out : List (Int × Int)} {h : Int} : runS out h ≠ [] := by
  unfold runS
  split
  · rename_i hj
    unfold runJ at hj
    intro e
    have := congrArg List.length e
    simp only [List.length_set, List.length_nil] at this
    simp [this] at hj
  · simp
theorem msort_len (l : List Int) : (msort l).length = l.length := List.length_mergeSort _
/-- A slice's beginning. -/
theorem Sq.pre {T : Tm} {H : AH} {cf : CallF} {sz : Nat} {v : AV} {c l : List AV} {x y : XO} {k : IntKind} {j : Nat} (h : Sq sz v c l) (hsz : 0 < sz) (hx : x.ev T = v) (hi : y.ev T = .i k ((j : Nat) : Int)) (h1 : j * sz ≤ l.length) :
    ∃ w, (XOp.slsl sz x none (some y) none).run cf T H = some (w, H) ∧ Sq sz w c (l.take (j * sz)) ∧ (∀ cc, qseg w cc = qseg v cc) ∧ (v = .sl none 0 0 0 → w = .sl none 0 0 0) := by
  cases h with
  | nil =>
    have : j = 0 := by
      rcases Nat.eq_zero_or_pos j with h | h
      · exact h
      · have := Nat.mul_pos h hsz; simp at h1; omega
    subst this
    refine ⟨.sl none 0 0 0, ?_, by simpa using Sq.nil, fun _ => rfl, fun _ => rfl⟩
    have e := sb_hi' (kd := k) (i := 0) (len := 0) (cap := 0) (Nat.le_refl 0)
    simp only [XOp.run, XOp.look, hx, true_or, if_true, Option.map_none, Option.map_some, hi, e]
    rfl
  | @mk b o n cap g c l hg hl hn hc =>
    have hlen := (takeAt_len hl).1
    have hjn : j ≤ n := by
      rw [hlen] at h1
      exact Nat.le_of_mul_le_mul_right h1 hsz
    refine ⟨.sl (some (b, o)) j cap g, ?_, .mk hg ?_ (by omega) hc, fun _ => rfl, fun h => by cases h⟩
    · have e := sb_hi' (kd := k) (i := j) (len := n) (cap := cap) (by omega)
      simp only [XOp.run, XOp.look, hx, if_pos hg, Option.map_none, Option.map_some, hi, e]
      simp
    · have hle : j * sz ≤ n * sz := Nat.mul_le_mul_right _ hjn
      unfold takeAt at hl ⊢
      split at hl
      · rename_i hb
        rw [if_pos (by omega)]
        simp only [Option.some.injEq] at hl ⊢
        rw [← hl, List.take_take]
        congr 1
        omega
      · cases hl
theorem u1_get {l : List Int} {i : Nat} (h : i < l.length) : (l.map u1)[i]? = some [AV.i .u32 (l.getD i 0)] := by
  rw [List.getElem?_map, List.getElem?_eq_getElem h]
  simp [u1, h]
theorem u1_lens (l : List Int) : ∀ r ∈ l.map u1, r.length = 1 := fun r hr => by obtain ⟨x, _, rfl⟩ := List.mem_map.1 hr; rfl
theorem rw2_take (l : List (Int × Int)) (j : Nat) : (rw2 l).flatten.take (j * 2) = (rw2 (l.take j)).flatten := by
  induction l generalizing j with
  | nil => simp
  | cons p l ih =>
    cases j with
    | zero => simp
    | succ j =>
      rw [List.take_succ_cons, show (j + 1) * 2 = j * 2 + 1 + 1 by omega]
      show AV.i .u16 p.1 :: AV.i .u16 p.2 :: (rw2 l).flatten.take (j * 2) = AV.i .u16 p.1 :: AV.i .u16 p.2 :: (rw2 (l.take j)).flatten
      rw [ih]
theorem take_min {α : Type} (l : List α) (k : Nat) : l.take (min l.length k) = l.take k := by
  rcases Nat.le_total l.length k with h | h
  · rw [Nat.min_eq_left h, List.take_length, List.take_of_length_le h]
  · rw [Nat.min_eq_right h]
theorem Hs.nil1 {H : AH} {A R : HL} (h : Hs H (A ++ R)) : Hs H (A ++ ([] ++ R)) := h
def xr15_0 : XC := (.region [⟨(some 2), (.mv (.c (.sl none 0 0 0))), none, 0, []⟩])
def xr15_1 : XC := (.seq (.region [⟨(some 9), (.mv (.t 0)), none, 0, []⟩, ⟨(some 10), (.nilq 0 false (.t 9)), none, 1, []⟩]) (.cond (.t 10) (.seq (.region [⟨(some 2), (.mv (.c (.sl none 0 0 0))), none, 0, []⟩]) .ret) .skip))
def xr15_3 : XC := (.region [⟨(some 3), (.mv (.c (.sl none 0 0 0))), none, 0, []⟩])
def l15_4 : List XOper := [⟨(some 11), (.mv (.t 0)), none, 0, []⟩, ⟨(some 12), (.nilc (.t 11)), none, 1, []⟩, ⟨(some 13), (.fadd 1 (.t 12)), none, 2, []⟩, ⟨(some 14), (.load false 1 (.t 13)), none, 3, []⟩]
def l15 : List XOper := [⟨(some 19), (.ext (.t 18) 0), none, 1, []⟩, ⟨(some 4), (.mv (.t 19)), none, 2, []⟩]
def xb15 : XC := (.region [⟨(some 20), (.mv (.t 3)), none, 0, []⟩, ⟨(some 21), (.mv (.t 0)), none, 1, []⟩, ⟨(some 22), (.nilc (.t 21)), none, 2, []⟩, ⟨(some 23), (.fadd 0 (.t 22)), none, 3, []⟩, ⟨(some 24), (.load false 1 (.t 23)), none, 4, []⟩, ⟨(some 25), (.mv (.t 4)), none, 5, []⟩, ⟨(some 26), (.call (.c (.fn (.func 17) [] [])) [(.t 24), (.t 25)]), none, 6, []⟩, ⟨(some 27), (.bslice [(.i .u32 0)] [(0, 1, (.t 26))] 1), none, 7, []⟩, ⟨(some 28), (.append 1 4 (.t 20) (.t 27)), none, 8, []⟩, ⟨(some 3), (.mv (.t 28)), none, 9, []⟩])
def xs15 : XC := (.seq (.region [⟨(some 29), (.mv (.t 3)), none, 0, []⟩, ⟨(some 30), (.call (.c (.fn (.func 31) [] [])) [(.t 29)]), none, 1, []⟩]) (.seq (.region [⟨(some 5), (.mv (.c (.sl none 0 0 0))), none, 0, []⟩]) (.seq (.seq (.region [⟨(some 31), (.mv (.t 3)), none, 0, []⟩, ⟨(some 32), (.lenx (.t 31)), none, 1, []⟩, ⟨(some 33), (.mv (.c (.i .i64 0))), none, 2, []⟩]) (.block 2 (.loop (.seq (.region [⟨(some 34), (.bin .lss (.t 33) (.t 32)), none, 0, []⟩]) (.seq (.cond (.t 34) .skip (.exit 2)) (.seq (.block 3 (.seq (.region [⟨(some 35), (.isl 1 (.t 31) (.t 33)), none, 0, []⟩, ⟨(some 36), (.load false 1 (.t 35)), none, 1, []⟩, ⟨(some 7), (.mv (.t 36)), none, 2, []⟩]) (.seq (.seq (.region [⟨(some 37), (.mv (.t 5)), none, 0, []⟩, ⟨(some 38), (.lenx (.t 37)), none, 1, []⟩, ⟨(some 39), (.bin .sub (.t 38) (.c (.i .i64 1))), none, 2, []⟩, ⟨(some 8), (.mv (.t 39)), none, 3, []⟩]) (.seq (.region [⟨(some 40), (.mv (.t 8)), none, 0, []⟩, ⟨(some 41), (.bin .geq (.t 40) (.c (.i .i64 0))), none, 1, []⟩, ⟨(some 42), (.mv (.t 41)), none, 2, []⟩, ⟨(some 43), (.mv (.t 5)), (some (42, true)), 3, []⟩, ⟨(some 44), (.mv (.t 8)), (some (42, true)), 4, []⟩, ⟨(some 45), (.isl 2 (.t 43) (.t 44)), (some (42, true)), 5, []⟩, ⟨(some 46), (.fadd 1 (.t 45)), (some (42, true)), 6, []⟩, ⟨(some 47), (.load false 1 (.t 46)), (some (42, true)), 7, []⟩, ⟨(some 48), (.cint .u32 (.t 47)), (some (42, true)), 8, []⟩, ⟨(some 49), (.bin .add (.t 48) (.c (.i .u32 1))), (some (42, true)), 9, []⟩, ⟨(some 50), (.mv (.t 7)), (some (42, true)), 10, []⟩, ⟨(some 51), (.bin .eql (.t 49) (.t 50)), (some (42, true)), 11, []⟩, ⟨(some 52), (.pick (.t 42) (.t 51) (.c (.b false))), none, 12, []⟩]) (.cond (.t 52) (.seq (.region [⟨(some 53), (.mv (.t 5)), none, 0, []⟩, ⟨(some 54), (.mv (.t 8)), none, 1, []⟩, ⟨(some 55), (.isl 2 (.t 53) (.t 54)), none, 2, []⟩, ⟨(some 56), (.fadd 1 (.t 55)), none, 3, []⟩, ⟨(some 57), (.load false 1 (.t 56)), none, 4, []⟩, ⟨(some 58), (.bin .add (.t 57) (.c (.i .u16 1))), none, 5, []⟩, ⟨(some 59), (.isl 2 (.t 53) (.t 54)), none, 6, []⟩, ⟨(some 60), (.fadd 1 (.t 59)), none, 7, []⟩, ⟨none, (.store 1 (.t 60) (.t 58)), none, 8, []⟩]) (.exit 3)) .skip))) (.region [⟨(some 61), (.mv (.t 5)), none, 0, []⟩, ⟨(some 62), (.mv (.t 7)), none, 1, []⟩, ⟨(some 63), (.cint .u16 (.t 62)), none, 2, []⟩, ⟨(some 64), (.mv (.t 7)), none, 3, []⟩, ⟨(some 65), (.cint .u16 (.t 64)), none, 4, []⟩, ⟨(some 66), (.build [(.i .u16 0), (.i .u16 0)] [(0, 1, (.t 63)), (1, 1, (.t 65))]), none, 5, []⟩, ⟨(some 67), (.bslice [(.i .u16 0), (.i .u16 0)] [(0, 2, (.t 66))] 1), none, 6, []⟩, ⟨(some 68), (.append 2 4 (.t 61) (.t 67)), none, 7, []⟩, ⟨(some 5), (.mv (.t 68)), none, 8, []⟩])))) (.region [⟨(some 69), (.bin .add (.t 33) (.c (.i .i64 1))), none, 0, []⟩, ⟨(some 33), (.mv (.t 69)), none, 1, []⟩]))))))) (.seq (.region [⟨(some 70), (.mv (.t 5)), none, 0, []⟩, ⟨(some 71), (.mv (.t 5)), none, 1, []⟩, ⟨(some 72), (.lenx (.t 71)), none, 2, []⟩, ⟨(some 73), (.mnmx false [(.t 72), (.c (.i .i64 64))]), none, 3, []⟩, ⟨(some 74), (.slsl 2 (.t 70) none (some (.t 73)) none), none, 4, []⟩, ⟨(some 2), (.mv (.t 74)), none, 5, []⟩]) .ret))))
theorem r15_ev {T : Tm} {H : AH} {R : HL} {a : Nat} {c key : Int} {x1 x2 hv it : AV} {hc : List AV} {hs : List Int} (h0 : T.get 0 = .p (some (a, 0))) (h3 : T.get 3 = hv) (h15 : T.get 15 = it) (h18 : T.get 18 = .tup [.i .u32 key, .b true]) (hd : Sq 1 hv hc (lU hs)) (hl : hs.length ≤ 1000000) (hH0 : Hs H ([(a, some (.cells [.i .u32 c, x1, x2] true))] ++ (qseg hv hc ++ R))) :
    C tabS spS (.seq (.region l15) xb15) T H (fun e T' H' => e = .norm ∧ T'.get 0 = .p (some (a, 0)) ∧ T'.get 15 = it ∧ ∃ hv' hc', T'.get 3 = hv' ∧ Sq 1 hv' hc' (lU (hs ++ [dst c key])) ∧ Hs H' ([(a, some (.cells [.i .u32 c, x1, x2] true))] ++ (qseg hv' hc' ++ R))) := by
  refine C_seq ?_
  refine C_region ?_
  refine O_p (.i .u32 key) (r_ext h18 rfl) ?_
  refine O_p (.i .u32 key) (r_mv rfl) ?_
  refine O_nil ?_
  refine C_region ?_
  refine O_p hv (r_mv h3) ?_
  refine O_p (.p (some (a, 0))) (r_mv h0) ?_
  refine O_p (.p (some (a, 0))) (r_nilc rfl) ?_
  refine O_p (.p (some (a, 0))) (r_fadd' rfl rfl) ?_
  refine O_p (.i .u32 c) (r_ld rfl hH0.get0 rfl) ?_
  refine O_p (.i .u32 key) (r_mv rfl) ?_
  refine O_call (Ev.mono (dist_ev (x := c) (y := key) hH0) fun v1 H2 hq3 => ?_)
  obtain ⟨rfl, hH4⟩ := hq3
  refine O_bslice (c := [(.i .u32 (dst c key))]) rfl fun n5 H6 hN7 => ?_
  have hH8 := hH4.new hN7
  refine O_qh (by exact r_appq (n := hs.length) (k := 1) (new := [(.i .u32 (dst c key))]) hH8.top2 hd rfl rfl rfl (src_blk hH8.get0 (by rfl)) rfl (by decide) (by decide) (lU_len hs) (by first | omega | (simp only [List.length_take, List.length_drop, List.length_append, List.length_cons, List.length_nil, beN_len] <;> omega))) fun o9 H10 hA12 => ?_
  obtain ⟨c11, hA12, hH13⟩ := hA12
  refine O_p o9 (r_mv rfl) ?_
  refine O_nil ?_
  have hH14 := (hH13.sub1)
  have hH15 := (hH14.top1)
  exact ⟨rfl, h0, h15, o9, c11, rfl, by rw [← lU_app]; exact hA12, hH15⟩
theorem s15_ev {T : Tm} {H : AH} {R : HL} {hv : AV} {hc : List AV} {hs : List Int} {N : Nat} (hS : SortOK N) (hN : N ≤ 1000000) (hl : hs.length ≤ N) (h3 : T.get 3 = hv) (hd : Sq 1 hv hc (lU hs)) (hH0 : Hs H (qseg hv hc ++ R)) :
    C tabS spS xs15 T H (fun e T' H' => e = .ret ∧ ∃ w wc, T'.get 2 = w ∧ Sq 2 w wc (rw2 ((runsF (msort hs)).take 64)).flatten ∧ (runsF (msort hs) = [] → w = .sl none 0 0 0) ∧ Hs H' (qseg w wc ++ R)) := by
  refine C_seq ?_
  refine C_region ?_
  refine O_p hv (r_mv h3) ?_
  refine O_call (Ev.mono (hS hd hl hH0) fun v1 H2 hq3 => ?_)
  obtain ⟨rfl, c4, hc5, hH6⟩ := hq3
  obtain ⟨hs2, he2⟩ : ∃ z, z = msort hs := ⟨_, rfl⟩
  rw [← he2] at hc5
  have hl2 : hs2.length = hs.length := by rw [he2, msort_len]
  rw [← he2]
  refine O_nil ?_
  refine C_seq ?_
  refine C_region ?_
  refine O_p (.sl none 0 0 0) (r_mv rfl) ?_
  refine O_nil ?_
  refine C_seq ?_
  refine C_seq ?_
  refine C_region ?_
  refine O_p hv (r_mv h3) ?_
  refine O_p (.i .i64 (((hs2.length : Nat)) : Int)) (by exact (by exact r_lenOf rfl (hc5.lenOf (lU_len hs2) (by decide)) hc5.isSl)) ?_
  refine O_p (.i .i64 0) (r_mv rfl) ?_
  refine O_nil ?_
  refine C_block ?_
  refine C_while (fun m7 T8 H9 => ∃ i : Nat, ∃ od : List (Int × Int), ∃ v5 : AV, ∃ c5 : List AV, ∃ ch : List AV, m7 = hs2.length - i ∧ i ≤ hs2.length ∧ Sq 1 hv ch (lU hs2) ∧ Sq 2 v5 c5 (rw2 od).flatten ∧ od = runsF (hs2.take i) ∧ (od = [] → v5 = .sl none 0 0 0) ∧ od.length ≤ i ∧ Hs H9 ((qseg hv ch) ++ ((qseg v5 c5) ++ (R))) ∧ T8.get 31 = hv ∧ T8.get 32 = (.i .i64 (((hs2.length : Nat)) : Int)) ∧ T8.get 33 = (.i .i64 (((i : Nat)) : Int)) ∧ T8.get 5 = v5) (fun m7 T8 H9 hI10 => ?_) hs2.length _ _ ⟨0, [], (.sl none 0 0 0), [], c4, rfl, by omega, hc5, Sq.nil, rfl, fun _ => rfl, by simp, Hs.nil1 hH6, rfl, rfl, rfl, rfl⟩
  obtain ⟨i, od, v5, c5, ch, hm11, hp12, hp13, hp14, hp15, hp16, hp17, hH22, hT18, hT19, hT20, hT21⟩ := hI10
  refine C_seq ?_
  refine C_region ?_
  refine O_p (.b (decide ((((i : Nat)) : Int) < (((hs2.length : Nat)) : Int)))) (r_lss hT20 hT19) ?_
  refine O_nil ?_
  refine C_seq ?_
  refine C_cond (x := (decide ((((i : Nat)) : Int) < (((hs2.length : Nat)) : Int)))) rfl (fun hc23 => ?_) (fun hc23 => ?_)
  ·
    try simp only [decide_eq_true_eq, decide_eq_false_iff_not, Bool.not_eq_true', Bool.not_eq_false', Bool.and_eq_true, Bool.or_eq_true, Bool.or_eq_false_iff, Bool.not_not, Bool.and_eq_false_iff] at hc23
    refine C_skip ?_
    refine C_seq ?_
    refine C_block ?_
    refine C_seq ?_
    refine C_region ?_
    refine O_q (by exact Sq.cell hp13 (u1_lens hs2) hH22.top0 (by exact hT18) (i := i) (by exact hT20) (r := [(.i .u32 (hs2.getD i 0))]) (u1_get (l := hs2) (i := i) (by omega)) (by decide)) fun v25 hv24 => ?_
    obtain ⟨rb26, ro27, rfl, hrg28, hrt29, hrb30, hput31, hqs32⟩ := hv24
    refine O_p (.i .u32 (hs2.getD i 0)) (r_ldR (q := 0) rfl ⟨_, _, hrg28, hrt29⟩ rfl) ?_
    refine O_p (.i .u32 (hs2.getD i 0)) (r_mv rfl) ?_
    refine O_nil ?_
    refine C_seq ?_
    refine C_seq ?_
    by_cases hne : 0 < od.length
    ·
      refine C_region ?_
      refine O_p v5 (r_mv hT21) ?_
      refine O_p (.i .i64 (((od.length : Nat)) : Int)) (by exact (by exact r_lenOf rfl (hp14.lenOf (rw2_len od) (by decide)) hp14.isSl)) ?_
      refine O_p (.i .i64 ((((od.length - 1) : Nat)) : Int)) (by exact (r_subn (a := od.length) (b := 1) rfl rfl (by omega) (by omega))) ?_
      refine O_p (.i .i64 ((((od.length - 1) : Nat)) : Int)) (r_mv rfl) ?_
      refine O_nil ?_
      refine C_seq ?_
      refine C_region ?_
      refine O_p (.i .i64 ((((od.length - 1) : Nat)) : Int)) (r_mv rfl) ?_
      refine O_p (.b true) (by exact (by rw [r_geq rfl rfl, decide_eq_true (by omega)])) ?_
      refine O_p (.b true) (r_mv rfl) ?_
      refine O_gk rfl ?_
      refine O_p v5 (r_mv hT21) ?_
      refine O_gk rfl ?_
      refine O_p (.i .i64 ((((od.length - 1) : Nat)) : Int)) (r_mv rfl) ?_
      refine O_gk rfl ?_
      refine O_q (by exact Sq.cell hp14 (rw2_lens od) hH22.top1 rfl (i := (od.length - 1)) rfl (r := [(.i .u16 (od.getD (od.length - 1) (0, 0)).1), (.i .u16 (od.getD (od.length - 1) (0, 0)).2)]) (rw2_get (l := od) (i := (od.length - 1)) (by omega)) (by decide)) fun v34 hv33 => ?_
      obtain ⟨rb35, ro36, rfl, hrg37, hrt38, hrb39, hput40, hqs41⟩ := hv33
      refine O_gk rfl ?_
      refine O_p (.p (some (rb35, (ro36 + 1)))) (r_fadd' rfl rfl) ?_
      refine O_gk rfl ?_
      refine O_p (.i .u16 (od.getD (od.length - 1) (0, 0)).2) (r_ldR (q := 1) rfl ⟨_, _, hrg37, hrt38⟩ rfl) ?_
      refine O_gk rfl ?_
      refine O_p (.i .u32 (IntKind.u32.wrap ((od.getD (od.length - 1) (0, 0)).2))) (r_cint rfl) ?_
      refine O_gk rfl ?_
      refine O_p (.i .u32 (IntKind.u32.wrap ((IntKind.u32.wrap ((od.getD (od.length - 1) (0, 0)).2)) + 1))) (r_bin rfl rfl rfl) ?_
      refine O_gk rfl ?_
      refine O_p (.i .u32 (hs2.getD i 0)) (r_mv rfl) ?_
      refine O_gk rfl ?_
      refine O_p (.b (decide ((IntKind.u32.wrap ((IntKind.u32.wrap ((od.getD (od.length - 1) (0, 0)).2)) + 1)) = (hs2.getD i 0)))) (r_eql rfl rfl) ?_
      refine O_p (.b (decide ((IntKind.u32.wrap ((IntKind.u32.wrap ((od.getD (od.length - 1) (0, 0)).2)) + 1)) = (hs2.getD i 0)))) (r_pick_t rfl rfl) ?_
      refine O_nil ?_
      refine C_cond (x := (decide ((IntKind.u32.wrap ((IntKind.u32.wrap ((od.getD (od.length - 1) (0, 0)).2)) + 1)) = (hs2.getD i 0)))) rfl (fun hc42 => ?_) (fun hc42 => ?_)
      ·
        have hj : runJ od (hs2.getD i 0) = true := by unfold runJ; rw [decide_eq_true hne, hc42]; rfl
        try simp only [decide_eq_true_eq, decide_eq_false_iff_not, Bool.not_eq_true', Bool.not_eq_false', Bool.and_eq_true, Bool.or_eq_true, Bool.or_eq_false_iff, Bool.not_not, Bool.and_eq_false_iff] at hc42
        refine C_seq ?_
        refine C_region ?_
        refine O_p v5 (r_mv hT21) ?_
        refine O_p (.i .i64 ((((od.length - 1) : Nat)) : Int)) (r_mv rfl) ?_
        refine O_q (by exact Sq.cell hp14 (rw2_lens od) hH22.top1 rfl (i := (od.length - 1)) rfl (r := [(.i .u16 (od.getD (od.length - 1) (0, 0)).1), (.i .u16 (od.getD (od.length - 1) (0, 0)).2)]) (rw2_get (l := od) (i := (od.length - 1)) (by omega)) (by decide)) fun v44 hv43 => ?_
        obtain ⟨rb45, ro46, rfl, hrg47, hrt48, hrb49, hput50, hqs51⟩ := hv43
        refine O_p (.p (some (rb45, (ro46 + 1)))) (r_fadd' rfl rfl) ?_
        refine O_p (.i .u16 (od.getD (od.length - 1) (0, 0)).2) (r_ldR (q := 1) rfl ⟨_, _, hrg47, hrt48⟩ rfl) ?_
        refine O_p (.i .u16 (IntKind.u16.wrap ((od.getD (od.length - 1) (0, 0)).2 + 1))) (r_bin rfl rfl rfl) ?_
        refine O_q (by exact Sq.cell hp14 (rw2_lens od) hH22.top1 rfl (i := (od.length - 1)) rfl (r := [(.i .u16 (od.getD (od.length - 1) (0, 0)).1), (.i .u16 (od.getD (od.length - 1) (0, 0)).2)]) (rw2_get (l := od) (i := (od.length - 1)) (by omega)) (by decide)) fun v53 hv52 => ?_
        obtain ⟨rb54, ro55, rfl, hrg56, hrt57, hrb58, hput59, hqs60⟩ := hv52
        refine O_p (.p (some (rb54, (ro55 + 1)))) (r_fadd' rfl rfl) ?_
        refine O_store (vs := [(.i .u16 (IntKind.u16.wrap ((od.getD (od.length - 1) (0, 0)).2 + 1)))]) (c' := (putAt c5 (ro55 + 1) [(.i .u16 (IntKind.u16.wrap ((od.getD (od.length - 1) (0, 0)).2 + 1)))])) rfl (by rfl) hrg56 rfl (List.cons_ne_nil _ _) (by have := hrb58; show _ + 1 ≤ _; omega) rfl fun H61 hW62 => ?_
        have hH64 := Hs.cong1 (Hs.wr1 (Hs.cong1 hH22 (hqs60 _)) hW62) (hqs60 _).symm
        have hSq63 := hput59 1 [(.i .u16 (IntKind.u16.wrap ((od.getD (od.length - 1) (0, 0)).2 + 1)))] [(.i .u16 (od.getD (od.length - 1) (0, 0)).1), (.i .u16 (IntKind.u16.wrap ((od.getD (od.length - 1) (0, 0)).2 + 1)))] (Nat.le_of_ble_eq_true rfl) rfl
        obtain ⟨od65, oe66⟩ : ∃ z : List (Int × Int), z = od.set (od.length - 1) ((od.getD (od.length - 1) (0, 0)).1, (IntKind.u16.wrap ((od.getD (od.length - 1) (0, 0)).2 + 1))) := ⟨_, rfl⟩
        have of67 : Sq 2 v5 (putAt c5 (ro55 + 1) [(.i .u16 (IntKind.u16.wrap ((od.getD (od.length - 1) (0, 0)).2 + 1)))]) (rw2 od65).flatten := by rw [oe66, ← rw2_set]; exact hSq63
        refine O_nil ?_
        refine C_exit ?_
        refine nx_exit ?_
        refine bk_hit ?_
        refine C_region ?_
        refine O_p (.i .i64 ((((i : Nat)) : Int) + 1)) (by exact (r_addi hT20 rfl (wrap_i64 (by omega) (by omega)))) ?_
        refine O_p (.i .i64 ((((i : Nat)) : Int) + 1)) (r_mv rfl) ?_
        refine O_nil ?_
        have hH68 := ((hH64.top1).top1)
        exact ⟨(hs2.length - (i + 1)), by omega, (i + 1), (runS od (hs2.getD i 0)), v5, (putAt c5 (ro55 + 1) [(.i .u16 (IntKind.u16.wrap ((od.getD (od.length - 1) (0, 0)).2 + 1)))]), ch, rfl, by omega, hp13, by unfold runS; rw [if_pos hj, ← oe66]; exact of67, by rw [hp15, ← runs_take (by omega)], fun h9 => absurd h9 runS_ne, by unfold runS; rw [if_pos hj, List.length_set]; omega, hH68, hT18, hT19, rfl, hT21⟩
      ·
        have hj : ¬ runJ od (hs2.getD i 0) = true := by unfold runJ; rw [decide_eq_true hne, hc42]; simp
        try simp only [decide_eq_true_eq, decide_eq_false_iff_not, Bool.not_eq_true', Bool.not_eq_false', Bool.and_eq_true, Bool.or_eq_true, Bool.or_eq_false_iff, Bool.not_not, Bool.and_eq_false_iff] at hc42
        refine C_skip ?_
        refine C_region ?_
        refine O_p v5 (r_mv hT21) ?_
        refine O_p (.i .u32 (hs2.getD i 0)) (r_mv rfl) ?_
        refine O_p (.i .u16 (IntKind.u16.wrap (hs2.getD i 0))) (r_cint rfl) ?_
        refine O_p (.i .u32 (hs2.getD i 0)) (r_mv rfl) ?_
        refine O_p (.i .u16 (IntKind.u16.wrap (hs2.getD i 0))) (r_cint rfl) ?_
        refine O_p (.agg [(.i .u16 (IntKind.u16.wrap (hs2.getD i 0))), (.i .u16 (IntKind.u16.wrap (hs2.getD i 0)))]) (r_build rfl) ?_
        refine O_bslice (c := [(.i .u16 (IntKind.u16.wrap (hs2.getD i 0))), (.i .u16 (IntKind.u16.wrap (hs2.getD i 0)))]) rfl fun n69 H70 hN71 => ?_
        have hH72 := hH22.new hN71
        refine O_qh (by exact r_appq (n := od.length) (k := 1) (new := [(.i .u16 (IntKind.u16.wrap (hs2.getD i 0))), (.i .u16 (IntKind.u16.wrap (hs2.getD i 0)))]) hH72.top2 hp14 rfl rfl rfl (src_blk hH72.get0 (by rfl)) rfl (by decide) (by decide) (rw2_len od) (by first | omega | (simp only [List.length_take, List.length_drop, List.length_append, List.length_cons, List.length_nil, beN_len] <;> omega))) fun o73 H74 hA76 => ?_
        obtain ⟨c75, hA76, hH77⟩ := hA76
        refine O_p o73 (r_mv rfl) ?_
        refine O_nil ?_
        refine C_region ?_
        refine O_p (.i .i64 ((((i : Nat)) : Int) + 1)) (by exact (r_addi hT20 rfl (wrap_i64 (by omega) (by omega)))) ?_
        refine O_p (.i .i64 ((((i : Nat)) : Int) + 1)) (r_mv rfl) ?_
        refine O_nil ?_
        have hH78 := (hH77.sub1)
        have hH79 := (hH78.top1)
        exact ⟨(hs2.length - (i + 1)), by omega, (i + 1), (runS od (hs2.getD i 0)), o73, c75, ch, rfl, by omega, hp13, by unfold runS; rw [if_neg hj, ← rw2_app]; exact hA76, by rw [hp15, ← runs_take (by omega)], fun h9 => absurd h9 runS_ne, by unfold runS; rw [if_neg hj, List.length_append]; simp only [List.length_cons, List.length_nil]; omega, hH79, hT18, hT19, rfl, rfl⟩
    ·
      have hj : ¬ runJ od (hs2.getD i 0) = true := by unfold runJ; rw [decide_eq_false hne]; simp
      refine C_region ?_
      refine O_p v5 (r_mv hT21) ?_
      refine O_p (.i .i64 (((od.length : Nat)) : Int)) (by exact (by exact r_lenOf rfl (hp14.lenOf (rw2_len od) (by decide)) hp14.isSl)) ?_
      refine O_p (.i .i64 ((((od.length : Nat)) : Int) - 1)) (by exact (r_subi rfl rfl (wrap_i64 (by omega) (by omega)))) ?_
      refine O_p (.i .i64 ((((od.length : Nat)) : Int) - 1)) (r_mv rfl) ?_
      refine O_nil ?_
      refine C_seq ?_
      refine C_region ?_
      refine O_p (.i .i64 ((((od.length : Nat)) : Int) - 1)) (r_mv rfl) ?_
      refine O_p (.b false) (by exact (by rw [r_geq rfl rfl, decide_eq_false (by omega)])) ?_
      refine O_p (.b false) (r_mv rfl) ?_
      refine O_gf rfl ?_
      refine O_gf rfl ?_
      refine O_gf rfl ?_
      refine O_gf rfl ?_
      refine O_gf rfl ?_
      refine O_gf rfl ?_
      refine O_gf rfl ?_
      refine O_gf rfl ?_
      refine O_gf rfl ?_
      refine O_p (.b false) (r_pick_f rfl rfl) ?_
      refine O_nil ?_
      refine C_cond (x := false) rfl (fun h => by cases h) (fun _ => ?_)
      refine C_skip ?_
      refine C_region ?_
      refine O_p v5 (r_mv hT21) ?_
      refine O_p (.i .u32 (hs2.getD i 0)) (r_mv rfl) ?_
      refine O_p (.i .u16 (IntKind.u16.wrap (hs2.getD i 0))) (r_cint rfl) ?_
      refine O_p (.i .u32 (hs2.getD i 0)) (r_mv rfl) ?_
      refine O_p (.i .u16 (IntKind.u16.wrap (hs2.getD i 0))) (r_cint rfl) ?_
      refine O_p (.agg [(.i .u16 (IntKind.u16.wrap (hs2.getD i 0))), (.i .u16 (IntKind.u16.wrap (hs2.getD i 0)))]) (r_build rfl) ?_
      refine O_bslice (c := [(.i .u16 (IntKind.u16.wrap (hs2.getD i 0))), (.i .u16 (IntKind.u16.wrap (hs2.getD i 0)))]) rfl fun n80 H81 hN82 => ?_
      have hH83 := hH22.new hN82
      refine O_qh (by exact r_appq (n := od.length) (k := 1) (new := [(.i .u16 (IntKind.u16.wrap (hs2.getD i 0))), (.i .u16 (IntKind.u16.wrap (hs2.getD i 0)))]) hH83.top2 hp14 rfl rfl rfl (src_blk hH83.get0 (by rfl)) rfl (by decide) (by decide) (rw2_len od) (by first | omega | (simp only [List.length_take, List.length_drop, List.length_append, List.length_cons, List.length_nil, beN_len] <;> omega))) fun o84 H85 hA87 => ?_
      obtain ⟨c86, hA87, hH88⟩ := hA87
      refine O_p o84 (r_mv rfl) ?_
      refine O_nil ?_
      refine C_region ?_
      refine O_p (.i .i64 ((((i : Nat)) : Int) + 1)) (by exact (r_addi hT20 rfl (wrap_i64 (by omega) (by omega)))) ?_
      refine O_p (.i .i64 ((((i : Nat)) : Int) + 1)) (r_mv rfl) ?_
      refine O_nil ?_
      have hH89 := (hH88.sub1)
      have hH90 := (hH89.top1)
      exact ⟨(hs2.length - (i + 1)), by omega, (i + 1), (runS od (hs2.getD i 0)), o84, c86, ch, rfl, by omega, hp13, by unfold runS; rw [if_neg hj, ← rw2_app]; exact hA87, by rw [hp15, ← runs_take (by omega)], fun h9 => absurd h9 runS_ne, by unfold runS; rw [if_neg hj, List.length_append]; simp only [List.length_cons, List.length_nil]; omega, hH90, hT18, hT19, rfl, rfl⟩
  ·
    try simp only [decide_eq_true_eq, decide_eq_false_iff_not, Bool.not_eq_true', Bool.not_eq_false', Bool.and_eq_true, Bool.or_eq_true, Bool.or_eq_false_iff, Bool.not_not, Bool.and_eq_false_iff] at hc23
    refine C_exit ?_
    refine nx_exit ?_
    refine nx_exit ?_
    refine bk_hit ?_
    refine C_seq ?_
    refine C_region ?_
    refine O_p v5 (r_mv hT21) ?_
    refine O_p v5 (r_mv hT21) ?_
    refine O_p (.i .i64 (((od.length : Nat)) : Int)) (by exact (by exact r_lenOf rfl (hp14.lenOf (rw2_len od) (by decide)) hp14.isSl)) ?_
    refine O_p (.i .i64 ((((min od.length 64) : Nat)) : Int)) (r_minn (a := od.length) (b := 64) rfl rfl) ?_
    refine O_q (by exact Sq.pre hp14 (by decide) rfl (j := (min od.length 64)) rfl (by rw [(rw2_len od)]; omega)) fun v92 hv91 => ?_
    refine O_p v92 (r_mv rfl) ?_
    refine O_nil ?_
    refine C_ret ?_
    have hH93 := (hH22.sub0)
    obtain ⟨hw1, hw2, hw3⟩ := hv91
    obtain rfl : i = hs2.length := by omega
    rw [List.take_length] at hp15
    exact ⟨rfl, v92, c5, rfl, by rw [rw2_take, take_min, hp15] at hw1; exact hw1, fun h9 => hw3 (hp16 (hp15.trans h9)), by rw [hw2]; exact hH93⟩


set_option linter.unusedVariables false
set_option linter.unusedSimpArgs false
open Go.Sort (swp PermIn SortedIn Below ltInt siftDown heapBuild heapPop heapSort)
theorem sd_stop {hi first root : Nat} {d : Array Int} (h : 2 * root + 1 ≥ hi) : siftDown ltInt hi first root d = d := by rw [siftDown, dif_pos h]
theorem sd_step {hi first root ch : Nat} {d : Array Int} (h : ¬ 2 * root + 1 ≥ hi) (hch : ch = if 2 * root + 1 + 1 < hi ∧ ltInt d[first + (2 * root + 1)]! d[first + (2 * root + 1) + 1]! = true then 2 * root + 1 + 1 else 2 * root + 1) :
    (ltInt d[first + root]! d[first + ch]! = false → siftDown ltInt hi first root d = d) ∧ (ltInt d[first + root]! d[first + ch]! = true → siftDown ltInt hi first root d = siftDown ltInt hi first ch (swp d (first + root) (first + ch))) := by
  rw [siftDown, dif_neg h]
  by_cases hc : 2 * root + 1 + 1 < hi ∧ ltInt d[first + (2 * root + 1)]! d[first + (2 * root + 1) + 1]! = true
  · rw [if_pos hc] at hch
    subst hch
    rw [if_pos (by rw [Bool.and_eq_true, decide_eq_true_eq]; exact hc)]
    refine ⟨fun h1 => ?_, fun h1 => ?_⟩
    · rw [if_pos (by rw [show 2 * root + 2 = 2 * root + 1 + 1 by omega, h1]; rfl)]
    · rw [if_neg (by rw [show 2 * root + 2 = 2 * root + 1 + 1 by omega, h1]; decide), dif_pos (show 2 * root + 2 < hi by omega)]
  · rw [if_neg hc] at hch
    subst hch
    rw [if_neg (by rw [Bool.and_eq_true, decide_eq_true_eq]; exact hc)]
    refine ⟨fun h1 => ?_, fun h1 => ?_⟩
    · rw [if_pos (by rw [h1]; rfl)]
    · rw [if_neg (by rw [h1]; decide)]
theorem sd_size {hi first : Nat} : ∀ {root : Nat} {d : Array Int}, (siftDown ltInt hi first root d).size = d.size := by
  intro root d
  fun_induction siftDown ltInt hi first root d <;> simp_all [swp]
set_option maxHeartbeats 1000000 in
theorem sift_ev {H : AH} {R : HL} {v : AV} {c : List AV} {d : Array Int} {n : Nat} {lo hi first : Nat} (hd : Sq 1 v c (dU d).flatten) (hn : d.size = n) (hl : n ≤ 1000000) (hf : first + hi ≤ n) (hlo : lo ≤ n) (hH0 : Hs H (qseg v c ++ R)) : Ev tabS spS (.fn (.func 51) [] []) [v, .i .i64 ((lo : Nat) : Int), .i .i64 ((hi : Nat) : Int), .i .i64 ((first : Nat) : Int)] H (fun r H' => r = .tup [] ∧ ∃ c', Sq 1 v c' (dU (siftDown ltInt hi first lo d)).flatten ∧ Hs H' (qseg v c' ++ R)) := by
  refine Ev_C (F := x51) rfl ?_
  refine C_seq ?_
  refine C_region ?_
  refine O_p (.i .i64 (((lo : Nat)) : Int)) (r_mv rfl) ?_
  refine O_p (.i .i64 (((lo : Nat)) : Int)) (r_mv rfl) ?_
  refine O_nil ?_
  refine C_block ?_
  refine C_while (fun m1 T2 H3 => ∃ d1 : Array Int, ∃ c1 : List AV, ∃ root : Nat, m1 = hi - root ∧ Sq 1 v c1 (dU d1).flatten ∧ d1.size = n ∧ siftDown ltInt hi first root d1 = siftDown ltInt hi first lo d ∧ root ≤ n ∧ Hs H3 ((qseg v c1) ++ (R)) ∧ T2.get 0 = v ∧ T2.get 2 = (.i .i64 (((hi : Nat)) : Int)) ∧ T2.get 3 = (.i .i64 (((first : Nat)) : Int)) ∧ T2.get 8 = (.i .i64 (((root : Nat)) : Int))) (fun m1 T2 H3 hI4 => ?_) (hi - lo) _ _ ⟨d, c, lo, rfl, hd, hn, rfl, hlo, hH0, rfl, rfl, rfl, rfl⟩
  obtain ⟨d1, c1, root, hm5, hp6, hp7, hp8, hp9, hH14, hT10, hT11, hT12, hT13⟩ := hI4
  refine C_block ?_
  refine C_seq ?_
  refine C_region ?_
  refine O_p (.i .i64 (((root : Nat)) : Int)) (r_mv hT13) ?_
  refine O_p (.i .i64 (2 * (((root : Nat)) : Int))) (by exact (r_muli rfl rfl (wrap_i64 (by omega) (by omega)))) ?_
  refine O_p (.i .i64 ((2 * (((root : Nat)) : Int)) + 1)) (by exact (r_addi rfl rfl (wrap_i64 (by omega) (by omega)))) ?_
  refine O_p (.i .i64 ((2 * (((root : Nat)) : Int)) + 1)) (r_mv rfl) ?_
  refine O_nil ?_
  refine C_seq ?_
  refine C_seq ?_
  refine C_region ?_
  refine O_p (.i .i64 ((2 * (((root : Nat)) : Int)) + 1)) (r_mv rfl) ?_
  refine O_p (.i .i64 (((hi : Nat)) : Int)) (r_mv hT11) ?_
  refine O_p (.b (decide ((((hi : Nat)) : Int) ≤ ((2 * (((root : Nat)) : Int)) + 1)))) (r_geq rfl rfl) ?_
  refine O_nil ?_
  refine C_cond (x := (decide ((((hi : Nat)) : Int) ≤ ((2 * (((root : Nat)) : Int)) + 1)))) rfl (fun hc15 => ?_) (fun hc15 => ?_)
  ·
    have hraw16 := hc15
    try simp only [decide_eq_true_eq, decide_eq_false_iff_not, Bool.not_eq_true', Bool.not_eq_false', Bool.and_eq_true, Bool.or_eq_true, Bool.or_eq_false_iff, Bool.not_not, Bool.and_eq_false_iff] at hc15
    have hge : 2 * root + 1 ≥ hi := by omega
    refine C_exit ?_
    refine nx_exit ?_
    refine bk_miss (by decide) ?_
    refine nx_exit ?_
    refine bk_hit ?_
    exact ⟨.inl rfl, [], rfl, rfl, c1, by rw [← hp8, sd_stop hge]; exact hp6, hH14⟩
  ·
    have hraw17 := hc15
    try simp only [decide_eq_true_eq, decide_eq_false_iff_not, Bool.not_eq_true', Bool.not_eq_false', Bool.and_eq_true, Bool.or_eq_true, Bool.or_eq_false_iff, Bool.not_not, Bool.and_eq_false_iff] at hc15
    have hge : ¬ 2 * root + 1 ≥ hi := by omega
    refine C_skip ?_
    refine C_seq ?_
    refine C_seq ?_
    by_cases hc2 : 2 * root + 1 + 1 < hi
    ·
      refine C_draw fun b18 H19 hbase20 hA21 => ?_
      have hH22 := hH14.keep (by have := hA21.1; omega) (fun q _ => hA21.2 q) ((hH14.old).aside hA21).ok
      refine D_l (v := (.i .i64 ((2 * (((root : Nat)) : Int)) + 1))) rfl rfl rfl (r_mv rfl) ?_
      refine D_l (v := (.i .i64 (((2 * (((root : Nat)) : Int)) + 1) + 1))) rfl rfl rfl (by exact (r_addi rfl rfl (wrap_i64 (by omega) (by omega)))) ?_
      refine D_l (v := (.i .i64 (((hi : Nat)) : Int))) rfl rfl rfl (r_mv hT11) ?_
      refine D_l (v := (.b true)) rfl rfl rfl (by exact (by rw [r_lss rfl rfl, decide_eq_true (by omega)])) ?_
      refine D_l (v := (.b true)) rfl rfl rfl (r_mv rfl) ?_
      refine D_gk rfl ?_
      refine D_l (v := v) rfl rfl rfl (r_mv hT10) ?_
      refine D_gk rfl ?_
      refine D_l (v := (.i .i64 (((first : Nat)) : Int))) rfl rfl rfl (r_mv hT12) ?_
      refine D_gk rfl ?_
      refine D_l (v := (.i .i64 ((2 * (((root : Nat)) : Int)) + 1))) rfl rfl rfl (r_mv rfl) ?_
      refine D_gk rfl ?_
      refine D_l (v := (.i .i64 ((((first : Nat)) : Int) + ((2 * (((root : Nat)) : Int)) + 1)))) rfl rfl rfl (by exact (r_addi rfl rfl (wrap_i64 (by omega) (by omega)))) ?_
      refine D_gk rfl ?_
      refine D_q rfl rfl rfl (by exact Sq.cell hp6 (u_lens d1) hH22.top0 rfl (i := (first + ((2 * root) + 1))) rfl (r := [(.i .u32 (d1[(first + ((2 * root) + 1))]!))]) (u_get (d := d1) (i := (first + ((2 * root) + 1))) (by omega)) (by decide)) fun v24 hv23 => ?_
      obtain ⟨rb25, ro26, rfl, hrg27, hrt28, hrb29, hput30, hqs31⟩ := hv23
      refine D_gk rfl ?_
      refine D_l (v := v) rfl rfl rfl (r_mv hT10) ?_
      refine D_gk rfl ?_
      refine D_l (v := (.i .i64 (((first : Nat)) : Int))) rfl rfl rfl (r_mv hT12) ?_
      refine D_gk rfl ?_
      refine D_l (v := (.i .i64 ((2 * (((root : Nat)) : Int)) + 1))) rfl rfl rfl (r_mv rfl) ?_
      refine D_gk rfl ?_
      refine D_l (v := (.i .i64 ((((first : Nat)) : Int) + ((2 * (((root : Nat)) : Int)) + 1)))) rfl rfl rfl (by exact (r_addi rfl rfl (wrap_i64 (by omega) (by omega)))) ?_
      refine D_gk rfl ?_
      refine D_l (v := (.i .i64 (((((first : Nat)) : Int) + ((2 * (((root : Nat)) : Int)) + 1)) + 1))) rfl rfl rfl (by exact (r_addi rfl rfl (wrap_i64 (by omega) (by omega)))) ?_
      refine D_gk rfl ?_
      refine D_q rfl rfl rfl (by exact Sq.cell hp6 (u_lens d1) hH22.top0 rfl (i := ((first + ((2 * root) + 1)) + 1)) rfl (r := [(.i .u32 (d1[((first + ((2 * root) + 1)) + 1)]!))]) (u_get (d := d1) (i := ((first + ((2 * root) + 1)) + 1)) (by omega)) (by decide)) fun v33 hv32 => ?_
      obtain ⟨rb34, ro35, rfl, hrg36, hrt37, hrb38, hput39, hqs40⟩ := hv32
      refine D_gk rfl ?_
      refine D_r (v := (.i .u32 (d1[(first + ((2 * root) + 1))]!))) rfl rfl rfl (r_ldR (q := 0) rfl ⟨_, _, hrg27, hrt28⟩ rfl) ?_
      refine D_gk rfl ?_
      refine D_r (v := (.i .u32 (d1[((first + ((2 * root) + 1)) + 1)]!))) rfl rfl rfl (r_ldR (q := 0) rfl ⟨_, _, hrg36, hrt37⟩ rfl) ?_
      refine D_gk rfl ?_
      refine D_call (Ev.mono (less_ev (x := (d1[(first + ((2 * root) + 1))]!)) (y := (d1[((first + ((2 * root) + 1)) + 1)]!)) hH22) fun v41 H42 hq43 => ?_)
      obtain ⟨rfl, hH44⟩ := hq43
      refine And.intro (And.intro (Or.inl rfl) (And.intro (Or.inl rfl) True.intro)) ?_
      refine D_l (v := (.b (decide ((d1[(first + ((2 * root) + 1))]!) < (d1[((first + ((2 * root) + 1)) + 1)]!))))) rfl rfl rfl (r_pick_t rfl rfl) ?_
      refine D_nil ?_
      refine C_cond (x := (decide ((d1[(first + ((2 * root) + 1))]!) < (d1[((first + ((2 * root) + 1)) + 1)]!)))) rfl (fun hc45 => ?_) (fun hc45 => ?_)
      ·
        have hraw46 := hc45
        try simp only [decide_eq_true_eq, decide_eq_false_iff_not, Bool.not_eq_true', Bool.not_eq_false', Bool.and_eq_true, Bool.or_eq_true, Bool.or_eq_false_iff, Bool.not_not, Bool.and_eq_false_iff] at hc45
        have hch : (2 * root + 1 + 1) = if 2 * root + 1 + 1 < hi ∧ ltInt d1[first + (2 * root + 1)]! d1[first + (2 * root + 1) + 1]! = true then 2 * root + 1 + 1 else 2 * root + 1 := (if_pos ⟨hc2, hraw46⟩).symm
        refine C_region ?_
        refine O_p (.i .i64 ((2 * (((root : Nat)) : Int)) + 1)) (r_mv rfl) ?_
        refine O_p (.i .i64 (((2 * (((root : Nat)) : Int)) + 1) + 1)) (by exact (r_addi rfl rfl (wrap_i64 (by omega) (by omega)))) ?_
        refine O_p (.i .i64 (((2 * (((root : Nat)) : Int)) + 1) + 1)) (r_mv rfl) ?_
        refine O_nil ?_
        refine C_seq ?_
        refine C_seq ?_
        refine C_draw fun b47 H48 hbase49 hA50 => ?_
        have hH51 := hH44.keep (by have := hA50.1; omega) (fun q _ => hA50.2 q) ((hH44.old).aside hA50).ok
        refine D_l (v := v) rfl rfl rfl (r_mv hT10) ?_
        refine D_l (v := (.i .i64 (((first : Nat)) : Int))) rfl rfl rfl (r_mv hT12) ?_
        refine D_l (v := (.i .i64 (((root : Nat)) : Int))) rfl rfl rfl (r_mv hT13) ?_
        refine D_l (v := (.i .i64 ((((first : Nat)) : Int) + (((root : Nat)) : Int)))) rfl rfl rfl (by exact (r_addi rfl rfl (wrap_i64 (by omega) (by omega)))) ?_
        refine D_q rfl rfl rfl (by exact Sq.cell hp6 (u_lens d1) hH51.top0 rfl (i := (first + root)) rfl (r := [(.i .u32 (d1[(first + root)]!))]) (u_get (d := d1) (i := (first + root)) (by omega)) (by decide)) fun v53 hv52 => ?_
        obtain ⟨rb54, ro55, rfl, hrg56, hrt57, hrb58, hput59, hqs60⟩ := hv52
        refine D_l (v := v) rfl rfl rfl (r_mv hT10) ?_
        refine D_l (v := (.i .i64 (((first : Nat)) : Int))) rfl rfl rfl (r_mv hT12) ?_
        refine D_l (v := (.i .i64 (((2 * (((root : Nat)) : Int)) + 1) + 1))) rfl rfl rfl (r_mv rfl) ?_
        refine D_l (v := (.i .i64 ((((first : Nat)) : Int) + (((2 * (((root : Nat)) : Int)) + 1) + 1)))) rfl rfl rfl (by exact (r_addi rfl rfl (wrap_i64 (by omega) (by omega)))) ?_
        refine D_q rfl rfl rfl (by exact Sq.cell hp6 (u_lens d1) hH51.top0 rfl (i := (first + (((2 * root) + 1) + 1))) rfl (r := [(.i .u32 (d1[(first + (((2 * root) + 1) + 1))]!))]) (u_get (d := d1) (i := (first + (((2 * root) + 1) + 1))) (by omega)) (by decide)) fun v62 hv61 => ?_
        obtain ⟨rb63, ro64, rfl, hrg65, hrt66, hrb67, hput68, hqs69⟩ := hv61
        refine D_r (v := (.i .u32 (d1[(first + root)]!))) rfl rfl rfl (r_ldR (q := 0) rfl ⟨_, _, hrg56, hrt57⟩ rfl) ?_
        refine D_r (v := (.i .u32 (d1[(first + (((2 * root) + 1) + 1))]!))) rfl rfl rfl (r_ldR (q := 0) rfl ⟨_, _, hrg65, hrt66⟩ rfl) ?_
        refine D_call (Ev.mono (less_ev (x := (d1[(first + root)]!)) (y := (d1[(first + (((2 * root) + 1) + 1))]!)) hH51) fun v70 H71 hq72 => ?_)
        obtain ⟨rfl, hH73⟩ := hq72
        refine And.intro (And.intro (Or.inl rfl) (And.intro (Or.inl rfl) True.intro)) ?_
        refine D_l (v := (.b (!(decide ((d1[(first + root)]!) < (d1[(first + (((2 * root) + 1) + 1))]!)))))) rfl rfl rfl (r_not rfl) ?_
        refine D_nil ?_
        refine C_cond (x := (!(decide ((d1[(first + root)]!) < (d1[(first + (((2 * root) + 1) + 1))]!))))) rfl (fun hc74 => ?_) (fun hc74 => ?_)
        ·
          have hraw75 := hc74
          try simp only [decide_eq_true_eq, decide_eq_false_iff_not, Bool.not_eq_true', Bool.not_eq_false', Bool.and_eq_true, Bool.or_eq_true, Bool.or_eq_false_iff, Bool.not_not, Bool.and_eq_false_iff] at hc74
          have hnl : ltInt d1[first + root]! d1[first + (2 * root + 1 + 1)]! = false := by have h9 := hraw75; simpa [ltInt] using h9
          refine C_ret ?_
          refine nx_ret ?_
          refine bk_ret ?_
          refine nx_ret ?_
          refine bk_ret ?_
          exact ⟨.inr rfl, [], rfl, rfl, c1, by rw [← hp8, (sd_step hge (ch := (2 * root + 1 + 1)) hch).1 hnl]; exact hp6, hH73⟩
        ·
          have hraw76 := hc74
          try simp only [decide_eq_true_eq, decide_eq_false_iff_not, Bool.not_eq_true', Bool.not_eq_false', Bool.and_eq_true, Bool.or_eq_true, Bool.or_eq_false_iff, Bool.not_not, Bool.and_eq_false_iff] at hc74
          have hlt : ltInt d1[first + root]! d1[first + (2 * root + 1 + 1)]! = true := by have h9 := hraw76; simpa [ltInt] using h9
          refine C_skip ?_
          refine C_seq ?_
          refine C_draw fun b77 H78 hbase79 hA80 => ?_
          have hH81 := hH73.keep (by have := hA80.1; omega) (fun q _ => hA80.2 q) ((hH73.old).aside hA80).ok
          refine D_l (v := v) rfl rfl rfl (r_mv hT10) ?_
          refine D_l (v := (.i .i64 (((first : Nat)) : Int))) rfl rfl rfl (r_mv hT12) ?_
          refine D_l (v := (.i .i64 (((root : Nat)) : Int))) rfl rfl rfl (r_mv hT13) ?_
          refine D_l (v := (.i .i64 ((((first : Nat)) : Int) + (((root : Nat)) : Int)))) rfl rfl rfl (by exact (r_addi rfl rfl (wrap_i64 (by omega) (by omega)))) ?_
          refine D_l (v := v) rfl rfl rfl (r_mv hT10) ?_
          refine D_l (v := (.i .i64 (((first : Nat)) : Int))) rfl rfl rfl (r_mv hT12) ?_
          refine D_l (v := (.i .i64 (((2 * (((root : Nat)) : Int)) + 1) + 1))) rfl rfl rfl (r_mv rfl) ?_
          refine D_l (v := (.i .i64 ((((first : Nat)) : Int) + (((2 * (((root : Nat)) : Int)) + 1) + 1)))) rfl rfl rfl (by exact (r_addi rfl rfl (wrap_i64 (by omega) (by omega)))) ?_
          refine D_l (v := v) rfl rfl rfl (r_mv hT10) ?_
          refine D_l (v := (.i .i64 (((first : Nat)) : Int))) rfl rfl rfl (r_mv hT12) ?_
          refine D_l (v := (.i .i64 (((2 * (((root : Nat)) : Int)) + 1) + 1))) rfl rfl rfl (r_mv rfl) ?_
          refine D_l (v := (.i .i64 ((((first : Nat)) : Int) + (((2 * (((root : Nat)) : Int)) + 1) + 1)))) rfl rfl rfl (by exact (r_addi rfl rfl (wrap_i64 (by omega) (by omega)))) ?_
          refine D_q rfl rfl rfl (by exact Sq.cell hp6 (u_lens d1) hH81.top0 rfl (i := (first + (((2 * root) + 1) + 1))) rfl (r := [(.i .u32 (d1[(first + (((2 * root) + 1) + 1))]!))]) (u_get (d := d1) (i := (first + (((2 * root) + 1) + 1))) (by omega)) (by decide)) fun v83 hv82 => ?_
          obtain ⟨rb84, ro85, rfl, hrg86, hrt87, hrb88, hput89, hqs90⟩ := hv82
          refine D_l (v := v) rfl rfl rfl (r_mv hT10) ?_
          refine D_l (v := (.i .i64 (((first : Nat)) : Int))) rfl rfl rfl (r_mv hT12) ?_
          refine D_l (v := (.i .i64 (((root : Nat)) : Int))) rfl rfl rfl (r_mv hT13) ?_
          refine D_l (v := (.i .i64 ((((first : Nat)) : Int) + (((root : Nat)) : Int)))) rfl rfl rfl (by exact (r_addi rfl rfl (wrap_i64 (by omega) (by omega)))) ?_
          refine D_q rfl rfl rfl (by exact Sq.cell hp6 (u_lens d1) hH81.top0 rfl (i := (first + root)) rfl (r := [(.i .u32 (d1[(first + root)]!))]) (u_get (d := d1) (i := (first + root)) (by omega)) (by decide)) fun v92 hv91 => ?_
          obtain ⟨rb93, ro94, rfl, hrg95, hrt96, hrb97, hput98, hqs99⟩ := hv91
          refine D_r (v := (.i .u32 (d1[(first + (((2 * root) + 1) + 1))]!))) rfl rfl rfl (r_ldR (q := 0) rfl ⟨_, _, hrg86, hrt87⟩ rfl) ?_
          refine D_r (v := (.i .u32 (d1[(first + root)]!))) rfl rfl rfl (r_ldR (q := 0) rfl ⟨_, _, hrg95, hrt96⟩ rfl) ?_
          refine D_q rfl rfl rfl (by exact Sq.cell hp6 (u_lens d1) hH81.top0 rfl (i := (first + root)) rfl (r := [(.i .u32 (d1[(first + root)]!))]) (u_get (d := d1) (i := (first + root)) (by omega)) (by decide)) fun v101 hv100 => ?_
          obtain ⟨rb102, ro103, rfl, hrg104, hrt105, hrb106, hput107, hqs108⟩ := hv100
          refine D_store (vs := [(.i .u32 (d1[(first + (((2 * root) + 1) + 1))]!))]) (c' := (putAt c1 (ro103 + 0) [(.i .u32 (d1[(first + (((2 * root) + 1) + 1))]!))])) rfl (by rfl) hrg104 rfl (List.cons_ne_nil _ _) (by have := hrb106; show _ + 1 ≤ _; omega) rfl fun H109 hW110 => ?_
          have hH112 := Hs.cong0 (Hs.wr0 (Hs.cong0 hH81 (hqs108 _)) hW110) (hqs108 _).symm
          have hSq111 := hput107 0 [(.i .u32 (d1[(first + (((2 * root) + 1) + 1))]!))] [(.i .u32 (d1[(first + (((2 * root) + 1) + 1))]!))] (Nat.le_of_ble_eq_true rfl) rfl
          obtain ⟨dd113, he114⟩ : ∃ z : Array Int, z = d1.setIfInBounds (first + root) (d1[(first + (((2 * root) + 1) + 1))]!) := ⟨_, rfl⟩
          have hs116 : Sq 1 v (putAt c1 (ro103 + 0) [(.i .u32 (d1[(first + (((2 * root) + 1) + 1))]!))]) (dU dd113).flatten := by rw [he114, ← u_set]; exact hSq111
          have hn115 : dd113.size = n := by rw [he114, Array.size_setIfInBounds]; exact hp7
          refine And.intro (And.intro (Or.inl rfl) (And.intro (Or.inl rfl) True.intro)) ?_
          refine D_q rfl rfl rfl (by exact Sq.cell hs116 (u_lens dd113) hH112.top0 rfl (i := (first + (((2 * root) + 1) + 1))) rfl (r := [(.i .u32 (dd113[(first + (((2 * root) + 1) + 1))]!))]) (u_get (d := dd113) (i := (first + (((2 * root) + 1) + 1))) (by omega)) (by decide)) fun v118 hv117 => ?_
          obtain ⟨rb119, ro120, rfl, hrg121, hrt122, hrb123, hput124, hqs125⟩ := hv117
          refine D_store (vs := [(.i .u32 (d1[(first + root)]!))]) (c' := (putAt (putAt c1 (ro103 + 0) [(.i .u32 (d1[(first + (((2 * root) + 1) + 1))]!))]) (ro120 + 0) [(.i .u32 (d1[(first + root)]!))])) rfl (by rfl) hrg121 rfl (List.cons_ne_nil _ _) (by have := hrb123; show _ + 1 ≤ _; omega) rfl fun H126 hW127 => ?_
          have hH129 := Hs.cong0 (Hs.wr0 (Hs.cong0 hH112 (hqs125 _)) hW127) (hqs125 _).symm
          have hSq128 := hput124 0 [(.i .u32 (d1[(first + root)]!))] [(.i .u32 (d1[(first + root)]!))] (Nat.le_of_ble_eq_true rfl) rfl
          obtain ⟨dd130, he131⟩ : ∃ z : Array Int, z = dd113.setIfInBounds (first + (((2 * root) + 1) + 1)) (d1[(first + root)]!) := ⟨_, rfl⟩
          have hs133 : Sq 1 v (putAt (putAt c1 (ro103 + 0) [(.i .u32 (d1[(first + (((2 * root) + 1) + 1))]!))]) (ro120 + 0) [(.i .u32 (d1[(first + root)]!))]) (dU dd130).flatten := by rw [he131, ← u_set]; exact hSq128
          have hn132 : dd130.size = n := by rw [he131, Array.size_setIfInBounds]; exact hn115
          refine And.intro True.intro ?_
          refine D_nil ?_
          refine C_region ?_
          refine O_p (.i .i64 (((2 * (((root : Nat)) : Int)) + 1) + 1)) (r_mv rfl) ?_
          refine O_p (.i .i64 (((2 * (((root : Nat)) : Int)) + 1) + 1)) (r_mv rfl) ?_
          refine O_nil ?_
          exact ⟨hi - (2 * root + 1 + 1), by omega, dd130, (putAt (putAt c1 (ro103 + 0) [(.i .u32 (d1[(first + (((2 * root) + 1) + 1))]!))]) (ro120 + 0) [(.i .u32 (d1[(first + root)]!))]), (2 * root + 1 + 1), rfl, hs133, hn132, by rw [he131, he114]; show siftDown ltInt hi first (2 * root + 1 + 1) (swp d1 (first + root) (first + (2 * root + 1 + 1))) = _; rw [← (sd_step hge (ch := (2 * root + 1 + 1)) hch).2 hlt]; exact hp8, by omega, hH129, hT10, hT11, hT12, rfl⟩
      ·
        have hraw134 := hc45
        try simp only [decide_eq_true_eq, decide_eq_false_iff_not, Bool.not_eq_true', Bool.not_eq_false', Bool.and_eq_true, Bool.or_eq_true, Bool.or_eq_false_iff, Bool.not_not, Bool.and_eq_false_iff] at hc45
        have hch : (2 * root + 1) = if 2 * root + 1 + 1 < hi ∧ ltInt d1[first + (2 * root + 1)]! d1[first + (2 * root + 1) + 1]! = true then 2 * root + 1 + 1 else 2 * root + 1 := (if_neg (fun h9 => by rw [show ltInt _ _ = _ from hraw134] at h9; cases h9.2)).symm
        refine C_skip ?_
        refine C_seq ?_
        refine C_seq ?_
        refine C_draw fun b135 H136 hbase137 hA138 => ?_
        have hH139 := hH44.keep (by have := hA138.1; omega) (fun q _ => hA138.2 q) ((hH44.old).aside hA138).ok
        refine D_l (v := v) rfl rfl rfl (r_mv hT10) ?_
        refine D_l (v := (.i .i64 (((first : Nat)) : Int))) rfl rfl rfl (r_mv hT12) ?_
        refine D_l (v := (.i .i64 (((root : Nat)) : Int))) rfl rfl rfl (r_mv hT13) ?_
        refine D_l (v := (.i .i64 ((((first : Nat)) : Int) + (((root : Nat)) : Int)))) rfl rfl rfl (by exact (r_addi rfl rfl (wrap_i64 (by omega) (by omega)))) ?_
        refine D_q rfl rfl rfl (by exact Sq.cell hp6 (u_lens d1) hH139.top0 rfl (i := (first + root)) rfl (r := [(.i .u32 (d1[(first + root)]!))]) (u_get (d := d1) (i := (first + root)) (by omega)) (by decide)) fun v141 hv140 => ?_
        obtain ⟨rb142, ro143, rfl, hrg144, hrt145, hrb146, hput147, hqs148⟩ := hv140
        refine D_l (v := v) rfl rfl rfl (r_mv hT10) ?_
        refine D_l (v := (.i .i64 (((first : Nat)) : Int))) rfl rfl rfl (r_mv hT12) ?_
        refine D_l (v := (.i .i64 ((2 * (((root : Nat)) : Int)) + 1))) rfl rfl rfl (r_mv rfl) ?_
        refine D_l (v := (.i .i64 ((((first : Nat)) : Int) + ((2 * (((root : Nat)) : Int)) + 1)))) rfl rfl rfl (by exact (r_addi rfl rfl (wrap_i64 (by omega) (by omega)))) ?_
        refine D_q rfl rfl rfl (by exact Sq.cell hp6 (u_lens d1) hH139.top0 rfl (i := (first + ((2 * root) + 1))) rfl (r := [(.i .u32 (d1[(first + ((2 * root) + 1))]!))]) (u_get (d := d1) (i := (first + ((2 * root) + 1))) (by omega)) (by decide)) fun v150 hv149 => ?_
        obtain ⟨rb151, ro152, rfl, hrg153, hrt154, hrb155, hput156, hqs157⟩ := hv149
        refine D_r (v := (.i .u32 (d1[(first + root)]!))) rfl rfl rfl (r_ldR (q := 0) rfl ⟨_, _, hrg144, hrt145⟩ rfl) ?_
        refine D_r (v := (.i .u32 (d1[(first + ((2 * root) + 1))]!))) rfl rfl rfl (r_ldR (q := 0) rfl ⟨_, _, hrg153, hrt154⟩ rfl) ?_
        refine D_call (Ev.mono (less_ev (x := (d1[(first + root)]!)) (y := (d1[(first + ((2 * root) + 1))]!)) hH139) fun v158 H159 hq160 => ?_)
        obtain ⟨rfl, hH161⟩ := hq160
        refine And.intro (And.intro (Or.inl rfl) (And.intro (Or.inl rfl) True.intro)) ?_
        refine D_l (v := (.b (!(decide ((d1[(first + root)]!) < (d1[(first + ((2 * root) + 1))]!)))))) rfl rfl rfl (r_not rfl) ?_
        refine D_nil ?_
        refine C_cond (x := (!(decide ((d1[(first + root)]!) < (d1[(first + ((2 * root) + 1))]!))))) rfl (fun hc162 => ?_) (fun hc162 => ?_)
        ·
          have hraw163 := hc162
          try simp only [decide_eq_true_eq, decide_eq_false_iff_not, Bool.not_eq_true', Bool.not_eq_false', Bool.and_eq_true, Bool.or_eq_true, Bool.or_eq_false_iff, Bool.not_not, Bool.and_eq_false_iff] at hc162
          have hnl : ltInt d1[first + root]! d1[first + (2 * root + 1)]! = false := by have h9 := hraw163; simpa [ltInt] using h9
          refine C_ret ?_
          refine nx_ret ?_
          refine bk_ret ?_
          refine nx_ret ?_
          refine bk_ret ?_
          exact ⟨.inr rfl, [], rfl, rfl, c1, by rw [← hp8, (sd_step hge (ch := (2 * root + 1)) hch).1 hnl]; exact hp6, hH161⟩
        ·
          have hraw164 := hc162
          try simp only [decide_eq_true_eq, decide_eq_false_iff_not, Bool.not_eq_true', Bool.not_eq_false', Bool.and_eq_true, Bool.or_eq_true, Bool.or_eq_false_iff, Bool.not_not, Bool.and_eq_false_iff] at hc162
          have hlt : ltInt d1[first + root]! d1[first + (2 * root + 1)]! = true := by have h9 := hraw164; simpa [ltInt] using h9
          refine C_skip ?_
          refine C_seq ?_
          refine C_draw fun b165 H166 hbase167 hA168 => ?_
          have hH169 := hH161.keep (by have := hA168.1; omega) (fun q _ => hA168.2 q) ((hH161.old).aside hA168).ok
          refine D_l (v := v) rfl rfl rfl (r_mv hT10) ?_
          refine D_l (v := (.i .i64 (((first : Nat)) : Int))) rfl rfl rfl (r_mv hT12) ?_
          refine D_l (v := (.i .i64 (((root : Nat)) : Int))) rfl rfl rfl (r_mv hT13) ?_
          refine D_l (v := (.i .i64 ((((first : Nat)) : Int) + (((root : Nat)) : Int)))) rfl rfl rfl (by exact (r_addi rfl rfl (wrap_i64 (by omega) (by omega)))) ?_
          refine D_l (v := v) rfl rfl rfl (r_mv hT10) ?_
          refine D_l (v := (.i .i64 (((first : Nat)) : Int))) rfl rfl rfl (r_mv hT12) ?_
          refine D_l (v := (.i .i64 ((2 * (((root : Nat)) : Int)) + 1))) rfl rfl rfl (r_mv rfl) ?_
          refine D_l (v := (.i .i64 ((((first : Nat)) : Int) + ((2 * (((root : Nat)) : Int)) + 1)))) rfl rfl rfl (by exact (r_addi rfl rfl (wrap_i64 (by omega) (by omega)))) ?_
          refine D_l (v := v) rfl rfl rfl (r_mv hT10) ?_
          refine D_l (v := (.i .i64 (((first : Nat)) : Int))) rfl rfl rfl (r_mv hT12) ?_
          refine D_l (v := (.i .i64 ((2 * (((root : Nat)) : Int)) + 1))) rfl rfl rfl (r_mv rfl) ?_
          refine D_l (v := (.i .i64 ((((first : Nat)) : Int) + ((2 * (((root : Nat)) : Int)) + 1)))) rfl rfl rfl (by exact (r_addi rfl rfl (wrap_i64 (by omega) (by omega)))) ?_
          refine D_q rfl rfl rfl (by exact Sq.cell hp6 (u_lens d1) hH169.top0 rfl (i := (first + ((2 * root) + 1))) rfl (r := [(.i .u32 (d1[(first + ((2 * root) + 1))]!))]) (u_get (d := d1) (i := (first + ((2 * root) + 1))) (by omega)) (by decide)) fun v171 hv170 => ?_
          obtain ⟨rb172, ro173, rfl, hrg174, hrt175, hrb176, hput177, hqs178⟩ := hv170
          refine D_l (v := v) rfl rfl rfl (r_mv hT10) ?_
          refine D_l (v := (.i .i64 (((first : Nat)) : Int))) rfl rfl rfl (r_mv hT12) ?_
          refine D_l (v := (.i .i64 (((root : Nat)) : Int))) rfl rfl rfl (r_mv hT13) ?_
          refine D_l (v := (.i .i64 ((((first : Nat)) : Int) + (((root : Nat)) : Int)))) rfl rfl rfl (by exact (r_addi rfl rfl (wrap_i64 (by omega) (by omega)))) ?_
          refine D_q rfl rfl rfl (by exact Sq.cell hp6 (u_lens d1) hH169.top0 rfl (i := (first + root)) rfl (r := [(.i .u32 (d1[(first + root)]!))]) (u_get (d := d1) (i := (first + root)) (by omega)) (by decide)) fun v180 hv179 => ?_
          obtain ⟨rb181, ro182, rfl, hrg183, hrt184, hrb185, hput186, hqs187⟩ := hv179
          refine D_r (v := (.i .u32 (d1[(first + ((2 * root) + 1))]!))) rfl rfl rfl (r_ldR (q := 0) rfl ⟨_, _, hrg174, hrt175⟩ rfl) ?_
          refine D_r (v := (.i .u32 (d1[(first + root)]!))) rfl rfl rfl (r_ldR (q := 0) rfl ⟨_, _, hrg183, hrt184⟩ rfl) ?_
          refine D_q rfl rfl rfl (by exact Sq.cell hp6 (u_lens d1) hH169.top0 rfl (i := (first + root)) rfl (r := [(.i .u32 (d1[(first + root)]!))]) (u_get (d := d1) (i := (first + root)) (by omega)) (by decide)) fun v189 hv188 => ?_
          obtain ⟨rb190, ro191, rfl, hrg192, hrt193, hrb194, hput195, hqs196⟩ := hv188
          refine D_store (vs := [(.i .u32 (d1[(first + ((2 * root) + 1))]!))]) (c' := (putAt c1 (ro191 + 0) [(.i .u32 (d1[(first + ((2 * root) + 1))]!))])) rfl (by rfl) hrg192 rfl (List.cons_ne_nil _ _) (by have := hrb194; show _ + 1 ≤ _; omega) rfl fun H197 hW198 => ?_
          have hH200 := Hs.cong0 (Hs.wr0 (Hs.cong0 hH169 (hqs196 _)) hW198) (hqs196 _).symm
          have hSq199 := hput195 0 [(.i .u32 (d1[(first + ((2 * root) + 1))]!))] [(.i .u32 (d1[(first + ((2 * root) + 1))]!))] (Nat.le_of_ble_eq_true rfl) rfl
          obtain ⟨dd201, he202⟩ : ∃ z : Array Int, z = d1.setIfInBounds (first + root) (d1[(first + ((2 * root) + 1))]!) := ⟨_, rfl⟩
          have hs204 : Sq 1 v (putAt c1 (ro191 + 0) [(.i .u32 (d1[(first + ((2 * root) + 1))]!))]) (dU dd201).flatten := by rw [he202, ← u_set]; exact hSq199
          have hn203 : dd201.size = n := by rw [he202, Array.size_setIfInBounds]; exact hp7
          refine And.intro (And.intro (Or.inl rfl) (And.intro (Or.inl rfl) True.intro)) ?_
          refine D_q rfl rfl rfl (by exact Sq.cell hs204 (u_lens dd201) hH200.top0 rfl (i := (first + ((2 * root) + 1))) rfl (r := [(.i .u32 (dd201[(first + ((2 * root) + 1))]!))]) (u_get (d := dd201) (i := (first + ((2 * root) + 1))) (by omega)) (by decide)) fun v206 hv205 => ?_
          obtain ⟨rb207, ro208, rfl, hrg209, hrt210, hrb211, hput212, hqs213⟩ := hv205
          refine D_store (vs := [(.i .u32 (d1[(first + root)]!))]) (c' := (putAt (putAt c1 (ro191 + 0) [(.i .u32 (d1[(first + ((2 * root) + 1))]!))]) (ro208 + 0) [(.i .u32 (d1[(first + root)]!))])) rfl (by rfl) hrg209 rfl (List.cons_ne_nil _ _) (by have := hrb211; show _ + 1 ≤ _; omega) rfl fun H214 hW215 => ?_
          have hH217 := Hs.cong0 (Hs.wr0 (Hs.cong0 hH200 (hqs213 _)) hW215) (hqs213 _).symm
          have hSq216 := hput212 0 [(.i .u32 (d1[(first + root)]!))] [(.i .u32 (d1[(first + root)]!))] (Nat.le_of_ble_eq_true rfl) rfl
          obtain ⟨dd218, he219⟩ : ∃ z : Array Int, z = dd201.setIfInBounds (first + ((2 * root) + 1)) (d1[(first + root)]!) := ⟨_, rfl⟩
          have hs221 : Sq 1 v (putAt (putAt c1 (ro191 + 0) [(.i .u32 (d1[(first + ((2 * root) + 1))]!))]) (ro208 + 0) [(.i .u32 (d1[(first + root)]!))]) (dU dd218).flatten := by rw [he219, ← u_set]; exact hSq216
          have hn220 : dd218.size = n := by rw [he219, Array.size_setIfInBounds]; exact hn203
          refine And.intro True.intro ?_
          refine D_nil ?_
          refine C_region ?_
          refine O_p (.i .i64 ((2 * (((root : Nat)) : Int)) + 1)) (r_mv rfl) ?_
          refine O_p (.i .i64 ((2 * (((root : Nat)) : Int)) + 1)) (r_mv rfl) ?_
          refine O_nil ?_
          exact ⟨hi - (2 * root + 1), by omega, dd218, (putAt (putAt c1 (ro191 + 0) [(.i .u32 (d1[(first + ((2 * root) + 1))]!))]) (ro208 + 0) [(.i .u32 (d1[(first + root)]!))]), (2 * root + 1), rfl, hs221, hn220, by rw [he219, he202]; show siftDown ltInt hi first (2 * root + 1) (swp d1 (first + root) (first + (2 * root + 1))) = _; rw [← (sd_step hge (ch := (2 * root + 1)) hch).2 hlt]; exact hp8, by omega, hH217, hT10, hT11, hT12, rfl⟩
    ·
      have hch : (2 * root + 1) = if 2 * root + 1 + 1 < hi ∧ ltInt d1[first + (2 * root + 1)]! d1[first + (2 * root + 1) + 1]! = true then 2 * root + 1 + 1 else 2 * root + 1 := (if_neg (fun h9 => hc2 h9.1)).symm
      refine C_draw fun b222 H223 hbase224 hA225 => ?_
      have hH226 := hH14.keep (by have := hA225.1; omega) (fun q _ => hA225.2 q) ((hH14.old).aside hA225).ok
      refine D_l (v := (.i .i64 ((2 * (((root : Nat)) : Int)) + 1))) rfl rfl rfl (r_mv rfl) ?_
      refine D_l (v := (.i .i64 (((2 * (((root : Nat)) : Int)) + 1) + 1))) rfl rfl rfl (by exact (r_addi rfl rfl (wrap_i64 (by omega) (by omega)))) ?_
      refine D_l (v := (.i .i64 (((hi : Nat)) : Int))) rfl rfl rfl (r_mv hT11) ?_
      refine D_l (v := (.b false)) rfl rfl rfl (by exact (by rw [r_lss rfl rfl, decide_eq_false (by omega)])) ?_
      refine D_l (v := (.b false)) rfl rfl rfl (r_mv rfl) ?_
      refine D_gf rfl ?_
      refine D_gf rfl ?_
      refine D_gf rfl ?_
      refine D_gf rfl ?_
      refine D_gf rfl ?_
      refine D_gf rfl ?_
      refine D_gf rfl ?_
      refine D_gf rfl ?_
      refine D_gf rfl ?_
      refine D_gf rfl ?_
      refine D_gf rfl ?_
      refine D_gf rfl ?_
      refine D_gf rfl ?_
      refine D_gf rfl ?_
      refine D_l (v := (.b false)) rfl rfl rfl (r_pick_f rfl rfl) ?_
      refine D_nil ?_
      refine C_cond (x := false) rfl (fun h => by cases h) (fun _ => ?_)
      refine C_skip ?_
      refine C_seq ?_
      refine C_seq ?_
      refine C_draw fun b227 H228 hbase229 hA230 => ?_
      have hH231 := hH226.keep (by have := hA230.1; omega) (fun q _ => hA230.2 q) ((hH226.old).aside hA230).ok
      refine D_l (v := v) rfl rfl rfl (r_mv hT10) ?_
      refine D_l (v := (.i .i64 (((first : Nat)) : Int))) rfl rfl rfl (r_mv hT12) ?_
      refine D_l (v := (.i .i64 (((root : Nat)) : Int))) rfl rfl rfl (r_mv hT13) ?_
      refine D_l (v := (.i .i64 ((((first : Nat)) : Int) + (((root : Nat)) : Int)))) rfl rfl rfl (by exact (r_addi rfl rfl (wrap_i64 (by omega) (by omega)))) ?_
      refine D_q rfl rfl rfl (by exact Sq.cell hp6 (u_lens d1) hH231.top0 rfl (i := (first + root)) rfl (r := [(.i .u32 (d1[(first + root)]!))]) (u_get (d := d1) (i := (first + root)) (by omega)) (by decide)) fun v233 hv232 => ?_
      obtain ⟨rb234, ro235, rfl, hrg236, hrt237, hrb238, hput239, hqs240⟩ := hv232
      refine D_l (v := v) rfl rfl rfl (r_mv hT10) ?_
      refine D_l (v := (.i .i64 (((first : Nat)) : Int))) rfl rfl rfl (r_mv hT12) ?_
      refine D_l (v := (.i .i64 ((2 * (((root : Nat)) : Int)) + 1))) rfl rfl rfl (r_mv rfl) ?_
      refine D_l (v := (.i .i64 ((((first : Nat)) : Int) + ((2 * (((root : Nat)) : Int)) + 1)))) rfl rfl rfl (by exact (r_addi rfl rfl (wrap_i64 (by omega) (by omega)))) ?_
      refine D_q rfl rfl rfl (by exact Sq.cell hp6 (u_lens d1) hH231.top0 rfl (i := (first + ((2 * root) + 1))) rfl (r := [(.i .u32 (d1[(first + ((2 * root) + 1))]!))]) (u_get (d := d1) (i := (first + ((2 * root) + 1))) (by omega)) (by decide)) fun v242 hv241 => ?_
      obtain ⟨rb243, ro244, rfl, hrg245, hrt246, hrb247, hput248, hqs249⟩ := hv241
      refine D_r (v := (.i .u32 (d1[(first + root)]!))) rfl rfl rfl (r_ldR (q := 0) rfl ⟨_, _, hrg236, hrt237⟩ rfl) ?_
      refine D_r (v := (.i .u32 (d1[(first + ((2 * root) + 1))]!))) rfl rfl rfl (r_ldR (q := 0) rfl ⟨_, _, hrg245, hrt246⟩ rfl) ?_
      refine D_call (Ev.mono (less_ev (x := (d1[(first + root)]!)) (y := (d1[(first + ((2 * root) + 1))]!)) hH231) fun v250 H251 hq252 => ?_)
      obtain ⟨rfl, hH253⟩ := hq252
      refine And.intro (And.intro (Or.inl rfl) (And.intro (Or.inl rfl) True.intro)) ?_
      refine D_l (v := (.b (!(decide ((d1[(first + root)]!) < (d1[(first + ((2 * root) + 1))]!)))))) rfl rfl rfl (r_not rfl) ?_
      refine D_nil ?_
      refine C_cond (x := (!(decide ((d1[(first + root)]!) < (d1[(first + ((2 * root) + 1))]!))))) rfl (fun hc254 => ?_) (fun hc254 => ?_)
      ·
        have hraw255 := hc254
        try simp only [decide_eq_true_eq, decide_eq_false_iff_not, Bool.not_eq_true', Bool.not_eq_false', Bool.and_eq_true, Bool.or_eq_true, Bool.or_eq_false_iff, Bool.not_not, Bool.and_eq_false_iff] at hc254
        have hnl : ltInt d1[first + root]! d1[first + (2 * root + 1)]! = false := by have h9 := hraw255; simpa [ltInt] using h9
        refine C_ret ?_
        refine nx_ret ?_
        refine bk_ret ?_
        refine nx_ret ?_
        refine bk_ret ?_
        exact ⟨.inr rfl, [], rfl, rfl, c1, by rw [← hp8, (sd_step hge (ch := (2 * root + 1)) hch).1 hnl]; exact hp6, hH253⟩
      ·
        have hraw256 := hc254
        try simp only [decide_eq_true_eq, decide_eq_false_iff_not, Bool.not_eq_true', Bool.not_eq_false', Bool.and_eq_true, Bool.or_eq_true, Bool.or_eq_false_iff, Bool.not_not, Bool.and_eq_false_iff] at hc254
        have hlt : ltInt d1[first + root]! d1[first + (2 * root + 1)]! = true := by have h9 := hraw256; simpa [ltInt] using h9
        refine C_skip ?_
        refine C_seq ?_
        refine C_draw fun b257 H258 hbase259 hA260 => ?_
        have hH261 := hH253.keep (by have := hA260.1; omega) (fun q _ => hA260.2 q) ((hH253.old).aside hA260).ok
        refine D_l (v := v) rfl rfl rfl (r_mv hT10) ?_
        refine D_l (v := (.i .i64 (((first : Nat)) : Int))) rfl rfl rfl (r_mv hT12) ?_
        refine D_l (v := (.i .i64 (((root : Nat)) : Int))) rfl rfl rfl (r_mv hT13) ?_
        refine D_l (v := (.i .i64 ((((first : Nat)) : Int) + (((root : Nat)) : Int)))) rfl rfl rfl (by exact (r_addi rfl rfl (wrap_i64 (by omega) (by omega)))) ?_
        refine D_l (v := v) rfl rfl rfl (r_mv hT10) ?_
        refine D_l (v := (.i .i64 (((first : Nat)) : Int))) rfl rfl rfl (r_mv hT12) ?_
        refine D_l (v := (.i .i64 ((2 * (((root : Nat)) : Int)) + 1))) rfl rfl rfl (r_mv rfl) ?_
        refine D_l (v := (.i .i64 ((((first : Nat)) : Int) + ((2 * (((root : Nat)) : Int)) + 1)))) rfl rfl rfl (by exact (r_addi rfl rfl (wrap_i64 (by omega) (by omega)))) ?_
        refine D_l (v := v) rfl rfl rfl (r_mv hT10) ?_
        refine D_l (v := (.i .i64 (((first : Nat)) : Int))) rfl rfl rfl (r_mv hT12) ?_
        refine D_l (v := (.i .i64 ((2 * (((root : Nat)) : Int)) + 1))) rfl rfl rfl (r_mv rfl) ?_
        refine D_l (v := (.i .i64 ((((first : Nat)) : Int) + ((2 * (((root : Nat)) : Int)) + 1)))) rfl rfl rfl (by exact (r_addi rfl rfl (wrap_i64 (by omega) (by omega)))) ?_
        refine D_q rfl rfl rfl (by exact Sq.cell hp6 (u_lens d1) hH261.top0 rfl (i := (first + ((2 * root) + 1))) rfl (r := [(.i .u32 (d1[(first + ((2 * root) + 1))]!))]) (u_get (d := d1) (i := (first + ((2 * root) + 1))) (by omega)) (by decide)) fun v263 hv262 => ?_
        obtain ⟨rb264, ro265, rfl, hrg266, hrt267, hrb268, hput269, hqs270⟩ := hv262
        refine D_l (v := v) rfl rfl rfl (r_mv hT10) ?_
        refine D_l (v := (.i .i64 (((first : Nat)) : Int))) rfl rfl rfl (r_mv hT12) ?_
        refine D_l (v := (.i .i64 (((root : Nat)) : Int))) rfl rfl rfl (r_mv hT13) ?_
        refine D_l (v := (.i .i64 ((((first : Nat)) : Int) + (((root : Nat)) : Int)))) rfl rfl rfl (by exact (r_addi rfl rfl (wrap_i64 (by omega) (by omega)))) ?_
        refine D_q rfl rfl rfl (by exact Sq.cell hp6 (u_lens d1) hH261.top0 rfl (i := (first + root)) rfl (r := [(.i .u32 (d1[(first + root)]!))]) (u_get (d := d1) (i := (first + root)) (by omega)) (by decide)) fun v272 hv271 => ?_
        obtain ⟨rb273, ro274, rfl, hrg275, hrt276, hrb277, hput278, hqs279⟩ := hv271
        refine D_r (v := (.i .u32 (d1[(first + ((2 * root) + 1))]!))) rfl rfl rfl (r_ldR (q := 0) rfl ⟨_, _, hrg266, hrt267⟩ rfl) ?_
        refine D_r (v := (.i .u32 (d1[(first + root)]!))) rfl rfl rfl (r_ldR (q := 0) rfl ⟨_, _, hrg275, hrt276⟩ rfl) ?_
        refine D_q rfl rfl rfl (by exact Sq.cell hp6 (u_lens d1) hH261.top0 rfl (i := (first + root)) rfl (r := [(.i .u32 (d1[(first + root)]!))]) (u_get (d := d1) (i := (first + root)) (by omega)) (by decide)) fun v281 hv280 => ?_
        obtain ⟨rb282, ro283, rfl, hrg284, hrt285, hrb286, hput287, hqs288⟩ := hv280
        refine D_store (vs := [(.i .u32 (d1[(first + ((2 * root) + 1))]!))]) (c' := (putAt c1 (ro283 + 0) [(.i .u32 (d1[(first + ((2 * root) + 1))]!))])) rfl (by rfl) hrg284 rfl (List.cons_ne_nil _ _) (by have := hrb286; show _ + 1 ≤ _; omega) rfl fun H289 hW290 => ?_
        have hH292 := Hs.cong0 (Hs.wr0 (Hs.cong0 hH261 (hqs288 _)) hW290) (hqs288 _).symm
        have hSq291 := hput287 0 [(.i .u32 (d1[(first + ((2 * root) + 1))]!))] [(.i .u32 (d1[(first + ((2 * root) + 1))]!))] (Nat.le_of_ble_eq_true rfl) rfl
        obtain ⟨dd293, he294⟩ : ∃ z : Array Int, z = d1.setIfInBounds (first + root) (d1[(first + ((2 * root) + 1))]!) := ⟨_, rfl⟩
        have hs296 : Sq 1 v (putAt c1 (ro283 + 0) [(.i .u32 (d1[(first + ((2 * root) + 1))]!))]) (dU dd293).flatten := by rw [he294, ← u_set]; exact hSq291
        have hn295 : dd293.size = n := by rw [he294, Array.size_setIfInBounds]; exact hp7
        refine And.intro (And.intro (Or.inl rfl) (And.intro (Or.inl rfl) True.intro)) ?_
        refine D_q rfl rfl rfl (by exact Sq.cell hs296 (u_lens dd293) hH292.top0 rfl (i := (first + ((2 * root) + 1))) rfl (r := [(.i .u32 (dd293[(first + ((2 * root) + 1))]!))]) (u_get (d := dd293) (i := (first + ((2 * root) + 1))) (by omega)) (by decide)) fun v298 hv297 => ?_
        obtain ⟨rb299, ro300, rfl, hrg301, hrt302, hrb303, hput304, hqs305⟩ := hv297
        refine D_store (vs := [(.i .u32 (d1[(first + root)]!))]) (c' := (putAt (putAt c1 (ro283 + 0) [(.i .u32 (d1[(first + ((2 * root) + 1))]!))]) (ro300 + 0) [(.i .u32 (d1[(first + root)]!))])) rfl (by rfl) hrg301 rfl (List.cons_ne_nil _ _) (by have := hrb303; show _ + 1 ≤ _; omega) rfl fun H306 hW307 => ?_
        have hH309 := Hs.cong0 (Hs.wr0 (Hs.cong0 hH292 (hqs305 _)) hW307) (hqs305 _).symm
        have hSq308 := hput304 0 [(.i .u32 (d1[(first + root)]!))] [(.i .u32 (d1[(first + root)]!))] (Nat.le_of_ble_eq_true rfl) rfl
        obtain ⟨dd310, he311⟩ : ∃ z : Array Int, z = dd293.setIfInBounds (first + ((2 * root) + 1)) (d1[(first + root)]!) := ⟨_, rfl⟩
        have hs313 : Sq 1 v (putAt (putAt c1 (ro283 + 0) [(.i .u32 (d1[(first + ((2 * root) + 1))]!))]) (ro300 + 0) [(.i .u32 (d1[(first + root)]!))]) (dU dd310).flatten := by rw [he311, ← u_set]; exact hSq308
        have hn312 : dd310.size = n := by rw [he311, Array.size_setIfInBounds]; exact hn295
        refine And.intro True.intro ?_
        refine D_nil ?_
        refine C_region ?_
        refine O_p (.i .i64 ((2 * (((root : Nat)) : Int)) + 1)) (r_mv rfl) ?_
        refine O_p (.i .i64 ((2 * (((root : Nat)) : Int)) + 1)) (r_mv rfl) ?_
        refine O_nil ?_
        exact ⟨hi - (2 * root + 1), by omega, dd310, (putAt (putAt c1 (ro283 + 0) [(.i .u32 (d1[(first + ((2 * root) + 1))]!))]) (ro300 + 0) [(.i .u32 (d1[(first + root)]!))]), (2 * root + 1), rfl, hs313, hn312, by rw [he311, he294]; show siftDown ltInt hi first (2 * root + 1) (swp d1 (first + root) (first + (2 * root + 1))) = _; rw [← (sd_step hge (ch := (2 * root + 1)) hch).2 hlt]; exact hp8, by omega, hH309, hT10, hT11, hT12, rfl⟩
set_option maxHeartbeats 1000000 in
theorem heap_ev {H : AH} {R : HL} {v : AV} {c : List AV} {d : Array Int} {n : Nat} {a b : Nat} (hd : Sq 1 v c (dU d).flatten) (hn : d.size = n) (hl : n ≤ 1000000) (hab : a < b) (hb : b ≤ n) (hH0 : Hs H (qseg v c ++ R)) : Ev tabS spS (.fn (.func 41) [] []) [v, .i .i64 ((a : Nat) : Int), .i .i64 ((b : Nat) : Int)] H (fun r H' => r = .tup [] ∧ ∃ c', Sq 1 v c' (dU (heapSort ltInt d a b)).flatten ∧ Hs H' (qseg v c' ++ R)) := by
  refine Ev_C (F := x41) rfl ?_
  refine C_seq ?_
  refine C_region ?_
  refine O_p (.i .i64 (((a : Nat)) : Int)) (r_mv rfl) ?_
  refine O_p (.i .i64 (((a : Nat)) : Int)) (r_mv rfl) ?_
  refine O_nil ?_
  refine C_seq ?_
  refine C_region ?_
  refine O_p (.i .i64 0) (r_mv rfl) ?_
  refine O_nil ?_
  refine C_seq ?_
  refine C_region ?_
  refine O_p (.i .i64 (((b : Nat)) : Int)) (r_mv rfl) ?_
  refine O_p (.i .i64 (((a : Nat)) : Int)) (r_mv rfl) ?_
  refine O_p (.i .i64 ((((b - a) : Nat)) : Int)) (by exact (r_subn (a := b) (b := a) rfl rfl (by omega) (by omega))) ?_
  refine O_p (.i .i64 ((((b - a) : Nat)) : Int)) (r_mv rfl) ?_
  refine O_nil ?_
  refine C_seq ?_
  refine C_seq ?_
  refine C_region ?_
  refine O_p (.i .i64 ((((b - a) : Nat)) : Int)) (r_mv rfl) ?_
  refine O_p (.i .i64 (((((b - a) - 1) : Nat)) : Int)) (by exact (r_subn (a := (b - a)) (b := 1) rfl rfl (by omega) (by omega))) ?_
  refine O_p (.i .i64 ((((((b - a) - 1) / 2) : Nat)) : Int)) (by exact (r_quon (a := ((b - a) - 1)) (b := 2) rfl rfl (by omega) (by omega))) ?_
  refine O_p (.i .i64 ((((((b - a) - 1) / 2) : Nat)) : Int)) (r_mv rfl) ?_
  refine O_nil ?_
  refine C_block ?_
  refine C_while (fun m1 T2 H3 => ∃ d1 : Array Int, ∃ c1 : List AV, ∃ k : Nat, m1 = k ∧ Sq 1 v c1 (dU d1).flatten ∧ d1.size = n ∧ heapBuild ltInt (b - a) a k d1 = heapBuild ltInt (b - a) a ((b - a - 1) / 2 + 1) d ∧ k ≤ ((b - a - 1) / 2 + 1) ∧ Hs H3 ((qseg v c1) ++ (R)) ∧ T2.get 0 = v ∧ T2.get 1 = (.i .i64 (((a : Nat)) : Int)) ∧ T2.get 2 = (.i .i64 (((b : Nat)) : Int)) ∧ T2.get 6 = (.i .i64 (((a : Nat)) : Int)) ∧ T2.get 7 = (.i .i64 0) ∧ T2.get 8 = (.i .i64 ((((b - a) : Nat)) : Int)) ∧ T2.get 9 = (.i .i64 (((k : Nat) : Int) - 1))) (fun m1 T2 H3 hI4 => ?_) ((b - a - 1) / 2 + 1) _ _ ⟨d, c, ((b - a - 1) / 2 + 1), rfl, hd, hn, rfl, Nat.le_refl _, hH0, rfl, rfl, rfl, rfl, rfl, rfl, (by rw [show (((((b - a - 1) / 2 + 1) : Nat) : Int) - 1) = ((((((b - a) - 1) / 2) : Nat)) : Int) by omega]; exact rfl)⟩
  obtain ⟨d1, c1, k, hm5, hp6, hp7, hp8, hp9, hH17, hT10, hT11, hT12, hT13, hT14, hT15, hT16⟩ := hI4
  refine C_seq ?_
  refine C_seq ?_
  refine C_region ?_
  refine O_p (.i .i64 (((k : Nat) : Int) - 1)) (r_mv hT16) ?_
  refine O_p (.b (decide (0 ≤ (((k : Nat) : Int) - 1)))) (r_geq rfl rfl) ?_
  refine O_nil ?_
  refine C_cond (x := (decide (0 ≤ (((k : Nat) : Int) - 1)))) rfl (fun hc18 => ?_) (fun hc18 => ?_)
  ·
    try simp only [decide_eq_true_eq, decide_eq_false_iff_not, Bool.not_eq_true', Bool.not_eq_false', Bool.and_eq_true, Bool.or_eq_true, Bool.or_eq_false_iff, Bool.not_not, Bool.and_eq_false_iff] at hc18
    refine C_skip ?_
    refine C_seq ?_
    refine C_block ?_
    refine C_region ?_
    refine O_p v (r_mv hT10) ?_
    refine O_p (.i .i64 ((((k - 1) : Nat)) : Int)) (by exact (r_mv (by rw [show (((k - 1 : Nat)) : Int) = ((k : Nat) : Int) - 1 by omega]; exact hT16))) ?_
    refine O_p (.i .i64 ((((b - a) : Nat)) : Int)) (r_mv hT15) ?_
    refine O_p (.i .i64 (((a : Nat)) : Int)) (r_mv hT13) ?_
    refine O_call (Ev.mono (sift_ev (lo := (k - 1)) (hi := (b - a)) (first := a) hp6 hp7 hl (by omega) (by omega) hH17) fun v19 H20 hq21 => ?_)
    obtain ⟨rfl, c22, hc23, hH24⟩ := hq21
    obtain ⟨dd25, he26⟩ : ∃ z, z = siftDown ltInt (b - a) a (k - 1) d1 := ⟨_, rfl⟩
    rw [← he26] at hc23
    have hn27 : dd25.size = n := by rw [he26, sd_size]; exact hp7
    refine O_nil ?_
    refine C_region ?_
    refine O_p (.i .i64 ((((k - 1) : Nat)) : Int)) (by exact (r_mv (by rw [show (((k - 1 : Nat)) : Int) = ((k : Nat) : Int) - 1 by omega]; exact hT16))) ?_
    refine O_p (.i .i64 (((((k - 1) : Nat)) : Int) - 1)) (by exact (r_subi rfl rfl (wrap_i64 (by omega) (by omega)))) ?_
    refine O_p (.i .i64 (((((k - 1) : Nat)) : Int) - 1)) (r_mv rfl) ?_
    refine O_nil ?_
    exact ⟨(k - 1), by omega, dd25, c22, (k - 1), rfl, hc23, hn27, by rw [he26, ← hp8]; obtain ⟨k9, rfl⟩ : ∃ k9, k = k9 + 1 := ⟨k - 1, by omega⟩; rfl, by omega, hH24, hT10, hT11, hT12, hT13, hT14, hT15, rfl⟩
  ·
    try simp only [decide_eq_true_eq, decide_eq_false_iff_not, Bool.not_eq_true', Bool.not_eq_false', Bool.and_eq_true, Bool.or_eq_true, Bool.or_eq_false_iff, Bool.not_not, Bool.and_eq_false_iff] at hc18
    refine C_exit ?_
    refine nx_exit ?_
    refine nx_exit ?_
    refine bk_hit ?_
    refine C_seq ?_
    refine C_region ?_
    refine O_p (.i .i64 ((((b - a) : Nat)) : Int)) (r_mv hT15) ?_
    refine O_p (.i .i64 (((((b - a) : Nat)) : Int) - 1)) (by exact (r_subi rfl rfl (wrap_i64 (by omega) (by omega)))) ?_
    refine O_p (.i .i64 (((((b - a) : Nat)) : Int) - 1)) (r_mv rfl) ?_
    refine O_nil ?_
    refine C_block ?_
    obtain rfl : k = 0 := by omega
    have hbu : d1 = heapBuild ltInt (b - a) a ((b - a - 1) / 2 + 1) d := hp8
    obtain ⟨dB, hdB⟩ : ∃ z, z = d1 := ⟨_, rfl⟩
    rw [← hdB] at hp6 hp7 hbu
    refine C_while (fun m28 T29 H30 => ∃ d1 : Array Int, ∃ c1 : List AV, ∃ k : Nat, m28 = k ∧ Sq 1 v c1 (dU d1).flatten ∧ d1.size = n ∧ heapPop ltInt a k d1 = heapPop ltInt a (b - a) dB ∧ k ≤ (b - a) ∧ Hs H30 ((qseg v c1) ++ (R)) ∧ T29.get 0 = v ∧ T29.get 1 = (.i .i64 (((a : Nat)) : Int)) ∧ T29.get 2 = (.i .i64 (((b : Nat)) : Int)) ∧ T29.get 6 = (.i .i64 (((a : Nat)) : Int)) ∧ T29.get 7 = (.i .i64 0) ∧ T29.get 8 = (.i .i64 ((((b - a) : Nat)) : Int)) ∧ T29.get 10 = (.i .i64 (((k : Nat) : Int) - 1))) (fun m28 T29 H30 hI31 => ?_) (b - a) _ _ ⟨dB, c1, (b - a), rfl, hp6, hp7, rfl, Nat.le_refl _, hH17, hT10, hT11, hT12, hT13, hT14, hT15, (by rw [show ((((b - a) : Nat) : Int) - 1) = (((((b - a) : Nat)) : Int) - 1) by omega]; exact rfl)⟩
    obtain ⟨d1, c1, k, hm32, hp33, hp34, hp35, hp36, hH44, hT37, hT38, hT39, hT40, hT41, hT42, hT43⟩ := hI31
    refine C_seq ?_
    refine C_seq ?_
    refine C_region ?_
    refine O_p (.i .i64 (((k : Nat) : Int) - 1)) (r_mv hT43) ?_
    refine O_p (.b (decide (0 ≤ (((k : Nat) : Int) - 1)))) (r_geq rfl rfl) ?_
    refine O_nil ?_
    refine C_cond (x := (decide (0 ≤ (((k : Nat) : Int) - 1)))) rfl (fun hc45 => ?_) (fun hc45 => ?_)
    ·
      try simp only [decide_eq_true_eq, decide_eq_false_iff_not, Bool.not_eq_true', Bool.not_eq_false', Bool.and_eq_true, Bool.or_eq_true, Bool.or_eq_false_iff, Bool.not_not, Bool.and_eq_false_iff] at hc45
      refine C_skip ?_
      refine C_seq ?_
      refine C_block ?_
      refine C_seq ?_
      refine C_draw fun b46 H47 hbase48 hA49 => ?_
      have hH50 := hH44.keep (by have := hA49.1; omega) (fun q _ => hA49.2 q) ((hH44.old).aside hA49).ok
      refine D_l (v := v) rfl rfl rfl (r_mv hT37) ?_
      refine D_l (v := (.i .i64 (((a : Nat)) : Int))) rfl rfl rfl (r_mv hT40) ?_
      refine D_l (v := v) rfl rfl rfl (r_mv hT37) ?_
      refine D_l (v := (.i .i64 (((a : Nat)) : Int))) rfl rfl rfl (r_mv hT40) ?_
      refine D_l (v := (.i .i64 ((((k - 1) : Nat)) : Int))) rfl rfl rfl (by exact (r_mv (by rw [show (((k - 1 : Nat)) : Int) = ((k : Nat) : Int) - 1 by omega]; exact hT43))) ?_
      refine D_l (v := (.i .i64 ((((a : Nat)) : Int) + ((((k - 1) : Nat)) : Int)))) rfl rfl rfl (by exact (r_addi rfl rfl (wrap_i64 (by omega) (by omega)))) ?_
      refine D_l (v := v) rfl rfl rfl (r_mv hT37) ?_
      refine D_l (v := (.i .i64 (((a : Nat)) : Int))) rfl rfl rfl (r_mv hT40) ?_
      refine D_l (v := (.i .i64 ((((k - 1) : Nat)) : Int))) rfl rfl rfl (by exact (r_mv (by rw [show (((k - 1 : Nat)) : Int) = ((k : Nat) : Int) - 1 by omega]; exact hT43))) ?_
      refine D_l (v := (.i .i64 ((((a : Nat)) : Int) + ((((k - 1) : Nat)) : Int)))) rfl rfl rfl (by exact (r_addi rfl rfl (wrap_i64 (by omega) (by omega)))) ?_
      refine D_q rfl rfl rfl (by exact Sq.cell hp33 (u_lens d1) hH50.top0 rfl (i := (a + (k - 1))) rfl (r := [(.i .u32 (d1[(a + (k - 1))]!))]) (u_get (d := d1) (i := (a + (k - 1))) (by omega)) (by decide)) fun v52 hv51 => ?_
      obtain ⟨rb53, ro54, rfl, hrg55, hrt56, hrb57, hput58, hqs59⟩ := hv51
      refine D_l (v := v) rfl rfl rfl (r_mv hT37) ?_
      refine D_l (v := (.i .i64 (((a : Nat)) : Int))) rfl rfl rfl (r_mv hT40) ?_
      refine D_q rfl rfl rfl (by exact Sq.cell hp33 (u_lens d1) hH50.top0 rfl (i := a) rfl (r := [(.i .u32 (d1[a]!))]) (u_get (d := d1) (i := a) (by omega)) (by decide)) fun v61 hv60 => ?_
      obtain ⟨rb62, ro63, rfl, hrg64, hrt65, hrb66, hput67, hqs68⟩ := hv60
      refine D_r (v := (.i .u32 (d1[(a + (k - 1))]!))) rfl rfl rfl (r_ldR (q := 0) rfl ⟨_, _, hrg55, hrt56⟩ rfl) ?_
      refine D_r (v := (.i .u32 (d1[a]!))) rfl rfl rfl (r_ldR (q := 0) rfl ⟨_, _, hrg64, hrt65⟩ rfl) ?_
      refine D_q rfl rfl rfl (by exact Sq.cell hp33 (u_lens d1) hH50.top0 rfl (i := a) rfl (r := [(.i .u32 (d1[a]!))]) (u_get (d := d1) (i := a) (by omega)) (by decide)) fun v70 hv69 => ?_
      obtain ⟨rb71, ro72, rfl, hrg73, hrt74, hrb75, hput76, hqs77⟩ := hv69
      refine D_store (vs := [(.i .u32 (d1[(a + (k - 1))]!))]) (c' := (putAt c1 (ro72 + 0) [(.i .u32 (d1[(a + (k - 1))]!))])) rfl (by rfl) hrg73 rfl (List.cons_ne_nil _ _) (by have := hrb75; show _ + 1 ≤ _; omega) rfl fun H78 hW79 => ?_
      have hH81 := Hs.cong0 (Hs.wr0 (Hs.cong0 hH50 (hqs77 _)) hW79) (hqs77 _).symm
      have hSq80 := hput76 0 [(.i .u32 (d1[(a + (k - 1))]!))] [(.i .u32 (d1[(a + (k - 1))]!))] (Nat.le_of_ble_eq_true rfl) rfl
      obtain ⟨dd82, he83⟩ : ∃ z : Array Int, z = d1.setIfInBounds a (d1[(a + (k - 1))]!) := ⟨_, rfl⟩
      have hs85 : Sq 1 v (putAt c1 (ro72 + 0) [(.i .u32 (d1[(a + (k - 1))]!))]) (dU dd82).flatten := by rw [he83, ← u_set]; exact hSq80
      have hn84 : dd82.size = n := by rw [he83, Array.size_setIfInBounds]; exact hp34
      refine And.intro (And.intro (Or.inl rfl) (And.intro (Or.inl rfl) True.intro)) ?_
      refine D_q rfl rfl rfl (by exact Sq.cell hs85 (u_lens dd82) hH81.top0 rfl (i := (a + (k - 1))) rfl (r := [(.i .u32 (dd82[(a + (k - 1))]!))]) (u_get (d := dd82) (i := (a + (k - 1))) (by omega)) (by decide)) fun v87 hv86 => ?_
      obtain ⟨rb88, ro89, rfl, hrg90, hrt91, hrb92, hput93, hqs94⟩ := hv86
      refine D_store (vs := [(.i .u32 (d1[a]!))]) (c' := (putAt (putAt c1 (ro72 + 0) [(.i .u32 (d1[(a + (k - 1))]!))]) (ro89 + 0) [(.i .u32 (d1[a]!))])) rfl (by rfl) hrg90 rfl (List.cons_ne_nil _ _) (by have := hrb92; show _ + 1 ≤ _; omega) rfl fun H95 hW96 => ?_
      have hH98 := Hs.cong0 (Hs.wr0 (Hs.cong0 hH81 (hqs94 _)) hW96) (hqs94 _).symm
      have hSq97 := hput93 0 [(.i .u32 (d1[a]!))] [(.i .u32 (d1[a]!))] (Nat.le_of_ble_eq_true rfl) rfl
      obtain ⟨dd99, he100⟩ : ∃ z : Array Int, z = dd82.setIfInBounds (a + (k - 1)) (d1[a]!) := ⟨_, rfl⟩
      have hs102 : Sq 1 v (putAt (putAt c1 (ro72 + 0) [(.i .u32 (d1[(a + (k - 1))]!))]) (ro89 + 0) [(.i .u32 (d1[a]!))]) (dU dd99).flatten := by rw [he100, ← u_set]; exact hSq97
      have hn101 : dd99.size = n := by rw [he100, Array.size_setIfInBounds]; exact hn84
      refine And.intro True.intro ?_
      refine D_nil ?_
      refine C_region ?_
      refine O_p v (r_mv hT37) ?_
      refine O_p (.i .i64 0) (r_mv hT41) ?_
      refine O_p (.i .i64 ((((k - 1) : Nat)) : Int)) (by exact (r_mv (by rw [show (((k - 1 : Nat)) : Int) = ((k : Nat) : Int) - 1 by omega]; exact hT43))) ?_
      refine O_p (.i .i64 (((a : Nat)) : Int)) (r_mv hT40) ?_
      refine O_call (Ev.mono (sift_ev (lo := 0) (hi := (k - 1)) (first := a) hs102 hn101 hl (by omega) (by omega) hH98) fun v103 H104 hq105 => ?_)
      obtain ⟨rfl, c106, hc107, hH108⟩ := hq105
      obtain ⟨dd109, he110⟩ : ∃ z, z = siftDown ltInt (k - 1) a 0 dd99 := ⟨_, rfl⟩
      rw [← he110] at hc107
      have hn111 : dd109.size = n := by rw [he110, sd_size]; exact hn101
      refine O_nil ?_
      refine C_region ?_
      refine O_p (.i .i64 ((((k - 1) : Nat)) : Int)) (by exact (r_mv (by rw [show (((k - 1 : Nat)) : Int) = ((k : Nat) : Int) - 1 by omega]; exact hT43))) ?_
      refine O_p (.i .i64 (((((k - 1) : Nat)) : Int) - 1)) (by exact (r_subi rfl rfl (wrap_i64 (by omega) (by omega)))) ?_
      refine O_p (.i .i64 (((((k - 1) : Nat)) : Int) - 1)) (r_mv rfl) ?_
      refine O_nil ?_
      exact ⟨(k - 1), by omega, dd109, c106, (k - 1), rfl, hc107, hn111, by rw [he110, he100, he83, ← hp35]; obtain ⟨k9, rfl⟩ : ∃ k9, k = k9 + 1 := ⟨k - 1, by omega⟩; rfl, by omega, hH108, hT37, hT38, hT39, hT40, hT41, hT42, rfl⟩
    ·
      try simp only [decide_eq_true_eq, decide_eq_false_iff_not, Bool.not_eq_true', Bool.not_eq_false', Bool.and_eq_true, Bool.or_eq_true, Bool.or_eq_false_iff, Bool.not_not, Bool.and_eq_false_iff] at hc45
      refine C_exit ?_
      refine nx_exit ?_
      refine nx_exit ?_
      refine bk_hit ?_
      obtain rfl : k = 0 := by omega
      exact ⟨.inl rfl, [], rfl, rfl, c1, by rw [show heapSort ltInt d a b = d1 by unfold heapSort; rw [← hbu, ← hp35]; rfl]; exact hp33, hH44⟩
theorem rev_ev {H : AH} {R : HL} {v : AV} {c : List AV} {d : Array Int} {n : Nat} {a b : Nat} (hd : Sq 1 v c (dU d).flatten) (hn : d.size = n) (hl : n ≤ 1000000) (hab : a < b) (hb : b ≤ n) (hH0 : Hs H (qseg v c ++ R)) : Ev tabS spS (.fn (.func 44) [] []) [v, .i .i64 ((a : Nat) : Int), .i .i64 ((b : Nat) : Int)] H (fun r H' => r = .tup [] ∧ ∃ d' c', PermIn a b d d' ∧ Sq 1 v c' (dU d').flatten ∧ Hs H' (qseg v c' ++ R)) := by
  refine Ev_C (F := x44) rfl ?_
  refine C_seq ?_
  refine C_region ?_
  refine O_p (.i .i64 (((a : Nat)) : Int)) (r_mv rfl) ?_
  refine O_p (.i .i64 (((a : Nat)) : Int)) (r_mv rfl) ?_
  refine O_nil ?_
  refine C_seq ?_
  refine C_region ?_
  refine O_p (.i .i64 (((b : Nat)) : Int)) (r_mv rfl) ?_
  refine O_p (.i .i64 ((((b - 1) : Nat)) : Int)) (by exact (r_subn (a := b) (b := 1) rfl rfl (by omega) (by omega))) ?_
  refine O_p (.i .i64 ((((b - 1) : Nat)) : Int)) (r_mv rfl) ?_
  refine O_nil ?_
  refine C_block ?_
  refine C_while (fun m1 T2 H3 => ∃ d1 : Array Int, ∃ c1 : List AV, ∃ i : Nat, ∃ j : Nat, m1 = b - i ∧ Sq 1 v c1 (dU d1).flatten ∧ d1.size = n ∧ PermIn a b d d1 ∧ a ≤ i ∧ j < b ∧ Hs H3 ((qseg v c1) ++ (R)) ∧ T2.get 0 = v ∧ T2.get 6 = (.i .i64 (((i : Nat)) : Int)) ∧ T2.get 7 = (.i .i64 (((j : Nat)) : Int))) (fun m1 T2 H3 hI4 => ?_) (b - a) _ _ ⟨d, c, a, (b - 1), rfl, hd, hn, Go.Sort.permIn_refl _ _ _, Nat.le_refl _, by omega, hH0, rfl, rfl, rfl⟩
  obtain ⟨d1, c1, i, j, hm5, hp6, hp7, hp8, hp9, hp10, hH14, hT11, hT12, hT13⟩ := hI4
  refine C_seq ?_
  refine C_seq ?_
  refine C_region ?_
  refine O_p (.i .i64 (((i : Nat)) : Int)) (r_mv hT12) ?_
  refine O_p (.i .i64 (((j : Nat)) : Int)) (r_mv hT13) ?_
  refine O_p (.b (decide ((((i : Nat)) : Int) < (((j : Nat)) : Int)))) (r_lss rfl rfl) ?_
  refine O_nil ?_
  refine C_cond (x := (decide ((((i : Nat)) : Int) < (((j : Nat)) : Int)))) rfl (fun hc15 => ?_) (fun hc15 => ?_)
  ·
    try simp only [decide_eq_true_eq, decide_eq_false_iff_not, Bool.not_eq_true', Bool.not_eq_false', Bool.and_eq_true, Bool.or_eq_true, Bool.or_eq_false_iff, Bool.not_not, Bool.and_eq_false_iff] at hc15
    refine C_skip ?_
    refine C_block ?_
    refine C_seq ?_
    refine C_draw fun b16 H17 hbase18 hA19 => ?_
    have hH20 := hH14.keep (by have := hA19.1; omega) (fun q _ => hA19.2 q) ((hH14.old).aside hA19).ok
    refine D_l (v := v) rfl rfl rfl (r_mv hT11) ?_
    refine D_l (v := (.i .i64 (((i : Nat)) : Int))) rfl rfl rfl (r_mv hT12) ?_
    refine D_l (v := v) rfl rfl rfl (r_mv hT11) ?_
    refine D_l (v := (.i .i64 (((j : Nat)) : Int))) rfl rfl rfl (r_mv hT13) ?_
    refine D_l (v := v) rfl rfl rfl (r_mv hT11) ?_
    refine D_l (v := (.i .i64 (((j : Nat)) : Int))) rfl rfl rfl (r_mv hT13) ?_
    refine D_q rfl rfl rfl (by exact Sq.cell hp6 (u_lens d1) hH20.top0 rfl (i := j) rfl (r := [(.i .u32 (d1[j]!))]) (u_get (d := d1) (i := j) (by omega)) (by decide)) fun v22 hv21 => ?_
    obtain ⟨rb23, ro24, rfl, hrg25, hrt26, hrb27, hput28, hqs29⟩ := hv21
    refine D_l (v := v) rfl rfl rfl (r_mv hT11) ?_
    refine D_l (v := (.i .i64 (((i : Nat)) : Int))) rfl rfl rfl (r_mv hT12) ?_
    refine D_q rfl rfl rfl (by exact Sq.cell hp6 (u_lens d1) hH20.top0 rfl (i := i) rfl (r := [(.i .u32 (d1[i]!))]) (u_get (d := d1) (i := i) (by omega)) (by decide)) fun v31 hv30 => ?_
    obtain ⟨rb32, ro33, rfl, hrg34, hrt35, hrb36, hput37, hqs38⟩ := hv30
    refine D_r (v := (.i .u32 (d1[j]!))) rfl rfl rfl (r_ldR (q := 0) rfl ⟨_, _, hrg25, hrt26⟩ rfl) ?_
    refine D_r (v := (.i .u32 (d1[i]!))) rfl rfl rfl (r_ldR (q := 0) rfl ⟨_, _, hrg34, hrt35⟩ rfl) ?_
    refine D_q rfl rfl rfl (by exact Sq.cell hp6 (u_lens d1) hH20.top0 rfl (i := i) rfl (r := [(.i .u32 (d1[i]!))]) (u_get (d := d1) (i := i) (by omega)) (by decide)) fun v40 hv39 => ?_
    obtain ⟨rb41, ro42, rfl, hrg43, hrt44, hrb45, hput46, hqs47⟩ := hv39
    refine D_store (vs := [(.i .u32 (d1[j]!))]) (c' := (putAt c1 (ro42 + 0) [(.i .u32 (d1[j]!))])) rfl (by rfl) hrg43 rfl (List.cons_ne_nil _ _) (by have := hrb45; show _ + 1 ≤ _; omega) rfl fun H48 hW49 => ?_
    have hH51 := Hs.cong0 (Hs.wr0 (Hs.cong0 hH20 (hqs47 _)) hW49) (hqs47 _).symm
    have hSq50 := hput46 0 [(.i .u32 (d1[j]!))] [(.i .u32 (d1[j]!))] (Nat.le_of_ble_eq_true rfl) rfl
    obtain ⟨dd52, he53⟩ : ∃ z : Array Int, z = d1.setIfInBounds i (d1[j]!) := ⟨_, rfl⟩
    have hs55 : Sq 1 v (putAt c1 (ro42 + 0) [(.i .u32 (d1[j]!))]) (dU dd52).flatten := by rw [he53, ← u_set]; exact hSq50
    have hn54 : dd52.size = n := by rw [he53, Array.size_setIfInBounds]; exact hp7
    refine And.intro (And.intro (Or.inl rfl) (And.intro (Or.inl rfl) True.intro)) ?_
    refine D_q rfl rfl rfl (by exact Sq.cell hs55 (u_lens dd52) hH51.top0 rfl (i := j) rfl (r := [(.i .u32 (dd52[j]!))]) (u_get (d := dd52) (i := j) (by omega)) (by decide)) fun v57 hv56 => ?_
    obtain ⟨rb58, ro59, rfl, hrg60, hrt61, hrb62, hput63, hqs64⟩ := hv56
    refine D_store (vs := [(.i .u32 (d1[i]!))]) (c' := (putAt (putAt c1 (ro42 + 0) [(.i .u32 (d1[j]!))]) (ro59 + 0) [(.i .u32 (d1[i]!))])) rfl (by rfl) hrg60 rfl (List.cons_ne_nil _ _) (by have := hrb62; show _ + 1 ≤ _; omega) rfl fun H65 hW66 => ?_
    have hH68 := Hs.cong0 (Hs.wr0 (Hs.cong0 hH51 (hqs64 _)) hW66) (hqs64 _).symm
    have hSq67 := hput63 0 [(.i .u32 (d1[i]!))] [(.i .u32 (d1[i]!))] (Nat.le_of_ble_eq_true rfl) rfl
    obtain ⟨dd69, he70⟩ : ∃ z : Array Int, z = dd52.setIfInBounds j (d1[i]!) := ⟨_, rfl⟩
    have hs72 : Sq 1 v (putAt (putAt c1 (ro42 + 0) [(.i .u32 (d1[j]!))]) (ro59 + 0) [(.i .u32 (d1[i]!))]) (dU dd69).flatten := by rw [he70, ← u_set]; exact hSq67
    have hn71 : dd69.size = n := by rw [he70, Array.size_setIfInBounds]; exact hn54
    refine And.intro True.intro ?_
    refine D_nil ?_
    refine C_seq ?_
    refine C_region ?_
    refine O_p (.i .i64 (((i : Nat)) : Int)) (r_mv hT12) ?_
    refine O_p (.i .i64 ((((i : Nat)) : Int) + 1)) (by exact (r_addi rfl rfl (wrap_i64 (by omega) (by omega)))) ?_
    refine O_p (.i .i64 ((((i : Nat)) : Int) + 1)) (r_mv rfl) ?_
    refine O_nil ?_
    refine C_region ?_
    refine O_p (.i .i64 (((j : Nat)) : Int)) (r_mv hT13) ?_
    refine O_p (.i .i64 ((((j - 1) : Nat)) : Int)) (by exact (r_subn (a := j) (b := 1) rfl rfl (by omega) (by omega))) ?_
    refine O_p (.i .i64 ((((j - 1) : Nat)) : Int)) (r_mv rfl) ?_
    refine O_nil ?_
    exact ⟨(b - (i + 1)), by omega, dd69, (putAt (putAt c1 (ro42 + 0) [(.i .u32 (d1[j]!))]) (ro59 + 0) [(.i .u32 (d1[i]!))]), (i + 1), (j - 1), rfl, hs72, hn71, by rw [he70, he53]; exact Go.Sort.permIn_trans _ _ _ _ _ hp8 (Go.Sort.swp_permIn _ _ _ _ _ (by omega) (by omega) (by omega) (by omega) (by rw [hp7]; exact hb)), by omega, by omega, hH68, hT11, rfl, rfl⟩
  ·
    try simp only [decide_eq_true_eq, decide_eq_false_iff_not, Bool.not_eq_true', Bool.not_eq_false', Bool.and_eq_true, Bool.or_eq_true, Bool.or_eq_false_iff, Bool.not_not, Bool.and_eq_false_iff] at hc15
    refine C_exit ?_
    refine nx_exit ?_
    refine nx_exit ?_
    refine bk_hit ?_
    exact ⟨.inl rfl, [], rfl, rfl, d1, c1, hp8, hp6, hH14⟩


set_option linter.unusedVariables false
set_option linter.unusedSimpArgs false
open Go.Sort (swp PermIn SortedIn Below ltInt)
theorem ord_ev {H : AH} {R : HL} {v : AV} {c : List AV} {d : Array Int} {n : Nat} {a b sp : Nat} {q : Int} (hd : Sq 1 v c (dU d).flatten) (hn : d.size = n) (hl : n ≤ 1000000) (ha : a < n) (hb : b < n) (hH0 : Hs H (qseg v c ++ ([(sp, some (.cells [.i .i64 q] true))] ++ R))) : Ev tabS spS (.fn (.func 57) [] []) [v, .i .i64 ((a : Nat) : Int), .i .i64 ((b : Nat) : Int), .p (some (sp, 0))] H (fun r H' => ∃ (x y : Nat) (q' : Int), r = .tup [.i .i64 ((x : Nat) : Int), .i .i64 ((y : Nat) : Int)] ∧ ((x = a ∧ y = b) ∨ (x = b ∧ y = a)) ∧ Hs H' (qseg v c ++ ([(sp, some (.cells [.i .i64 q'] true))] ++ R))) := by
  refine Ev_C (F := x57) rfl ?_
  refine C_seq ?_
  refine C_region ?_
  refine O_p (.i .i64 0) (r_mv rfl) ?_
  refine O_p (.i .i64 0) (r_mv rfl) ?_
  refine O_nil ?_
  refine C_seq ?_
  refine C_seq ?_
  refine C_draw fun b1 H2 hbase3 hA4 => ?_
  have hH5 := hH0.keep (by have := hA4.1; omega) (fun q _ => hA4.2 q) ((hH0.old).aside hA4).ok
  refine D_l (v := v) rfl rfl rfl (r_mv rfl) ?_
  refine D_l (v := (.i .i64 (((b : Nat)) : Int))) rfl rfl rfl (r_mv rfl) ?_
  refine D_q rfl rfl rfl (by exact Sq.cell hd (u_lens d) hH5.top0 rfl (i := b) rfl (r := [(.i .u32 (d[b]!))]) (u_get (d := d) (i := b) (by omega)) (by decide)) fun v7 hv6 => ?_
  obtain ⟨rb8, ro9, rfl, hrg10, hrt11, hrb12, hput13, hqs14⟩ := hv6
  refine D_l (v := v) rfl rfl rfl (r_mv rfl) ?_
  refine D_l (v := (.i .i64 (((a : Nat)) : Int))) rfl rfl rfl (r_mv rfl) ?_
  refine D_q rfl rfl rfl (by exact Sq.cell hd (u_lens d) hH5.top0 rfl (i := a) rfl (r := [(.i .u32 (d[a]!))]) (u_get (d := d) (i := a) (by omega)) (by decide)) fun v16 hv15 => ?_
  obtain ⟨rb17, ro18, rfl, hrg19, hrt20, hrb21, hput22, hqs23⟩ := hv15
  refine D_r (v := (.i .u32 (d[b]!))) rfl rfl rfl (r_ldR (q := 0) rfl ⟨_, _, hrg10, hrt11⟩ rfl) ?_
  refine D_r (v := (.i .u32 (d[a]!))) rfl rfl rfl (r_ldR (q := 0) rfl ⟨_, _, hrg19, hrt20⟩ rfl) ?_
  refine D_call (Ev.mono (less_ev (x := (d[b]!)) (y := (d[a]!)) hH5) fun v24 H25 hq26 => ?_)
  obtain ⟨rfl, hH27⟩ := hq26
  refine And.intro (And.intro (Or.inl rfl) (And.intro (Or.inl rfl) True.intro)) ?_
  refine D_nil ?_
  refine C_cond (x := (decide ((d[b]!) < (d[a]!)))) rfl (fun hc28 => ?_) (fun hc28 => ?_)
  ·
    try simp only [decide_eq_true_eq, decide_eq_false_iff_not, Bool.not_eq_true', Bool.not_eq_false', Bool.and_eq_true, Bool.or_eq_true, Bool.or_eq_false_iff, Bool.not_not, Bool.and_eq_false_iff] at hc28
    refine C_seq ?_
    refine C_region ?_
    refine O_p (.p (some (sp, 0))) (r_mv rfl) ?_
    refine O_p (.p (some (sp, 0))) (r_nilc rfl) ?_
    refine O_p (.i .i64 q) (r_ld rfl hH27.get1 rfl) ?_
    refine O_p (.i .i64 (IntKind.i64.wrap (q + 1))) (r_bin rfl rfl rfl) ?_
    refine O_p (.p (some (sp, 0))) (r_nilc rfl) ?_
    refine O_store (vs := [(.i .i64 (IntKind.i64.wrap (q + 1)))]) (c' := [(.i .i64 (IntKind.i64.wrap (q + 1)))]) rfl (by rfl) hH27.get1 rfl (List.cons_ne_nil _ _) (Nat.le_of_ble_eq_true rfl) rfl fun H29 hW30 => ?_
    have hH31 := hH27.wr1 hW30
    refine O_nil ?_
    refine C_seq ?_
    refine C_region ?_
    refine O_p (.i .i64 (((b : Nat)) : Int)) (r_mv rfl) ?_
    refine O_p (.i .i64 (((a : Nat)) : Int)) (r_mv rfl) ?_
    refine O_p (.i .i64 (((b : Nat)) : Int)) (r_mv rfl) ?_
    refine O_p (.i .i64 (((a : Nat)) : Int)) (r_mv rfl) ?_
    refine O_nil ?_
    refine C_ret ?_
    refine nx_ret ?_
    have hH32 := ((hH31.top1).top1)
    exact ⟨.inr rfl, _, resL_cons (r_tmp (v := (.i .i64 (((b : Nat)) : Int))) rfl) (resL_one (r_tmp (v := (.i .i64 (((a : Nat)) : Int))) rfl)), b, a, (IntKind.i64.wrap (q + 1)), rfl, .inr ⟨rfl, rfl⟩, hH32⟩
  ·
    try simp only [decide_eq_true_eq, decide_eq_false_iff_not, Bool.not_eq_true', Bool.not_eq_false', Bool.and_eq_true, Bool.or_eq_true, Bool.or_eq_false_iff, Bool.not_not, Bool.and_eq_false_iff] at hc28
    refine C_skip ?_
    refine C_seq ?_
    refine C_region ?_
    refine O_p (.i .i64 (((a : Nat)) : Int)) (r_mv rfl) ?_
    refine O_p (.i .i64 (((b : Nat)) : Int)) (r_mv rfl) ?_
    refine O_p (.i .i64 (((a : Nat)) : Int)) (r_mv rfl) ?_
    refine O_p (.i .i64 (((b : Nat)) : Int)) (r_mv rfl) ?_
    refine O_nil ?_
    refine C_ret ?_
    have hH33 := ((hH27.top1).top1)
    exact ⟨.inr rfl, _, resL_cons (r_tmp (v := (.i .i64 (((a : Nat)) : Int))) rfl) (resL_one (r_tmp (v := (.i .i64 (((b : Nat)) : Int))) rfl)), a, b, q, rfl, .inl ⟨rfl, rfl⟩, hH33⟩
theorem med_ev {H : AH} {R : HL} {v : AV} {c : List AV} {d : Array Int} {n : Nat} {a b e sp : Nat} {q : Int} (ha : a < n) (hb : b < n) (he : e < n) (hd : Sq 1 v c (dU d).flatten) (hn : d.size = n) (hl : n ≤ 1000000) (hH0 : Hs H (qseg v c ++ ([(sp, some (.cells [.i .i64 q] true))] ++ R))) : Ev tabS spS (.fn (.func 55) [] []) [v, .i .i64 ((a : Nat) : Int), .i .i64 ((b : Nat) : Int), .i .i64 ((e : Nat) : Int), .p (some (sp, 0))] H (fun r H' => ∃ (x : Nat) (q' : Int), r = .i .i64 ((x : Nat) : Int) ∧ (x = a ∨ x = b ∨ x = e) ∧ Hs H' (qseg v c ++ ([(sp, some (.cells [.i .i64 q'] true))] ++ R))) := by
  refine Ev_C (F := x55) rfl ?_
  refine C_seq ?_
  refine C_region ?_
  refine O_p (.i .i64 0) (r_mv rfl) ?_
  refine O_nil ?_
  refine C_seq ?_
  refine C_region ?_
  refine O_p v (r_mv rfl) ?_
  refine O_p (.i .i64 (((a : Nat)) : Int)) (r_mv rfl) ?_
  refine O_p (.i .i64 (((b : Nat)) : Int)) (r_mv rfl) ?_
  refine O_p (.p (some (sp, 0))) (r_mv rfl) ?_
  have hH1 := ((hH0.top1).top1)
  refine O_call (Ev.mono (ord_ev (a := a) (b := b) hd hn hl (by omega) (by omega) hH1) fun v2 H3 hq4 => ?_)
  obtain ⟨x5, y6, q7, rfl, hx8, hH9⟩ := hq4
  refine O_p (.tup [(.i .i64 (((x5 : Nat)) : Int)), (.i .i64 (((y6 : Nat)) : Int))]) (r_mv rfl) ?_
  refine O_p (.i .i64 (((x5 : Nat)) : Int)) (r_ext rfl rfl) ?_
  refine O_p (.i .i64 (((y6 : Nat)) : Int)) (r_ext rfl rfl) ?_
  refine O_p (.i .i64 (((x5 : Nat)) : Int)) (r_mv rfl) ?_
  refine O_p (.i .i64 (((y6 : Nat)) : Int)) (r_mv rfl) ?_
  refine O_nil ?_
  refine C_seq ?_
  refine C_region ?_
  refine O_p v (r_mv rfl) ?_
  refine O_p (.i .i64 (((y6 : Nat)) : Int)) (r_mv rfl) ?_
  refine O_p (.i .i64 (((e : Nat)) : Int)) (r_mv rfl) ?_
  refine O_p (.p (some (sp, 0))) (r_mv rfl) ?_
  have hH10 := ((hH9.top1).top1)
  refine O_call (Ev.mono (ord_ev (a := y6) (b := e) hd hn hl (by omega) (by omega) hH10) fun v11 H12 hq13 => ?_)
  obtain ⟨x14, y15, q16, rfl, hx17, hH18⟩ := hq13
  refine O_p (.tup [(.i .i64 (((x14 : Nat)) : Int)), (.i .i64 (((y15 : Nat)) : Int))]) (r_mv rfl) ?_
  refine O_p (.i .i64 (((x14 : Nat)) : Int)) (r_ext rfl rfl) ?_
  refine O_p (.i .i64 (((y15 : Nat)) : Int)) (r_ext rfl rfl) ?_
  refine O_p (.i .i64 (((x14 : Nat)) : Int)) (r_mv rfl) ?_
  refine O_p (.i .i64 (((y15 : Nat)) : Int)) (r_mv rfl) ?_
  refine O_nil ?_
  refine C_seq ?_
  refine C_region ?_
  refine O_p v (r_mv rfl) ?_
  refine O_p (.i .i64 (((x5 : Nat)) : Int)) (r_mv rfl) ?_
  refine O_p (.i .i64 (((x14 : Nat)) : Int)) (r_mv rfl) ?_
  refine O_p (.p (some (sp, 0))) (r_mv rfl) ?_
  have hH19 := ((hH18.top1).top1)
  refine O_call (Ev.mono (ord_ev (a := x5) (b := x14) hd hn hl (by omega) (by omega) hH19) fun v20 H21 hq22 => ?_)
  obtain ⟨x23, y24, q25, rfl, hx26, hH27⟩ := hq22
  refine O_p (.tup [(.i .i64 (((x23 : Nat)) : Int)), (.i .i64 (((y24 : Nat)) : Int))]) (r_mv rfl) ?_
  refine O_p (.i .i64 (((x23 : Nat)) : Int)) (r_ext rfl rfl) ?_
  refine O_p (.i .i64 (((y24 : Nat)) : Int)) (r_ext rfl rfl) ?_
  refine O_p (.i .i64 (((x23 : Nat)) : Int)) (r_mv rfl) ?_
  refine O_p (.i .i64 (((y24 : Nat)) : Int)) (r_mv rfl) ?_
  refine O_nil ?_
  refine C_seq ?_
  refine C_region ?_
  refine O_p (.i .i64 (((y24 : Nat)) : Int)) (r_mv rfl) ?_
  refine O_p (.i .i64 (((y24 : Nat)) : Int)) (r_mv rfl) ?_
  refine O_nil ?_
  refine C_ret ?_
  have hH28 := ((hH27.top1).top1)
  exact ⟨.inr rfl, _, resL_one (r_tmp (v := (.i .i64 (((y24 : Nat)) : Int))) rfl), y24, q25, rfl, by omega, hH28⟩
theorem adj_ev {H : AH} {R : HL} {v : AV} {c : List AV} {d : Array Int} {n : Nat} {a sp : Nat} {q : Int} (h1 : 1 ≤ a) (h2 : a + 1 < n) (hd : Sq 1 v c (dU d).flatten) (hn : d.size = n) (hl : n ≤ 1000000) (hH0 : Hs H (qseg v c ++ ([(sp, some (.cells [.i .i64 q] true))] ++ R))) : Ev tabS spS (.fn (.func 54) [] []) [v, .i .i64 ((a : Nat) : Int), .p (some (sp, 0))] H (fun r H' => ∃ (x : Nat) (q' : Int), r = .i .i64 ((x : Nat) : Int) ∧ (a ≤ x + 1 ∧ x ≤ a + 1) ∧ Hs H' (qseg v c ++ ([(sp, some (.cells [.i .i64 q'] true))] ++ R))) := by
  refine Ev_C (F := x54) rfl ?_
  refine C_seq ?_
  refine C_region ?_
  refine O_p (.i .i64 0) (r_mv rfl) ?_
  refine O_nil ?_
  refine C_seq ?_
  refine C_region ?_
  refine O_p v (r_mv rfl) ?_
  refine O_p (.i .i64 (((a : Nat)) : Int)) (r_mv rfl) ?_
  refine O_p (.i .i64 ((((a - 1) : Nat)) : Int)) (by exact (r_subn (a := a) (b := 1) rfl rfl (by omega) (by omega))) ?_
  refine O_p (.i .i64 (((a : Nat)) : Int)) (r_mv rfl) ?_
  refine O_p (.i .i64 (((a : Nat)) : Int)) (r_mv rfl) ?_
  refine O_p (.i .i64 ((((a : Nat)) : Int) + 1)) (by exact (r_addi rfl rfl (wrap_i64 (by omega) (by omega)))) ?_
  refine O_p (.p (some (sp, 0))) (r_mv rfl) ?_
  have hH1 := ((hH0.top1).top1)
  refine O_call (Ev.mono (med_ev (a := (a - 1)) (b := a) (e := (a + 1)) (by omega) (by omega) (by omega) hd hn hl hH1) fun v2 H3 hq4 => ?_)
  obtain ⟨x5, q6, rfl, hx7, hH8⟩ := hq4
  refine O_p (.i .i64 (((x5 : Nat)) : Int)) (r_mv rfl) ?_
  refine O_nil ?_
  refine C_ret ?_
  have hH9 := ((hH8.top1).top1)
  exact ⟨.inr rfl, _, resL_one (r_tmp (v := (.i .i64 (((x5 : Nat)) : Int))) rfl), x5, q6, rfl, by omega, hH9⟩
set_option maxHeartbeats 1000000 in
theorem piv_ev {H : AH} {R : HL} {v : AV} {c : List AV} {d : Array Int} {n : Nat} {a b : Nat} (hd : Sq 1 v c (dU d).flatten) (hn : d.size = n) (hl : n ≤ 1000000) (hab : a + 12 < b) (hb : b ≤ n) (hH0 : Hs H (qseg v c ++ R)) : Ev tabS spS (.fn (.func 43) [] []) [v, .i .i64 ((a : Nat) : Int), .i .i64 ((b : Nat) : Int)] H (fun r H' => ∃ x h : Nat, r = .tup [.i .i64 ((x : Nat) : Int), .i .i64 ((h : Nat) : Int)] ∧ a ≤ x ∧ x < b ∧ h ≤ 2 ∧ Hs H' (qseg v c ++ R)) := by
  refine Ev_C (F := x43) rfl ?_
  refine C_seq ?_
  refine C_region ?_
  refine O_p (.i .i64 0) (r_mv rfl) ?_
  refine O_p (.i .i64 0) (r_mv rfl) ?_
  refine O_nil ?_
  refine C_seq ?_
  refine C_region ?_
  refine O_p (.i .i64 (((b : Nat)) : Int)) (r_mv rfl) ?_
  refine O_p (.i .i64 (((a : Nat)) : Int)) (r_mv rfl) ?_
  refine O_p (.i .i64 ((((b - a) : Nat)) : Int)) (by exact (r_subn (a := b) (b := a) rfl rfl (by omega) (by omega))) ?_
  refine O_p (.i .i64 ((((b - a) : Nat)) : Int)) (r_mv rfl) ?_
  refine O_nil ?_
  refine C_seq ?_
  refine C_region ?_
  refine O_alloc fun n1 H2 hN3 => ?_
  have hH4 := hH0.new hN3
  refine O_nil ?_
  refine C_seq ?_
  refine C_region ?_
  refine O_p (.i .i64 (((a : Nat)) : Int)) (r_mv rfl) ?_
  refine O_p (.i .i64 ((((b - a) : Nat)) : Int)) (r_mv rfl) ?_
  refine O_p (.i .i64 (((((b - a) / 4) : Nat)) : Int)) (by exact (r_quon (a := (b - a)) (b := 4) rfl rfl (by omega) (by omega))) ?_
  refine O_p (.i .i64 ((((((b - a) / 4) : Nat)) : Int) * 1)) (by exact (r_muli rfl rfl (wrap_i64 (by omega) (by omega)))) ?_
  refine O_p (.i .i64 ((((a : Nat)) : Int) + ((((((b - a) / 4) : Nat)) : Int) * 1))) (by exact (r_addi rfl rfl (wrap_i64 (by omega) (by omega)))) ?_
  refine O_p (.i .i64 ((((a : Nat)) : Int) + ((((((b - a) / 4) : Nat)) : Int) * 1))) (r_mv rfl) ?_
  refine O_nil ?_
  refine C_seq ?_
  refine C_region ?_
  refine O_p (.i .i64 (((a : Nat)) : Int)) (r_mv rfl) ?_
  refine O_p (.i .i64 ((((b - a) : Nat)) : Int)) (r_mv rfl) ?_
  refine O_p (.i .i64 (((((b - a) / 4) : Nat)) : Int)) (by exact (r_quon (a := (b - a)) (b := 4) rfl rfl (by omega) (by omega))) ?_
  refine O_p (.i .i64 ((((((b - a) / 4) : Nat)) : Int) * 2)) (by exact (r_muli rfl rfl (wrap_i64 (by omega) (by omega)))) ?_
  refine O_p (.i .i64 ((((a : Nat)) : Int) + ((((((b - a) / 4) : Nat)) : Int) * 2))) (by exact (r_addi rfl rfl (wrap_i64 (by omega) (by omega)))) ?_
  refine O_p (.i .i64 ((((a : Nat)) : Int) + ((((((b - a) / 4) : Nat)) : Int) * 2))) (r_mv rfl) ?_
  refine O_nil ?_
  refine C_seq ?_
  refine C_region ?_
  refine O_p (.i .i64 (((a : Nat)) : Int)) (r_mv rfl) ?_
  refine O_p (.i .i64 ((((b - a) : Nat)) : Int)) (r_mv rfl) ?_
  refine O_p (.i .i64 (((((b - a) / 4) : Nat)) : Int)) (by exact (r_quon (a := (b - a)) (b := 4) rfl rfl (by omega) (by omega))) ?_
  refine O_p (.i .i64 ((((((b - a) / 4) : Nat)) : Int) * 3)) (by exact (r_muli rfl rfl (wrap_i64 (by omega) (by omega)))) ?_
  refine O_p (.i .i64 ((((a : Nat)) : Int) + ((((((b - a) / 4) : Nat)) : Int) * 3))) (by exact (r_addi rfl rfl (wrap_i64 (by omega) (by omega)))) ?_
  refine O_p (.i .i64 ((((a : Nat)) : Int) + ((((((b - a) / 4) : Nat)) : Int) * 3))) (r_mv rfl) ?_
  refine O_nil ?_
  refine C_seq ?_
  refine C_seq ?_
  refine C_region ?_
  refine O_p (.i .i64 ((((b - a) : Nat)) : Int)) (r_mv rfl) ?_
  refine O_p (.b true) (by exact (by rw [r_geq rfl rfl, decide_eq_true (by omega)])) ?_
  refine O_nil ?_
  refine C_cond (x := true) rfl (fun _ => ?_) (fun h => by cases h)
  refine C_seq ?_
  refine C_seq ?_
  refine C_region ?_
  refine O_p (.i .i64 ((((b - a) : Nat)) : Int)) (r_mv rfl) ?_
  refine O_p (.b (decide (50 ≤ ((((b - a) : Nat)) : Int)))) (r_geq rfl rfl) ?_
  refine O_nil ?_
  refine C_cond (x := (decide (50 ≤ ((((b - a) : Nat)) : Int)))) rfl (fun hc5 => ?_) (fun hc5 => ?_)
  ·
    try simp only [decide_eq_true_eq, decide_eq_false_iff_not, Bool.not_eq_true', Bool.not_eq_false', Bool.and_eq_true, Bool.or_eq_true, Bool.or_eq_false_iff, Bool.not_not, Bool.and_eq_false_iff] at hc5
    refine C_seq ?_
    refine C_region ?_
    refine O_p v (r_mv rfl) ?_
    refine O_p (.i .i64 ((((a : Nat)) : Int) + ((((((b - a) / 4) : Nat)) : Int) * 1))) (r_mv rfl) ?_
    have hH6 := (hH4.top1)
    refine O_call (Ev.mono (adj_ev (a := (a + (((b - a) / 4) * 1))) (by omega) (by omega) hd hn hl hH6) fun v7 H8 hq9 => ?_)
    obtain ⟨x10, q11, rfl, hx12, hH13⟩ := hq9
    refine O_p (.i .i64 (((x10 : Nat)) : Int)) (r_mv rfl) ?_
    refine O_nil ?_
    refine C_seq ?_
    refine C_region ?_
    refine O_p v (r_mv rfl) ?_
    refine O_p (.i .i64 ((((a : Nat)) : Int) + ((((((b - a) / 4) : Nat)) : Int) * 2))) (r_mv rfl) ?_
    have hH14 := ((hH13.top1).top1)
    refine O_call (Ev.mono (adj_ev (a := (a + (((b - a) / 4) * 2))) (by omega) (by omega) hd hn hl hH14) fun v15 H16 hq17 => ?_)
    obtain ⟨x18, q19, rfl, hx20, hH21⟩ := hq17
    refine O_p (.i .i64 (((x18 : Nat)) : Int)) (r_mv rfl) ?_
    refine O_nil ?_
    refine C_region ?_
    refine O_p v (r_mv rfl) ?_
    refine O_p (.i .i64 ((((a : Nat)) : Int) + ((((((b - a) / 4) : Nat)) : Int) * 3))) (r_mv rfl) ?_
    have hH22 := ((hH21.top1).top1)
    refine O_call (Ev.mono (adj_ev (a := (a + (((b - a) / 4) * 3))) (by omega) (by omega) hd hn hl hH22) fun v23 H24 hq25 => ?_)
    obtain ⟨x26, q27, rfl, hx28, hH29⟩ := hq25
    refine O_p (.i .i64 (((x26 : Nat)) : Int)) (r_mv rfl) ?_
    refine O_nil ?_
    refine C_region ?_
    refine O_p v (r_mv rfl) ?_
    refine O_p (.i .i64 (((x10 : Nat)) : Int)) (r_mv rfl) ?_
    refine O_p (.i .i64 (((x18 : Nat)) : Int)) (r_mv rfl) ?_
    refine O_p (.i .i64 (((x26 : Nat)) : Int)) (r_mv rfl) ?_
    have hH30 := ((hH29.top1).top1)
    refine O_call (Ev.mono (med_ev (a := x10) (b := x18) (e := x26) (by omega) (by omega) (by omega) hd hn hl hH30) fun v31 H32 hq33 => ?_)
    obtain ⟨x34, q35, rfl, hx36, hH37⟩ := hq33
    refine O_p (.i .i64 (((x34 : Nat)) : Int)) (r_mv rfl) ?_
    refine O_nil ?_
    refine C_seq ?_
    refine C_region ?_
    refine O_p (.i .i64 q35) (r_ld rfl hH37.get1 rfl) ?_
    refine O_nil ?_
    refine C_block ?_
    refine C_seq ?_
    refine C_region ?_
    refine O_p (.b (decide (q35 = 0))) (r_eql rfl rfl) ?_
    refine O_p (.b (decide (q35 = 0))) (r_mv rfl) ?_
    refine O_nil ?_
    refine C_cond (x := (decide (q35 = 0))) rfl (fun hc38 => ?_) (fun hc38 => ?_)
    ·
      try simp only [decide_eq_true_eq, decide_eq_false_iff_not, Bool.not_eq_true', Bool.not_eq_false', Bool.and_eq_true, Bool.or_eq_true, Bool.or_eq_false_iff, Bool.not_not, Bool.and_eq_false_iff] at hc38
      refine C_seq ?_
      refine C_region ?_
      refine O_p (.i .i64 (((x34 : Nat)) : Int)) (r_mv rfl) ?_
      refine O_p (.i .i64 (((x34 : Nat)) : Int)) (r_mv rfl) ?_
      refine O_p (.i .i64 1) (r_mv rfl) ?_
      refine O_nil ?_
      refine C_ret ?_
      refine bk_ret ?_
      have hH39 := (hH37.sub1)
      exact ⟨.inr rfl, _, resL_cons (r_tmp (v := (.i .i64 (((x34 : Nat)) : Int))) rfl) (resL_one (r_tmp (v := (.i .i64 1)) rfl)), x34, 1, rfl, by omega, by omega, by omega, hH39⟩
    ·
      try simp only [decide_eq_true_eq, decide_eq_false_iff_not, Bool.not_eq_true', Bool.not_eq_false', Bool.and_eq_true, Bool.or_eq_true, Bool.or_eq_false_iff, Bool.not_not, Bool.and_eq_false_iff] at hc38
      refine C_seq ?_
      refine C_region ?_
      refine O_p (.b (decide (q35 = 12))) (r_eql rfl rfl) ?_
      refine O_p (.b (decide (q35 = 12))) (r_mv rfl) ?_
      refine O_nil ?_
      refine C_cond (x := (decide (q35 = 12))) rfl (fun hc40 => ?_) (fun hc40 => ?_)
      ·
        try simp only [decide_eq_true_eq, decide_eq_false_iff_not, Bool.not_eq_true', Bool.not_eq_false', Bool.and_eq_true, Bool.or_eq_true, Bool.or_eq_false_iff, Bool.not_not, Bool.and_eq_false_iff] at hc40
        refine C_seq ?_
        refine C_region ?_
        refine O_p (.i .i64 (((x34 : Nat)) : Int)) (r_mv rfl) ?_
        refine O_p (.i .i64 (((x34 : Nat)) : Int)) (r_mv rfl) ?_
        refine O_p (.i .i64 2) (r_mv rfl) ?_
        refine O_nil ?_
        refine C_ret ?_
        refine bk_ret ?_
        have hH41 := (hH37.sub1)
        exact ⟨.inr rfl, _, resL_cons (r_tmp (v := (.i .i64 (((x34 : Nat)) : Int))) rfl) (resL_one (r_tmp (v := (.i .i64 2)) rfl)), x34, 2, rfl, by omega, by omega, by omega, hH41⟩
      ·
        try simp only [decide_eq_true_eq, decide_eq_false_iff_not, Bool.not_eq_true', Bool.not_eq_false', Bool.and_eq_true, Bool.or_eq_true, Bool.or_eq_false_iff, Bool.not_not, Bool.and_eq_false_iff] at hc40
        refine C_seq ?_
        refine C_region ?_
        refine O_p (.i .i64 (((x34 : Nat)) : Int)) (r_mv rfl) ?_
        refine O_p (.i .i64 (((x34 : Nat)) : Int)) (r_mv rfl) ?_
        refine O_p (.i .i64 0) (r_mv rfl) ?_
        refine O_nil ?_
        refine C_ret ?_
        refine bk_ret ?_
        have hH42 := (hH37.sub1)
        exact ⟨.inr rfl, _, resL_cons (r_tmp (v := (.i .i64 (((x34 : Nat)) : Int))) rfl) (resL_one (r_tmp (v := (.i .i64 0)) rfl)), x34, 0, rfl, by omega, by omega, by omega, hH42⟩
  ·
    try simp only [decide_eq_true_eq, decide_eq_false_iff_not, Bool.not_eq_true', Bool.not_eq_false', Bool.and_eq_true, Bool.or_eq_true, Bool.or_eq_false_iff, Bool.not_not, Bool.and_eq_false_iff] at hc5
    refine C_skip ?_
    refine C_region ?_
    refine O_p v (r_mv rfl) ?_
    refine O_p (.i .i64 ((((a : Nat)) : Int) + ((((((b - a) / 4) : Nat)) : Int) * 1))) (r_mv rfl) ?_
    refine O_p (.i .i64 ((((a : Nat)) : Int) + ((((((b - a) / 4) : Nat)) : Int) * 2))) (r_mv rfl) ?_
    refine O_p (.i .i64 ((((a : Nat)) : Int) + ((((((b - a) / 4) : Nat)) : Int) * 3))) (r_mv rfl) ?_
    have hH43 := (hH4.top1)
    refine O_call (Ev.mono (med_ev (a := (a + (((b - a) / 4) * 1))) (b := (a + (((b - a) / 4) * 2))) (e := (a + (((b - a) / 4) * 3))) (by omega) (by omega) (by omega) hd hn hl hH43) fun v44 H45 hq46 => ?_)
    obtain ⟨x47, q48, rfl, hx49, hH50⟩ := hq46
    refine O_p (.i .i64 (((x47 : Nat)) : Int)) (r_mv rfl) ?_
    refine O_nil ?_
    refine C_seq ?_
    refine C_region ?_
    refine O_p (.i .i64 q48) (r_ld rfl hH50.get1 rfl) ?_
    refine O_nil ?_
    refine C_block ?_
    refine C_seq ?_
    refine C_region ?_
    refine O_p (.b (decide (q48 = 0))) (r_eql rfl rfl) ?_
    refine O_p (.b (decide (q48 = 0))) (r_mv rfl) ?_
    refine O_nil ?_
    refine C_cond (x := (decide (q48 = 0))) rfl (fun hc51 => ?_) (fun hc51 => ?_)
    ·
      try simp only [decide_eq_true_eq, decide_eq_false_iff_not, Bool.not_eq_true', Bool.not_eq_false', Bool.and_eq_true, Bool.or_eq_true, Bool.or_eq_false_iff, Bool.not_not, Bool.and_eq_false_iff] at hc51
      refine C_seq ?_
      refine C_region ?_
      refine O_p (.i .i64 (((x47 : Nat)) : Int)) (r_mv rfl) ?_
      refine O_p (.i .i64 (((x47 : Nat)) : Int)) (r_mv rfl) ?_
      refine O_p (.i .i64 1) (r_mv rfl) ?_
      refine O_nil ?_
      refine C_ret ?_
      refine bk_ret ?_
      have hH52 := (hH50.sub1)
      exact ⟨.inr rfl, _, resL_cons (r_tmp (v := (.i .i64 (((x47 : Nat)) : Int))) rfl) (resL_one (r_tmp (v := (.i .i64 1)) rfl)), x47, 1, rfl, by omega, by omega, by omega, hH52⟩
    ·
      try simp only [decide_eq_true_eq, decide_eq_false_iff_not, Bool.not_eq_true', Bool.not_eq_false', Bool.and_eq_true, Bool.or_eq_true, Bool.or_eq_false_iff, Bool.not_not, Bool.and_eq_false_iff] at hc51
      refine C_seq ?_
      refine C_region ?_
      refine O_p (.b (decide (q48 = 12))) (r_eql rfl rfl) ?_
      refine O_p (.b (decide (q48 = 12))) (r_mv rfl) ?_
      refine O_nil ?_
      refine C_cond (x := (decide (q48 = 12))) rfl (fun hc53 => ?_) (fun hc53 => ?_)
      ·
        try simp only [decide_eq_true_eq, decide_eq_false_iff_not, Bool.not_eq_true', Bool.not_eq_false', Bool.and_eq_true, Bool.or_eq_true, Bool.or_eq_false_iff, Bool.not_not, Bool.and_eq_false_iff] at hc53
        refine C_seq ?_
        refine C_region ?_
        refine O_p (.i .i64 (((x47 : Nat)) : Int)) (r_mv rfl) ?_
        refine O_p (.i .i64 (((x47 : Nat)) : Int)) (r_mv rfl) ?_
        refine O_p (.i .i64 2) (r_mv rfl) ?_
        refine O_nil ?_
        refine C_ret ?_
        refine bk_ret ?_
        have hH54 := (hH50.sub1)
        exact ⟨.inr rfl, _, resL_cons (r_tmp (v := (.i .i64 (((x47 : Nat)) : Int))) rfl) (resL_one (r_tmp (v := (.i .i64 2)) rfl)), x47, 2, rfl, by omega, by omega, by omega, hH54⟩
      ·
        try simp only [decide_eq_true_eq, decide_eq_false_iff_not, Bool.not_eq_true', Bool.not_eq_false', Bool.and_eq_true, Bool.or_eq_true, Bool.or_eq_false_iff, Bool.not_not, Bool.and_eq_false_iff] at hc53
        refine C_seq ?_
        refine C_region ?_
        refine O_p (.i .i64 (((x47 : Nat)) : Int)) (r_mv rfl) ?_
        refine O_p (.i .i64 (((x47 : Nat)) : Int)) (r_mv rfl) ?_
        refine O_p (.i .i64 0) (r_mv rfl) ?_
        refine O_nil ?_
        refine C_ret ?_
        refine bk_ret ?_
        have hH55 := (hH50.sub1)
        exact ⟨.inr rfl, _, resL_cons (r_tmp (v := (.i .i64 (((x47 : Nat)) : Int))) rfl) (resL_one (r_tmp (v := (.i .i64 0)) rfl)), x47, 0, rfl, by omega, by omega, by omega, hH55⟩


set_option linter.unusedVariables false
set_option linter.unusedSimpArgs false
open Go.Sort (swp PermIn SortedIn Below ltInt scanUp scanDown partLoop partition partEqLoop partitionEqual)
section
variable {p : Int → Bool} {d : Array Int} {i j : Nat}
theorem scanUp_go (h : i ≤ j ∧ p d[i]! = true) : scanUp p d j i = scanUp p d j (i + 1) := by rw [scanUp, if_pos (by rw [Bool.and_eq_true, decide_eq_true_eq]; exact h)]
theorem scanUp_stop (h : ¬ (i ≤ j ∧ p d[i]! = true)) : scanUp p d j i = i := by rw [scanUp, if_neg (by rw [Bool.and_eq_true, decide_eq_true_eq]; exact h)]
theorem scanDown_go (h : i ≤ j ∧ p d[j]! = true) (h0 : 0 < j) : scanDown p d i j = scanDown p d i (j - 1) := by
  obtain ⟨j, rfl⟩ : ∃ k, j = k + 1 := ⟨j - 1, by omega⟩
  rw [scanDown, if_pos (by rw [Bool.and_eq_true, decide_eq_true_eq]; exact h)]; rfl
theorem scanDown_stop (h : ¬ (i ≤ j ∧ p d[j]! = true)) : scanDown p d i j = j := by
  cases j with
  | zero => rfl
  | succ j => rw [scanDown, if_neg (by rw [Bool.and_eq_true, decide_eq_true_eq]; exact h)]
end
theorem C_cut {tab : Nat → Option XFun} {sp : Nat → List AV → AH → Option (AV × AH)} {T : Tm} {H : AH} {Q : XExit → Tm → AH → Prop} {a b : XC} (P : Tm → AH → Prop) (h1 : C tab sp a T H (fun e T' H' => e = .norm ∧ P T' H')) (h2 : ∀ T' H', P T' H' → C tab sp b T' H' Q) : C tab sp (.seq a b) T H Q := C_seq (fun Tx hx => by
  obtain ⟨k, e, T', H', T2, h, t, rfl, p⟩ := h1 Tx hx
  exact ⟨k, .norm, T', H', T2, h, t, h2 T2 H' p⟩)
set_option maxHeartbeats 2000000 in
theorem peq_ev {H : AH} {R : HL} {v : AV} {c : List AV} {d : Array Int} {n : Nat} {a b pivot : Nat} (hd : Sq 1 v c (dU d).flatten) (hn : d.size = n) (hl : n ≤ 1000000) (ha : a < b) (hb : b ≤ n) (hp : pivot < n) (hH0 : Hs H (qseg v c ++ R)) : Ev tabS spS (.fn (.func 47) [] []) [v, .i .i64 ((a : Nat) : Int), .i .i64 ((b : Nat) : Int), .i .i64 ((pivot : Nat) : Int)] H (fun r H' => ∃ (m : Nat) (d' : Array Int) (c' : List AV), r = .i .i64 ((m : Nat) : Int) ∧ (partitionEqual ltInt d a b pivot).1 = m ∧ (partitionEqual ltInt d a b pivot).2 = d' ∧ d'.size = n ∧ Sq 1 v c' (dU d').flatten ∧ Hs H' (qseg v c' ++ R)) := by
  refine Ev_C (F := x47) rfl ?_
  refine C_seq ?_
  refine C_region ?_
  refine O_p (.i .i64 0) (r_mv rfl) ?_
  refine O_nil ?_
  refine C_seq ?_
  refine C_draw fun b1 H2 hbase3 hA4 => ?_
  have hH5 := hH0.keep (by have := hA4.1; omega) (fun q _ => hA4.2 q) ((hH0.old).aside hA4).ok
  refine D_l (v := v) rfl rfl rfl (r_mv rfl) ?_
  refine D_l (v := (.i .i64 (((a : Nat)) : Int))) rfl rfl rfl (r_mv rfl) ?_
  refine D_l (v := v) rfl rfl rfl (r_mv rfl) ?_
  refine D_l (v := (.i .i64 (((pivot : Nat)) : Int))) rfl rfl rfl (r_mv rfl) ?_
  refine D_l (v := v) rfl rfl rfl (r_mv rfl) ?_
  refine D_l (v := (.i .i64 (((pivot : Nat)) : Int))) rfl rfl rfl (r_mv rfl) ?_
  refine D_q rfl rfl rfl (by exact Sq.cell hd (u_lens d) hH5.top0 rfl (i := pivot) rfl (r := [(.i .u32 (d[pivot]!))]) (u_get (d := d) (i := pivot) (by omega)) (by decide)) fun v7 hv6 => ?_
  obtain ⟨rb8, ro9, rfl, hrg10, hrt11, hrb12, hput13, hqs14⟩ := hv6
  refine D_l (v := v) rfl rfl rfl (r_mv rfl) ?_
  refine D_l (v := (.i .i64 (((a : Nat)) : Int))) rfl rfl rfl (r_mv rfl) ?_
  refine D_q rfl rfl rfl (by exact Sq.cell hd (u_lens d) hH5.top0 rfl (i := a) rfl (r := [(.i .u32 (d[a]!))]) (u_get (d := d) (i := a) (by omega)) (by decide)) fun v16 hv15 => ?_
  obtain ⟨rb17, ro18, rfl, hrg19, hrt20, hrb21, hput22, hqs23⟩ := hv15
  refine D_r (v := (.i .u32 (d[pivot]!))) rfl rfl rfl (r_ldR (q := 0) rfl ⟨_, _, hrg10, hrt11⟩ rfl) ?_
  refine D_r (v := (.i .u32 (d[a]!))) rfl rfl rfl (r_ldR (q := 0) rfl ⟨_, _, hrg19, hrt20⟩ rfl) ?_
  refine D_q rfl rfl rfl (by exact Sq.cell hd (u_lens d) hH5.top0 rfl (i := a) rfl (r := [(.i .u32 (d[a]!))]) (u_get (d := d) (i := a) (by omega)) (by decide)) fun v25 hv24 => ?_
  obtain ⟨rb26, ro27, rfl, hrg28, hrt29, hrb30, hput31, hqs32⟩ := hv24
  refine D_store (vs := [(.i .u32 (d[pivot]!))]) (c' := (putAt c (ro27 + 0) [(.i .u32 (d[pivot]!))])) rfl (by rfl) hrg28 rfl (List.cons_ne_nil _ _) (by have := hrb30; show _ + 1 ≤ _; omega) rfl fun H33 hW34 => ?_
  have hH36 := Hs.cong0 (Hs.wr0 (Hs.cong0 hH5 (hqs32 _)) hW34) (hqs32 _).symm
  have hSq35 := hput31 0 [(.i .u32 (d[pivot]!))] [(.i .u32 (d[pivot]!))] (Nat.le_of_ble_eq_true rfl) rfl
  obtain ⟨dd37, he38⟩ : ∃ z : Array Int, z = d.setIfInBounds a (d[pivot]!) := ⟨_, rfl⟩
  have hs40 : Sq 1 v (putAt c (ro27 + 0) [(.i .u32 (d[pivot]!))]) (dU dd37).flatten := by rw [he38, ← u_set]; exact hSq35
  have hn39 : dd37.size = n := by rw [he38, Array.size_setIfInBounds]; exact hn
  refine And.intro (And.intro (Or.inl rfl) (And.intro (Or.inl rfl) True.intro)) ?_
  refine D_q rfl rfl rfl (by exact Sq.cell hs40 (u_lens dd37) hH36.top0 rfl (i := pivot) rfl (r := [(.i .u32 (dd37[pivot]!))]) (u_get (d := dd37) (i := pivot) (by omega)) (by decide)) fun v42 hv41 => ?_
  obtain ⟨rb43, ro44, rfl, hrg45, hrt46, hrb47, hput48, hqs49⟩ := hv41
  refine D_store (vs := [(.i .u32 (d[a]!))]) (c' := (putAt (putAt c (ro27 + 0) [(.i .u32 (d[pivot]!))]) (ro44 + 0) [(.i .u32 (d[a]!))])) rfl (by rfl) hrg45 rfl (List.cons_ne_nil _ _) (by have := hrb47; show _ + 1 ≤ _; omega) rfl fun H50 hW51 => ?_
  have hH53 := Hs.cong0 (Hs.wr0 (Hs.cong0 hH36 (hqs49 _)) hW51) (hqs49 _).symm
  have hSq52 := hput48 0 [(.i .u32 (d[a]!))] [(.i .u32 (d[a]!))] (Nat.le_of_ble_eq_true rfl) rfl
  obtain ⟨dd54, he55⟩ : ∃ z : Array Int, z = dd37.setIfInBounds pivot (d[a]!) := ⟨_, rfl⟩
  have hs57 : Sq 1 v (putAt (putAt c (ro27 + 0) [(.i .u32 (d[pivot]!))]) (ro44 + 0) [(.i .u32 (d[a]!))]) (dU dd54).flatten := by rw [he55, ← u_set]; exact hSq52
  have hn56 : dd54.size = n := by rw [he55, Array.size_setIfInBounds]; exact hn39
  refine And.intro True.intro ?_
  refine D_nil ?_
  refine C_seq ?_
  refine C_region ?_
  refine O_p (.i .i64 (((a : Nat)) : Int)) (r_mv rfl) ?_
  refine O_p (.i .i64 ((((a : Nat)) : Int) + 1)) (by exact (r_addi rfl rfl (wrap_i64 (by omega) (by omega)))) ?_
  refine O_p (.i .i64 (((b : Nat)) : Int)) (r_mv rfl) ?_
  refine O_p (.i .i64 ((((b - 1) : Nat)) : Int)) (by exact (r_subn (a := b) (b := 1) rfl rfl (by omega) (by omega))) ?_
  refine O_p (.i .i64 ((((a : Nat)) : Int) + 1)) (r_mv rfl) ?_
  refine O_p (.i .i64 ((((b - 1) : Nat)) : Int)) (r_mv rfl) ?_
  refine O_nil ?_
  refine C_seq ?_
  refine C_block ?_
  have hD : dd54 = swp d a pivot := by rw [he55, he38]; rfl
  refine C_while (fun m58 T59 H60 => ∃ d1 : Array Int, ∃ c1 : List AV, ∃ i : Nat, ∃ j : Nat, m58 = j + 2 - i ∧ Sq 1 v c1 (dU d1).flatten ∧ d1.size = n ∧ partEqLoop ltInt a i j d1 = partEqLoop ltInt a (a + 1) (b - 1) dd54 ∧ a + 1 ≤ i ∧ i ≤ j + 2 ∧ j < b ∧ Hs H60 ((qseg v c1) ++ (R)) ∧ T59.get 0 = v ∧ T59.get 1 = (.i .i64 (((a : Nat)) : Int)) ∧ T59.get 9 = (.i .i64 (((i : Nat)) : Int)) ∧ T59.get 10 = (.i .i64 (((j : Nat)) : Int))) (fun m58 T59 H60 hI61 => ?_) (b - 1 + 2 - (a + 1)) _ _ ⟨dd54, (putAt (putAt c (ro27 + 0) [(.i .u32 (d[pivot]!))]) (ro44 + 0) [(.i .u32 (d[a]!))]), (a + 1), (b - 1), rfl, hs57, hn56, rfl, by omega, by omega, by omega, hH53, rfl, rfl, rfl, rfl⟩
  obtain ⟨d1, c1, i, j, hm62, hp63, hp64, hp65, hp66, hp67, hp68, hH73, hT69, hT70, hT71, hT72⟩ := hI61
  refine C_block ?_
  refine C_cut (fun T74 H75 => ∃ i2x : Nat, scanUp (fun x => !ltInt d1[a]! x) d1 j i = i2x ∧ i ≤ i2x ∧ i2x ≤ j + 2 ∧ Hs H75 ((qseg v c1) ++ (R)) ∧ T74.get 0 = v ∧ T74.get 1 = (.i .i64 (((a : Nat)) : Int)) ∧ T74.get 9 = (.i .i64 (((i2x : Nat)) : Int)) ∧ T74.get 10 = (.i .i64 (((j : Nat)) : Int))) ?_ (fun T74 H75 hI76 => ?_)
  ·
    refine C_block ?_
    refine C_while (fun m77 T78 H79 => ∃ i2 : Nat, m77 = j + 2 - i2 ∧ scanUp (fun x => !ltInt d1[a]! x) d1 j i2 = scanUp (fun x => !ltInt d1[a]! x) d1 j i ∧ i ≤ i2 ∧ i2 ≤ j + 2 ∧ Hs H79 ((qseg v c1) ++ (R)) ∧ T78.get 0 = v ∧ T78.get 1 = (.i .i64 (((a : Nat)) : Int)) ∧ T78.get 9 = (.i .i64 (((i2 : Nat)) : Int)) ∧ T78.get 10 = (.i .i64 (((j : Nat)) : Int))) (fun m77 T78 H79 hI80 => ?_) (j + 2 - i) _ _ ⟨i, rfl, rfl, by omega, by omega, hH73, hT69, hT70, hT71, hT72⟩
    obtain ⟨i2, hm81, hp82, hp83, hp84, hH89, hT85, hT86, hT87, hT88⟩ := hI80
    refine C_seq ?_
    refine C_seq ?_
    by_cases hij : i2 ≤ j
    ·
      refine C_draw fun b90 H91 hbase92 hA93 => ?_
      have hH94 := hH89.keep (by have := hA93.1; omega) (fun q _ => hA93.2 q) ((hH89.old).aside hA93).ok
      refine D_l (v := (.i .i64 (((i2 : Nat)) : Int))) rfl rfl rfl (r_mv hT87) ?_
      refine D_l (v := (.i .i64 (((j : Nat)) : Int))) rfl rfl rfl (r_mv hT88) ?_
      refine D_l (v := (.b true)) rfl rfl rfl (by exact (by rw [r_leq rfl rfl, decide_eq_true (by omega)])) ?_
      refine D_l (v := (.b true)) rfl rfl rfl (r_mv rfl) ?_
      refine D_gk rfl ?_
      refine D_l (v := v) rfl rfl rfl (r_mv hT85) ?_
      refine D_gk rfl ?_
      refine D_l (v := (.i .i64 (((a : Nat)) : Int))) rfl rfl rfl (r_mv hT86) ?_
      refine D_gk rfl ?_
      refine D_q rfl rfl rfl (by exact Sq.cell hp63 (u_lens d1) hH94.top0 rfl (i := a) rfl (r := [(.i .u32 (d1[a]!))]) (u_get (d := d1) (i := a) (by omega)) (by decide)) fun v96 hv95 => ?_
      obtain ⟨rb97, ro98, rfl, hrg99, hrt100, hrb101, hput102, hqs103⟩ := hv95
      refine D_gk rfl ?_
      refine D_l (v := v) rfl rfl rfl (r_mv hT85) ?_
      refine D_gk rfl ?_
      refine D_l (v := (.i .i64 (((i2 : Nat)) : Int))) rfl rfl rfl (r_mv hT87) ?_
      refine D_gk rfl ?_
      refine D_q rfl rfl rfl (by exact Sq.cell hp63 (u_lens d1) hH94.top0 rfl (i := i2) rfl (r := [(.i .u32 (d1[i2]!))]) (u_get (d := d1) (i := i2) (by omega)) (by decide)) fun v105 hv104 => ?_
      obtain ⟨rb106, ro107, rfl, hrg108, hrt109, hrb110, hput111, hqs112⟩ := hv104
      refine D_gk rfl ?_
      refine D_r (v := (.i .u32 (d1[a]!))) rfl rfl rfl (r_ldR (q := 0) rfl ⟨_, _, hrg99, hrt100⟩ rfl) ?_
      refine D_gk rfl ?_
      refine D_r (v := (.i .u32 (d1[i2]!))) rfl rfl rfl (r_ldR (q := 0) rfl ⟨_, _, hrg108, hrt109⟩ rfl) ?_
      refine D_gk rfl ?_
      refine D_call (Ev.mono (less_ev (x := (d1[a]!)) (y := (d1[i2]!)) hH94) fun v113 H114 hq115 => ?_)
      obtain ⟨rfl, hH116⟩ := hq115
      refine And.intro (And.intro (Or.inl rfl) (And.intro (Or.inl rfl) True.intro)) ?_
      refine D_gk rfl ?_
      refine D_l (v := (.b (!(decide ((d1[a]!) < (d1[i2]!)))))) rfl rfl rfl (r_not rfl) ?_
      refine D_l (v := (.b (!(decide ((d1[a]!) < (d1[i2]!)))))) rfl rfl rfl (r_pick_t rfl rfl) ?_
      refine D_nil ?_
      refine C_cond (x := (!(decide ((d1[a]!) < (d1[i2]!))))) rfl (fun hc117 => ?_) (fun hc117 => ?_)
      ·
        have hraw118 := hc117
        try simp only [decide_eq_true_eq, decide_eq_false_iff_not, Bool.not_eq_true', Bool.not_eq_false', Bool.and_eq_true, Bool.or_eq_true, Bool.or_eq_false_iff, Bool.not_not, Bool.and_eq_false_iff] at hc117
        have hgo : i2 ≤ j ∧ (fun x => !ltInt d1[a]! x) d1[i2]! = true := ⟨hij, hraw118⟩
        refine C_skip ?_
        refine C_block ?_
        refine C_region ?_
        refine O_p (.i .i64 (((i2 : Nat)) : Int)) (r_mv hT87) ?_
        refine O_p (.i .i64 ((((i2 : Nat)) : Int) + 1)) (by exact (r_addi rfl rfl (wrap_i64 (by omega) (by omega)))) ?_
        refine O_p (.i .i64 ((((i2 : Nat)) : Int) + 1)) (r_mv rfl) ?_
        refine O_nil ?_
        exact ⟨(j + 2 - (i2 + 1)), by omega, (i2 + 1), rfl, by rw [← hp82]; exact (scanUp_go hgo).symm, by omega, by omega, hH116, hT85, hT86, rfl, hT88⟩
      ·
        have hraw119 := hc117
        try simp only [decide_eq_true_eq, decide_eq_false_iff_not, Bool.not_eq_true', Bool.not_eq_false', Bool.and_eq_true, Bool.or_eq_true, Bool.or_eq_false_iff, Bool.not_not, Bool.and_eq_false_iff] at hc117
        have hst : ¬ (i2 ≤ j ∧ (fun x => !ltInt d1[a]! x) d1[i2]! = true) := fun h9 => nomatch h9.2.symm.trans hraw119
        refine C_exit ?_
        refine nx_exit ?_
        refine nx_exit ?_
        refine bk_hit ?_
        exact ⟨rfl, i2, by rw [← hp82]; exact scanUp_stop hst, by omega, by omega, hH116, hT85, hT86, hT87, hT88⟩
    ·
      have hst : ¬ (i2 ≤ j ∧ (fun x => !ltInt d1[a]! x) d1[i2]! = true) := fun h9 => hij h9.1
      refine C_draw fun b120 H121 hbase122 hA123 => ?_
      have hH124 := hH89.keep (by have := hA123.1; omega) (fun q _ => hA123.2 q) ((hH89.old).aside hA123).ok
      refine D_l (v := (.i .i64 (((i2 : Nat)) : Int))) rfl rfl rfl (r_mv hT87) ?_
      refine D_l (v := (.i .i64 (((j : Nat)) : Int))) rfl rfl rfl (r_mv hT88) ?_
      refine D_l (v := (.b false)) rfl rfl rfl (by exact (by rw [r_leq rfl rfl, decide_eq_false (by omega)])) ?_
      refine D_l (v := (.b false)) rfl rfl rfl (r_mv rfl) ?_
      refine D_gf rfl ?_
      refine D_gf rfl ?_
      refine D_gf rfl ?_
      refine D_gf rfl ?_
      refine D_gf rfl ?_
      refine D_gf rfl ?_
      refine D_gf rfl ?_
      refine D_gf rfl ?_
      refine D_gf rfl ?_
      refine D_gf rfl ?_
      refine D_l (v := (.b false)) rfl rfl rfl (r_pick_f rfl rfl) ?_
      refine D_nil ?_
      refine C_cond (x := false) rfl (fun h => by cases h) (fun _ => ?_)
      refine C_exit ?_
      refine nx_exit ?_
      refine nx_exit ?_
      refine bk_hit ?_
      exact ⟨rfl, i2, by rw [← hp82]; exact scanUp_stop hst, by omega, by omega, hH124, hT85, hT86, hT87, hT88⟩
  ·
    obtain ⟨i2x, hp125, hp126, hp127, hH132, hT128, hT129, hT130, hT131⟩ := hI76
    refine C_cut (fun T133 H134 => ∃ j2x : Nat, scanDown (fun x => ltInt d1[a]! x) d1 i2x j = j2x ∧ j2x ≤ j ∧ i2x ≤ j2x + 2 ∧ Hs H134 ((qseg v c1) ++ (R)) ∧ T133.get 0 = v ∧ T133.get 1 = (.i .i64 (((a : Nat)) : Int)) ∧ T133.get 9 = (.i .i64 (((i2x : Nat)) : Int)) ∧ T133.get 10 = (.i .i64 (((j2x : Nat)) : Int))) ?_ (fun T133 H134 hI135 => ?_)
    ·
      refine C_block ?_
      refine C_while (fun m136 T137 H138 => ∃ j2 : Nat, m136 = j2 ∧ scanDown (fun x => ltInt d1[a]! x) d1 i2x j2 = scanDown (fun x => ltInt d1[a]! x) d1 i2x j ∧ j2 ≤ j ∧ i2x ≤ j2 + 2 ∧ Hs H138 ((qseg v c1) ++ (R)) ∧ T137.get 0 = v ∧ T137.get 1 = (.i .i64 (((a : Nat)) : Int)) ∧ T137.get 9 = (.i .i64 (((i2x : Nat)) : Int)) ∧ T137.get 10 = (.i .i64 (((j2 : Nat)) : Int))) (fun m136 T137 H138 hI139 => ?_) j _ _ ⟨j, rfl, rfl, by omega, by omega, hH132, hT128, hT129, hT130, hT131⟩
      obtain ⟨j2, hm140, hp141, hp142, hp143, hH148, hT144, hT145, hT146, hT147⟩ := hI139
      refine C_seq ?_
      refine C_seq ?_
      by_cases hij : i2x ≤ j2
      ·
        refine C_draw fun b149 H150 hbase151 hA152 => ?_
        have hH153 := hH148.keep (by have := hA152.1; omega) (fun q _ => hA152.2 q) ((hH148.old).aside hA152).ok
        refine D_l (v := (.i .i64 (((i2x : Nat)) : Int))) rfl rfl rfl (r_mv hT146) ?_
        refine D_l (v := (.i .i64 (((j2 : Nat)) : Int))) rfl rfl rfl (r_mv hT147) ?_
        refine D_l (v := (.b true)) rfl rfl rfl (by exact (by rw [r_leq rfl rfl, decide_eq_true (by omega)])) ?_
        refine D_l (v := (.b true)) rfl rfl rfl (r_mv rfl) ?_
        refine D_gk rfl ?_
        refine D_l (v := v) rfl rfl rfl (r_mv hT144) ?_
        refine D_gk rfl ?_
        refine D_l (v := (.i .i64 (((a : Nat)) : Int))) rfl rfl rfl (r_mv hT145) ?_
        refine D_gk rfl ?_
        refine D_q rfl rfl rfl (by exact Sq.cell hp63 (u_lens d1) hH153.top0 rfl (i := a) rfl (r := [(.i .u32 (d1[a]!))]) (u_get (d := d1) (i := a) (by omega)) (by decide)) fun v155 hv154 => ?_
        obtain ⟨rb156, ro157, rfl, hrg158, hrt159, hrb160, hput161, hqs162⟩ := hv154
        refine D_gk rfl ?_
        refine D_l (v := v) rfl rfl rfl (r_mv hT144) ?_
        refine D_gk rfl ?_
        refine D_l (v := (.i .i64 (((j2 : Nat)) : Int))) rfl rfl rfl (r_mv hT147) ?_
        refine D_gk rfl ?_
        refine D_q rfl rfl rfl (by exact Sq.cell hp63 (u_lens d1) hH153.top0 rfl (i := j2) rfl (r := [(.i .u32 (d1[j2]!))]) (u_get (d := d1) (i := j2) (by omega)) (by decide)) fun v164 hv163 => ?_
        obtain ⟨rb165, ro166, rfl, hrg167, hrt168, hrb169, hput170, hqs171⟩ := hv163
        refine D_gk rfl ?_
        refine D_r (v := (.i .u32 (d1[a]!))) rfl rfl rfl (r_ldR (q := 0) rfl ⟨_, _, hrg158, hrt159⟩ rfl) ?_
        refine D_gk rfl ?_
        refine D_r (v := (.i .u32 (d1[j2]!))) rfl rfl rfl (r_ldR (q := 0) rfl ⟨_, _, hrg167, hrt168⟩ rfl) ?_
        refine D_gk rfl ?_
        refine D_call (Ev.mono (less_ev (x := (d1[a]!)) (y := (d1[j2]!)) hH153) fun v172 H173 hq174 => ?_)
        obtain ⟨rfl, hH175⟩ := hq174
        refine And.intro (And.intro (Or.inl rfl) (And.intro (Or.inl rfl) True.intro)) ?_
        refine D_l (v := (.b (decide ((d1[a]!) < (d1[j2]!))))) rfl rfl rfl (r_pick_t rfl rfl) ?_
        refine D_nil ?_
        refine C_cond (x := (decide ((d1[a]!) < (d1[j2]!)))) rfl (fun hc176 => ?_) (fun hc176 => ?_)
        ·
          have hraw177 := hc176
          try simp only [decide_eq_true_eq, decide_eq_false_iff_not, Bool.not_eq_true', Bool.not_eq_false', Bool.and_eq_true, Bool.or_eq_true, Bool.or_eq_false_iff, Bool.not_not, Bool.and_eq_false_iff] at hc176
          have hgo : i2x ≤ j2 ∧ (fun x => ltInt d1[a]! x) d1[j2]! = true := ⟨hij, hraw177⟩
          refine C_skip ?_
          refine C_block ?_
          refine C_region ?_
          refine O_p (.i .i64 (((j2 : Nat)) : Int)) (r_mv hT147) ?_
          refine O_p (.i .i64 ((((j2 - 1) : Nat)) : Int)) (by exact (r_subn (a := j2) (b := 1) rfl rfl (by omega) (by omega))) ?_
          refine O_p (.i .i64 ((((j2 - 1) : Nat)) : Int)) (r_mv rfl) ?_
          refine O_nil ?_
          exact ⟨(j2 - 1), by omega, (j2 - 1), rfl, by rw [← hp141]; exact (scanDown_go hgo (by omega)).symm, by omega, by omega, hH175, hT144, hT145, hT146, rfl⟩
        ·
          have hraw178 := hc176
          try simp only [decide_eq_true_eq, decide_eq_false_iff_not, Bool.not_eq_true', Bool.not_eq_false', Bool.and_eq_true, Bool.or_eq_true, Bool.or_eq_false_iff, Bool.not_not, Bool.and_eq_false_iff] at hc176
          have hst : ¬ (i2x ≤ j2 ∧ (fun x => ltInt d1[a]! x) d1[j2]! = true) := fun h9 => nomatch h9.2.symm.trans hraw178
          refine C_exit ?_
          refine nx_exit ?_
          refine nx_exit ?_
          refine bk_hit ?_
          exact ⟨rfl, j2, by rw [← hp141]; exact scanDown_stop hst, by omega, by omega, hH175, hT144, hT145, hT146, hT147⟩
      ·
        have hst : ¬ (i2x ≤ j2 ∧ (fun x => ltInt d1[a]! x) d1[j2]! = true) := fun h9 => hij h9.1
        refine C_draw fun b179 H180 hbase181 hA182 => ?_
        have hH183 := hH148.keep (by have := hA182.1; omega) (fun q _ => hA182.2 q) ((hH148.old).aside hA182).ok
        refine D_l (v := (.i .i64 (((i2x : Nat)) : Int))) rfl rfl rfl (r_mv hT146) ?_
        refine D_l (v := (.i .i64 (((j2 : Nat)) : Int))) rfl rfl rfl (r_mv hT147) ?_
        refine D_l (v := (.b false)) rfl rfl rfl (by exact (by rw [r_leq rfl rfl, decide_eq_false (by omega)])) ?_
        refine D_l (v := (.b false)) rfl rfl rfl (r_mv rfl) ?_
        refine D_gf rfl ?_
        refine D_gf rfl ?_
        refine D_gf rfl ?_
        refine D_gf rfl ?_
        refine D_gf rfl ?_
        refine D_gf rfl ?_
        refine D_gf rfl ?_
        refine D_gf rfl ?_
        refine D_gf rfl ?_
        refine D_l (v := (.b false)) rfl rfl rfl (r_pick_f rfl rfl) ?_
        refine D_nil ?_
        refine C_cond (x := false) rfl (fun h => by cases h) (fun _ => ?_)
        refine C_exit ?_
        refine nx_exit ?_
        refine nx_exit ?_
        refine bk_hit ?_
        exact ⟨rfl, j2, by rw [← hp141]; exact scanDown_stop hst, by omega, by omega, hH183, hT144, hT145, hT146, hT147⟩
    ·
      obtain ⟨j2x, hp184, hp185, hp186, hH191, hT187, hT188, hT189, hT190⟩ := hI135
      refine C_seq ?_
      refine C_seq ?_
      refine C_region ?_
      refine O_p (.i .i64 (((i2x : Nat)) : Int)) (r_mv hT189) ?_
      refine O_p (.i .i64 (((j2x : Nat)) : Int)) (r_mv hT190) ?_
      refine O_p (.b (decide ((((j2x : Nat)) : Int) < (((i2x : Nat)) : Int)))) (r_gtr rfl rfl) ?_
      refine O_nil ?_
      refine C_cond (x := (decide ((((j2x : Nat)) : Int) < (((i2x : Nat)) : Int)))) rfl (fun hc192 => ?_) (fun hc192 => ?_)
      ·
        have hraw193 := hc192
        try simp only [decide_eq_true_eq, decide_eq_false_iff_not, Bool.not_eq_true', Bool.not_eq_false', Bool.and_eq_true, Bool.or_eq_true, Bool.or_eq_false_iff, Bool.not_not, Bool.and_eq_false_iff] at hc192
        refine C_exit ?_
        refine nx_exit ?_
        refine bk_miss (by decide) ?_
        refine nx_exit ?_
        refine bk_hit ?_
        refine C_seq ?_
        refine C_region ?_
        refine O_p (.i .i64 (((i2x : Nat)) : Int)) (r_mv hT189) ?_
        refine O_p (.i .i64 (((i2x : Nat)) : Int)) (r_mv rfl) ?_
        refine O_nil ?_
        refine C_ret ?_
        have hfin : partEqLoop ltInt a (a + 1) (b - 1) dd54 = (i2x, d1) := by rw [← hp65, Go.Sort.partEqLoop_eq ltInt a i j d1, hp125, hp184, if_pos (show i2x > j2x by omega)]
        exact ⟨.inr rfl, _, resL_one (r_tmp (v := (.i .i64 (((i2x : Nat)) : Int))) rfl), i2x, d1, c1, rfl, by unfold partitionEqual; rw [← hD, hfin], by unfold partitionEqual; rw [← hD, hfin], hp64, hp63, hH191⟩
      ·
        have hraw194 := hc192
        try simp only [decide_eq_true_eq, decide_eq_false_iff_not, Bool.not_eq_true', Bool.not_eq_false', Bool.and_eq_true, Bool.or_eq_true, Bool.or_eq_false_iff, Bool.not_not, Bool.and_eq_false_iff] at hc192
        refine C_skip ?_
        refine C_seq ?_
        refine C_draw fun b195 H196 hbase197 hA198 => ?_
        have hH199 := hH191.keep (by have := hA198.1; omega) (fun q _ => hA198.2 q) ((hH191.old).aside hA198).ok
        refine D_l (v := v) rfl rfl rfl (r_mv hT187) ?_
        refine D_l (v := (.i .i64 (((i2x : Nat)) : Int))) rfl rfl rfl (r_mv hT189) ?_
        refine D_l (v := v) rfl rfl rfl (r_mv hT187) ?_
        refine D_l (v := (.i .i64 (((j2x : Nat)) : Int))) rfl rfl rfl (r_mv hT190) ?_
        refine D_l (v := v) rfl rfl rfl (r_mv hT187) ?_
        refine D_l (v := (.i .i64 (((j2x : Nat)) : Int))) rfl rfl rfl (r_mv hT190) ?_
        refine D_q rfl rfl rfl (by exact Sq.cell hp63 (u_lens d1) hH199.top0 rfl (i := j2x) rfl (r := [(.i .u32 (d1[j2x]!))]) (u_get (d := d1) (i := j2x) (by omega)) (by decide)) fun v201 hv200 => ?_
        obtain ⟨rb202, ro203, rfl, hrg204, hrt205, hrb206, hput207, hqs208⟩ := hv200
        refine D_l (v := v) rfl rfl rfl (r_mv hT187) ?_
        refine D_l (v := (.i .i64 (((i2x : Nat)) : Int))) rfl rfl rfl (r_mv hT189) ?_
        refine D_q rfl rfl rfl (by exact Sq.cell hp63 (u_lens d1) hH199.top0 rfl (i := i2x) rfl (r := [(.i .u32 (d1[i2x]!))]) (u_get (d := d1) (i := i2x) (by omega)) (by decide)) fun v210 hv209 => ?_
        obtain ⟨rb211, ro212, rfl, hrg213, hrt214, hrb215, hput216, hqs217⟩ := hv209
        refine D_r (v := (.i .u32 (d1[j2x]!))) rfl rfl rfl (r_ldR (q := 0) rfl ⟨_, _, hrg204, hrt205⟩ rfl) ?_
        refine D_r (v := (.i .u32 (d1[i2x]!))) rfl rfl rfl (r_ldR (q := 0) rfl ⟨_, _, hrg213, hrt214⟩ rfl) ?_
        refine D_q rfl rfl rfl (by exact Sq.cell hp63 (u_lens d1) hH199.top0 rfl (i := i2x) rfl (r := [(.i .u32 (d1[i2x]!))]) (u_get (d := d1) (i := i2x) (by omega)) (by decide)) fun v219 hv218 => ?_
        obtain ⟨rb220, ro221, rfl, hrg222, hrt223, hrb224, hput225, hqs226⟩ := hv218
        refine D_store (vs := [(.i .u32 (d1[j2x]!))]) (c' := (putAt c1 (ro221 + 0) [(.i .u32 (d1[j2x]!))])) rfl (by rfl) hrg222 rfl (List.cons_ne_nil _ _) (by have := hrb224; show _ + 1 ≤ _; omega) rfl fun H227 hW228 => ?_
        have hH230 := Hs.cong0 (Hs.wr0 (Hs.cong0 hH199 (hqs226 _)) hW228) (hqs226 _).symm
        have hSq229 := hput225 0 [(.i .u32 (d1[j2x]!))] [(.i .u32 (d1[j2x]!))] (Nat.le_of_ble_eq_true rfl) rfl
        obtain ⟨dd231, he232⟩ : ∃ z : Array Int, z = d1.setIfInBounds i2x (d1[j2x]!) := ⟨_, rfl⟩
        have hs234 : Sq 1 v (putAt c1 (ro221 + 0) [(.i .u32 (d1[j2x]!))]) (dU dd231).flatten := by rw [he232, ← u_set]; exact hSq229
        have hn233 : dd231.size = n := by rw [he232, Array.size_setIfInBounds]; exact hp64
        refine And.intro (And.intro (Or.inl rfl) (And.intro (Or.inl rfl) True.intro)) ?_
        refine D_q rfl rfl rfl (by exact Sq.cell hs234 (u_lens dd231) hH230.top0 rfl (i := j2x) rfl (r := [(.i .u32 (dd231[j2x]!))]) (u_get (d := dd231) (i := j2x) (by omega)) (by decide)) fun v236 hv235 => ?_
        obtain ⟨rb237, ro238, rfl, hrg239, hrt240, hrb241, hput242, hqs243⟩ := hv235
        refine D_store (vs := [(.i .u32 (d1[i2x]!))]) (c' := (putAt (putAt c1 (ro221 + 0) [(.i .u32 (d1[j2x]!))]) (ro238 + 0) [(.i .u32 (d1[i2x]!))])) rfl (by rfl) hrg239 rfl (List.cons_ne_nil _ _) (by have := hrb241; show _ + 1 ≤ _; omega) rfl fun H244 hW245 => ?_
        have hH247 := Hs.cong0 (Hs.wr0 (Hs.cong0 hH230 (hqs243 _)) hW245) (hqs243 _).symm
        have hSq246 := hput242 0 [(.i .u32 (d1[i2x]!))] [(.i .u32 (d1[i2x]!))] (Nat.le_of_ble_eq_true rfl) rfl
        obtain ⟨dd248, he249⟩ : ∃ z : Array Int, z = dd231.setIfInBounds j2x (d1[i2x]!) := ⟨_, rfl⟩
        have hs251 : Sq 1 v (putAt (putAt c1 (ro221 + 0) [(.i .u32 (d1[j2x]!))]) (ro238 + 0) [(.i .u32 (d1[i2x]!))]) (dU dd248).flatten := by rw [he249, ← u_set]; exact hSq246
        have hn250 : dd248.size = n := by rw [he249, Array.size_setIfInBounds]; exact hn233
        refine And.intro True.intro ?_
        refine D_nil ?_
        refine C_seq ?_
        refine C_region ?_
        refine O_p (.i .i64 (((i2x : Nat)) : Int)) (r_mv hT189) ?_
        refine O_p (.i .i64 ((((i2x : Nat)) : Int) + 1)) (by exact (r_addi rfl rfl (wrap_i64 (by omega) (by omega)))) ?_
        refine O_p (.i .i64 ((((i2x : Nat)) : Int) + 1)) (r_mv rfl) ?_
        refine O_nil ?_
        refine C_region ?_
        refine O_p (.i .i64 (((j2x : Nat)) : Int)) (r_mv hT190) ?_
        refine O_p (.i .i64 ((((j2x - 1) : Nat)) : Int)) (by exact (r_subn (a := j2x) (b := 1) rfl rfl (by omega) (by omega))) ?_
        refine O_p (.i .i64 ((((j2x - 1) : Nat)) : Int)) (r_mv rfl) ?_
        refine O_nil ?_
        exact ⟨(j2x - 1 + 2 - (i2x + 1)), by omega, dd248, (putAt (putAt c1 (ro221 + 0) [(.i .u32 (d1[j2x]!))]) (ro238 + 0) [(.i .u32 (d1[i2x]!))]), (i2x + 1), (j2x - 1), rfl, hs251, hn250, by rw [he249, he232]; refine Eq.trans ?_ hp65; rw [Go.Sort.partEqLoop_eq ltInt a i j d1, hp125, hp184, if_neg (show ¬ i2x > j2x by omega)]; rfl, by omega, by omega, by omega, hH247, hT187, hT188, rfl, rfl⟩
set_option maxHeartbeats 2000000 in
theorem part_ev {H : AH} {R : HL} {v : AV} {c : List AV} {d : Array Int} {n : Nat} {a b pivot : Nat} (hd : Sq 1 v c (dU d).flatten) (hn : d.size = n) (hl : n ≤ 1000000) (ha : a < b) (hb : b ≤ n) (hp : pivot < n) (hH0 : Hs H (qseg v c ++ R)) : Ev tabS spS (.fn (.func 48) [] []) [v, .i .i64 ((a : Nat) : Int), .i .i64 ((b : Nat) : Int), .i .i64 ((pivot : Nat) : Int)] H (fun r H' => ∃ (m : Nat) (bl : Bool) (d' : Array Int) (c' : List AV), r = .tup [.i .i64 ((m : Nat) : Int), .b bl] ∧ (partition ltInt d a b pivot).1 = m ∧ (partition ltInt d a b pivot).2.2 = d' ∧ d'.size = n ∧ Sq 1 v c' (dU d').flatten ∧ Hs H' (qseg v c' ++ R)) := by
  refine Ev_C (F := x48) rfl ?_
  refine C_seq ?_
  refine C_region ?_
  refine O_p (.i .i64 0) (r_mv rfl) ?_
  refine O_p (.b false) (r_mv rfl) ?_
  refine O_nil ?_
  refine C_seq ?_
  refine C_draw fun b1 H2 hbase3 hA4 => ?_
  have hH5 := hH0.keep (by have := hA4.1; omega) (fun q _ => hA4.2 q) ((hH0.old).aside hA4).ok
  refine D_l (v := v) rfl rfl rfl (r_mv rfl) ?_
  refine D_l (v := (.i .i64 (((a : Nat)) : Int))) rfl rfl rfl (r_mv rfl) ?_
  refine D_l (v := v) rfl rfl rfl (r_mv rfl) ?_
  refine D_l (v := (.i .i64 (((pivot : Nat)) : Int))) rfl rfl rfl (r_mv rfl) ?_
  refine D_l (v := v) rfl rfl rfl (r_mv rfl) ?_
  refine D_l (v := (.i .i64 (((pivot : Nat)) : Int))) rfl rfl rfl (r_mv rfl) ?_
  refine D_q rfl rfl rfl (by exact Sq.cell hd (u_lens d) hH5.top0 rfl (i := pivot) rfl (r := [(.i .u32 (d[pivot]!))]) (u_get (d := d) (i := pivot) (by omega)) (by decide)) fun v7 hv6 => ?_
  obtain ⟨rb8, ro9, rfl, hrg10, hrt11, hrb12, hput13, hqs14⟩ := hv6
  refine D_l (v := v) rfl rfl rfl (r_mv rfl) ?_
  refine D_l (v := (.i .i64 (((a : Nat)) : Int))) rfl rfl rfl (r_mv rfl) ?_
  refine D_q rfl rfl rfl (by exact Sq.cell hd (u_lens d) hH5.top0 rfl (i := a) rfl (r := [(.i .u32 (d[a]!))]) (u_get (d := d) (i := a) (by omega)) (by decide)) fun v16 hv15 => ?_
  obtain ⟨rb17, ro18, rfl, hrg19, hrt20, hrb21, hput22, hqs23⟩ := hv15
  refine D_r (v := (.i .u32 (d[pivot]!))) rfl rfl rfl (r_ldR (q := 0) rfl ⟨_, _, hrg10, hrt11⟩ rfl) ?_
  refine D_r (v := (.i .u32 (d[a]!))) rfl rfl rfl (r_ldR (q := 0) rfl ⟨_, _, hrg19, hrt20⟩ rfl) ?_
  refine D_q rfl rfl rfl (by exact Sq.cell hd (u_lens d) hH5.top0 rfl (i := a) rfl (r := [(.i .u32 (d[a]!))]) (u_get (d := d) (i := a) (by omega)) (by decide)) fun v25 hv24 => ?_
  obtain ⟨rb26, ro27, rfl, hrg28, hrt29, hrb30, hput31, hqs32⟩ := hv24
  refine D_store (vs := [(.i .u32 (d[pivot]!))]) (c' := (putAt c (ro27 + 0) [(.i .u32 (d[pivot]!))])) rfl (by rfl) hrg28 rfl (List.cons_ne_nil _ _) (by have := hrb30; show _ + 1 ≤ _; omega) rfl fun H33 hW34 => ?_
  have hH36 := Hs.cong0 (Hs.wr0 (Hs.cong0 hH5 (hqs32 _)) hW34) (hqs32 _).symm
  have hSq35 := hput31 0 [(.i .u32 (d[pivot]!))] [(.i .u32 (d[pivot]!))] (Nat.le_of_ble_eq_true rfl) rfl
  obtain ⟨dd37, he38⟩ : ∃ z : Array Int, z = d.setIfInBounds a (d[pivot]!) := ⟨_, rfl⟩
  have hs40 : Sq 1 v (putAt c (ro27 + 0) [(.i .u32 (d[pivot]!))]) (dU dd37).flatten := by rw [he38, ← u_set]; exact hSq35
  have hn39 : dd37.size = n := by rw [he38, Array.size_setIfInBounds]; exact hn
  refine And.intro (And.intro (Or.inl rfl) (And.intro (Or.inl rfl) True.intro)) ?_
  refine D_q rfl rfl rfl (by exact Sq.cell hs40 (u_lens dd37) hH36.top0 rfl (i := pivot) rfl (r := [(.i .u32 (dd37[pivot]!))]) (u_get (d := dd37) (i := pivot) (by omega)) (by decide)) fun v42 hv41 => ?_
  obtain ⟨rb43, ro44, rfl, hrg45, hrt46, hrb47, hput48, hqs49⟩ := hv41
  refine D_store (vs := [(.i .u32 (d[a]!))]) (c' := (putAt (putAt c (ro27 + 0) [(.i .u32 (d[pivot]!))]) (ro44 + 0) [(.i .u32 (d[a]!))])) rfl (by rfl) hrg45 rfl (List.cons_ne_nil _ _) (by have := hrb47; show _ + 1 ≤ _; omega) rfl fun H50 hW51 => ?_
  have hH53 := Hs.cong0 (Hs.wr0 (Hs.cong0 hH36 (hqs49 _)) hW51) (hqs49 _).symm
  have hSq52 := hput48 0 [(.i .u32 (d[a]!))] [(.i .u32 (d[a]!))] (Nat.le_of_ble_eq_true rfl) rfl
  obtain ⟨dd54, he55⟩ : ∃ z : Array Int, z = dd37.setIfInBounds pivot (d[a]!) := ⟨_, rfl⟩
  have hs57 : Sq 1 v (putAt (putAt c (ro27 + 0) [(.i .u32 (d[pivot]!))]) (ro44 + 0) [(.i .u32 (d[a]!))]) (dU dd54).flatten := by rw [he55, ← u_set]; exact hSq52
  have hn56 : dd54.size = n := by rw [he55, Array.size_setIfInBounds]; exact hn39
  refine And.intro True.intro ?_
  refine D_nil ?_
  refine C_seq ?_
  refine C_region ?_
  refine O_p (.i .i64 (((a : Nat)) : Int)) (r_mv rfl) ?_
  refine O_p (.i .i64 ((((a : Nat)) : Int) + 1)) (by exact (r_addi rfl rfl (wrap_i64 (by omega) (by omega)))) ?_
  refine O_p (.i .i64 (((b : Nat)) : Int)) (r_mv rfl) ?_
  refine O_p (.i .i64 ((((b - 1) : Nat)) : Int)) (by exact (r_subn (a := b) (b := 1) rfl rfl (by omega) (by omega))) ?_
  refine O_p (.i .i64 ((((a : Nat)) : Int) + 1)) (r_mv rfl) ?_
  refine O_p (.i .i64 ((((b - 1) : Nat)) : Int)) (r_mv rfl) ?_
  refine O_nil ?_
  have hD : dd54 = swp d a pivot := by rw [he55, he38]; rfl
  refine C_cut (fun T58 H59 => ∃ ix : Nat, scanUp (fun x => ltInt x dd54[a]!) dd54 (b - 1) (a + 1) = ix ∧ (a + 1) ≤ ix ∧ ix ≤ (b - 1) + 2 ∧ Hs H59 ((qseg v (putAt (putAt c (ro27 + 0) [(.i .u32 (d[pivot]!))]) (ro44 + 0) [(.i .u32 (d[a]!))])) ++ (R)) ∧ T58.get 0 = v ∧ T58.get 1 = (.i .i64 (((a : Nat)) : Int)) ∧ T58.get 10 = (.i .i64 (((ix : Nat)) : Int)) ∧ T58.get 11 = (.i .i64 ((((b - 1) : Nat)) : Int))) ?_ (fun T58 H59 hI60 => ?_)
  ·
    refine C_block ?_
    refine C_while (fun m61 T62 H63 => ∃ i : Nat, m61 = (b - 1) + 2 - i ∧ scanUp (fun x => ltInt x dd54[a]!) dd54 (b - 1) i = scanUp (fun x => ltInt x dd54[a]!) dd54 (b - 1) (a + 1) ∧ (a + 1) ≤ i ∧ i ≤ (b - 1) + 2 ∧ Hs H63 ((qseg v (putAt (putAt c (ro27 + 0) [(.i .u32 (d[pivot]!))]) (ro44 + 0) [(.i .u32 (d[a]!))])) ++ (R)) ∧ T62.get 0 = v ∧ T62.get 1 = (.i .i64 (((a : Nat)) : Int)) ∧ T62.get 10 = (.i .i64 (((i : Nat)) : Int)) ∧ T62.get 11 = (.i .i64 ((((b - 1) : Nat)) : Int))) (fun m61 T62 H63 hI64 => ?_) ((b - 1) + 2 - (a + 1)) _ _ ⟨(a + 1), rfl, rfl, by omega, by omega, hH53, rfl, rfl, rfl, rfl⟩
    obtain ⟨i, hm65, hp66, hp67, hp68, hH73, hT69, hT70, hT71, hT72⟩ := hI64
    refine C_seq ?_
    refine C_seq ?_
    by_cases hij : i ≤ (b - 1)
    ·
      refine C_draw fun b74 H75 hbase76 hA77 => ?_
      have hH78 := hH73.keep (by have := hA77.1; omega) (fun q _ => hA77.2 q) ((hH73.old).aside hA77).ok
      refine D_l (v := (.i .i64 (((i : Nat)) : Int))) rfl rfl rfl (r_mv hT71) ?_
      refine D_l (v := (.i .i64 ((((b - 1) : Nat)) : Int))) rfl rfl rfl (r_mv hT72) ?_
      refine D_l (v := (.b true)) rfl rfl rfl (by exact (by rw [r_leq rfl rfl, decide_eq_true (by omega)])) ?_
      refine D_l (v := (.b true)) rfl rfl rfl (r_mv rfl) ?_
      refine D_gk rfl ?_
      refine D_l (v := v) rfl rfl rfl (r_mv hT69) ?_
      refine D_gk rfl ?_
      refine D_l (v := (.i .i64 (((i : Nat)) : Int))) rfl rfl rfl (r_mv hT71) ?_
      refine D_gk rfl ?_
      refine D_q rfl rfl rfl (by exact Sq.cell hs57 (u_lens dd54) hH78.top0 rfl (i := i) rfl (r := [(.i .u32 (dd54[i]!))]) (u_get (d := dd54) (i := i) (by omega)) (by decide)) fun v80 hv79 => ?_
      obtain ⟨rb81, ro82, rfl, hrg83, hrt84, hrb85, hput86, hqs87⟩ := hv79
      refine D_gk rfl ?_
      refine D_l (v := v) rfl rfl rfl (r_mv hT69) ?_
      refine D_gk rfl ?_
      refine D_l (v := (.i .i64 (((a : Nat)) : Int))) rfl rfl rfl (r_mv hT70) ?_
      refine D_gk rfl ?_
      refine D_q rfl rfl rfl (by exact Sq.cell hs57 (u_lens dd54) hH78.top0 rfl (i := a) rfl (r := [(.i .u32 (dd54[a]!))]) (u_get (d := dd54) (i := a) (by omega)) (by decide)) fun v89 hv88 => ?_
      obtain ⟨rb90, ro91, rfl, hrg92, hrt93, hrb94, hput95, hqs96⟩ := hv88
      refine D_gk rfl ?_
      refine D_r (v := (.i .u32 (dd54[i]!))) rfl rfl rfl (r_ldR (q := 0) rfl ⟨_, _, hrg83, hrt84⟩ rfl) ?_
      refine D_gk rfl ?_
      refine D_r (v := (.i .u32 (dd54[a]!))) rfl rfl rfl (r_ldR (q := 0) rfl ⟨_, _, hrg92, hrt93⟩ rfl) ?_
      refine D_gk rfl ?_
      refine D_call (Ev.mono (less_ev (x := (dd54[i]!)) (y := (dd54[a]!)) hH78) fun v97 H98 hq99 => ?_)
      obtain ⟨rfl, hH100⟩ := hq99
      refine And.intro (And.intro (Or.inl rfl) (And.intro (Or.inl rfl) True.intro)) ?_
      refine D_l (v := (.b (decide ((dd54[i]!) < (dd54[a]!))))) rfl rfl rfl (r_pick_t rfl rfl) ?_
      refine D_nil ?_
      refine C_cond (x := (decide ((dd54[i]!) < (dd54[a]!)))) rfl (fun hc101 => ?_) (fun hc101 => ?_)
      ·
        have hraw102 := hc101
        try simp only [decide_eq_true_eq, decide_eq_false_iff_not, Bool.not_eq_true', Bool.not_eq_false', Bool.and_eq_true, Bool.or_eq_true, Bool.or_eq_false_iff, Bool.not_not, Bool.and_eq_false_iff] at hc101
        have hgo : i ≤ (b - 1) ∧ (fun x => ltInt x dd54[a]!) dd54[i]! = true := ⟨hij, hraw102⟩
        refine C_skip ?_
        refine C_block ?_
        refine C_region ?_
        refine O_p (.i .i64 (((i : Nat)) : Int)) (r_mv hT71) ?_
        refine O_p (.i .i64 ((((i : Nat)) : Int) + 1)) (by exact (r_addi rfl rfl (wrap_i64 (by omega) (by omega)))) ?_
        refine O_p (.i .i64 ((((i : Nat)) : Int) + 1)) (r_mv rfl) ?_
        refine O_nil ?_
        exact ⟨((b - 1) + 2 - (i + 1)), by omega, (i + 1), rfl, by rw [← hp66]; exact (scanUp_go hgo).symm, by omega, by omega, hH100, hT69, hT70, rfl, hT72⟩
      ·
        have hraw103 := hc101
        try simp only [decide_eq_true_eq, decide_eq_false_iff_not, Bool.not_eq_true', Bool.not_eq_false', Bool.and_eq_true, Bool.or_eq_true, Bool.or_eq_false_iff, Bool.not_not, Bool.and_eq_false_iff] at hc101
        have hst : ¬ (i ≤ (b - 1) ∧ (fun x => ltInt x dd54[a]!) dd54[i]! = true) := fun h9 => nomatch h9.2.symm.trans hraw103
        refine C_exit ?_
        refine nx_exit ?_
        refine nx_exit ?_
        refine bk_hit ?_
        exact ⟨rfl, i, by rw [← hp66]; exact scanUp_stop hst, by omega, by omega, hH100, hT69, hT70, hT71, hT72⟩
    ·
      have hst : ¬ (i ≤ (b - 1) ∧ (fun x => ltInt x dd54[a]!) dd54[i]! = true) := fun h9 => hij h9.1
      refine C_draw fun b104 H105 hbase106 hA107 => ?_
      have hH108 := hH73.keep (by have := hA107.1; omega) (fun q _ => hA107.2 q) ((hH73.old).aside hA107).ok
      refine D_l (v := (.i .i64 (((i : Nat)) : Int))) rfl rfl rfl (r_mv hT71) ?_
      refine D_l (v := (.i .i64 ((((b - 1) : Nat)) : Int))) rfl rfl rfl (r_mv hT72) ?_
      refine D_l (v := (.b false)) rfl rfl rfl (by exact (by rw [r_leq rfl rfl, decide_eq_false (by omega)])) ?_
      refine D_l (v := (.b false)) rfl rfl rfl (r_mv rfl) ?_
      refine D_gf rfl ?_
      refine D_gf rfl ?_
      refine D_gf rfl ?_
      refine D_gf rfl ?_
      refine D_gf rfl ?_
      refine D_gf rfl ?_
      refine D_gf rfl ?_
      refine D_gf rfl ?_
      refine D_gf rfl ?_
      refine D_l (v := (.b false)) rfl rfl rfl (r_pick_f rfl rfl) ?_
      refine D_nil ?_
      refine C_cond (x := false) rfl (fun h => by cases h) (fun _ => ?_)
      refine C_exit ?_
      refine nx_exit ?_
      refine nx_exit ?_
      refine bk_hit ?_
      exact ⟨rfl, i, by rw [← hp66]; exact scanUp_stop hst, by omega, by omega, hH108, hT69, hT70, hT71, hT72⟩
  ·
    obtain ⟨ix, hp109, hp110, hp111, hH116, hT112, hT113, hT114, hT115⟩ := hI60
    refine C_cut (fun T117 H118 => ∃ jx : Nat, scanDown (fun x => !ltInt x dd54[a]!) dd54 ix (b - 1) = jx ∧ jx ≤ (b - 1) ∧ ix ≤ jx + 2 ∧ Hs H118 ((qseg v (putAt (putAt c (ro27 + 0) [(.i .u32 (d[pivot]!))]) (ro44 + 0) [(.i .u32 (d[a]!))])) ++ (R)) ∧ T117.get 0 = v ∧ T117.get 1 = (.i .i64 (((a : Nat)) : Int)) ∧ T117.get 10 = (.i .i64 (((ix : Nat)) : Int)) ∧ T117.get 11 = (.i .i64 (((jx : Nat)) : Int))) ?_ (fun T117 H118 hI119 => ?_)
    ·
      refine C_block ?_
      refine C_while (fun m120 T121 H122 => ∃ j : Nat, m120 = j ∧ scanDown (fun x => !ltInt x dd54[a]!) dd54 ix j = scanDown (fun x => !ltInt x dd54[a]!) dd54 ix (b - 1) ∧ j ≤ (b - 1) ∧ ix ≤ j + 2 ∧ Hs H122 ((qseg v (putAt (putAt c (ro27 + 0) [(.i .u32 (d[pivot]!))]) (ro44 + 0) [(.i .u32 (d[a]!))])) ++ (R)) ∧ T121.get 0 = v ∧ T121.get 1 = (.i .i64 (((a : Nat)) : Int)) ∧ T121.get 10 = (.i .i64 (((ix : Nat)) : Int)) ∧ T121.get 11 = (.i .i64 (((j : Nat)) : Int))) (fun m120 T121 H122 hI123 => ?_) (b - 1) _ _ ⟨(b - 1), rfl, rfl, by omega, by omega, hH116, hT112, hT113, hT114, hT115⟩
      obtain ⟨j, hm124, hp125, hp126, hp127, hH132, hT128, hT129, hT130, hT131⟩ := hI123
      refine C_seq ?_
      refine C_seq ?_
      by_cases hij : ix ≤ j
      ·
        refine C_draw fun b133 H134 hbase135 hA136 => ?_
        have hH137 := hH132.keep (by have := hA136.1; omega) (fun q _ => hA136.2 q) ((hH132.old).aside hA136).ok
        refine D_l (v := (.i .i64 (((ix : Nat)) : Int))) rfl rfl rfl (r_mv hT130) ?_
        refine D_l (v := (.i .i64 (((j : Nat)) : Int))) rfl rfl rfl (r_mv hT131) ?_
        refine D_l (v := (.b true)) rfl rfl rfl (by exact (by rw [r_leq rfl rfl, decide_eq_true (by omega)])) ?_
        refine D_l (v := (.b true)) rfl rfl rfl (r_mv rfl) ?_
        refine D_gk rfl ?_
        refine D_l (v := v) rfl rfl rfl (r_mv hT128) ?_
        refine D_gk rfl ?_
        refine D_l (v := (.i .i64 (((j : Nat)) : Int))) rfl rfl rfl (r_mv hT131) ?_
        refine D_gk rfl ?_
        refine D_q rfl rfl rfl (by exact Sq.cell hs57 (u_lens dd54) hH137.top0 rfl (i := j) rfl (r := [(.i .u32 (dd54[j]!))]) (u_get (d := dd54) (i := j) (by omega)) (by decide)) fun v139 hv138 => ?_
        obtain ⟨rb140, ro141, rfl, hrg142, hrt143, hrb144, hput145, hqs146⟩ := hv138
        refine D_gk rfl ?_
        refine D_l (v := v) rfl rfl rfl (r_mv hT128) ?_
        refine D_gk rfl ?_
        refine D_l (v := (.i .i64 (((a : Nat)) : Int))) rfl rfl rfl (r_mv hT129) ?_
        refine D_gk rfl ?_
        refine D_q rfl rfl rfl (by exact Sq.cell hs57 (u_lens dd54) hH137.top0 rfl (i := a) rfl (r := [(.i .u32 (dd54[a]!))]) (u_get (d := dd54) (i := a) (by omega)) (by decide)) fun v148 hv147 => ?_
        obtain ⟨rb149, ro150, rfl, hrg151, hrt152, hrb153, hput154, hqs155⟩ := hv147
        refine D_gk rfl ?_
        refine D_r (v := (.i .u32 (dd54[j]!))) rfl rfl rfl (r_ldR (q := 0) rfl ⟨_, _, hrg142, hrt143⟩ rfl) ?_
        refine D_gk rfl ?_
        refine D_r (v := (.i .u32 (dd54[a]!))) rfl rfl rfl (r_ldR (q := 0) rfl ⟨_, _, hrg151, hrt152⟩ rfl) ?_
        refine D_gk rfl ?_
        refine D_call (Ev.mono (less_ev (x := (dd54[j]!)) (y := (dd54[a]!)) hH137) fun v156 H157 hq158 => ?_)
        obtain ⟨rfl, hH159⟩ := hq158
        refine And.intro (And.intro (Or.inl rfl) (And.intro (Or.inl rfl) True.intro)) ?_
        refine D_gk rfl ?_
        refine D_l (v := (.b (!(decide ((dd54[j]!) < (dd54[a]!)))))) rfl rfl rfl (r_not rfl) ?_
        refine D_l (v := (.b (!(decide ((dd54[j]!) < (dd54[a]!)))))) rfl rfl rfl (r_pick_t rfl rfl) ?_
        refine D_nil ?_
        refine C_cond (x := (!(decide ((dd54[j]!) < (dd54[a]!))))) rfl (fun hc160 => ?_) (fun hc160 => ?_)
        ·
          have hraw161 := hc160
          try simp only [decide_eq_true_eq, decide_eq_false_iff_not, Bool.not_eq_true', Bool.not_eq_false', Bool.and_eq_true, Bool.or_eq_true, Bool.or_eq_false_iff, Bool.not_not, Bool.and_eq_false_iff] at hc160
          have hgo : ix ≤ j ∧ (fun x => !ltInt x dd54[a]!) dd54[j]! = true := ⟨hij, hraw161⟩
          refine C_skip ?_
          refine C_block ?_
          refine C_region ?_
          refine O_p (.i .i64 (((j : Nat)) : Int)) (r_mv hT131) ?_
          refine O_p (.i .i64 ((((j - 1) : Nat)) : Int)) (by exact (r_subn (a := j) (b := 1) rfl rfl (by omega) (by omega))) ?_
          refine O_p (.i .i64 ((((j - 1) : Nat)) : Int)) (r_mv rfl) ?_
          refine O_nil ?_
          exact ⟨(j - 1), by omega, (j - 1), rfl, by rw [← hp125]; exact (scanDown_go hgo (by omega)).symm, by omega, by omega, hH159, hT128, hT129, hT130, rfl⟩
        ·
          have hraw162 := hc160
          try simp only [decide_eq_true_eq, decide_eq_false_iff_not, Bool.not_eq_true', Bool.not_eq_false', Bool.and_eq_true, Bool.or_eq_true, Bool.or_eq_false_iff, Bool.not_not, Bool.and_eq_false_iff] at hc160
          have hst : ¬ (ix ≤ j ∧ (fun x => !ltInt x dd54[a]!) dd54[j]! = true) := fun h9 => nomatch h9.2.symm.trans hraw162
          refine C_exit ?_
          refine nx_exit ?_
          refine nx_exit ?_
          refine bk_hit ?_
          exact ⟨rfl, j, by rw [← hp125]; exact scanDown_stop hst, by omega, by omega, hH159, hT128, hT129, hT130, hT131⟩
      ·
        have hst : ¬ (ix ≤ j ∧ (fun x => !ltInt x dd54[a]!) dd54[j]! = true) := fun h9 => hij h9.1
        refine C_draw fun b163 H164 hbase165 hA166 => ?_
        have hH167 := hH132.keep (by have := hA166.1; omega) (fun q _ => hA166.2 q) ((hH132.old).aside hA166).ok
        refine D_l (v := (.i .i64 (((ix : Nat)) : Int))) rfl rfl rfl (r_mv hT130) ?_
        refine D_l (v := (.i .i64 (((j : Nat)) : Int))) rfl rfl rfl (r_mv hT131) ?_
        refine D_l (v := (.b false)) rfl rfl rfl (by exact (by rw [r_leq rfl rfl, decide_eq_false (by omega)])) ?_
        refine D_l (v := (.b false)) rfl rfl rfl (r_mv rfl) ?_
        refine D_gf rfl ?_
        refine D_gf rfl ?_
        refine D_gf rfl ?_
        refine D_gf rfl ?_
        refine D_gf rfl ?_
        refine D_gf rfl ?_
        refine D_gf rfl ?_
        refine D_gf rfl ?_
        refine D_gf rfl ?_
        refine D_gf rfl ?_
        refine D_l (v := (.b false)) rfl rfl rfl (r_pick_f rfl rfl) ?_
        refine D_nil ?_
        refine C_cond (x := false) rfl (fun h => by cases h) (fun _ => ?_)
        refine C_exit ?_
        refine nx_exit ?_
        refine nx_exit ?_
        refine bk_hit ?_
        exact ⟨rfl, j, by rw [← hp125]; exact scanDown_stop hst, by omega, by omega, hH167, hT128, hT129, hT130, hT131⟩
    ·
      obtain ⟨jx, hp168, hp169, hp170, hH175, hT171, hT172, hT173, hT174⟩ := hI119
      refine C_seq ?_
      refine C_seq ?_
      refine C_region ?_
      refine O_p (.i .i64 (((ix : Nat)) : Int)) (r_mv hT173) ?_
      refine O_p (.i .i64 (((jx : Nat)) : Int)) (r_mv hT174) ?_
      refine O_p (.b (decide ((((jx : Nat)) : Int) < (((ix : Nat)) : Int)))) (r_gtr rfl rfl) ?_
      refine O_nil ?_
      refine C_cond (x := (decide ((((jx : Nat)) : Int) < (((ix : Nat)) : Int)))) rfl (fun hc176 => ?_) (fun hc176 => ?_)
      ·
        have hraw177 := hc176
        try simp only [decide_eq_true_eq, decide_eq_false_iff_not, Bool.not_eq_true', Bool.not_eq_false', Bool.and_eq_true, Bool.or_eq_true, Bool.or_eq_false_iff, Bool.not_not, Bool.and_eq_false_iff] at hc176
        refine C_seq ?_
        refine C_draw fun b178 H179 hbase180 hA181 => ?_
        have hH182 := hH175.keep (by have := hA181.1; omega) (fun q _ => hA181.2 q) ((hH175.old).aside hA181).ok
        refine D_l (v := v) rfl rfl rfl (r_mv hT171) ?_
        refine D_l (v := (.i .i64 (((jx : Nat)) : Int))) rfl rfl rfl (r_mv hT174) ?_
        refine D_l (v := v) rfl rfl rfl (r_mv hT171) ?_
        refine D_l (v := (.i .i64 (((a : Nat)) : Int))) rfl rfl rfl (r_mv hT172) ?_
        refine D_l (v := v) rfl rfl rfl (r_mv hT171) ?_
        refine D_l (v := (.i .i64 (((a : Nat)) : Int))) rfl rfl rfl (r_mv hT172) ?_
        refine D_q rfl rfl rfl (by exact Sq.cell hs57 (u_lens dd54) hH182.top0 rfl (i := a) rfl (r := [(.i .u32 (dd54[a]!))]) (u_get (d := dd54) (i := a) (by omega)) (by decide)) fun v184 hv183 => ?_
        obtain ⟨rb185, ro186, rfl, hrg187, hrt188, hrb189, hput190, hqs191⟩ := hv183
        refine D_l (v := v) rfl rfl rfl (r_mv hT171) ?_
        refine D_l (v := (.i .i64 (((jx : Nat)) : Int))) rfl rfl rfl (r_mv hT174) ?_
        refine D_q rfl rfl rfl (by exact Sq.cell hs57 (u_lens dd54) hH182.top0 rfl (i := jx) rfl (r := [(.i .u32 (dd54[jx]!))]) (u_get (d := dd54) (i := jx) (by omega)) (by decide)) fun v193 hv192 => ?_
        obtain ⟨rb194, ro195, rfl, hrg196, hrt197, hrb198, hput199, hqs200⟩ := hv192
        refine D_r (v := (.i .u32 (dd54[a]!))) rfl rfl rfl (r_ldR (q := 0) rfl ⟨_, _, hrg187, hrt188⟩ rfl) ?_
        refine D_r (v := (.i .u32 (dd54[jx]!))) rfl rfl rfl (r_ldR (q := 0) rfl ⟨_, _, hrg196, hrt197⟩ rfl) ?_
        refine D_q rfl rfl rfl (by exact Sq.cell hs57 (u_lens dd54) hH182.top0 rfl (i := jx) rfl (r := [(.i .u32 (dd54[jx]!))]) (u_get (d := dd54) (i := jx) (by omega)) (by decide)) fun v202 hv201 => ?_
        obtain ⟨rb203, ro204, rfl, hrg205, hrt206, hrb207, hput208, hqs209⟩ := hv201
        refine D_store (vs := [(.i .u32 (dd54[a]!))]) (c' := (putAt (putAt (putAt c (ro27 + 0) [(.i .u32 (d[pivot]!))]) (ro44 + 0) [(.i .u32 (d[a]!))]) (ro204 + 0) [(.i .u32 (dd54[a]!))])) rfl (by rfl) hrg205 rfl (List.cons_ne_nil _ _) (by have := hrb207; show _ + 1 ≤ _; omega) rfl fun H210 hW211 => ?_
        have hH213 := Hs.cong0 (Hs.wr0 (Hs.cong0 hH182 (hqs209 _)) hW211) (hqs209 _).symm
        have hSq212 := hput208 0 [(.i .u32 (dd54[a]!))] [(.i .u32 (dd54[a]!))] (Nat.le_of_ble_eq_true rfl) rfl
        obtain ⟨dd214, he215⟩ : ∃ z : Array Int, z = dd54.setIfInBounds jx (dd54[a]!) := ⟨_, rfl⟩
        have hs217 : Sq 1 v (putAt (putAt (putAt c (ro27 + 0) [(.i .u32 (d[pivot]!))]) (ro44 + 0) [(.i .u32 (d[a]!))]) (ro204 + 0) [(.i .u32 (dd54[a]!))]) (dU dd214).flatten := by rw [he215, ← u_set]; exact hSq212
        have hn216 : dd214.size = n := by rw [he215, Array.size_setIfInBounds]; exact hn56
        refine And.intro (And.intro (Or.inl rfl) (And.intro (Or.inl rfl) True.intro)) ?_
        refine D_q rfl rfl rfl (by exact Sq.cell hs217 (u_lens dd214) hH213.top0 rfl (i := a) rfl (r := [(.i .u32 (dd214[a]!))]) (u_get (d := dd214) (i := a) (by omega)) (by decide)) fun v219 hv218 => ?_
        obtain ⟨rb220, ro221, rfl, hrg222, hrt223, hrb224, hput225, hqs226⟩ := hv218
        refine D_store (vs := [(.i .u32 (dd54[jx]!))]) (c' := (putAt (putAt (putAt (putAt c (ro27 + 0) [(.i .u32 (d[pivot]!))]) (ro44 + 0) [(.i .u32 (d[a]!))]) (ro204 + 0) [(.i .u32 (dd54[a]!))]) (ro221 + 0) [(.i .u32 (dd54[jx]!))])) rfl (by rfl) hrg222 rfl (List.cons_ne_nil _ _) (by have := hrb224; show _ + 1 ≤ _; omega) rfl fun H227 hW228 => ?_
        have hH230 := Hs.cong0 (Hs.wr0 (Hs.cong0 hH213 (hqs226 _)) hW228) (hqs226 _).symm
        have hSq229 := hput225 0 [(.i .u32 (dd54[jx]!))] [(.i .u32 (dd54[jx]!))] (Nat.le_of_ble_eq_true rfl) rfl
        obtain ⟨dd231, he232⟩ : ∃ z : Array Int, z = dd214.setIfInBounds a (dd54[jx]!) := ⟨_, rfl⟩
        have hs234 : Sq 1 v (putAt (putAt (putAt (putAt c (ro27 + 0) [(.i .u32 (d[pivot]!))]) (ro44 + 0) [(.i .u32 (d[a]!))]) (ro204 + 0) [(.i .u32 (dd54[a]!))]) (ro221 + 0) [(.i .u32 (dd54[jx]!))]) (dU dd231).flatten := by rw [he232, ← u_set]; exact hSq229
        have hn233 : dd231.size = n := by rw [he232, Array.size_setIfInBounds]; exact hn216
        refine And.intro True.intro ?_
        refine D_nil ?_
        refine C_seq ?_
        refine C_region ?_
        refine O_p (.i .i64 (((jx : Nat)) : Int)) (r_mv hT174) ?_
        refine O_p (.i .i64 (((jx : Nat)) : Int)) (r_mv rfl) ?_
        refine O_p (.b true) (r_mv rfl) ?_
        refine O_nil ?_
        refine C_ret ?_
        refine nx_ret ?_
        have hfin : partLoop ltInt a (a + 1) (b - 1) dd54 = (jx, dd54) := by rw [Go.Sort.partLoop_eq ltInt a (a + 1) (b - 1) dd54, hp109, hp168, if_pos (show ix > jx by omega)]
        have hE : dd231 = swp dd54 jx a := by rw [he232, he215]; rfl
        exact ⟨.inr rfl, _, resL_cons (r_tmp (v := (.i .i64 (((jx : Nat)) : Int))) rfl) (resL_one (r_tmp (v := (.b true)) rfl)), jx, true, dd231, (putAt (putAt (putAt (putAt c (ro27 + 0) [(.i .u32 (d[pivot]!))]) (ro44 + 0) [(.i .u32 (d[a]!))]) (ro204 + 0) [(.i .u32 (dd54[a]!))]) (ro221 + 0) [(.i .u32 (dd54[jx]!))]), rfl, by rw [Go.Sort.partition_fst, ← hD, hfin], by rw [Go.Sort.partition_arr, ← hD, hfin, hE], hn233, hs234, hH230⟩
      ·
        have hraw235 := hc176
        try simp only [decide_eq_true_eq, decide_eq_false_iff_not, Bool.not_eq_true', Bool.not_eq_false', Bool.and_eq_true, Bool.or_eq_true, Bool.or_eq_false_iff, Bool.not_not, Bool.and_eq_false_iff] at hc176
        refine C_skip ?_
        refine C_seq ?_
        refine C_draw fun b236 H237 hbase238 hA239 => ?_
        have hH240 := hH175.keep (by have := hA239.1; omega) (fun q _ => hA239.2 q) ((hH175.old).aside hA239).ok
        refine D_l (v := v) rfl rfl rfl (r_mv hT171) ?_
        refine D_l (v := (.i .i64 (((ix : Nat)) : Int))) rfl rfl rfl (r_mv hT173) ?_
        refine D_l (v := v) rfl rfl rfl (r_mv hT171) ?_
        refine D_l (v := (.i .i64 (((jx : Nat)) : Int))) rfl rfl rfl (r_mv hT174) ?_
        refine D_l (v := v) rfl rfl rfl (r_mv hT171) ?_
        refine D_l (v := (.i .i64 (((jx : Nat)) : Int))) rfl rfl rfl (r_mv hT174) ?_
        refine D_q rfl rfl rfl (by exact Sq.cell hs57 (u_lens dd54) hH240.top0 rfl (i := jx) rfl (r := [(.i .u32 (dd54[jx]!))]) (u_get (d := dd54) (i := jx) (by omega)) (by decide)) fun v242 hv241 => ?_
        obtain ⟨rb243, ro244, rfl, hrg245, hrt246, hrb247, hput248, hqs249⟩ := hv241
        refine D_l (v := v) rfl rfl rfl (r_mv hT171) ?_
        refine D_l (v := (.i .i64 (((ix : Nat)) : Int))) rfl rfl rfl (r_mv hT173) ?_
        refine D_q rfl rfl rfl (by exact Sq.cell hs57 (u_lens dd54) hH240.top0 rfl (i := ix) rfl (r := [(.i .u32 (dd54[ix]!))]) (u_get (d := dd54) (i := ix) (by omega)) (by decide)) fun v251 hv250 => ?_
        obtain ⟨rb252, ro253, rfl, hrg254, hrt255, hrb256, hput257, hqs258⟩ := hv250
        refine D_r (v := (.i .u32 (dd54[jx]!))) rfl rfl rfl (r_ldR (q := 0) rfl ⟨_, _, hrg245, hrt246⟩ rfl) ?_
        refine D_r (v := (.i .u32 (dd54[ix]!))) rfl rfl rfl (r_ldR (q := 0) rfl ⟨_, _, hrg254, hrt255⟩ rfl) ?_
        refine D_q rfl rfl rfl (by exact Sq.cell hs57 (u_lens dd54) hH240.top0 rfl (i := ix) rfl (r := [(.i .u32 (dd54[ix]!))]) (u_get (d := dd54) (i := ix) (by omega)) (by decide)) fun v260 hv259 => ?_
        obtain ⟨rb261, ro262, rfl, hrg263, hrt264, hrb265, hput266, hqs267⟩ := hv259
        refine D_store (vs := [(.i .u32 (dd54[jx]!))]) (c' := (putAt (putAt (putAt c (ro27 + 0) [(.i .u32 (d[pivot]!))]) (ro44 + 0) [(.i .u32 (d[a]!))]) (ro262 + 0) [(.i .u32 (dd54[jx]!))])) rfl (by rfl) hrg263 rfl (List.cons_ne_nil _ _) (by have := hrb265; show _ + 1 ≤ _; omega) rfl fun H268 hW269 => ?_
        have hH271 := Hs.cong0 (Hs.wr0 (Hs.cong0 hH240 (hqs267 _)) hW269) (hqs267 _).symm
        have hSq270 := hput266 0 [(.i .u32 (dd54[jx]!))] [(.i .u32 (dd54[jx]!))] (Nat.le_of_ble_eq_true rfl) rfl
        obtain ⟨dd272, he273⟩ : ∃ z : Array Int, z = dd54.setIfInBounds ix (dd54[jx]!) := ⟨_, rfl⟩
        have hs275 : Sq 1 v (putAt (putAt (putAt c (ro27 + 0) [(.i .u32 (d[pivot]!))]) (ro44 + 0) [(.i .u32 (d[a]!))]) (ro262 + 0) [(.i .u32 (dd54[jx]!))]) (dU dd272).flatten := by rw [he273, ← u_set]; exact hSq270
        have hn274 : dd272.size = n := by rw [he273, Array.size_setIfInBounds]; exact hn56
        refine And.intro (And.intro (Or.inl rfl) (And.intro (Or.inl rfl) True.intro)) ?_
        refine D_q rfl rfl rfl (by exact Sq.cell hs275 (u_lens dd272) hH271.top0 rfl (i := jx) rfl (r := [(.i .u32 (dd272[jx]!))]) (u_get (d := dd272) (i := jx) (by omega)) (by decide)) fun v277 hv276 => ?_
        obtain ⟨rb278, ro279, rfl, hrg280, hrt281, hrb282, hput283, hqs284⟩ := hv276
        refine D_store (vs := [(.i .u32 (dd54[ix]!))]) (c' := (putAt (putAt (putAt (putAt c (ro27 + 0) [(.i .u32 (d[pivot]!))]) (ro44 + 0) [(.i .u32 (d[a]!))]) (ro262 + 0) [(.i .u32 (dd54[jx]!))]) (ro279 + 0) [(.i .u32 (dd54[ix]!))])) rfl (by rfl) hrg280 rfl (List.cons_ne_nil _ _) (by have := hrb282; show _ + 1 ≤ _; omega) rfl fun H285 hW286 => ?_
        have hH288 := Hs.cong0 (Hs.wr0 (Hs.cong0 hH271 (hqs284 _)) hW286) (hqs284 _).symm
        have hSq287 := hput283 0 [(.i .u32 (dd54[ix]!))] [(.i .u32 (dd54[ix]!))] (Nat.le_of_ble_eq_true rfl) rfl
        obtain ⟨dd289, he290⟩ : ∃ z : Array Int, z = dd272.setIfInBounds jx (dd54[ix]!) := ⟨_, rfl⟩
        have hs292 : Sq 1 v (putAt (putAt (putAt (putAt c (ro27 + 0) [(.i .u32 (d[pivot]!))]) (ro44 + 0) [(.i .u32 (d[a]!))]) (ro262 + 0) [(.i .u32 (dd54[jx]!))]) (ro279 + 0) [(.i .u32 (dd54[ix]!))]) (dU dd289).flatten := by rw [he290, ← u_set]; exact hSq287
        have hn291 : dd289.size = n := by rw [he290, Array.size_setIfInBounds]; exact hn274
        refine And.intro True.intro ?_
        refine D_nil ?_
        refine C_seq ?_
        refine C_region ?_
        refine O_p (.i .i64 (((ix : Nat)) : Int)) (r_mv hT173) ?_
        refine O_p (.i .i64 ((((ix : Nat)) : Int) + 1)) (by exact (r_addi rfl rfl (wrap_i64 (by omega) (by omega)))) ?_
        refine O_p (.i .i64 ((((ix : Nat)) : Int) + 1)) (r_mv rfl) ?_
        refine O_nil ?_
        refine C_seq ?_
        refine C_region ?_
        refine O_p (.i .i64 (((jx : Nat)) : Int)) (r_mv hT174) ?_
        refine O_p (.i .i64 ((((jx - 1) : Nat)) : Int)) (by exact (r_subn (a := jx) (b := 1) rfl rfl (by omega) (by omega))) ?_
        refine O_p (.i .i64 ((((jx - 1) : Nat)) : Int)) (r_mv rfl) ?_
        refine O_nil ?_
        refine C_seq ?_
        refine C_block ?_
        have hD2 : dd289 = swp dd54 ix jx := by rw [he290, he273]; rfl
        have hgt : ¬ ix > jx := by omega
        refine C_while (fun m293 T294 H295 => ∃ d1 : Array Int, ∃ c1 : List AV, ∃ i : Nat, ∃ j : Nat, m293 = j + 2 - i ∧ Sq 1 v c1 (dU d1).flatten ∧ d1.size = n ∧ partLoop ltInt a i j d1 = partLoop ltInt a (a + 1) (b - 1) dd54 ∧ a + 1 ≤ i ∧ i ≤ j + 2 ∧ j < b ∧ Hs H295 ((qseg v c1) ++ (R)) ∧ T294.get 0 = v ∧ T294.get 1 = (.i .i64 (((a : Nat)) : Int)) ∧ T294.get 10 = (.i .i64 (((i : Nat)) : Int)) ∧ T294.get 11 = (.i .i64 (((j : Nat)) : Int))) (fun m293 T294 H295 hI296 => ?_) (jx - 1 + 2 - (ix + 1)) _ _ ⟨dd289, (putAt (putAt (putAt (putAt c (ro27 + 0) [(.i .u32 (d[pivot]!))]) (ro44 + 0) [(.i .u32 (d[a]!))]) (ro262 + 0) [(.i .u32 (dd54[jx]!))]) (ro279 + 0) [(.i .u32 (dd54[ix]!))]), (ix + 1), (jx - 1), rfl, hs292, hn291, by rw [Go.Sort.partLoop_eq ltInt a (a + 1) (b - 1) dd54, hp109, hp168, if_neg hgt, hD2], by omega, by omega, by omega, hH288, hT171, hT172, rfl, rfl⟩
        obtain ⟨d1, c1, i, j, hm297, hp298, hp299, hp300, hp301, hp302, hp303, hH308, hT304, hT305, hT306, hT307⟩ := hI296
        refine C_block ?_
        refine C_cut (fun T309 H310 => ∃ i2x : Nat, scanUp (fun x => ltInt x d1[a]!) d1 j i = i2x ∧ i ≤ i2x ∧ i2x ≤ j + 2 ∧ Hs H310 ((qseg v c1) ++ (R)) ∧ T309.get 0 = v ∧ T309.get 1 = (.i .i64 (((a : Nat)) : Int)) ∧ T309.get 10 = (.i .i64 (((i2x : Nat)) : Int)) ∧ T309.get 11 = (.i .i64 (((j : Nat)) : Int))) ?_ (fun T309 H310 hI311 => ?_)
        ·
          refine C_block ?_
          refine C_while (fun m312 T313 H314 => ∃ i2 : Nat, m312 = j + 2 - i2 ∧ scanUp (fun x => ltInt x d1[a]!) d1 j i2 = scanUp (fun x => ltInt x d1[a]!) d1 j i ∧ i ≤ i2 ∧ i2 ≤ j + 2 ∧ Hs H314 ((qseg v c1) ++ (R)) ∧ T313.get 0 = v ∧ T313.get 1 = (.i .i64 (((a : Nat)) : Int)) ∧ T313.get 10 = (.i .i64 (((i2 : Nat)) : Int)) ∧ T313.get 11 = (.i .i64 (((j : Nat)) : Int))) (fun m312 T313 H314 hI315 => ?_) (j + 2 - i) _ _ ⟨i, rfl, rfl, by omega, by omega, hH308, hT304, hT305, hT306, hT307⟩
          obtain ⟨i2, hm316, hp317, hp318, hp319, hH324, hT320, hT321, hT322, hT323⟩ := hI315
          refine C_seq ?_
          refine C_seq ?_
          by_cases hij : i2 ≤ j
          ·
            refine C_draw fun b325 H326 hbase327 hA328 => ?_
            have hH329 := hH324.keep (by have := hA328.1; omega) (fun q _ => hA328.2 q) ((hH324.old).aside hA328).ok
            refine D_l (v := (.i .i64 (((i2 : Nat)) : Int))) rfl rfl rfl (r_mv hT322) ?_
            refine D_l (v := (.i .i64 (((j : Nat)) : Int))) rfl rfl rfl (r_mv hT323) ?_
            refine D_l (v := (.b true)) rfl rfl rfl (by exact (by rw [r_leq rfl rfl, decide_eq_true (by omega)])) ?_
            refine D_l (v := (.b true)) rfl rfl rfl (r_mv rfl) ?_
            refine D_gk rfl ?_
            refine D_l (v := v) rfl rfl rfl (r_mv hT320) ?_
            refine D_gk rfl ?_
            refine D_l (v := (.i .i64 (((i2 : Nat)) : Int))) rfl rfl rfl (r_mv hT322) ?_
            refine D_gk rfl ?_
            refine D_q rfl rfl rfl (by exact Sq.cell hp298 (u_lens d1) hH329.top0 rfl (i := i2) rfl (r := [(.i .u32 (d1[i2]!))]) (u_get (d := d1) (i := i2) (by omega)) (by decide)) fun v331 hv330 => ?_
            obtain ⟨rb332, ro333, rfl, hrg334, hrt335, hrb336, hput337, hqs338⟩ := hv330
            refine D_gk rfl ?_
            refine D_l (v := v) rfl rfl rfl (r_mv hT320) ?_
            refine D_gk rfl ?_
            refine D_l (v := (.i .i64 (((a : Nat)) : Int))) rfl rfl rfl (r_mv hT321) ?_
            refine D_gk rfl ?_
            refine D_q rfl rfl rfl (by exact Sq.cell hp298 (u_lens d1) hH329.top0 rfl (i := a) rfl (r := [(.i .u32 (d1[a]!))]) (u_get (d := d1) (i := a) (by omega)) (by decide)) fun v340 hv339 => ?_
            obtain ⟨rb341, ro342, rfl, hrg343, hrt344, hrb345, hput346, hqs347⟩ := hv339
            refine D_gk rfl ?_
            refine D_r (v := (.i .u32 (d1[i2]!))) rfl rfl rfl (r_ldR (q := 0) rfl ⟨_, _, hrg334, hrt335⟩ rfl) ?_
            refine D_gk rfl ?_
            refine D_r (v := (.i .u32 (d1[a]!))) rfl rfl rfl (r_ldR (q := 0) rfl ⟨_, _, hrg343, hrt344⟩ rfl) ?_
            refine D_gk rfl ?_
            refine D_call (Ev.mono (less_ev (x := (d1[i2]!)) (y := (d1[a]!)) hH329) fun v348 H349 hq350 => ?_)
            obtain ⟨rfl, hH351⟩ := hq350
            refine And.intro (And.intro (Or.inl rfl) (And.intro (Or.inl rfl) True.intro)) ?_
            refine D_l (v := (.b (decide ((d1[i2]!) < (d1[a]!))))) rfl rfl rfl (r_pick_t rfl rfl) ?_
            refine D_nil ?_
            refine C_cond (x := (decide ((d1[i2]!) < (d1[a]!)))) rfl (fun hc352 => ?_) (fun hc352 => ?_)
            ·
              have hraw353 := hc352
              try simp only [decide_eq_true_eq, decide_eq_false_iff_not, Bool.not_eq_true', Bool.not_eq_false', Bool.and_eq_true, Bool.or_eq_true, Bool.or_eq_false_iff, Bool.not_not, Bool.and_eq_false_iff] at hc352
              have hgo : i2 ≤ j ∧ (fun x => ltInt x d1[a]!) d1[i2]! = true := ⟨hij, hraw353⟩
              refine C_skip ?_
              refine C_block ?_
              refine C_region ?_
              refine O_p (.i .i64 (((i2 : Nat)) : Int)) (r_mv hT322) ?_
              refine O_p (.i .i64 ((((i2 : Nat)) : Int) + 1)) (by exact (r_addi rfl rfl (wrap_i64 (by omega) (by omega)))) ?_
              refine O_p (.i .i64 ((((i2 : Nat)) : Int) + 1)) (r_mv rfl) ?_
              refine O_nil ?_
              exact ⟨(j + 2 - (i2 + 1)), by omega, (i2 + 1), rfl, by rw [← hp317]; exact (scanUp_go hgo).symm, by omega, by omega, hH351, hT320, hT321, rfl, hT323⟩
            ·
              have hraw354 := hc352
              try simp only [decide_eq_true_eq, decide_eq_false_iff_not, Bool.not_eq_true', Bool.not_eq_false', Bool.and_eq_true, Bool.or_eq_true, Bool.or_eq_false_iff, Bool.not_not, Bool.and_eq_false_iff] at hc352
              have hst : ¬ (i2 ≤ j ∧ (fun x => ltInt x d1[a]!) d1[i2]! = true) := fun h9 => nomatch h9.2.symm.trans hraw354
              refine C_exit ?_
              refine nx_exit ?_
              refine nx_exit ?_
              refine bk_hit ?_
              exact ⟨rfl, i2, by rw [← hp317]; exact scanUp_stop hst, by omega, by omega, hH351, hT320, hT321, hT322, hT323⟩
          ·
            have hst : ¬ (i2 ≤ j ∧ (fun x => ltInt x d1[a]!) d1[i2]! = true) := fun h9 => hij h9.1
            refine C_draw fun b355 H356 hbase357 hA358 => ?_
            have hH359 := hH324.keep (by have := hA358.1; omega) (fun q _ => hA358.2 q) ((hH324.old).aside hA358).ok
            refine D_l (v := (.i .i64 (((i2 : Nat)) : Int))) rfl rfl rfl (r_mv hT322) ?_
            refine D_l (v := (.i .i64 (((j : Nat)) : Int))) rfl rfl rfl (r_mv hT323) ?_
            refine D_l (v := (.b false)) rfl rfl rfl (by exact (by rw [r_leq rfl rfl, decide_eq_false (by omega)])) ?_
            refine D_l (v := (.b false)) rfl rfl rfl (r_mv rfl) ?_
            refine D_gf rfl ?_
            refine D_gf rfl ?_
            refine D_gf rfl ?_
            refine D_gf rfl ?_
            refine D_gf rfl ?_
            refine D_gf rfl ?_
            refine D_gf rfl ?_
            refine D_gf rfl ?_
            refine D_gf rfl ?_
            refine D_l (v := (.b false)) rfl rfl rfl (r_pick_f rfl rfl) ?_
            refine D_nil ?_
            refine C_cond (x := false) rfl (fun h => by cases h) (fun _ => ?_)
            refine C_exit ?_
            refine nx_exit ?_
            refine nx_exit ?_
            refine bk_hit ?_
            exact ⟨rfl, i2, by rw [← hp317]; exact scanUp_stop hst, by omega, by omega, hH359, hT320, hT321, hT322, hT323⟩
        ·
          obtain ⟨i2x, hp360, hp361, hp362, hH367, hT363, hT364, hT365, hT366⟩ := hI311
          refine C_cut (fun T368 H369 => ∃ j2x : Nat, scanDown (fun x => !ltInt x d1[a]!) d1 i2x j = j2x ∧ j2x ≤ j ∧ i2x ≤ j2x + 2 ∧ Hs H369 ((qseg v c1) ++ (R)) ∧ T368.get 0 = v ∧ T368.get 1 = (.i .i64 (((a : Nat)) : Int)) ∧ T368.get 10 = (.i .i64 (((i2x : Nat)) : Int)) ∧ T368.get 11 = (.i .i64 (((j2x : Nat)) : Int))) ?_ (fun T368 H369 hI370 => ?_)
          ·
            refine C_block ?_
            refine C_while (fun m371 T372 H373 => ∃ j2 : Nat, m371 = j2 ∧ scanDown (fun x => !ltInt x d1[a]!) d1 i2x j2 = scanDown (fun x => !ltInt x d1[a]!) d1 i2x j ∧ j2 ≤ j ∧ i2x ≤ j2 + 2 ∧ Hs H373 ((qseg v c1) ++ (R)) ∧ T372.get 0 = v ∧ T372.get 1 = (.i .i64 (((a : Nat)) : Int)) ∧ T372.get 10 = (.i .i64 (((i2x : Nat)) : Int)) ∧ T372.get 11 = (.i .i64 (((j2 : Nat)) : Int))) (fun m371 T372 H373 hI374 => ?_) j _ _ ⟨j, rfl, rfl, by omega, by omega, hH367, hT363, hT364, hT365, hT366⟩
            obtain ⟨j2, hm375, hp376, hp377, hp378, hH383, hT379, hT380, hT381, hT382⟩ := hI374
            refine C_seq ?_
            refine C_seq ?_
            by_cases hij : i2x ≤ j2
            ·
              refine C_draw fun b384 H385 hbase386 hA387 => ?_
              have hH388 := hH383.keep (by have := hA387.1; omega) (fun q _ => hA387.2 q) ((hH383.old).aside hA387).ok
              refine D_l (v := (.i .i64 (((i2x : Nat)) : Int))) rfl rfl rfl (r_mv hT381) ?_
              refine D_l (v := (.i .i64 (((j2 : Nat)) : Int))) rfl rfl rfl (r_mv hT382) ?_
              refine D_l (v := (.b true)) rfl rfl rfl (by exact (by rw [r_leq rfl rfl, decide_eq_true (by omega)])) ?_
              refine D_l (v := (.b true)) rfl rfl rfl (r_mv rfl) ?_
              refine D_gk rfl ?_
              refine D_l (v := v) rfl rfl rfl (r_mv hT379) ?_
              refine D_gk rfl ?_
              refine D_l (v := (.i .i64 (((j2 : Nat)) : Int))) rfl rfl rfl (r_mv hT382) ?_
              refine D_gk rfl ?_
              refine D_q rfl rfl rfl (by exact Sq.cell hp298 (u_lens d1) hH388.top0 rfl (i := j2) rfl (r := [(.i .u32 (d1[j2]!))]) (u_get (d := d1) (i := j2) (by omega)) (by decide)) fun v390 hv389 => ?_
              obtain ⟨rb391, ro392, rfl, hrg393, hrt394, hrb395, hput396, hqs397⟩ := hv389
              refine D_gk rfl ?_
              refine D_l (v := v) rfl rfl rfl (r_mv hT379) ?_
              refine D_gk rfl ?_
              refine D_l (v := (.i .i64 (((a : Nat)) : Int))) rfl rfl rfl (r_mv hT380) ?_
              refine D_gk rfl ?_
              refine D_q rfl rfl rfl (by exact Sq.cell hp298 (u_lens d1) hH388.top0 rfl (i := a) rfl (r := [(.i .u32 (d1[a]!))]) (u_get (d := d1) (i := a) (by omega)) (by decide)) fun v399 hv398 => ?_
              obtain ⟨rb400, ro401, rfl, hrg402, hrt403, hrb404, hput405, hqs406⟩ := hv398
              refine D_gk rfl ?_
              refine D_r (v := (.i .u32 (d1[j2]!))) rfl rfl rfl (r_ldR (q := 0) rfl ⟨_, _, hrg393, hrt394⟩ rfl) ?_
              refine D_gk rfl ?_
              refine D_r (v := (.i .u32 (d1[a]!))) rfl rfl rfl (r_ldR (q := 0) rfl ⟨_, _, hrg402, hrt403⟩ rfl) ?_
              refine D_gk rfl ?_
              refine D_call (Ev.mono (less_ev (x := (d1[j2]!)) (y := (d1[a]!)) hH388) fun v407 H408 hq409 => ?_)
              obtain ⟨rfl, hH410⟩ := hq409
              refine And.intro (And.intro (Or.inl rfl) (And.intro (Or.inl rfl) True.intro)) ?_
              refine D_gk rfl ?_
              refine D_l (v := (.b (!(decide ((d1[j2]!) < (d1[a]!)))))) rfl rfl rfl (r_not rfl) ?_
              refine D_l (v := (.b (!(decide ((d1[j2]!) < (d1[a]!)))))) rfl rfl rfl (r_pick_t rfl rfl) ?_
              refine D_nil ?_
              refine C_cond (x := (!(decide ((d1[j2]!) < (d1[a]!))))) rfl (fun hc411 => ?_) (fun hc411 => ?_)
              ·
                have hraw412 := hc411
                try simp only [decide_eq_true_eq, decide_eq_false_iff_not, Bool.not_eq_true', Bool.not_eq_false', Bool.and_eq_true, Bool.or_eq_true, Bool.or_eq_false_iff, Bool.not_not, Bool.and_eq_false_iff] at hc411
                have hgo : i2x ≤ j2 ∧ (fun x => !ltInt x d1[a]!) d1[j2]! = true := ⟨hij, hraw412⟩
                refine C_skip ?_
                refine C_block ?_
                refine C_region ?_
                refine O_p (.i .i64 (((j2 : Nat)) : Int)) (r_mv hT382) ?_
                refine O_p (.i .i64 ((((j2 - 1) : Nat)) : Int)) (by exact (r_subn (a := j2) (b := 1) rfl rfl (by omega) (by omega))) ?_
                refine O_p (.i .i64 ((((j2 - 1) : Nat)) : Int)) (r_mv rfl) ?_
                refine O_nil ?_
                exact ⟨(j2 - 1), by omega, (j2 - 1), rfl, by rw [← hp376]; exact (scanDown_go hgo (by omega)).symm, by omega, by omega, hH410, hT379, hT380, hT381, rfl⟩
              ·
                have hraw413 := hc411
                try simp only [decide_eq_true_eq, decide_eq_false_iff_not, Bool.not_eq_true', Bool.not_eq_false', Bool.and_eq_true, Bool.or_eq_true, Bool.or_eq_false_iff, Bool.not_not, Bool.and_eq_false_iff] at hc411
                have hst : ¬ (i2x ≤ j2 ∧ (fun x => !ltInt x d1[a]!) d1[j2]! = true) := fun h9 => nomatch h9.2.symm.trans hraw413
                refine C_exit ?_
                refine nx_exit ?_
                refine nx_exit ?_
                refine bk_hit ?_
                exact ⟨rfl, j2, by rw [← hp376]; exact scanDown_stop hst, by omega, by omega, hH410, hT379, hT380, hT381, hT382⟩
            ·
              have hst : ¬ (i2x ≤ j2 ∧ (fun x => !ltInt x d1[a]!) d1[j2]! = true) := fun h9 => hij h9.1
              refine C_draw fun b414 H415 hbase416 hA417 => ?_
              have hH418 := hH383.keep (by have := hA417.1; omega) (fun q _ => hA417.2 q) ((hH383.old).aside hA417).ok
              refine D_l (v := (.i .i64 (((i2x : Nat)) : Int))) rfl rfl rfl (r_mv hT381) ?_
              refine D_l (v := (.i .i64 (((j2 : Nat)) : Int))) rfl rfl rfl (r_mv hT382) ?_
              refine D_l (v := (.b false)) rfl rfl rfl (by exact (by rw [r_leq rfl rfl, decide_eq_false (by omega)])) ?_
              refine D_l (v := (.b false)) rfl rfl rfl (r_mv rfl) ?_
              refine D_gf rfl ?_
              refine D_gf rfl ?_
              refine D_gf rfl ?_
              refine D_gf rfl ?_
              refine D_gf rfl ?_
              refine D_gf rfl ?_
              refine D_gf rfl ?_
              refine D_gf rfl ?_
              refine D_gf rfl ?_
              refine D_gf rfl ?_
              refine D_l (v := (.b false)) rfl rfl rfl (r_pick_f rfl rfl) ?_
              refine D_nil ?_
              refine C_cond (x := false) rfl (fun h => by cases h) (fun _ => ?_)
              refine C_exit ?_
              refine nx_exit ?_
              refine nx_exit ?_
              refine bk_hit ?_
              exact ⟨rfl, j2, by rw [← hp376]; exact scanDown_stop hst, by omega, by omega, hH418, hT379, hT380, hT381, hT382⟩
          ·
            obtain ⟨j2x, hp419, hp420, hp421, hH426, hT422, hT423, hT424, hT425⟩ := hI370
            refine C_seq ?_
            refine C_seq ?_
            refine C_region ?_
            refine O_p (.i .i64 (((i2x : Nat)) : Int)) (r_mv hT424) ?_
            refine O_p (.i .i64 (((j2x : Nat)) : Int)) (r_mv hT425) ?_
            refine O_p (.b (decide ((((j2x : Nat)) : Int) < (((i2x : Nat)) : Int)))) (r_gtr rfl rfl) ?_
            refine O_nil ?_
            refine C_cond (x := (decide ((((j2x : Nat)) : Int) < (((i2x : Nat)) : Int)))) rfl (fun hc427 => ?_) (fun hc427 => ?_)
            ·
              have hraw428 := hc427
              try simp only [decide_eq_true_eq, decide_eq_false_iff_not, Bool.not_eq_true', Bool.not_eq_false', Bool.and_eq_true, Bool.or_eq_true, Bool.or_eq_false_iff, Bool.not_not, Bool.and_eq_false_iff] at hc427
              refine C_exit ?_
              refine nx_exit ?_
              refine bk_miss (by decide) ?_
              refine nx_exit ?_
              refine bk_hit ?_
              refine C_seq ?_
              refine C_draw fun b429 H430 hbase431 hA432 => ?_
              have hH433 := hH426.keep (by have := hA432.1; omega) (fun q _ => hA432.2 q) ((hH426.old).aside hA432).ok
              refine D_l (v := v) rfl rfl rfl (r_mv hT422) ?_
              refine D_l (v := (.i .i64 (((j2x : Nat)) : Int))) rfl rfl rfl (r_mv hT425) ?_
              refine D_l (v := v) rfl rfl rfl (r_mv hT422) ?_
              refine D_l (v := (.i .i64 (((a : Nat)) : Int))) rfl rfl rfl (r_mv hT423) ?_
              refine D_l (v := v) rfl rfl rfl (r_mv hT422) ?_
              refine D_l (v := (.i .i64 (((a : Nat)) : Int))) rfl rfl rfl (r_mv hT423) ?_
              refine D_q rfl rfl rfl (by exact Sq.cell hp298 (u_lens d1) hH433.top0 rfl (i := a) rfl (r := [(.i .u32 (d1[a]!))]) (u_get (d := d1) (i := a) (by omega)) (by decide)) fun v435 hv434 => ?_
              obtain ⟨rb436, ro437, rfl, hrg438, hrt439, hrb440, hput441, hqs442⟩ := hv434
              refine D_l (v := v) rfl rfl rfl (r_mv hT422) ?_
              refine D_l (v := (.i .i64 (((j2x : Nat)) : Int))) rfl rfl rfl (r_mv hT425) ?_
              refine D_q rfl rfl rfl (by exact Sq.cell hp298 (u_lens d1) hH433.top0 rfl (i := j2x) rfl (r := [(.i .u32 (d1[j2x]!))]) (u_get (d := d1) (i := j2x) (by omega)) (by decide)) fun v444 hv443 => ?_
              obtain ⟨rb445, ro446, rfl, hrg447, hrt448, hrb449, hput450, hqs451⟩ := hv443
              refine D_r (v := (.i .u32 (d1[a]!))) rfl rfl rfl (r_ldR (q := 0) rfl ⟨_, _, hrg438, hrt439⟩ rfl) ?_
              refine D_r (v := (.i .u32 (d1[j2x]!))) rfl rfl rfl (r_ldR (q := 0) rfl ⟨_, _, hrg447, hrt448⟩ rfl) ?_
              refine D_q rfl rfl rfl (by exact Sq.cell hp298 (u_lens d1) hH433.top0 rfl (i := j2x) rfl (r := [(.i .u32 (d1[j2x]!))]) (u_get (d := d1) (i := j2x) (by omega)) (by decide)) fun v453 hv452 => ?_
              obtain ⟨rb454, ro455, rfl, hrg456, hrt457, hrb458, hput459, hqs460⟩ := hv452
              refine D_store (vs := [(.i .u32 (d1[a]!))]) (c' := (putAt c1 (ro455 + 0) [(.i .u32 (d1[a]!))])) rfl (by rfl) hrg456 rfl (List.cons_ne_nil _ _) (by have := hrb458; show _ + 1 ≤ _; omega) rfl fun H461 hW462 => ?_
              have hH464 := Hs.cong0 (Hs.wr0 (Hs.cong0 hH433 (hqs460 _)) hW462) (hqs460 _).symm
              have hSq463 := hput459 0 [(.i .u32 (d1[a]!))] [(.i .u32 (d1[a]!))] (Nat.le_of_ble_eq_true rfl) rfl
              obtain ⟨dd465, he466⟩ : ∃ z : Array Int, z = d1.setIfInBounds j2x (d1[a]!) := ⟨_, rfl⟩
              have hs468 : Sq 1 v (putAt c1 (ro455 + 0) [(.i .u32 (d1[a]!))]) (dU dd465).flatten := by rw [he466, ← u_set]; exact hSq463
              have hn467 : dd465.size = n := by rw [he466, Array.size_setIfInBounds]; exact hp299
              refine And.intro (And.intro (Or.inl rfl) (And.intro (Or.inl rfl) True.intro)) ?_
              refine D_q rfl rfl rfl (by exact Sq.cell hs468 (u_lens dd465) hH464.top0 rfl (i := a) rfl (r := [(.i .u32 (dd465[a]!))]) (u_get (d := dd465) (i := a) (by omega)) (by decide)) fun v470 hv469 => ?_
              obtain ⟨rb471, ro472, rfl, hrg473, hrt474, hrb475, hput476, hqs477⟩ := hv469
              refine D_store (vs := [(.i .u32 (d1[j2x]!))]) (c' := (putAt (putAt c1 (ro455 + 0) [(.i .u32 (d1[a]!))]) (ro472 + 0) [(.i .u32 (d1[j2x]!))])) rfl (by rfl) hrg473 rfl (List.cons_ne_nil _ _) (by have := hrb475; show _ + 1 ≤ _; omega) rfl fun H478 hW479 => ?_
              have hH481 := Hs.cong0 (Hs.wr0 (Hs.cong0 hH464 (hqs477 _)) hW479) (hqs477 _).symm
              have hSq480 := hput476 0 [(.i .u32 (d1[j2x]!))] [(.i .u32 (d1[j2x]!))] (Nat.le_of_ble_eq_true rfl) rfl
              obtain ⟨dd482, he483⟩ : ∃ z : Array Int, z = dd465.setIfInBounds a (d1[j2x]!) := ⟨_, rfl⟩
              have hs485 : Sq 1 v (putAt (putAt c1 (ro455 + 0) [(.i .u32 (d1[a]!))]) (ro472 + 0) [(.i .u32 (d1[j2x]!))]) (dU dd482).flatten := by rw [he483, ← u_set]; exact hSq480
              have hn484 : dd482.size = n := by rw [he483, Array.size_setIfInBounds]; exact hn467
              refine And.intro True.intro ?_
              refine D_nil ?_
              refine C_seq ?_
              refine C_region ?_
              refine O_p (.i .i64 (((j2x : Nat)) : Int)) (r_mv hT425) ?_
              refine O_p (.i .i64 (((j2x : Nat)) : Int)) (r_mv rfl) ?_
              refine O_p (.b false) (r_mv rfl) ?_
              refine O_nil ?_
              refine C_ret ?_
              have hfin : partLoop ltInt a (a + 1) (b - 1) dd54 = (j2x, d1) := by rw [← hp300, Go.Sort.partLoop_eq ltInt a i j d1, hp360, hp419, if_pos (show i2x > j2x by omega)]
              have hE : dd482 = swp d1 j2x a := by rw [he483, he466]; rfl
              exact ⟨.inr rfl, _, resL_cons (r_tmp (v := (.i .i64 (((j2x : Nat)) : Int))) rfl) (resL_one (r_tmp (v := (.b false)) rfl)), j2x, false, dd482, (putAt (putAt c1 (ro455 + 0) [(.i .u32 (d1[a]!))]) (ro472 + 0) [(.i .u32 (d1[j2x]!))]), rfl, by rw [Go.Sort.partition_fst, ← hD, hfin], by rw [Go.Sort.partition_arr, ← hD, hfin, hE], hn484, hs485, hH481⟩
            ·
              have hraw486 := hc427
              try simp only [decide_eq_true_eq, decide_eq_false_iff_not, Bool.not_eq_true', Bool.not_eq_false', Bool.and_eq_true, Bool.or_eq_true, Bool.or_eq_false_iff, Bool.not_not, Bool.and_eq_false_iff] at hc427
              refine C_skip ?_
              refine C_seq ?_
              refine C_draw fun b487 H488 hbase489 hA490 => ?_
              have hH491 := hH426.keep (by have := hA490.1; omega) (fun q _ => hA490.2 q) ((hH426.old).aside hA490).ok
              refine D_l (v := v) rfl rfl rfl (r_mv hT422) ?_
              refine D_l (v := (.i .i64 (((i2x : Nat)) : Int))) rfl rfl rfl (r_mv hT424) ?_
              refine D_l (v := v) rfl rfl rfl (r_mv hT422) ?_
              refine D_l (v := (.i .i64 (((j2x : Nat)) : Int))) rfl rfl rfl (r_mv hT425) ?_
              refine D_l (v := v) rfl rfl rfl (r_mv hT422) ?_
              refine D_l (v := (.i .i64 (((j2x : Nat)) : Int))) rfl rfl rfl (r_mv hT425) ?_
              refine D_q rfl rfl rfl (by exact Sq.cell hp298 (u_lens d1) hH491.top0 rfl (i := j2x) rfl (r := [(.i .u32 (d1[j2x]!))]) (u_get (d := d1) (i := j2x) (by omega)) (by decide)) fun v493 hv492 => ?_
              obtain ⟨rb494, ro495, rfl, hrg496, hrt497, hrb498, hput499, hqs500⟩ := hv492
              refine D_l (v := v) rfl rfl rfl (r_mv hT422) ?_
              refine D_l (v := (.i .i64 (((i2x : Nat)) : Int))) rfl rfl rfl (r_mv hT424) ?_
              refine D_q rfl rfl rfl (by exact Sq.cell hp298 (u_lens d1) hH491.top0 rfl (i := i2x) rfl (r := [(.i .u32 (d1[i2x]!))]) (u_get (d := d1) (i := i2x) (by omega)) (by decide)) fun v502 hv501 => ?_
              obtain ⟨rb503, ro504, rfl, hrg505, hrt506, hrb507, hput508, hqs509⟩ := hv501
              refine D_r (v := (.i .u32 (d1[j2x]!))) rfl rfl rfl (r_ldR (q := 0) rfl ⟨_, _, hrg496, hrt497⟩ rfl) ?_
              refine D_r (v := (.i .u32 (d1[i2x]!))) rfl rfl rfl (r_ldR (q := 0) rfl ⟨_, _, hrg505, hrt506⟩ rfl) ?_
              refine D_q rfl rfl rfl (by exact Sq.cell hp298 (u_lens d1) hH491.top0 rfl (i := i2x) rfl (r := [(.i .u32 (d1[i2x]!))]) (u_get (d := d1) (i := i2x) (by omega)) (by decide)) fun v511 hv510 => ?_
              obtain ⟨rb512, ro513, rfl, hrg514, hrt515, hrb516, hput517, hqs518⟩ := hv510
              refine D_store (vs := [(.i .u32 (d1[j2x]!))]) (c' := (putAt c1 (ro513 + 0) [(.i .u32 (d1[j2x]!))])) rfl (by rfl) hrg514 rfl (List.cons_ne_nil _ _) (by have := hrb516; show _ + 1 ≤ _; omega) rfl fun H519 hW520 => ?_
              have hH522 := Hs.cong0 (Hs.wr0 (Hs.cong0 hH491 (hqs518 _)) hW520) (hqs518 _).symm
              have hSq521 := hput517 0 [(.i .u32 (d1[j2x]!))] [(.i .u32 (d1[j2x]!))] (Nat.le_of_ble_eq_true rfl) rfl
              obtain ⟨dd523, he524⟩ : ∃ z : Array Int, z = d1.setIfInBounds i2x (d1[j2x]!) := ⟨_, rfl⟩
              have hs526 : Sq 1 v (putAt c1 (ro513 + 0) [(.i .u32 (d1[j2x]!))]) (dU dd523).flatten := by rw [he524, ← u_set]; exact hSq521
              have hn525 : dd523.size = n := by rw [he524, Array.size_setIfInBounds]; exact hp299
              refine And.intro (And.intro (Or.inl rfl) (And.intro (Or.inl rfl) True.intro)) ?_
              refine D_q rfl rfl rfl (by exact Sq.cell hs526 (u_lens dd523) hH522.top0 rfl (i := j2x) rfl (r := [(.i .u32 (dd523[j2x]!))]) (u_get (d := dd523) (i := j2x) (by omega)) (by decide)) fun v528 hv527 => ?_
              obtain ⟨rb529, ro530, rfl, hrg531, hrt532, hrb533, hput534, hqs535⟩ := hv527
              refine D_store (vs := [(.i .u32 (d1[i2x]!))]) (c' := (putAt (putAt c1 (ro513 + 0) [(.i .u32 (d1[j2x]!))]) (ro530 + 0) [(.i .u32 (d1[i2x]!))])) rfl (by rfl) hrg531 rfl (List.cons_ne_nil _ _) (by have := hrb533; show _ + 1 ≤ _; omega) rfl fun H536 hW537 => ?_
              have hH539 := Hs.cong0 (Hs.wr0 (Hs.cong0 hH522 (hqs535 _)) hW537) (hqs535 _).symm
              have hSq538 := hput534 0 [(.i .u32 (d1[i2x]!))] [(.i .u32 (d1[i2x]!))] (Nat.le_of_ble_eq_true rfl) rfl
              obtain ⟨dd540, he541⟩ : ∃ z : Array Int, z = dd523.setIfInBounds j2x (d1[i2x]!) := ⟨_, rfl⟩
              have hs543 : Sq 1 v (putAt (putAt c1 (ro513 + 0) [(.i .u32 (d1[j2x]!))]) (ro530 + 0) [(.i .u32 (d1[i2x]!))]) (dU dd540).flatten := by rw [he541, ← u_set]; exact hSq538
              have hn542 : dd540.size = n := by rw [he541, Array.size_setIfInBounds]; exact hn525
              refine And.intro True.intro ?_
              refine D_nil ?_
              refine C_seq ?_
              refine C_region ?_
              refine O_p (.i .i64 (((i2x : Nat)) : Int)) (r_mv hT424) ?_
              refine O_p (.i .i64 ((((i2x : Nat)) : Int) + 1)) (by exact (r_addi rfl rfl (wrap_i64 (by omega) (by omega)))) ?_
              refine O_p (.i .i64 ((((i2x : Nat)) : Int) + 1)) (r_mv rfl) ?_
              refine O_nil ?_
              refine C_region ?_
              refine O_p (.i .i64 (((j2x : Nat)) : Int)) (r_mv hT425) ?_
              refine O_p (.i .i64 ((((j2x - 1) : Nat)) : Int)) (by exact (r_subn (a := j2x) (b := 1) rfl rfl (by omega) (by omega))) ?_
              refine O_p (.i .i64 ((((j2x - 1) : Nat)) : Int)) (r_mv rfl) ?_
              refine O_nil ?_
              exact ⟨(j2x - 1 + 2 - (i2x + 1)), by omega, dd540, (putAt (putAt c1 (ro513 + 0) [(.i .u32 (d1[j2x]!))]) (ro530 + 0) [(.i .u32 (d1[i2x]!))]), (i2x + 1), (j2x - 1), rfl, hs543, hn542, by rw [he541, he524]; refine Eq.trans ?_ hp300; rw [Go.Sort.partLoop_eq ltInt a i j d1, hp360, hp419, if_neg (show ¬ i2x > j2x by omega)]; rfl, by omega, by omega, by omega, hH539, hT422, hT423, rfl, rfl⟩
end Go.Proofs.Ytjheedfobmlalaa.E
